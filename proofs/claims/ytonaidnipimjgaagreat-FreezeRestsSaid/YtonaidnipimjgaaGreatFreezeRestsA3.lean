/- Texts of the proof of FreezeRests: the data machine, the models of the Go functions, their contracts. -/
import Derived.Test.YtonaidnipimjgaaGreatFreezeRestsA2
import Derived.Test.YtonaidnipimjgaaGreatFreezeRestsA1
import Derived.Test.YtonaidnipimjgaaGreatProg
set_option linter.unusedVariables false
set_option linter.unusedSimpArgs false
/- Plain theory of freezers, part 3: what stays valid; made freezers. -/
namespace Go.Dm
section
variable {h : Aa} {f : Ac}
structure PreF (h : Aa) (f : Ac) : Prop where
 grp : f.frosts.map (·.group) = h.tree.nodes.map (·.id)
 chg : ∀ x ∈ f.frosts,0 ≤ x.changes ∧ x.changes ≤ 1099511627776
 asc : Asc f.stopped
 stp : ∀ k ∈ f.stopped,wT h f k = true
theorem PreF.renew (p : PreF h f) : FzOk h (Ii h f) := by
 have sw := Ahg h f
 refine ⟨?_,?_,p.asc,fun k hk => ?_,?_⟩
 ·rw [← p.grp]
  unfold Ii
  rw [List.map_map]
  apply List.map_congr_left
  intro x _
  exact (Tu _ x).1
 ·intro y hy
  obtain ⟨x,hx,rfl⟩ := List.mem_map.mp hy
  have := p.chg x hx
  unfold Ov
  split
  ·simp only
   rw [Ax (by omega) (by omega)]
   unfold minI
   split <;> omega
  ·exact this
 ·rw [wT_congr sw]
  exact p.stp k hk
 ·intro y hy
  obtain ⟨x,hx,rfl⟩ := List.mem_map.mp hy
  rw [(Tu _ x).2.2,(Tu _ x).1]
  exact (Agj sw rfl _).symm
theorem setW_g (id : Int) (b : Bool) (x : Ap) : (setW id b x).group = x.group ∧ (setW id b x).changes = x.changes ∧ (setW id b x).frozen = x.frozen ∧ (setW id b x).want = if x.group == id then b else x.want := by
 unfold setW
 split <;> exact ⟨rfl,rfl,rfl,rfl⟩
theorem set_fz (k : FzOk h f) (id : Int) (b : Bool) : FzOk h (setF h f id b) := by
 refine PreF.renew ⟨?_,?_,k.asc.filter _,fun x hx => (List.mem_filter.mp hx).2⟩
 ·rw [← k.grp]
  show (f.frosts.map (setW id b)).map _ = _
  rw [List.map_map]
  apply List.map_congr_left
  intro x _
  exact (setW_g id b x).1
 ·intro y hy
  obtain ⟨x,hx,rfl⟩ := List.mem_map.mp hy
  rw [(setW_g id b x).2.1]
  exact k.chg x hx
theorem wT_task (w : WfH h) {x : At} (hx : x ∈ h.tasks) : wT h f x.id = wN h.tree f x.group := by
 unfold wT
 rw [AeG w.sorted hx]
 rfl
theorem step_fz (w : WfH h) (k : FzOk h f) (busy : List Int) : FzOk h (Yx h f busy) := by
 refine PreF.renew ⟨k.grp,k.chg,Afm w f busy,fun i hi => ?_⟩
 obtain ⟨y,hy,e⟩ := List.mem_map.mp hi
 obtain ⟨h1,h2⟩ := List.mem_filter.mp hy
 rw [← e]
 show wT h f y.id = true
 simp only [Bool.or_eq_true,Bool.and_eq_true] at h2
 rcases h2 with h2 | h2
 ·exact k.stp y.id (by simpa using h2)
 ·rw [wT_task w h1]
  exact h2.1
theorem adj_fz (w : WfH h) (f : Ac) : FzOk h (adjF h f) := by
 refine PreF.renew ⟨?_,?_,keepF_asc w _,fun i hi => ((keepF_mem w).mp hi).2⟩
 ·show (h.tree.nodes.map (adjX f)).map _ = _
  rw [List.map_map]
  rfl
 ·intro y hy
  obtain ⟨x,hx,rfl⟩ := List.mem_map.mp hy
  unfold adjX
  simp only
  unfold minI maxI
  split <;> split <;> omega
theorem frN_of (w : WfH h) (k : FzOk h f) {x : Ap} (hx : x ∈ f.frosts) : frN f x.group = x := by
 have hn := Afl w k
 unfold frN
 have : f.frosts.find? (fun y => y.group == x.group) = some x := by
  rw [List.find?_eq_some_iff_append]
  obtain ⟨A,B,e⟩ := List.append_of_mem hx
  refine ⟨by simp,A,B,e,fun y hy => ?_⟩
  rw [e,List.map_append,List.map_cons,List.nodup_append] at hn
  have := hn.2.2 y.group (List.mem_map_of_mem hy) x.group (by simp)
  simpa using this
 rw [this]
 rfl
theorem AgF (w : WfH h) (k : FzOk h f) {x : Ah} (hx : x ∈ h.tree.nodes) : frN f x.id ∈ f.frosts ∧ (frN f x.id).frozen = rN h f x.id := by
 have : x.id ∈ f.frosts.map (·.group) := by
  rw [k.grp]
  exact List.mem_map_of_mem hx
 obtain ⟨y,hy,e⟩ := List.mem_map.mp this
 rw [← e,frN_of w k hy]
 exact ⟨hy,k.frz y hy⟩
def Pu (h : Aa) : Ac := { frosts := h.tree.nodes.map (fun x => zF x.id),stopped := [] }
theorem frN_zero (g : Int) : frN zFr g = zF g := rfl
theorem adj_zero (w : WfH h) : adjF h zFr = Pu h := by
 have e1 : (adjI h zFr).frosts = h.tree.nodes.map (fun x => zF x.id) := by
  apply List.map_congr_left
  intro x _
  unfold adjX
  rw [frN_zero]
  rfl
 have e2 : keepF h (adjI h zFr) = [] := by
  unfold keepF
  rw [List.map_eq_nil_iff,List.filter_eq_nil_iff]
  intro x _
  simp [adjI,zFr]
 unfold adjF
 rw [e1,e2]
 show Ii h (Pu h) = Pu h
 have hw : ∀ id,wN h.tree (Pu h) id = false := by
  intro id
  unfold wN
  rw [List.any_eq_false]
  intro g _
  unfold frN Pu
  cases e : (h.tree.nodes.map (fun x => zF x.id)).find? (fun x => x.group == g) with
  | none => simp [zF]
  | some y =>
   obtain ⟨z,_,rfl⟩ := List.mem_map.mp (List.mem_of_find?_eq_some e)
   simp [zF]
 have hr : ∀ id,rN h (Pu h) id = false := fun id => by
  unfold rN
  rw [hw]
  rfl
 unfold Ii
 have : (Pu h).frosts.map (fun x => Ov (rN h (Pu h) x.group) x) = (Pu h).frosts := by
  show (h.tree.nodes.map (fun x => zF x.id)).map _ = h.tree.nodes.map (fun x => zF x.id)
  rw [List.map_map]
  apply List.map_congr_left
  intro x _
  simp only [Function.comp]
  rw [hr]
  rfl
 rw [this]
theorem fresh_fz (w : WfH h) : FzOk h (Pu h) := by
 rw [← adj_zero w]
 exact adj_fz w _
theorem AfX (w : WfH h) : Np h = some (Pu h) := by
 have := w.tree.len2
 unfold Np
 rw [AaC w,Option.bind_some,if_neg (by simp),if_pos (by omega),Jt (p := fun _ => true) (f := fun x : Ah => zF x.id) (r := Xf) (fun k x s n hs => by
  unfold Yg
  rw [if_pos hs]
  rfl) (fun _ => rfl) (by simp; omega),List.nil_append,List.filter_eq_self.mpr fun _ _ => rfl]
 rfl
theorem Tasks_ok {d : Ao} (hd : Bx d) (w : WfH h) (b : Bool) : Ok (Lz d h b) (fun r => Bx r.2 ∧ r.1.length ≤ h.tasks.length) := by
 have l1 := w.len
 unfold Lz
 refine Ok.guard (by omega) ?_
 refine Ok.range (fun pre s => Bx s.1 ∧ s.2.length ≤ pre.length) ⟨hd,by simp⟩ ?_ fun s ⟨h1,h2⟩ => Ok.ret ⟨h1,h2⟩
 rintro pre x post s n he ⟨h1,h2⟩ hn
 have hpl : pre.length + 1 ≤ h.tasks.length := by rw [he]; simp
 have hJ : ∀ y : Ao × Bool,Bx y.1 → Ok (Ie x s n y) (fun r => Bx r.2 ∧ r.1.length ≤ h.tasks.length) := by
  intro y hy
  unfold Ie Jw
  refine Ok.ite (fun _ => Ok.guard (by omega) (hn _ ⟨hy,by simp; omega⟩)) fun _ => hn _ ⟨hy,by simp; omega⟩
 unfold Qo
 refine Ok.ite (fun _ => hJ _ h1) fun _ => ?_
 exact Ok.bind (Gp h1 4 (by omega) (by omega)) fun r ⟨hd,_,_⟩ => hJ _ hd
end
theorem Agc : Qi = some true := by kernel_rfl
end Go.Dm

/- Plain theory of freezers, part 4: wishes and rest, from the root down. -/
namespace Go.Dm
section
variable {h : Aa} {f : Ac}
theorem wN_down (w : WfT h.tree) {a b : Int} (hab : a ∈ upT h.tree b) (hw : wN h.tree f a = true) : wN h.tree f b = true := by
 obtain ⟨y,hy,rfl⟩ := Nf hab
 unfold wN at hw ⊢
 obtain ⟨g,hg,e⟩ := List.any_eq_true.mp hw
 exact List.any_eq_true.mpr ⟨g,AdI w hg y hy hab,e⟩
theorem rest_down (w : WfH h) {x : Ah} (hx : x ∈ h.tree.nodes) (hr : rN h f x.parent = true) : rN h f x.id = true := by
 unfold rN at hr ⊢
 simp only [Bool.and_eq_true,List.all_eq_true] at hr ⊢
 have hp : Gc h.tree x.parent = true := by
  cases hh : Gc h.tree x.parent with
  | true => rfl
  | false =>
   have := hr.1
   unfold wN at this
   rw [up_not hh] at this
   simp at this
 obtain ⟨y,hy,ey⟩ := hasN_iff.mp hp
 have hpm : x.parent ∈ upT h.tree x.id := by
  rw [w.tree.up hx,← ey]
  exact List.mem_cons_of_mem _ (AcL w.tree hy)
 refine ⟨wN_down w.tree hpm hr.1,fun t ht => ?_⟩
 have := hr.2 t ht
 simp only [Bool.or_eq_true,Bool.not_eq_true'] at this ⊢
 rcases this with h1 | h1
 ·left
  cases hc : (upT h.tree t.group).contains x.id with
  | false => rfl
  | true =>
   have hm : x.id ∈ upT h.tree t.group := by simpa using hc
   obtain ⟨z,hz,ez⟩ := Nf hm
   rw [← ez] at hm
   have := AdI w.tree hpm z hz hm
   rw [ez] at this
   rw [(List.contains_iff_mem).mpr this] at h1
   simp at h1
 ·exact .inr h1
end
end Go.Dm

/- The law FreezeRests, on the model. -/
namespace Go.Dm
theorem AhA {h : Aa} {f : Ac} (w : WfH h) (k : FzOk h f) {d : Ao} {x : Ah} (hx : x ∈ h.tree.nodes) {i : Nat} {n : Unit → Option Bool} (hn : Ok (n ()) (· = true)) : Ok (Kf (h,d) f i x () n) (· = true) := by
 have l1 := w.len
 have l2 := w.tree.len2
 have hs := k.small w
 have s1 := hs.fr
 have s2 := hs.st
 have hup : ∀ g,(upT h.tree g).length ≤ 64 := fun g => by
  have := Lw h.tree.nodes.reverse g
  rw [List.length_reverse] at this
  unfold upT
  omega
 have hfr := (AgF w k hx).2
 have hJ330 : ∀ b,b = false → Ok (Gh n b) (· = true) := by
  rintro b rfl
  exact hn
 have hJ329 : ∀ b,b = false → Ok (Dv f x n b) (· = true) := by
  rintro b rfl
  unfold Dv
  rw [if_neg (by simp)]
  refine Ok.ite (fun c => ?_) fun _ => hJ330 _ rfl
  have hp0 : x.parent ≠ 0 := by simpa using c
  have h1 : x.id ≠ 1 := fun e => hp0 (root_node w.tree hx e).1
  obtain ⟨y,hy,ey⟩ := hasN_iff.mp (AhV w.tree hx h1)
  have hpf := (AgF w k hy).2
  rw [ey] at hpf
  rw [Oa (by omega),Option.bind_some,hpf]
  refine Ok.ite (fun c2 => ?_) fun _ => hJ330 _ rfl
  rw [Oa (by omega),Option.bind_some,hfr,rest_down w hx c2]
  exact hJ330 _ rfl
 unfold Kf
 simp only
 rw [Ir w.tree,Option.bind_some,Acx]
 refine Ok.guard (by have := hup x.id; omega) ?_
 refine Ok.range (fun pre s => s = pre.any (fun g => (frN f g).want)) rfl ?_ ?_
 ·rintro pre g post s m he rfl hm
  unfold Ns
  refine Ok.ite (fun c => hm _ (by rw [List.any_append,c]; rfl)) fun c => ?_
  rw [Oa (by omega),Option.bind_some]
  exact hm _ (by rw [List.any_append,c]; simp)
 ·rintro s rfl
  show Ok (Kb (h,d) f x n (wN h.tree f x.id)) _
  unfold Kb
  simp only
  refine Ok.guard (by omega) ?_
  refine Ok.range (fun pre s => s = pre.all (fun t => !(upT h.tree t.group).contains x.id || f.stopped.contains t.id)) rfl ?_ ?_
  ·rintro pre t post s m he rfl hm
   have ht : t ∈ h.tasks := by rw [he]; simp
   have hJ : ∀ b,b = (pre ++ [t]).all (fun t => !(upT h.tree t.group).contains x.id || f.stopped.contains t.id) → Ok (Ez f x (wN h.tree f x.id) t m b) (· = true) := by
    intro b hb
    have hgo : Ok (m b) (· = true) := hm _ hb
    unfold Ez Gf
    refine Ok.ite (fun c => ?_) fun _ => hgo
    rw [Mg (by omega),Option.bind_some]
    refine Ok.ite (fun c2 => ?_) fun _ => hgo
    have hw := k.stp t.id (by simpa using c2)
    rw [wT_task w ht] at hw
    have hg : t.group = x.id := by simpa using c
    rw [hg] at hw
    rw [hw]
    exact hgo
   unfold Nn
   simp only
   rw [Ir w.tree,Option.bind_some,Acx,Zp _ _ (by have := hup t.group; omega),Option.bind_some]
   refine Ok.ite (fun c => ?_) fun c => hJ _ (by rw [List.all_append]; simp only [List.all_cons,List.all_nil,Bool.and_true]; rw [c]; simp)
   refine Ok.ite (fun c2 => ?_) fun c2 => hJ _ (by rw [List.all_append,c2]; rfl)
   rw [Mg (by omega),Option.bind_some]
   exact hJ _ (by rw [List.all_append,c2]; simp only [List.all_cons,List.all_nil,Bool.and_true,Bool.true_and]; rw [c]; simp)
  ·rintro s rfl
   unfold Nm
   simp only
   rw [Oa (by omega),Option.bind_some,hfr,AdJ w.tree (by omega),Option.bind_some]
   have hrn : rN h f x.id = (wN h.tree f x.id && h.tasks.all (fun t => !(upT h.tree t.group).contains x.id || f.stopped.contains t.id)) := rfl
   rw [hrn]
   cases hw : wN h.tree f x.id with
   | true =>
    rw [if_pos rfl,Bool.true_and,if_neg (by simp)]
    exact hJ329 _ (by simp)
   | false =>
    rw [if_neg (by simp),Bool.false_and,if_neg (by simp)]
    exact hJ329 _ (by simp)
theorem Afe (l : List Int) : Ok (Jx l) (· = true) := by
 have sane : ∀ {f : Bool → Option Bool},f true = some true → Ok (Option.bind Qi f) (· = true) := fun h => Ok.step Agc (Ok.of_eq h rfl)
 unfold Jx Wa
 refine Ok.step rfl ?_
 refine Ok.ite (fun _ => sane rfl) fun c => ?_
 have hl : l.length ≤ 600 := by
  have : ((l.length : Nat) : Int) ≤ 600 := by simpa using c
  omega
 refine Ok.step (a := { l := l,atF := 0 }) rfl ?_
 refine Ok.bind (Agi (dice_roll hl) 6 6 (by omega) (by omega) (by omega) (by omega)) fun r5 ⟨w,hd⟩ => ?_
 have l1 := w.len
 have l2 := w.tree.len2
 rw [AfX w,Option.bind_some]
 refine Ok.for (fun _ s => FzOk r5.1 s.1 ∧ Bx s.2) ⟨fresh_fz w,hd⟩ ?_ fun s _ => sane rfl
 rintro j s n _ ⟨k,hd⟩ hn
 have hJ2 : ∀ (y : Ac × Ao × Int) (g : Ac),FzOk r5.1 g → Bx y.2.1 → Ok (Gg r5 n y g) (· = true) := by
  intro y g kg hy
  unfold Gg
  refine Ok.guard (by omega) ?_
  refine Ok.range (fun _ _ => True) trivial ?_ fun _ _ => hn _ ⟨kg,hy⟩
  intro pre x post _ m he _ hm
  exact AhA w kg (by rw [he]; simp) (hm () trivial)
 have hJ : ∀ y : Ac × Ao × Int,Bx y.2.1 → (y.2.2 = 0 → FzOk r5.1 y.1) → Ok (Ge r5 s n y) (· = true) := by
  intro y hy hk
  unfold Ge
  refine Ok.ite (fun c => hJ2 _ _ (hk (by simpa using c)) hy) fun _ => hJ2 _ _ k hy
 unfold Ot
 refine Ok.bind (Tasks_ok hd w false) fun r7 ⟨hd,hbl⟩ => ?_
 rw [AfP w k (busy := r7.1) (by omega),Option.bind_some]
 refine Ok.bind (Uf hd 2 (by omega)) fun b hd => ?_
 refine Ok.ite (fun _ => ?_) fun _ => hJ _ hd fun _ => step_fz w k _
 refine Ok.bind (Abb hd _ (by omega)) fun g hd => Ok.bind (Gp hd 3 (by omega) (by omega)) fun q ⟨hd,_,_⟩ => ?_
 rw [AgQ w k,Option.bind_some]
 refine hJ _ hd fun e => ?_
 cases hg : Gc r5.1.tree g.1 with
 | false => simp [hg] at e
 | true =>
  cases h1 : (g.1 == 1) with
  | true => simp [hg,h1] at e
  | false =>
   simp only [Bool.not_true,Bool.false_eq_true,if_false]
   exact set_fz k _ _
theorem Adt (l : List Int) (_ : ∀ n ∈ l,-9223372036854775808 ≤ n ∧ n ≤ 9223372036854775807) : Jx l = some true := (Afe l).eq
end Go.Dm

/- Models of Go types and functions, printed by a program. -/
namespace Go.Dm
set_option linter.unusedVariables false

end Go.Dm


/- The data machine, part 26: a row is cut to the part that is still looked at. -/
namespace Go.Dm
def req1 (k n : Nat) : MV → List Prop
 | .own k' _ off len => bif Nat.beq k' k then [off + len ≤ n] else []
 | .eref k' _ i _ => bif Nat.beq k' k then [i < n] else []
 | .agg _ => [False]
 | .tup _ => [False]
 | .fn _ _ => [False]
 | _ => []
def reqs (k n : Nat) : List MV → List Prop
 | [] => []
 | x :: r => req1 k n x ++ reqs k n r
def reqV (k n : Nat) : MV → List Prop
 | .agg cs => reqs k n cs
 | .tup cs => reqs k n cs
 | .fn _ cs => reqs k n cs
 | x => req1 k n x
def reqS (k n : Nat) : List (Nat × MV) → List Prop
 | [] => []
 | (_,x) :: r => reqV k n x ++ reqS k n r
def reqB (k n : Nat) : Body → List Prop
 | .box cs => reqs k n cs
 | _ => []
def reqO (k n : Nat) : List (Nat × Obj) → List Prop
 | [] => []
 | (_,o) :: r => reqB k n o.body ++ reqO k n r
def cutB (n : Nat) : Body → Body
 | .row W _ f => .row W n f
 | b => b
def Rr (k n : Nat) : List (Nat × Obj) → List (Nat × Obj)
 | [] => []
 | (j,o) :: r => bif Nat.beq j k then (j,⟨o.gen,cutB n o.body⟩) :: Rr k n r else (j,o) :: Rr k n r
def rowN : Option Obj → Option Nat
 | some ⟨_,.row _ n _⟩ => some n
 | _ => none
theorem AaV (k n : Nat) : ∀ (l : List (Nat × Obj)) (j : Nat),assoc (Rr k n l) j = (assoc l j).map fun o => bif Nat.beq j k then ⟨o.gen,cutB n o.body⟩ else o
 | [],j => rfl
 | (i,o) :: r,j => by
  simp only [Rr]
  cases hb : Nat.beq i k with
  | true =>
   simp only [cond_true,assoc]
   cases hj : Nat.beq j i with
   | true =>
    have e1 := Nat.eq_of_beq_eq_true hj
    subst e1
    simp [hb]
   | false => simpa using AaV k n r j
  | false =>
   simp only [cond_false,assoc]
   cases hj : Nat.beq j i with
   | true =>
    have e1 := Nat.eq_of_beq_eq_true hj
    subst e1
    simp [hb]
   | false => simpa using AaV k n r j
theorem AgG {k n : Nat} : ∀ {l : List (Nat × MV)} {t : Nat} {x : MV},All (reqS k n l) → assoc l t = some x → All (reqV k n x)
 | [],t,x,_,h => by simp [assoc] at h
 | (i,y) :: r,t,x,ha,h => by
  simp only [reqS,All_append] at ha
  simp only [assoc] at h
  cases hb : Nat.beq t i with
  | true => simp [hb] at h; subst h; exact ha.1
  | false => simp [hb] at h; exact AgG ha.2 h
theorem Agd {k n : Nat} : ∀ {l : List (Nat × Obj)} {t : Nat} {x : Obj},All (reqO k n l) → assoc l t = some x → All (reqB k n x.body)
 | [],t,x,_,h => by simp [assoc] at h
 | (i,y) :: r,t,x,ha,h => by
  simp only [reqO,All_append] at ha
  simp only [assoc] at h
  cases hb : Nat.beq t i with
  | true => simp [hb] at h; subst h; exact ha.1
  | false => simp [hb] at h; exact Agd ha.2 h
theorem Xl {k n : Nat} : ∀ {l : List MV} {j : Nat} {x : MV},All (reqs k n l) → l[j]? = some x → All (req1 k n x)
 | [],j,x,_,h => by simp at h
 | y :: r,0,x,ha,h => by
  simp only [reqs,All_append] at ha
  simp at h
  subst h
  exact ha.1
 | y :: r,j + 1,x,ha,h => by
  simp only [reqs,All_append] at ha
  exact Xl ha.2 (by simpa using h)
section
variable {cx : Cx} {β : Cf} {a : Act} {w : World}
theorem Rel.cut {k n n0 : Nat} {sl : List (Nat × MV)} {ob : List (Nat × Obj)} (h : Rel cx β (Aj sl ob) a w) (hn : rowN (assoc ob k) = some n0) (hle : n ≤ n0) (hs : All (reqS k n sl)) (ho : All (reqO k n ob)) : Rel cx β (Aj sl (Rr k n ob)) a w := by
 obtain ⟨g0,W,f,hk⟩ : ∃ g0 W f,assoc ob k = some ⟨g0,.row W n0 f⟩ := by
  unfold rowN at hn
  split at hn
  ·rename_i g W m f he
   simp at hn
   subst hn
   exact ⟨g,W,f,he⟩
  ·simp at hn
 have hget : ∀ j o',assoc (Rr k n ob) j = some o' → ∃ o,assoc ob j = some o ∧ o'.gen = o.gen ∧ (o'.body.live ↔ o.body.live) ∧ (j ≠ k → o' = o) ∧ (j = k → o'.body = .row W n f ∧ o.body = .row W n0 f) := by
  intro j o' hj
  rw [AaV] at hj
  cases hq : assoc ob j with
  | none => simp [hq] at hj
  | some o =>
   simp only [hq,Option.map_some,Option.some.injEq] at hj
   subst hj
   cases hb : Nat.beq j k with
   | true =>
    have e := Nat.eq_of_beq_eq_true hb
    subst e
    rw [hk] at hq
    injection hq with hq
    subst hq
    exact ⟨_,rfl,rfl,by simp [cutB,Body.live],fun e => absurd rfl e,fun _ => ⟨rfl,rfl⟩⟩
   | false =>
    have e : j ≠ k := fun e => by rw [e,Fx] at hb; simp at hb
    exact ⟨o,rfl,rfl,Iff.rfl,fun _ => rfl,fun e' => absurd e' e⟩
 have hput : ∀ j o,assoc ob j = some o → ∃ o',assoc (Rr k n ob) j = some o' ∧ o'.gen = o.gen ∧ (j ≠ k → o' = o) ∧ (j = k → o'.body = .row W n f ∧ o.body = .row W n0 f) := by
  intro j o hj
  cases hq : assoc (Rr k n ob) j with
  | none => rw [AaV,hj] at hq; simp at hq
  | some o' =>
   obtain ⟨o1,h1,h2,_,h3,h4⟩ := hget j o' hq
   rw [hj] at h1
   injection h1 with h1
   subst h1
   exact ⟨o',rfl,h2,h3,h4⟩
 have hS : ∀ b,Ba cx.Av β (assoc ob) w b → Ba cx.Av β (assoc (Rr k n ob)) w b := by
  intro b hb
  refine ⟨hb.1,hb.2.1,fun j o' hj hl => ?_⟩
  obtain ⟨o,h1,_,h2,_⟩ := hget j o' hj
  exact hb.2.2 j o h1 (h2.1 hl)
 have known : ∀ (j g : Nat) (F F' : Loc → Body → Prop),Known β (assoc ob) j g F → (∀ l b,j ≠ k → F l b → F' l b) → (∀ l,j = k → F l (.row W n0 f) → F' l (.row W n f)) → Known β (assoc (Rr k n ob)) j g F' := by
  rintro j g F F' ⟨o,q1,q2,q3⟩ h1 h2
  obtain ⟨o',r1,r2,r3,r4⟩ := hput j o q1
  refine ⟨o',r1,by omega,fun e => ?_⟩
  have hF := q3 (by omega)
  by_cases e2 : j = k
  ·obtain ⟨e3,e4⟩ := r4 e2
   rw [e3]
   rw [e4] at hF
   exact h2 _ e2 hF
  ·rw [r3 e2]
   exact h1 _ _ e2 hF
 have one : ∀ (v : Value) (x : MV),RelV β (assoc ob) (Ba cx.Av β (assoc ob) w) w v x → All (req1 k n x) → RelV β (assoc (Rr k n ob)) (Ba cx.Av β (assoc (Rr k n ob)) w) w v x := by
  intro v x hr hq
  cases hr with
  | p _ _ h => exact .p _ _ (h.mono hS (fun _ _ => rfl))
  | own k' g off len base c h =>
   refine .own _ _ _ _ _ _ (known k' g _ _ h (fun l b _ hF => hF) fun l e hF => ?_)
   subst e
   simp only [req1,Fx,cond_true,All,and_true] at hq
   exact ⟨hq,hF.2⟩
  | ref k' g off b h => exact .ref _ _ _ _ (known k' g _ _ h (fun _ _ _ h => h) fun _ _ h => h)
  | eref k' g i off b oo h =>
   refine .eref _ _ _ _ _ _ (known k' g _ _ h (fun l b _ hF => hF) fun l e hF => ?_)
   subst e
   simp only [req1,Fx,cond_true,All,and_true] at hq
   exact ⟨hq,hF.2⟩
  | fptr cs b o hs c hc h1 hr => exact .fptr _ _ _ (hS _ hs) c hc h1 (fun j x hx => (hr j x hx).mono hS (fun _ _ => rfl))
  | mref k' g b h => exact .mref _ _ _ (known k' g _ _ h (fun _ _ _ h => h) fun _ _ h => h)
  | und => exact .und
  | any v => exact .any v
  | agg cs vs hl hr h1 => simp [req1,All] at hq
  | tup cs vs hl hr => simp [req1,All] at hq
  | fn f cs vs hl hr => simp [req1,All] at hq
 have all : ∀ (v : Value) (x : MV),RelV β (assoc ob) (Ba cx.Av β (assoc ob) w) w v x → All (reqV k n x) → RelV β (assoc (Rr k n ob)) (Ba cx.Av β (assoc (Rr k n ob)) w) w v x := by
  intro v x hr hq
  cases hr with
  | agg cs vs hl hr h1 => exact .agg _ _ hl (fun i y hy => one _ _ (hr i y hy) (Xl hq hy)) h1
  | tup cs vs hl hr => exact .tup _ _ hl (fun i y hy => one _ _ (hr i y hy) (Xl hq hy))
  | fn f cs vs hl hr => exact .fn _ _ _ hl (fun i y hy => one _ _ (hr i y hy) (Xl hq hy))
  | p _ _ h => exact one _ _ (.p _ _ h) hq
  | own i g off len base c h => exact one _ _ (.own _ _ _ _ _ _ h) hq
  | ref i g off b h => exact one _ _ (.ref _ _ _ _ h) hq
  | eref i g ix off b oo h => exact one _ _ (.eref _ _ _ _ _ _ h) hq
  | fptr cs b o hs c hc h1 hr => exact one _ _ (.fptr _ _ _ hs c hc h1 hr) hq
  | mref i g b h => exact one _ _ (.mref _ _ _ h) hq
  | und => exact one _ _ .und hq
  | any v => exact one _ _ (.any v) hq
 refine ⟨h.nd,h.sz,fun t => ?_,fun j o' hj => ?_,fun j o' b hj hl hb => ?_,fun j j' o o' b hj hj' hl hl' hne hb => ?_,h.kept,h.avo,h.avlt,h.mle,fun j o' hjm hj hg => ?_⟩
 ·have := h.sl t
  simp only [Aj] at this ⊢
  cases ht : assoc sl t with
  | none => exact .any _
  | some x =>
   rw [ht] at this
   exact all _ _ this (AgG hs ht)
 ·obtain ⟨o,h1,h2,_,h3,h4⟩ := hget j o' hj
  have hr := h.ob j o h1
  by_cases e : j = k
  ·obtain ⟨e1,e2⟩ := h4 e
   rw [e1]
   rw [e2] at hr
   rcases hr with ⟨q1,q2⟩ | ⟨b,oo,cap,cur,e',q0,q1,q2,q3,q4⟩
   ·exact .inl ⟨q1,by omega⟩
   ·exact .inr ⟨b,oo,cap,cur,e',q0,q1,q2,by omega,fun i hi => ⟨(q4 i (by omega)).1,(q4 i (by omega)).2.mono hS (fun _ _ => rfl)⟩⟩
  ·rw [h3 e]
   have hq := Agd ho h1
   cases hbd : o.body with
   | dead => trivial
   | row W' n' f' =>
    rw [hbd] at hr
    rcases hr with q | ⟨b,oo,cap,cur,e',q0,q1,q2,q3,q4⟩
    ·exact .inl q
    ·exact .inr ⟨b,oo,cap,cur,e',q0,q1,q2,q3,fun i hi => ⟨(q4 i hi).1,(q4 i hi).2.mono hS (fun _ _ => rfl)⟩⟩
   | mp z has f' =>
    rw [hbd] at hr
    obtain ⟨b,es,clock,q0,q1,q2,q3,q4⟩ := hr
    exact ⟨b,es,clock,q0,q1,q2,q3,fun i e n he hn => (q4 i e n he hn).mono hS (fun _ _ => rfl)⟩
   | box cs =>
    rw [hbd] at hr hq
    obtain ⟨b,cur,e',q0,q1,q2,q3⟩ := hr
    refine ⟨b,cur,e',q0,q1,q2,fun i x hx => ?_⟩
    obtain ⟨u,u1,u2,u3⟩ := q3 i x hx
    exact ⟨u,u1,u2,one _ _ u3 (Xl hq hx)⟩
 ·obtain ⟨o,h1,h2,h3,_⟩ := hget j o' hj
  exact h.blk j o b h1 (h3.1 hl) hb
 ·obtain ⟨q,h1,_,h3,_⟩ := hget j o hj
  obtain ⟨q',r1,_,r3,_⟩ := hget j' o' hj'
  exact h.inj j j' q q' b h1 r1 (h3.1 hl) (r3.1 hl') hne hb
 ·obtain ⟨o,h1,h2,_⟩ := hget j o' hj
  exact h.oloc j o hjm h1 (by omega)
def cutQ (k n : Nat) (sl : List (Nat × MV)) (ob : List (Nat × Obj)) : Option ((List (Nat × MV) × List (Nat × Obj)) × Prop) :=
 match rowN (assoc ob k) with
 | some n0 => some ((sl,Rr k n ob),n ≤ n0 ∧ All (reqS k n sl ++ reqO k n ob))
 | none => none
theorem Conv.cut (k n : Nat) {sl sl' : List (Nat × MV)} {ob ob' : List (Nat × Obj)} {q : Prop} (hq : q) (h : cutQ k n sl ob = some ((sl',ob'),q) := by kernel_rfl) : Conv cx (Aj sl ob) (Aj sl' ob') := by
 intro β a w hr
 unfold cutQ at h
 split at h
 ·rename_i n0 hn
  simp only [Option.some.injEq,Prod.mk.injEq] at h
  obtain ⟨⟨rfl,rfl⟩,rfl⟩ := h
  have h2 := All_append.1 hq.2
  exact ⟨β,hr.cut hn hq.1 h2.1 h2.2⟩
 ·simp at h
end
end Go.Dm

/- Types of the program. -/
namespace Go.Dm
open Go.Proofs
set_option linter.unusedVariables false
def Tt : Ty := [(3,⟨.int .i64,1,8,[.int .i64 0],false⟩),
  (4,⟨.bool,1,1,[.bool false],false⟩),
  (5,⟨.int .u8,1,1,[.int .u8 0],false⟩),
  (9,⟨.str,1,16,[.string ByteArray.empty],false⟩),
  (22,⟨.slice 3,1,24,[.slice none 0 0],false⟩),
  (23,⟨.slice 57,1,24,[.slice none 0 0],false⟩),
  (25,⟨.struct [(0,23),(1,3)],2,32,[.slice none 0 0,.int .i64 0],false⟩),
  (26,⟨.slice 40,1,24,[.slice none 0 0],false⟩),
  (28,⟨.struct [(0,25),(2,26),(3,3)],4,64,[.slice none 0 0,.int .i64 0,.slice none 0 0,.int .i64 0],false⟩),
  (40,⟨.struct [(0,3),(1,3),(2,3),(3,3)],4,32,[.int .i64 0,.int .i64 0,.int .i64 0,.int .i64 0],false⟩),
  (57,⟨.struct [(0,3),(1,3),(2,9),(3,3),(4,3),(5,3)],6,56,[.int .i64 0,.int .i64 0,.string ByteArray.empty,.int .i64 0,.int .i64 0,.int .i64 0],false⟩),
  (69,⟨.slice 79,1,24,[.slice none 0 0],false⟩),
  (71,⟨.struct [(0,69),(1,22)],2,48,[.slice none 0 0,.slice none 0 0],false⟩),
  (73,⟨.int .i64,1,8,[.int .i64 0],false⟩),
  (79,⟨.struct [(0,3),(1,4),(2,4),(3,3)],4,24,[.int .i64 0,.bool false,.bool false,.int .i64 0],true⟩),
  (111,⟨.struct [(0,22),(1,3)],2,32,[.slice none 0 0,.int .i64 0],false⟩),
  (140,⟨.ptr 143,1,8,[(.pointer none)],false⟩),
  (143,⟨.struct [(0,28),(4,71)],6,112,[.slice none 0 0,.int .i64 0,.slice none 0 0,.int .i64 0,.slice none 0 0,.slice none 0 0],false⟩),
  (165,⟨.slice 9,1,24,[.slice none 0 0],false⟩),
  (167,⟨.map 3 3,1,8,[(.map none)],false⟩),
  (175,⟨.int .u64,1,8,[.int .u64 0],false⟩),
  (192,⟨.int .i64,1,8,[.int .i64 0],false⟩),
  (201,⟨.int .u64,1,8,[.int .u64 0],false⟩),
  (208,⟨.slice 5,1,24,[.slice none 0 0],false⟩),
  (211,⟨.int .u64,1,8,[.int .u64 0],false⟩)]
theorem Tgood : Kx Tryz.prog Tt := tyGood_of ⟨⟨⟨by kernel_rfl,by kernel_rfl⟩,trivial⟩,⟨⟨by kernel_rfl,by kernel_rfl⟩,trivial⟩,⟨⟨by kernel_rfl,by kernel_rfl⟩,trivial⟩,⟨⟨by kernel_rfl,by kernel_rfl⟩,trivial⟩,⟨⟨by kernel_rfl,by kernel_rfl⟩,trivial⟩,⟨⟨by kernel_rfl,by kernel_rfl⟩,trivial⟩,⟨⟨by kernel_rfl,by kernel_rfl⟩,trivial⟩,⟨⟨by kernel_rfl,by kernel_rfl⟩,trivial⟩,⟨⟨by kernel_rfl,by kernel_rfl⟩,trivial⟩,⟨⟨by kernel_rfl,by kernel_rfl⟩,trivial⟩,⟨⟨by kernel_rfl,by kernel_rfl⟩,trivial⟩,⟨⟨by kernel_rfl,by kernel_rfl⟩,trivial⟩,⟨⟨by kernel_rfl,by kernel_rfl⟩,trivial⟩,⟨⟨by kernel_rfl,by kernel_rfl⟩,trivial⟩,⟨⟨by kernel_rfl,by kernel_rfl⟩,⟨by kernel_rfl,by kernel_rfl,by kernel_rfl⟩⟩,⟨⟨by kernel_rfl,by kernel_rfl⟩,trivial⟩,⟨⟨by kernel_rfl,by kernel_rfl⟩,trivial⟩,⟨⟨by kernel_rfl,by kernel_rfl⟩,trivial⟩,⟨⟨by kernel_rfl,by kernel_rfl⟩,trivial⟩,⟨⟨by kernel_rfl,by kernel_rfl⟩,trivial⟩,⟨⟨by kernel_rfl,by kernel_rfl⟩,trivial⟩,⟨⟨by kernel_rfl,by kernel_rfl⟩,trivial⟩,⟨⟨by kernel_rfl,by kernel_rfl⟩,trivial⟩,⟨⟨by kernel_rfl,by kernel_rfl⟩,trivial⟩,⟨⟨by kernel_rfl,by kernel_rfl⟩,trivial⟩,trivial⟩ (by kernel_rfl) (by kernel_rfl)
theorem mixed : Tryz.prog.follows .mixedOrders = true := by kernel_rfl
theorem RK {cx : Cx} {σ : St} {Q : Exit → St → Prop} {nt : Nat} (hnt : cx.nt = nt) {ops : Array Oper} {id : Nat} {draw : Bool} {r : List Code} (xs : List Orc) (sl : List (Nat × MV)) (ob : List (Nat × Obj))
    {q : Prop} (hq : q) (hQ : DW Tryz.prog cx r (Aj sl ob) Q) (h : Uk Tryz.prog Tt nt ops xs (Cn sl) (Cn ob) draw σ = some ((sl,ob),q) := by kernel_rfl) : DW Tryz.prog cx (.region id ops draw :: r) σ Q := DW.rk Tgood mixed hnt xs sl ob hq h hQ
theorem RD {cx : Cx} {Q : Exit → St → Prop} {nt : Nat} (hnt : cx.nt = nt) {ops : Array Oper} {id : Nat} {draw : Bool} {r : List Code} {sl0 : List (Nat × MV)} {ob0 : List (Nat × Obj)} (xs : List Orc) (ds : List Nat) (us : List (Nat × MV)) (dk : List Nat) (uo : List (Nat × Obj))
    {q : Prop} (hq : q) (hQ : DW Tryz.prog cx r (Aj (up ds us sl0) (up dk uo ob0)) Q) (h : Uk Tryz.prog Tt nt ops xs (Cn (up ds us sl0)) (Cn (up dk uo ob0)) draw (Aj sl0 ob0) = some ((up ds us sl0,up dk uo ob0),q) := by kernel_rfl) : DW Tryz.prog cx (.region id ops draw :: r) (Aj sl0 ob0) Q := DW.rd Tgood mixed hnt xs ds us dk uo hq hQ h
theorem SO {f : FuncId} {fn : Func} {c : Code} (hf : Tryz.prog.funcs[f]? = some fn) (hb : fn.body = some c)
    {args : List MV} {outs : List Body} {res : MV} {outs' news : List Body} (hlen : outs'.length = outs.length)
    (sl : List (Nat × MV)) (ob : List (Nat × Obj)) (hd : ∀ cx : Cx,cx.nt = fn.ntmps → DW Tryz.prog cx [c] (Aj sl ob) (finQ Tt fn.results.toList outs.length res (outs' ++ news)))
    (hname : fn.name ≠ "runtime.NumGoroutine" := by decide) (hle : Nat.ble args.length fn.ntmps = true := by rfl) (hm : Nat.ble outs.length 1000 = true := by rfl)
    (h1 : Yc (upN args.length 0) (upN outs.length 0) ⟨fun t => (args[t]?).getD .any,Bv outs⟩ = sl := by kernel_rfl)
    (h2 : Se (upN outs.length 0) ⟨fun t => (args[t]?).getD .any,Bv outs⟩ = ob := by kernel_rfl) :
    Spec Tryz.prog f args outs res outs' news := spec_of Tgood hf hname hb hlen (Nat.le_of_ble_eq_true hle) (Nat.le_of_ble_eq_true hm) h1 h2 fun cx hnt => DW.start (hd cx hnt)
theorem RN {cx : Cx} {σ : St} {Q : Exit → St → Prop} {nt : Nat} (hnt : cx.nt = nt) {ops : Array Oper} {id : Nat} {draw : Bool} {r : List Code} (xs : List Orc) (sl : List (Nat × MV)) (ob : List (Nat × Obj))
    (ps : List (Nat × MV)) (qs : List (Nat × Body)) {q : Prop} (hq : q) (h : Uk Tryz.prog Tt nt ops xs (Cn sl) (Cn ob) draw σ = some ((Pm ps sl,Og qs ob),q)) (hs : SP sl ps) (ho : OP ob qs)
    (hQ : DW Tryz.prog cx r (Aj sl ob) Q) : DW Tryz.prog cx (.region id ops draw :: r) σ Q := DW.rn Tgood mixed hnt xs sl ob ps qs hq h hs ho hQ
theorem RT {cx : Cx} {σ : St} {nt : Nat} (hnt : cx.nt = nt) {ops : Array Oper} {draw : Bool} {sl : List (Nat × MV)} {ob : List (Nat × Obj)} (xs : List Orc)
    (ps : List (Nat × MV)) {q : Prop} (hq : q) (h : Uk Tryz.prog Tt nt ops xs (Cn sl) (Cn ob) draw σ = some ((Pm ps sl,ob),q)) (hs : SP sl ps) : RegTo Tryz.prog cx ops draw σ sl ob := RegTo.rn Tgood mixed hnt xs ps hq h hs
end Go.Dm


/- Go functions compute their models, printed by a program. -/
namespace Go.Dm
open Go.Proofs
set_option linter.unusedVariables false
theorem AeD (p0 : List Int) (RES : Bool) (hm : Wa p0 = some RES) : Spec Tryz.prog 13 [.p (slI p0)] [] (pB RES) [] [] := by
 unfold Wa at hm
 refine SO Tryz.func13 rfl rfl [(0,.p (slI p0))] [] ?_
 intro cx hnt
 refine Sq (RK hnt (.no :: []) [(0,.p (slI p0))] [] tv ?_)
 refine Sq (RK hnt (nn 4 []) [(2,pB (decide (((p0.length : Nat) : Int) ≤ 600)))] [] tv ?_)
 obtain rfl := sj hm
 exact DW.ret (Ai [] [] (pB (decide (((p0.length : Nat) : Int) ≤ 600))))
abbrev o2 (ks : List Nat) (b : Bool) (RES : Bool) (sm : List Nat := []) : Orc := .call 13 ks b (pB RES) [] [] sm

abbrev c4e1 := ({ id := 1,parent := 0,name := ByteArray.empty,control := 0,kind := 0,owner := 0 } : Ah)
abbrev c4e2 := ({ id := 2,parent := 1,name := (bs [97]),control := 0,kind := 0,owner := 0 } : Ah)
abbrev c4e3 := ({ id := 3,parent := 2,name := (bs [98]),control := 0,kind := 0,owner := 0 } : Ah)
abbrev c4e4 := ({ id := 1,process := 1,group := 3,user := 0 } : At)
theorem AeE (RES : Aa) (hm : AaG = some RES) : Spec Tryz.prog 120 [] [] (.agg [ow 0 RES.tree.nodes.length,pI RES.tree.next,ow 1 RES.tasks.length,pI RES.next]) [] [Ag RES.tree.nodes,Ar RES.tasks] := by
 unfold AaG at hm
 refine SO Tryz.func120 rfl rfl [] [] ?_
 intro cx hnt
 refine Sq (RK hnt (.no :: []) [(0,rr 1000)] [(1000,bx [.p (.sl .nil 0 0 (fun _ => [])),pI 0,.p (.sl .nil 0 0 (fun _ => [])),pI 0])] tv ?_)
 refine Sq (RN hnt (nn 9 []) [(0,rr 1000)] [(1000,bx [ow 1032 [(c4e1),(c4e2),(c4e3)].length,pI 4,ow 1056 [(c4e4)].length,pI 2]),(1032,ob0 (Ag [(c4e1),(c4e2),(c4e3)])),(1056,ob0 (Ar [(c4e4)]))] [] [(1000,.box [ow 1032 3,pI 4,ow 1056 1,pI 2]),(1032,.row 6 3 (cut 6 [vi 1,vi 0,vs ByteArray.empty,vi 0,vi 0,vi 0,vi 2,vi 1,vs (bs [97]),vi 0,vi 0,vi 0,vi 3,vi 2,vs (bs [98]),vi 0,vi 0,vi 0])),(1056,.row 4 1 (cut 4 [vi 1,vi 1,vi 3,vi 0]))] tv (by kernel_rfl) .nil (.cons rfl (.box (.cons (MLe.ownLen (enc := Am) (d := Bh) (f := (cut 6 [vi 1,vi 0,vs ByteArray.empty,vi 0,vi 0,vi 0,vi 2,vi 1,vs (bs [97]),vi 0,vi 0,vi 0,vi 3,vi 2,vs (bs [98]),vi 0,vi 0,vi 0])) (RowIs.lit (enc := Am) (d := Bh) (n := 3) (f := (cut 6 [vi 1,vi 0,vs ByteArray.empty,vi 0,vi 0,vi 0,vi 2,vi 1,vs (bs [97]),vi 0,vi 0,vi 0,vi 3,vi 2,vs (bs [98]),vi 0,vi 0,vi 0])) [(c4e1),(c4e2),(c4e3)] rfl (fun | 0,_ => rfl | 1,_ => rfl | 2,_ => rfl | n + 3,h => absurd h (by omega)))) (.cons .rfl (.cons (MLe.ownLen (enc := Ay) (d := Bq) (f := (cut 4 [vi 1,vi 1,vi 3,vi 0])) (RowIs.lit (enc := Ay) (d := Bq) (n := 1) (f := (cut 4 [vi 1,vi 1,vi 3,vi 0])) [(c4e4)] rfl (fun | 0,_ => rfl | n + 1,h => absurd h (by omega)))) (.cons .rfl .nil))))) (.cons rfl (BLe.typed (RowIs.lit (enc := Am) (d := Bh) (n := 3) (f := (cut 6 [vi 1,vi 0,vs ByteArray.empty,vi 0,vi 0,vi 0,vi 2,vi 1,vs (bs [97]),vi 0,vi 0,vi 0,vi 3,vi 2,vs (bs [98]),vi 0,vi 0,vi 0])) [(c4e1),(c4e2),(c4e3)] rfl (fun | 0,_ => rfl | 1,_ => rfl | 2,_ => rfl | n + 3,h => absurd h (by omega)))) (.cons rfl (BLe.typed (RowIs.lit (enc := Ay) (d := Bq) (n := 1) (f := (cut 4 [vi 1,vi 1,vi 3,vi 0])) [(c4e4)] rfl (fun | 0,_ => rfl | n + 1,h => absurd h (by omega)))) .nil))) ?_)
 obtain rfl := sj hm
 exact DW.ret (Ai [Ag [(c4e1),(c4e2),(c4e3)],Ar [(c4e4)]] [1032,1056] (.agg [ow 0 [(c4e1),(c4e2),(c4e3)].length,pI 4,ow 1 [(c4e4)].length,pI 2]))
abbrev o4 (ks : List Nat) (b : Bool) (RES : Aa) (sm : List Nat := []) : Orc := .call 120 ks b (.agg [ow 0 RES.tree.nodes.length,pI RES.tree.next,ow 1 RES.tasks.length,pI RES.next]) [] [Ag RES.tree.nodes,Ar RES.tasks] sm

theorem AfE (p0 : Ah) (RES : Bool) (hm : Zn p0 = some RES) : Spec Tryz.prog 167 [.p (.agg (Am p0))] [] (pB RES) [] [] := by
 unfold Zn at hm
 refine SO Tryz.func167 rfl rfl [(0,.p (.agg (Am p0)))] [] ?_
 intro cx hnt
 refine Sq (RK hnt (nn 2 []) [(1,rr 1008)] [(1008,bx (pm (Am p0)))] tv ?_)
 refine Sq (DW.regJ (sl2 := [(2,pB ((((p0.id == 1) && (p0.parent == 0)) && (Dr p0.name ByteArray.empty)) && (p0.kind == 0)))]) (ob2 := []) ?_ ?_)
 ·rcases bt (p0.id == 1) with h1 | h1
  ·rcases bt (p0.parent == 0) with h2 | h2
   ·rcases bt (Dr p0.name ByteArray.empty) with h3 | h3
    ·exact RT hnt (nn 7 (pT :: nn 4 (pT :: nn 4 (pT :: .no :: [])))) [(2,pB (p0.kind == 0))] (an4 h1 (an4 h2 (an4 h3 tv))) (by kernel_rfl) (.cons rfl (.of_eq (by rw [h1,h2,h3]; try rfl)) .nil)
    ·exact RT hnt (nn 7 (pT :: nn 4 (pT :: .no :: sk 3 (pF :: .no :: [])))) [(2,pB false)] (an4 h1 (an4 h2 (an4 h3 tv))) (by kernel_rfl) (.cons rfl (.of_eq (by rw [h1,h2,h3]; try rfl)) .nil)
   ·exact RT hnt (nn 7 (pT :: .no :: sk 3 (pF :: .no :: sk 3 (pF :: .no :: [])))) [(2,pB false)] (an4 h1 (an4 h2 (an4 ff tv))) (by kernel_rfl) (.cons rfl (.of_eq (by rw [h1,h2]; try rfl)) .nil)
  ·exact RT hnt (nn 4 (sk 3 (pF :: .no :: sk 3 (pF :: .no :: sk 3 (pF :: .no :: []))))) [(2,pB false)] (an4 h1 (an2 ff (an6 ff tv))) (by kernel_rfl) (.cons rfl (.of_eq (by rw [h1]; try rfl)) .nil)
 ·refine DW.ret ?_
  obtain rfl := sj hm
  exact Ai [] [] (pB ((((p0.id == 1) && (p0.parent == 0)) && (Dr p0.name ByteArray.empty)) && (p0.kind == 0)))
abbrev o8 (ks : List Nat) (b : Bool) (RES : Bool) (sm : List Nat := []) : Orc := .call 167 ks b (pB RES) [] [] sm

theorem AeY (p0 : Int) (RES : Bool) (hm : Wj p0 = some RES) : Spec Tryz.prog 236 [.p (vk .u8 p0)] [] (pB RES) [] [] := by
 unfold Wj at hm
 refine SO Tryz.func236 rfl rfl [(0,.p (vk .u8 p0))] [] ?_
 intro cx hnt
 refine Sq (RD hnt (.no :: []) [] [] [] [] tv ?_)
 refine Sq (DW.regJ (sl2 := [(2,pB ((((((decide (p0 ≥ 97)) && (decide (p0 ≤ 122))) || ((decide (p0 ≥ 65)) && (decide (p0 ≤ 90)))) || ((decide (p0 ≥ 48)) && (decide (p0 ≤ 57)))) || (p0 == 95)) || (p0 == 45)))]) (ob2 := []) ?_ ?_)
 ·rcases bt (decide (p0 ≥ 97)) with h1 | h1
  ·rcases bt (decide (p0 ≤ 122)) with h2 | h2
   ·exact RT hnt (nn 5 (pT :: .no :: sk 6 (pT :: .no :: sk 6 (pT :: .no :: sk 2 (pT :: .no :: sk 2 (pT :: .no :: [])))))) [(2,pB true)] (an3 h1 (an5 h2 (an5 tt (an6 tt tv)))) (by kernel_rfl) (.cons rfl (.of_eq (by rw [h1,h2]; try rfl)) .nil)
   ·rcases bt (decide (p0 ≥ 65)) with h3 | h3
    ·rcases bt (decide (p0 ≤ 90)) with h4 | h4
     ·exact RT hnt (nn 5 (pT :: nn 6 (pT :: pF :: .no :: sk 6 (pT :: .no :: sk 2 (pT :: .no :: sk 2 (pT :: .no :: [])))))) [(2,pB true)] (an3 h1 (an3 h2 (an2 h3 (an h2 (an h3 (an h2 (an5 h4 (an6 tt tv)))))))) (by kernel_rfl) (.cons rfl (.of_eq (by rw [h1,h2,h3,h4]; try rfl)) .nil)
     ·rcases bt (decide (p0 ≥ 48)) with h5 | h5
      ·rcases bt (decide (p0 ≤ 57)) with h6 | h6
       ·exact RT hnt (nn 5 (pT :: nn 6 (pT :: pF :: nn 6 (pT :: pF :: .no :: sk 2 (pT :: .no :: sk 2 (pT :: .no :: [])))))) [(2,pB true)] (an3 h1 (an3 h2 (an2 h3 (an h2 (an h3 (an h2 (an3 h4 (an2 h5 (an h4 (an h5 (an h4 (an3 h6 (an3 tt tv))))))))))))) (by kernel_rfl) (.cons rfl (.of_eq (by rw [h1,h2,h3,h4,h5,h6]; try rfl)) .nil)
       ·rcases bt (p0 == 95) with h7 | h7
        ·exact RT hnt (nn 5 (pT :: nn 6 (pT :: pF :: nn 6 (pT :: pF :: nn 3 (pF :: .no :: sk 2 (pT :: .no :: [])))))) [(2,pB true)] (an3 h1 (an3 h2 (an2 h3 (an h2 (an h3 (an h2 (an3 h4 (an2 h5 (an h4 (an h5 (an h4 (an3 h6 (an3 h7 tv))))))))))))) (by kernel_rfl) (.cons rfl (.of_eq (by rw [h1,h2,h3,h4,h5,h6,h7]; try rfl)) .nil)
        ·exact RT hnt (nn 5 (pT :: nn 6 (pT :: pF :: nn 6 (pT :: pF :: nn 3 (pF :: nn 3 (pF :: .no :: [])))))) [(2,pB (p0 == 45))] (an3 h1 (an3 h2 (an2 h3 (an h2 (an h3 (an h2 (an3 h4 (an2 h5 (an h4 (an h5 (an h4 (an3 h6 (an3 h7 tv))))))))))))) (by kernel_rfl) (.cons rfl (.of_eq (by rw [h1,h2,h3,h4,h5,h6,h7]; try rfl)) .nil)
      ·rcases bt (p0 == 95) with h8 | h8
       ·exact RT hnt (nn 5 (pT :: nn 6 (pT :: pF :: nn 4 (sk 2 (pF :: pF :: nn 3 (pF :: .no :: sk 2 (pT :: .no :: []))))))) [(2,pB true)] (an3 h1 (an3 h2 (an2 h3 (an h2 (an h3 (an h2 (an3 h4 (an2 h5 (an h4 (an h5 (an h4 (an3 ff (an3 h8 tv))))))))))))) (by kernel_rfl) (.cons rfl (.of_eq (by rw [h1,h2,h3,h4,h5,h8]; try rfl)) .nil)
       ·exact RT hnt (nn 5 (pT :: nn 6 (pT :: pF :: nn 4 (sk 2 (pF :: pF :: nn 3 (pF :: nn 3 (pF :: .no :: []))))))) [(2,pB (p0 == 45))] (an3 h1 (an3 h2 (an2 h3 (an h2 (an h3 (an h2 (an3 h4 (an2 h5 (an h4 (an h5 (an h4 (an3 ff (an3 h8 tv))))))))))))) (by kernel_rfl) (.cons rfl (.of_eq (by rw [h1,h2,h3,h4,h5,h8]; try rfl)) .nil)
    ·rcases bt (decide (p0 ≥ 48)) with h9 | h9
     ·rcases bt (decide (p0 ≤ 57)) with h10 | h10
      ·exact RT hnt (nn 5 (pT :: nn 4 (sk 2 (pF :: pF :: nn 6 (pT :: pF :: .no :: sk 2 (pT :: .no :: sk 2 (pT :: .no :: []))))))) [(2,pB true)] (an3 h1 (an3 h2 (an2 h3 (an h2 (an h3 (an h2 (an3 ff (an2 h9 (an ff (an h9 (an ff (an3 h10 (an3 tt tv))))))))))))) (by kernel_rfl) (.cons rfl (.of_eq (by rw [h1,h2,h3,h9,h10]; try rfl)) .nil)
      ·rcases bt (p0 == 95) with h11 | h11
       ·exact RT hnt (nn 5 (pT :: nn 4 (sk 2 (pF :: pF :: nn 6 (pT :: pF :: nn 3 (pF :: .no :: sk 2 (pT :: .no :: []))))))) [(2,pB true)] (an3 h1 (an3 h2 (an2 h3 (an h2 (an h3 (an h2 (an3 ff (an2 h9 (an ff (an h9 (an ff (an3 h10 (an3 h11 tv))))))))))))) (by kernel_rfl) (.cons rfl (.of_eq (by rw [h1,h2,h3,h9,h10,h11]; try rfl)) .nil)
       ·exact RT hnt (nn 5 (pT :: nn 4 (sk 2 (pF :: pF :: nn 6 (pT :: pF :: nn 3 (pF :: nn 3 (pF :: .no :: []))))))) [(2,pB (p0 == 45))] (an3 h1 (an3 h2 (an2 h3 (an h2 (an h3 (an h2 (an3 ff (an2 h9 (an ff (an h9 (an ff (an3 h10 (an3 h11 tv))))))))))))) (by kernel_rfl) (.cons rfl (.of_eq (by rw [h1,h2,h3,h9,h10,h11]; try rfl)) .nil)
     ·rcases bt (p0 == 95) with h12 | h12
      ·exact RT hnt (nn 5 (pT :: nn 4 (sk 2 (pF :: pF :: nn 4 (sk 2 (pF :: pF :: nn 3 (pF :: .no :: sk 2 (pT :: .no :: [])))))))) [(2,pB true)] (an3 h1 (an3 h2 (an2 h3 (an h2 (an h3 (an h2 (an3 ff (an2 h9 (an ff (an h9 (an4 ff (an3 h12 tv)))))))))))) (by kernel_rfl) (.cons rfl (.of_eq (by rw [h1,h2,h3,h9,h12]; try rfl)) .nil)
      ·exact RT hnt (nn 5 (pT :: nn 4 (sk 2 (pF :: pF :: nn 4 (sk 2 (pF :: pF :: nn 3 (pF :: nn 3 (pF :: .no :: [])))))))) [(2,pB (p0 == 45))] (an3 h1 (an3 h2 (an2 h3 (an h2 (an h3 (an h2 (an3 ff (an2 h9 (an ff (an h9 (an4 ff (an3 h12 tv)))))))))))) (by kernel_rfl) (.cons rfl (.of_eq (by rw [h1,h2,h3,h9,h12]; try rfl)) .nil)
  ·rcases bt (decide (p0 ≥ 65)) with h13 | h13
   ·rcases bt (decide (p0 ≤ 90)) with h14 | h14
    ·exact RT hnt (nn 3 (sk 2 (pF :: nn 6 (pT :: pF :: .no :: sk 6 (pT :: .no :: sk 2 (pT :: .no :: sk 2 (pT :: .no :: []))))))) [(2,pB true)] (an3 h1 (an3 ff (an2 h13 (an ff (an h13 (an ff (an5 h14 (an6 tt tv)))))))) (by kernel_rfl) (.cons rfl (.of_eq (by rw [h1,h13,h14]; try rfl)) .nil)
    ·rcases bt (decide (p0 ≥ 48)) with h15 | h15
     ·rcases bt (decide (p0 ≤ 57)) with h16 | h16
      ·exact RT hnt (nn 3 (sk 2 (pF :: nn 6 (pT :: pF :: nn 6 (pT :: pF :: .no :: sk 2 (pT :: .no :: sk 2 (pT :: .no :: []))))))) [(2,pB true)] (an3 h1 (an3 ff (an2 h13 (an ff (an h13 (an ff (an3 h14 (an2 h15 (an h14 (an h15 (an h14 (an3 h16 (an3 tt tv))))))))))))) (by kernel_rfl) (.cons rfl (.of_eq (by rw [h1,h13,h14,h15,h16]; try rfl)) .nil)
      ·rcases bt (p0 == 95) with h17 | h17
       ·exact RT hnt (nn 3 (sk 2 (pF :: nn 6 (pT :: pF :: nn 6 (pT :: pF :: nn 3 (pF :: .no :: sk 2 (pT :: .no :: []))))))) [(2,pB true)] (an3 h1 (an3 ff (an2 h13 (an ff (an h13 (an ff (an3 h14 (an2 h15 (an h14 (an h15 (an h14 (an3 h16 (an3 h17 tv))))))))))))) (by kernel_rfl) (.cons rfl (.of_eq (by rw [h1,h13,h14,h15,h16,h17]; try rfl)) .nil)
       ·exact RT hnt (nn 3 (sk 2 (pF :: nn 6 (pT :: pF :: nn 6 (pT :: pF :: nn 3 (pF :: nn 3 (pF :: .no :: []))))))) [(2,pB (p0 == 45))] (an3 h1 (an3 ff (an2 h13 (an ff (an h13 (an ff (an3 h14 (an2 h15 (an h14 (an h15 (an h14 (an3 h16 (an3 h17 tv))))))))))))) (by kernel_rfl) (.cons rfl (.of_eq (by rw [h1,h13,h14,h15,h16,h17]; try rfl)) .nil)
     ·rcases bt (p0 == 95) with h18 | h18
      ·exact RT hnt (nn 3 (sk 2 (pF :: nn 6 (pT :: pF :: nn 4 (sk 2 (pF :: pF :: nn 3 (pF :: .no :: sk 2 (pT :: .no :: [])))))))) [(2,pB true)] (an3 h1 (an3 ff (an2 h13 (an ff (an h13 (an ff (an3 h14 (an2 h15 (an h14 (an h15 (an h14 (an3 ff (an3 h18 tv))))))))))))) (by kernel_rfl) (.cons rfl (.of_eq (by rw [h1,h13,h14,h15,h18]; try rfl)) .nil)
      ·exact RT hnt (nn 3 (sk 2 (pF :: nn 6 (pT :: pF :: nn 4 (sk 2 (pF :: pF :: nn 3 (pF :: nn 3 (pF :: .no :: [])))))))) [(2,pB (p0 == 45))] (an3 h1 (an3 ff (an2 h13 (an ff (an h13 (an ff (an3 h14 (an2 h15 (an h14 (an h15 (an h14 (an3 ff (an3 h18 tv))))))))))))) (by kernel_rfl) (.cons rfl (.of_eq (by rw [h1,h13,h14,h15,h18]; try rfl)) .nil)
   ·rcases bt (decide (p0 ≥ 48)) with h19 | h19
    ·rcases bt (decide (p0 ≤ 57)) with h20 | h20
     ·exact RT hnt (nn 3 (sk 2 (pF :: nn 4 (sk 2 (pF :: pF :: nn 6 (pT :: pF :: .no :: sk 2 (pT :: .no :: sk 2 (pT :: .no :: [])))))))) [(2,pB true)] (an3 h1 (an3 ff (an2 h13 (an ff (an h13 (an4 ff (an2 h19 (an ff (an h19 (an ff (an3 h20 (an3 tt tv)))))))))))) (by kernel_rfl) (.cons rfl (.of_eq (by rw [h1,h13,h19,h20]; try rfl)) .nil)
     ·rcases bt (p0 == 95) with h21 | h21
      ·exact RT hnt (nn 3 (sk 2 (pF :: nn 4 (sk 2 (pF :: pF :: nn 6 (pT :: pF :: nn 3 (pF :: .no :: sk 2 (pT :: .no :: [])))))))) [(2,pB true)] (an3 h1 (an3 ff (an2 h13 (an ff (an h13 (an4 ff (an2 h19 (an ff (an h19 (an ff (an3 h20 (an3 h21 tv)))))))))))) (by kernel_rfl) (.cons rfl (.of_eq (by rw [h1,h13,h19,h20,h21]; try rfl)) .nil)
      ·exact RT hnt (nn 3 (sk 2 (pF :: nn 4 (sk 2 (pF :: pF :: nn 6 (pT :: pF :: nn 3 (pF :: nn 3 (pF :: .no :: [])))))))) [(2,pB (p0 == 45))] (an3 h1 (an3 ff (an2 h13 (an ff (an h13 (an4 ff (an2 h19 (an ff (an h19 (an ff (an3 h20 (an3 h21 tv)))))))))))) (by kernel_rfl) (.cons rfl (.of_eq (by rw [h1,h13,h19,h20,h21]; try rfl)) .nil)
    ·rcases bt (p0 == 95) with h22 | h22
     ·exact RT hnt (nn 3 (sk 2 (pF :: nn 4 (sk 2 (pF :: pF :: nn 4 (sk 2 (pF :: pF :: nn 3 (pF :: .no :: sk 2 (pT :: .no :: []))))))))) [(2,pB true)] (an3 h1 (an3 ff (an2 h13 (an ff (an h13 (an4 ff (an2 h19 (an ff (an h19 (an4 ff (an3 h22 tv))))))))))) (by kernel_rfl) (.cons rfl (.of_eq (by rw [h1,h13,h19,h22]; try rfl)) .nil)
     ·exact RT hnt (nn 3 (sk 2 (pF :: nn 4 (sk 2 (pF :: pF :: nn 4 (sk 2 (pF :: pF :: nn 3 (pF :: nn 3 (pF :: .no :: []))))))))) [(2,pB (p0 == 45))] (an3 h1 (an3 ff (an2 h13 (an ff (an h13 (an4 ff (an2 h19 (an ff (an h19 (an4 ff (an3 h22 tv))))))))))) (by kernel_rfl) (.cons rfl (.of_eq (by rw [h1,h13,h19,h22]; try rfl)) .nil)
 ·refine DW.ret ?_
  obtain rfl := sj hm
  exact Ai [] [] (pB ((((((decide (p0 ≥ 97)) && (decide (p0 ≤ 122))) || ((decide (p0 ≥ 65)) && (decide (p0 ≤ 90)))) || ((decide (p0 ≥ 48)) && (decide (p0 ≤ 57)))) || (p0 == 95)) || (p0 == 45)))
abbrev o11 (ks : List Nat) (b : Bool) (RES : Bool) (sm : List Nat := []) : Orc := .call 236 ks b (pB RES) [] [] sm

theorem Tp (p0 : ByteArray) (RES : Bool) (hm : Tj p0 = some RES) : Spec Tryz.prog 210 [pS p0] [] (pB RES) [] [] := by
 unfold Tj at hm
 refine SO Tryz.func210 rfl rfl [(0,pS p0)] [] ?_
 intro cx hnt
 refine Sq (RK hnt (.no :: []) [(0,pS p0)] [] tv ?_)
 refine Sq (Sq (RN hnt (nn 4 []) [(0,pS p0),(6,.p (Oq 1 (encK .u8) 0 (Ia p0))),(7,pI ((p0.size : Nat) : Int)),(8,pI 0)] [] [(6,.p (.sl .unk 1 p0.size (Aat p0)))] [] tv (by kernel_rfl) (.cons rfl (MLe.typed RowIs.bytes) .nil) .nil ?_))
 refine Bk ?_
 obtain ⟨hc1,hm⟩ := go1 hm
 refine DW.rangeO (fun (k1 : Nat) (s1 : Unit) => Aj [(0,pS p0),(6,.p (Oq 1 (encK .u8) 0 (Ia p0))),(7,pI ((p0.size : Nat) : Int)),(8,pI ((k1 : Nat) : Int))] []) 0 hm .refl ?_
 intro k1 s1 n1 hk1 hs1 he1
 refine Sq (RD hnt (.no :: []) [] [(9,pB (decide (((k1 : Nat) : Int) < ((p0.size : Nat) : Int))))] [] [] tv ?_)
 refine Sq (Cj (decide (((k1 : Nat) : Int) < ((p0.size : Nat) : Int))) ?_ ?_)
 ·intro h15
  have hlt1 : k1 < (Ia p0).length := by have := of_decide_eq_true h15; have := Oc p0; omega
  have hm := hs1 hlt1
  unfold Xd at hm
  refine Sk ?_
  refine Sq (Bk ?_)
  refine Sq (RD hnt (nn 3 []) [9] [(4,.p (vk .u8 ((Ia p0).getD k1 0)))] [] [] (an (nn0 k1) (an (ltc hlt1) tv)) ?_)
  obtain ⟨r16,hr16,hm⟩ := bo hm
  refine Sq (RD hnt (.no :: o11 [] true r16 :: .no :: []) [4] [(14,pB (!r16))] [] [] (an (AeY ((Ia p0).getD k1 0) r16 hr16) tv) ?_)
  refine Af hm ?_ ?_
  ·intro h17 hm
   refine Sq (RK hnt (.no :: []) [(2,pB false)] [] tv ?_)
   obtain rfl := sj hm
   exact DW.ret (Ai [] [] (pB false))
  ·intro h17 hm
   refine Sk ?_
   refine DW.done ?_
   show DW _ _ _ _ _
   refine RD hnt (nn 2 []) [14] [(8,pI (w64 (((k1 : Nat) : Int) + 1)))] [] [] tv ?_
   exact jD () ⟨hlt1,hm⟩ (Conv.tp [(8,pI (w64 (((k1 : Nat) : Int) + 1)))] [] (by kernel_rfl) (.cons rfl (.of_eq (congrArg pI (Bn hlt1 hc1))) .nil) .nil)
 ·intro h15
  have hge1 : ¬ k1 < (Ia p0).length := by have := of_decide_eq_false h15; have := Oc p0; omega
  have hm := he1 hge1
  unfold Yf at hm
  refine DW.exit ?_
  refine An ?_
  refine Aw ?_
  refine Ak ?_
  show DW _ _ _ _ _
  refine Sq ?_
  refine Jn (ι := Bool) (fun (y3 : Bool) => Aj [(2,pB y3)] []) (fun y3 => Nd y3 = some RES) ?_ ?_
  ·intro y3 hm
   unfold Nd at hm
   obtain rfl := sj hm
   exact DW.ret (Ai [] [] (pB y3))
  ·rcases bt (!(Dr p0 ByteArray.empty)) with h18 | h18
   ·replace hm := Bd h18 hm
    rcases bt (decide (((p0.size : Nat) : Int) ≤ 32)) with h19 | h19
    ·replace hm := Bd h19 hm
     obtain ⟨g20,hm⟩ := go1 hm
     refine RK hnt (nn 6 (pT :: nn 4 (pT :: .no :: []))) [(2,pB ((((Bj p0 0) : Nat) : Int) != 45))] [] (an4 h18 (an2 h19 (an (nn0 0) (an (ltc g20) (an2 h19 tv))))) ?_
     exact jD ((((Bj p0 0) : Nat) : Int) != 45) hm .refl
    ·replace hm := Be h19 hm
     refine RK hnt (nn 6 (pT :: .no :: sk 3 (pF :: .no :: []))) [(2,pB false)] [] (an4 h18 (an4 h19 tv)) ?_
     exact jD false hm .refl
   ·replace hm := Be h18 hm
    refine RK hnt (nn 3 (sk 3 (pF :: .no :: sk 3 (pF :: .no :: [])))) [(2,pB false)] [] (an4 h18 (an4 ff tv)) ?_
    exact jD false hm .refl
abbrev o10 (ks : List Nat) (b : Bool) (RES : Bool) (sm : List Nat := []) : Orc := .call 210 ks b (pB RES) [] [] sm

abbrev c9e1 (p0 : List Ah) (k1 : Nat) := (p0.getD k1 (default : Ah))
abbrev c9e2 (p1 : Ah) : Nat × Obj := (1024,bx (pm (Am p1)))
abbrev c9e3 (p0 : List Ah) : Nat × MV := (35,pI ((p0.length : Nat) : Int))
theorem AfR (p0 : List Ah) (p1 : Ah) (RES : Bool) (hm : Uv p0 p1 = some RES) : Spec Tryz.prog 168 [.p (Bb p0),.p (.agg (Am p1))] [] (pB RES) [] [] := by
 unfold Uv at hm
 refine SO Tryz.func168 rfl rfl [(0,.p (Bb p0)),(1,.p (.agg (Am p1)))] [] ?_
 intro cx hnt
 refine Sq (RD hnt (nn 2 []) [1] [(3,rr 1024)] [] [(c9e2 p1)] tv ?_)
 obtain ⟨g1,hm⟩ := go1 hm
 refine Sq (Sq ?_)
 refine Jn (ι := Bool) (fun (y1 : Bool) => Aj [(0,.p (Bb p0)),(3,rr 1024),(33,pB y1)] [(c9e2 p1)]) (fun y1 => (Jc p0 p1) y1 = some RES) ?_ ?_
 ·intro y1 hm
  unfold Jc at hm
  refine Af hm ?_ ?_
  ·intro h6 hm
   refine Sq (RK hnt (.no :: []) [(4,pB false)] [] tv ?_)
   obtain rfl := sj hm
   exact DW.ret (Ai [] [] (pB false))
  ·intro h6 hm
   refine Sk ?_
   refine Sq (RD hnt (.no :: []) [33] [(5,pB false)] [] [] tv ?_)
   refine Sq (Sq (RD hnt (nn 3 []) [0] [(34,.p (Bb p0)),(c9e3 p0),(36,pI 0)] [] [] tv ?_))
   refine Bk ?_
   obtain ⟨hc1,hm⟩ := go1 hm
   refine DW.rangeO (fun (k1 : Nat) (s1 : Bool) => Aj [(3,rr 1024),(5,pB s1),(34,.p (Bb p0)),(c9e3 p0),(36,pI ((k1 : Nat) : Int))] [(c9e2 p1)]) Bh hm Conv.eqK ?_
   intro k1 s1 n1 hk1 hs1 he1
   refine Sq (RD hnt (.no :: []) [] [(37,pB (decide (((k1 : Nat) : Int) < ((p0.length : Nat) : Int))))] [] [] tv ?_)
   refine Sq (Cj (decide (((k1 : Nat) : Int) < ((p0.length : Nat) : Int))) ?_ ?_)
   ·intro h16
    have hlt1 : k1 < p0.length := by have := of_decide_eq_true h16; omega
    have hm := hs1 hlt1
    unfold Zy at hm
    refine Sk ?_
    refine Sq (Bk ?_)
    refine Sq (RD hnt (nn 4 []) [37] [(7,rr 1056)] [] [(1056,bx (pm (Am (c9e1 p0 k1))))] (an (nn0 k1) (an (ltc hlt1) tv)) ?_)
    refine Sq (DW.regJ (sl2 := [(3,rr 1024),(5,pB (s1 || ((c9e1 p0 k1).id == p1.parent))),(7,rr 1056),(34,.p (Bb p0)),(c9e3 p0),(36,pI ((k1 : Nat) : Int))]) (ob2 := [(c9e2 p1),(1056,bx (pm (Am (c9e1 p0 k1))))]) ?_ ?_)
    ·rcases bt s1 with h17 | h17
     ·exact RT hnt (nn 2 (sk 5 (pT :: .no :: []))) [(5,pB true)] (an6 h17 tv) (by kernel_rfl) (.cons rfl (.of_eq (by rw [h17]; try rfl)) .nil)
     ·exact RT hnt (nn 7 (pF :: .no :: [])) [(5,pB ((c9e1 p0 k1).id == p1.parent))] (an6 h17 tv) (by kernel_rfl) (.cons rfl (.of_eq (by rw [h17]; try rfl)) .nil)
    ·refine Sq (DW.regJ (sl2 := [(3,rr 1024),(5,pB (s1 || ((c9e1 p0 k1).id == p1.parent))),(34,.p (Bb p0)),(c9e3 p0),(36,pI ((k1 : Nat) : Int)),(59,pB (((c9e1 p0 k1).parent == p1.parent) && (Dr (c9e1 p0 k1).name p1.name)))]) (ob2 := [(c9e2 p1)]) ?_ ?_)
     ·rcases bt ((c9e1 p0 k1).parent == p1.parent) with h18 | h18
      ·exact RT hnt (nn 11 (pT :: [])) [(59,pB (Dr (c9e1 p0 k1).name p1.name))] (an6 h18 tv) (by kernel_rfl) (.cons rfl (.of_eq (by rw [h18]; try rfl)) .nil)
      ·exact RT hnt (nn 6 (sk 5 (pF :: []))) [(59,pB false)] (an6 h18 tv) (by kernel_rfl) (.cons rfl (.of_eq (by rw [h18]; try rfl)) .nil)
     ·refine Af hm ?_ ?_
      ·intro h19 hm
       refine Sq (RK hnt (.no :: []) [(4,pB false)] [] tv ?_)
       obtain rfl := sj hm
       exact DW.ret (Ai [] [] (pB false))
      ·intro h19 hm
       refine Sk ?_
       refine DW.done ?_
       show DW _ _ _ _ _
       refine RD hnt (nn 2 []) [59] [(36,pI (w64 (((k1 : Nat) : Int) + 1)))] [] [] tv ?_
       exact jD (s1 || ((c9e1 p0 k1).id == p1.parent)) ⟨hlt1,hm⟩ (Conv.tp [(36,pI (w64 (((k1 : Nat) : Int) + 1)))] [] (by kernel_rfl) (.cons rfl (.of_eq (congrArg pI (Bn hlt1 hc1))) .nil) .nil)
   ·intro h16
    have hge1 : ¬ k1 < p0.length := by have := of_decide_eq_false h16; omega
    have hm := he1 hge1
    unfold AcZ at hm
    refine DW.exit ?_
    refine An ?_
    refine Aw ?_
    refine Ak ?_
    show DW _ _ _ _ _
    refine Sq (RK hnt (nn 2 []) [(4,pB s1)] [] tv ?_)
    obtain rfl := sj hm
    exact DW.ret (Ai [] [] (pB s1))
 ·rcases bt (decide (p1.id ≤ (p0.getD (Int.toNat (w64 (((p0.length : Nat) : Int) - 1))) Bh).id)) with h2 | h2
  ·replace hm := Bd h2 hm
   refine RD hnt (nn 11 (sk 4 (pT :: .no :: sk 8 (pT :: [])))) [] [(33,pB true)] [] [] (an g1.1 (an g1.2 (an5 h2 (an6 tt tv)))) ?_
   exact jD true hm Conv.eqK
  ·replace hm := Be h2 hm
   obtain ⟨r3,hr3,hm⟩ := bo hm
   rcases bt (!r3) with h4 | h4
   ·replace hm := Bd h4 hm
    refine RD hnt (nn 13 (o10 [] true r3 :: .no :: pF :: .no :: sk 8 (pT :: []))) [] [(33,pB true)] [] [] (an g1.1 (an g1.2 (an3 h2 (an (Tp p1.name r3 hr3) (an2 h2 (an6 h4 tv)))))) ?_
    exact jD true hm Conv.eqK
   ·replace hm := Be h4 hm
    rcases bt (p1.kind != 0) with h5 | h5
    ·replace hm := Bd h5 hm
     refine RD hnt (nn 13 (o10 [] true r3 :: .no :: pF :: nn 8 (pT :: pF :: []))) [] [(33,pB (p1.kind != 1))] [] [] (an g1.1 (an g1.2 (an3 h2 (an (Tp p1.name r3 hr3) (an2 h2 (an4 h4 (an3 h5 (an h4 (an h5 (an h4 tv)))))))))) ?_
     exact jD (p1.kind != 1) hm Conv.eqK
    ·replace hm := Be h5 hm
     refine RD hnt (nn 13 (o10 [] true r3 :: .no :: pF :: nn 5 (sk 3 (pF :: pF :: [])))) [] [(33,pB false)] [] [] (an g1.1 (an g1.2 (an3 h2 (an (Tp p1.name r3 hr3) (an2 h2 (an4 h4 (an3 h5 (an h4 (an h5 (an h4 tv)))))))))) ?_
     exact jD false hm Conv.eqK
abbrev o9 (ks : List Nat) (b : Bool) (RES : Bool) (sm : List Nat := []) : Orc := .call 168 ks b (pB RES) [] [] sm

abbrev Oo (p0 : Ae) (k1 : Nat) := (p0.nodes.getD k1 (default : Ah))
abbrev c7e2 (s1 : IMap Int) (p0 : Ae) (k1 : Nat) := (s1.set (Oo p0 k1).id (w64 ((s1.get (Oo p0 k1).parent) + 1)))
abbrev c7e3 (p0 : Ae) : Nat × MV := (27,pI ((p0.nodes.length : Nat) : Int))
abbrev c7e4 (p0 : Ae) : Nat × Obj := (1008,bx (pm (Aq p0)))
theorem Tw (p0 : Ae) (RES : Bool) (hm : Nk p0 = some RES) : Spec Tryz.prog 92 [.p (.agg (Aq p0))] [] (pB RES) [] [] := by
 unfold Nk at hm
 refine SO Tryz.func92 rfl rfl [(0,.p (.agg (Aq p0)))] [] ?_
 intro cx hnt
 refine Sq (RK hnt (nn 2 []) [(1,rr 1008)] [(c7e4 p0)] tv ?_)
 refine Sq (Sq ?_)
 refine Jn (ι := Bool) (fun (y1 : Bool) => Aj [(1,rr 1008),(23,pB y1)] [(c7e4 p0)]) (fun y1 => (Ng p0) y1 = some RES) ?_ ?_
 ·intro y1 hm
  unfold Ng at hm
  refine Af hm ?_ ?_
  ·intro h5 hm
   refine Sq (RK hnt (.no :: []) [(2,pB false)] [] tv ?_)
   obtain rfl := sj hm
   exact DW.ret (Ai [] [] (pB false))
  ·intro h5 hm
   refine Sk ?_
   refine Sq (RD hnt (nn 2 []) [23] [(3,.mref 1192 0)] [] [(1192,ob0 (mapOf vi (vi 0) (IMap.empty 0)))] tv ?_)
   refine Sq (Sq (RD hnt (nn 4 []) [] [(26,.p (Bb p0.nodes)),(c7e3 p0),(28,pI 0)] [] [] tv ?_))
   refine Bk ?_
   obtain ⟨hc1,hm⟩ := go1 hm
   refine DW.rangeO (fun (k1 : Nat) (s1 : IMap Int) => Aj [(1,rr 1008),(3,.mref 1192 0),(26,.p (Bb p0.nodes)),(c7e3 p0),(28,pI ((k1 : Nat) : Int))] [(c7e4 p0),(1192,ob0 (mapOf vi (vi 0) s1))]) Bh hm Conv.eqK ?_
   intro k1 s1 n1 hk1 hs1 he1
   refine Sq (RD hnt (.no :: []) [] [(29,pB (decide (((k1 : Nat) : Int) < ((p0.nodes.length : Nat) : Int))))] [] [] tv ?_)
   refine Sq (Cj (decide (((k1 : Nat) : Int) < ((p0.nodes.length : Nat) : Int))) ?_ ?_)
   ·intro h36
    have hlt1 : k1 < p0.nodes.length := by have := of_decide_eq_true h36; omega
    have hm := hs1 hlt1
    unfold Xe at hm
    refine Sk ?_
    refine Sq (Bk ?_)
    refine Sq (RD hnt (nn 6 []) [29] [(4,pI ((k1 : Nat) : Int)),(5,rr 1040)] [] [(1040,bx (pm (Am (Oo p0 k1))))] (an (nn0 k1) (an (ltc hlt1) tv)) ?_)
    refine Sq (Sq ?_)
    refine Jn (ι := Bool) (fun (y8 : Bool) => Aj [(1,rr 1008),(3,.mref 1192 0),(4,pI ((k1 : Nat) : Int)),(5,rr 1040),(26,.p (Bb p0.nodes)),(c7e3 p0),(28,pI ((k1 : Nat) : Int)),(64,pB y8)] [(c7e4 p0),(1040,bx (pm (Am (Oo p0 k1)))),(1192,ob0 (mapOf vi (vi 0) s1))]) (fun y8 => (Gj k1 (Oo p0 k1) s1 n1) y8 = some RES) ?_ ?_
    ·intro y8 hm
     unfold Gj at hm
     refine Af hm ?_ ?_
     ·intro h44 hm
      refine Sq (RK hnt (.no :: []) [(2,pB false)] [] tv ?_)
      obtain rfl := sj hm
      exact DW.ret (Ai [] [] (pB false))
     ·intro h44 hm
      refine Sk ?_
      refine Sq (Sq (RD hnt (nn 2 []) [4,64] [(66,pB (decide (((k1 : Nat) : Int) > 0)))] [] [] tv ?_))
      refine Jn (ι := IMap Int) (fun (y9 : IMap Int) => Aj [(1,rr 1008),(3,.mref 1192 0),(5,rr 1040),(26,.p (Bb p0.nodes)),(c7e3 p0),(28,pI ((k1 : Nat) : Int))] [(c7e4 p0),(1040,bx (pm (Am (Oo p0 k1)))),(1192,ob0 (mapOf vi (vi 0) y9))]) (fun y9 => (Pf (Oo p0 k1) n1) y9 = some RES) ?_ ?_
      ·intro y9 hm
       unfold Pf at hm
       refine Sq (RD hnt (nn 5 []) [5] [(79,pB (decide ((y9.get (Oo p0 k1).id) > 8)))] [1040] [] (an (rfl : vi 0 = vi 0) tv) ?_)
       refine Af hm ?_ ?_
       ·intro h46 hm
        refine Sq (RK hnt (.no :: []) [(2,pB false)] [] tv ?_)
        obtain rfl := sj hm
        exact DW.ret (Ai [] [] (pB false))
       ·intro h46 hm
        refine Sk ?_
        refine DW.done ?_
        show DW _ _ _ _ _
        refine RD hnt (nn 2 []) [79] [(28,pI (w64 (((k1 : Nat) : Int) + 1)))] [] [] tv ?_
        exact jD y9 ⟨hlt1,hm⟩ (Conv.tp [(28,pI (w64 (((k1 : Nat) : Int) + 1)))] [] (by kernel_rfl) (.cons rfl (.of_eq (congrArg pI (Bn hlt1 hc1))) .nil) .nil)
      ·refine Af hm ?_ ?_
       ·intro h45 hm
        refine RD hnt (nn 8 (.asM (c7e2 s1 p0 k1).has (fun j => vi ((c7e2 s1 p0 k1).get j)) :: [])) [66] [] [] [(1192,ob0 (mapOf vi (vi 0) (c7e2 s1 p0 k1)))] (an (rfl : vi 0 = vi 0) (an (mset_has s1 (Oo p0 k1).id (w64 ((s1.get (Oo p0 k1).parent) + 1))) (an (mset_get vi s1 (Oo p0 k1).id (w64 ((s1.get (Oo p0 k1).parent) + 1))) tv))) ?_
        exact jD (c7e2 s1 p0 k1) hm Conv.eqK
       ·intro h45 hm
        refine Sk ?_
        exact jD s1 hm Conv.t0
    ·rcases bt (decide ((Oo p0 k1).control < 0)) with h37 | h37
     ·replace hm := Bd h37 hm
      refine RD hnt (nn 4 (sk 4 (pT :: .no :: sk 3 (pT :: .no :: sk 3 (pT :: .no :: sk 11 (pT :: [])))))) [] [(64,pB true)] [] [] (an5 h37 (an tt (an6 tt (an6 tt tv)))) ?_
      exact jD true hm Conv.eqK
     ·replace hm := Be h37 hm
      rcases bt ((Eb .i64 (Oo p0 k1).control 31) != 0) with h38 | h38
      ·replace hm := Bd h38 hm
       refine RD hnt (nn 8 (pF :: .no :: sk 3 (pT :: .no :: sk 3 (pT :: .no :: sk 11 (pT :: []))))) [] [(64,pB true)] [] [] (an5 h37 (an4 h38 (an3 tt (an6 tt tv)))) ?_
       exact jD true hm Conv.eqK
      ·replace hm := Be h38 hm
       rcases bt (decide ((Oo p0 k1).owner < 0)) with h39 | h39
       ·replace hm := Bd h39 hm
        refine RD hnt (nn 8 (pF :: nn 4 (pF :: .no :: sk 3 (pT :: .no :: sk 11 (pT :: []))))) [] [(64,pB true)] [] [] (an5 h37 (an4 h38 (an4 h39 (an5 tt tv)))) ?_
        exact jD true hm Conv.eqK
       ·replace hm := Be h39 hm
        rcases bt (decide ((Oo p0 k1).owner > 1048576)) with h40 | h40
        ·replace hm := Bd h40 hm
         refine RD hnt (nn 8 (pF :: nn 4 (pF :: nn 4 (pF :: .no :: sk 11 (pT :: []))))) [] [(64,pB true)] [] [] (an5 h37 (an4 h38 (an4 h39 (an5 h40 tv)))) ?_
         exact jD true hm Conv.eqK
        ·replace hm := Be h40 hm
         rcases bt (decide (((k1 : Nat) : Int) > 0)) with h41 | h41
         ·replace hm := Bd h41 hm
          obtain ⟨g42,hm⟩ := go1 hm
          obtain ⟨r43,hr43,hm⟩ := bo hm
          refine RD hnt (nn 8 (pF :: nn 4 (pF :: nn 4 (pF :: nn 9 (o9 [] true r43 :: .no :: pT :: pF :: []))))) [] [(64,pB (!r43))] [] [] (an5 h37 (an4 h38 (an4 h39 (an3 h40 (an4 h41 (an (by omega : (0 : Int) ≤ 0) (an (by omega : (0 : Int) ≤ ((k1 : Nat) : Int)) (an (by omega : ((k1 : Nat) : Int) ≤ ((p0.nodes.length : Nat) : Int)) (an2 h41 (an (Spec.args (xs := [.p (.sl .unk 6 k1 (Vg p0.nodes)),.p (.agg (Am (Oo p0 k1)))]) (AfR (p0.nodes.take k1) (Oo p0 k1) r43 hr43) (.cons (.p (PLe.typed (RowIs.elems.take (by omega)))) (.cons .rfl .nil))) (an h41 (an h40 (an h41 (an h40 tv)))))))))))))) ?_
          exact jD (!r43) hm Conv.eqK
         ·replace hm := Be h41 hm
          refine RD hnt (nn 8 (pF :: nn 4 (pF :: nn 4 (pF :: nn 4 (sk 7 (pF :: pF :: [])))))) [] [(64,pB false)] [] [] (an5 h37 (an4 h38 (an4 h39 (an3 h40 (an h41 (an6 h41 (an h40 (an h41 (an h40 tv))))))))) ?_
          exact jD false hm Conv.eqK
   ·intro h36
    have hge1 : ¬ k1 < p0.nodes.length := by have := of_decide_eq_false h36; omega
    have hm := he1 hge1
    unfold Xv at hm
    refine DW.exit ?_
    refine An ?_
    refine Aw ?_
    refine Ak ?_
    show DW _ _ _ _ _
    obtain ⟨g47,hm⟩ := go1 hm
    refine Sq ?_
    refine Jn (ι := Bool) (fun (y10 : Bool) => Aj [(2,pB y10)] []) (fun y10 => Ny y10 = some RES) ?_ ?_
    ·intro y10 hm
     unfold Ny at hm
     obtain rfl := sj hm
     exact DW.ret (Ai [] [] (pB y10))
    ·rcases bt (decide (p0.next > (p0.nodes.getD (Int.toNat (w64 (((p0.nodes.length : Nat) : Int) - 1))) Bh).id)) with h48 | h48
     ·replace hm := Bd h48 hm
      refine RK hnt (nn 16 (pT :: .no :: [])) [(2,pB (decide (p0.next ≤ 2147483648)))] [] (an g47.1 (an g47.2 (an4 h48 tv))) ?_
      exact jD (decide (p0.next ≤ 2147483648)) hm .refl
     ·replace hm := Be h48 hm
      refine RK hnt (nn 13 (sk 3 (pF :: .no :: []))) [(2,pB false)] [] (an g47.1 (an g47.2 (an4 h48 tv))) ?_
      exact jD false hm .refl
 ·rcases bt (decide (((p0.nodes.length : Nat) : Int) < 1)) with h1 | h1
  ·replace hm := Bd h1 hm
   refine RD hnt (nn 5 (sk 4 (pT :: .no :: sk 6 (pT :: [])))) [] [(23,pB true)] [] [] (an5 h1 (an tt (an6 tt tv))) ?_
   exact jD true hm Conv.eqK
  ·replace hm := Be h1 hm
   rcases bt (decide (((p0.nodes.length : Nat) : Int) > 64)) with h2 | h2
   ·replace hm := Bd h2 hm
    refine RD hnt (nn 9 (pF :: .no :: sk 6 (pT :: []))) [] [(23,pB true)] [] [] (an5 h1 (an h2 (an6 h2 tv))) ?_
    exact jD true hm Conv.eqK
   ·replace hm := Be h2 hm
    obtain ⟨g3,hm⟩ := go1 hm
    obtain ⟨r4,hr4,hm⟩ := bo hm
    refine RD hnt (nn 9 (pF :: nn 5 (o8 [] true r4 :: .no :: pF :: []))) [] [(23,pB (!r4))] [] [] (an5 h1 (an3 h2 (an (nn0 0) (an (ltc g3) (an2 h2 (an (AfE (p0.nodes.getD 0 Bh) r4 hr4) (an2 h2 tv))))))) ?_
    exact jD (!r4) hm Conv.eqK
abbrev o7 (ks : List Nat) (b : Bool) (RES : Bool) (sm : List Nat := []) : Orc := .call 92 ks b (pB RES) [] [] sm

theorem AfI (p0 : At) (p1 : Int) (RES : Bool) (hm : Acm p0 p1 = some RES) : Spec Tryz.prog 205 [.p (.agg (Ay p0)),rr 0] [.box [pI p1]] (pB RES) [.box [pI p1]] [] := by
 unfold Acm at hm
 refine SO Tryz.func205 rfl rfl [(0,.p (.agg (Ay p0))),(1,rr 0)] [(0,bx [pI p1])] ?_
 intro cx hnt
 refine Sq (RD hnt (nn 2 []) [0] [(2,rr 1016)] [] [(1016,bx (pm (Ay p0)))] tv ?_)
 refine Sq (RK hnt (nn 5 []) [(3,pB (p0.id == p1))] [(0,bx [pI p1])] tv ?_)
 obtain rfl := sj hm
 exact DW.ret (Ai [.box [pI p1]] [] (pB (p0.id == p1)))

theorem Qb (p0 : List At) (p1c0 : Int) (RES : Int) (hm : Fq p0 p1c0 = some RES) : Spec Tryz.prog 204 [.p (Bf p0),.fn 205 [rr 0]] [.box [pI p1c0]] (pI RES) [.box [pI p1c0]] [] := by
 unfold Fq at hm
 refine SO Tryz.func204 rfl rfl [(0,.p (Bf p0)),(1,.fn 205 [rr 0])] [(0,bx [pI p1c0])] ?_
 intro cx hnt
 refine Sq (RD hnt (.no :: []) [] [] [] [] tv ?_)
 refine Sq (Sq (RD hnt (nn 3 []) [] [(7,pI ((p0.length : Nat) : Int)),(8,pI 0)] [] [] tv ?_))
 refine Bk ?_
 obtain ⟨hc1,hm⟩ := go1 hm
 refine DW.rangeO (fun (k1 : Nat) (s1 : Unit) => Aj [(0,.p (Bf p0)),(1,.fn 205 [rr 0]),(7,pI ((p0.length : Nat) : Int)),(8,pI ((k1 : Nat) : Int))] [(0,bx [pI p1c0])]) Bq hm Conv.eqK ?_
 intro k1 s1 n1 hk1 hs1 he1
 refine Sq (RD hnt (.no :: []) [] [(9,pB (decide (((k1 : Nat) : Int) < ((p0.length : Nat) : Int))))] [] [] tv ?_)
 refine Sq (Cj (decide (((k1 : Nat) : Int) < ((p0.length : Nat) : Int))) ?_ ?_)
 ·intro h9
  have hlt1 : k1 < p0.length := by have := of_decide_eq_true h9; omega
  have hm := hs1 hlt1
  unfold Kk at hm
  refine Sk ?_
  refine Sq (Bk ?_)
  refine Sq (RD hnt (nn 2 []) [9] [(5,pI ((k1 : Nat) : Int))] [] [] tv ?_)
  obtain ⟨r10,hr10,hm⟩ := bo hm
  refine Sq (RD hnt (nn 5 (.call 205 [0] true (pB r10) [.box [pI p1c0]] [] [] :: [])) [] [(16,pB r10)] [] [] (an (nn0 k1) (an (ltc hlt1) (an (AfI (p0.getD k1 (default : At)) p1c0 r10 hr10) (an tv tv)))) ?_)
  refine Af hm ?_ ?_
  ·intro h11 hm
   refine Sq (RK hnt (nn 2 []) [(4,pI ((k1 : Nat) : Int))] [(0,bx [pI p1c0])] tv ?_)
   obtain rfl := sj hm
   exact DW.ret (Ai [.box [pI p1c0]] [] (pI ((k1 : Nat) : Int)))
  ·intro h11 hm
   refine Sk ?_
   refine DW.done ?_
   show DW _ _ _ _ _
   refine RD hnt (nn 2 []) [5,16] [(8,pI (w64 (((k1 : Nat) : Int) + 1)))] [] [] tv ?_
   exact jD () ⟨hlt1,hm⟩ (Conv.tp [(8,pI (w64 (((k1 : Nat) : Int) + 1)))] [] (by kernel_rfl) (.cons rfl (.of_eq (congrArg pI (Bn hlt1 hc1))) .nil) .nil)
 ·intro h9
  have hge1 : ¬ k1 < p0.length := by have := of_decide_eq_false h9; omega
  have hm := he1 hge1
  unfold Ki at hm
  refine DW.exit ?_
  refine An ?_
  refine Aw ?_
  refine Ak ?_
  show DW _ _ _ _ _
  refine Sq (RK hnt (.no :: []) [(4,pI (-1))] [(0,bx [pI p1c0])] tv ?_)
  obtain rfl := sj hm
  exact DW.ret (Ai [.box [pI p1c0]] [] (pI (-1)))

theorem Ahm (p0 : Aa) (p1 : Int) (RES : Int) (hm : Aaj p0 p1 = some RES) : Spec Tryz.prog 155 [.p (.agg (Ab p0)),pI p1] [] (pI RES) [] [] := by
 unfold Aaj at hm
 refine SO Tryz.func155 rfl rfl [(0,.p (.agg (Ab p0))),(1,pI p1)] [] ?_
 intro cx hnt
 refine Sq (RK hnt (nn 3 []) [(2,rr 1016),(3,rr 1024)] [(1016,bx (pm (Ab p0))),(1024,bx [pI p1])] tv ?_)
 obtain ⟨r1,hr1,hm⟩ := bo hm
 refine Sq (RK hnt (nn 3 (.call 204 [1024] true (pI r1) [.box [pI p1]] [] [] :: .no :: [])) [(4,pI r1)] [] (an (Qb p0.tasks p1 r1 hr1) (an tv tv)) ?_)
 obtain rfl := sj hm
 exact DW.ret (Ai [] [] (pI r1))
abbrev o14 (ks : List Nat) (b : Bool) (RES : Int) (sm : List Nat := []) : Orc := .call 155 ks b (pI RES) [] [] sm

theorem Abk (p0 : Aa) (p1 : Int) (RES : At × Bool) (hm : Px p0 p1 = some RES) : Spec Tryz.prog 97 [.p (.agg (Ab p0)),pI p1] [] (.p (.tup [.agg (Ay RES.1),vb RES.2])) [] [] := by
 unfold Px at hm
 refine SO Tryz.func97 rfl rfl [(0,.p (.agg (Ab p0))),(1,pI p1)] [] ?_
 intro cx hnt
 refine Sq (RK hnt (nn 3 []) [(1,pI p1),(2,rr 1016),(4,rr 1032)] [(1016,bx (pm (Ab p0))),(1032,bx [pI 0,pI 0,pI 0,pI 0])] tv ?_)
 obtain ⟨r1,hr1,hm⟩ := bo hm
 refine Sq (RD hnt (nn 2 (o14 [] true r1 :: .no :: [])) [1] [(6,pI r1)] [] [] (an (Ahm p0 p1 r1 hr1) tv) ?_)
 refine Sq (Sq (RD hnt (nn 2 []) [] [(11,pB (decide (r1 < 0)))] [] [] tv ?_))
 refine Af hm ?_ ?_
 ·intro h2 hm
  refine Sq (RD hnt (nn 3 []) [2,6,11] [(5,pB false)] [1016] [] tv ?_)
  obtain rfl := sj hm
  exact DW.ret (Ai [] [] (.p (.tup [.agg [vi 0,vi 0,vi 0,vi 0],vb false])))
 ·intro h2 hm
  refine Sk ?_
  obtain ⟨g3,hm⟩ := go1 hm
  refine Sq (RK hnt (nn 7 []) [(4,rr 1032),(5,pB true)] [(1032,bx (pm (Ay (p0.tasks.getD (Int.toNat r1) Bq))))] (an g3.1 (an g3.2 tv)) ?_)
  obtain rfl := sj hm
  exact DW.ret (Ai [] [] (.p (.tup [.agg (Ay (p0.tasks.getD (Int.toNat r1) Bq)),vb true])))
abbrev o13 (ks : List Nat) (b : Bool) (RES : At × Bool) (sm : List Nat := []) : Orc := .call 97 ks b (.p (.tup [.agg (Ay RES.1),vb RES.2])) [] [] sm

theorem Aer (p0 : Ah) (p1 : Int) (RES : Bool) (hm : Zz p0 p1 = some RES) : Spec Tryz.prog 203 [.p (.agg (Am p0)),rr 0] [.box [pI p1]] (pB RES) [.box [pI p1]] [] := by
 unfold Zz at hm
 refine SO Tryz.func203 rfl rfl [(0,.p (.agg (Am p0))),(1,rr 0)] [(0,bx [pI p1])] ?_
 intro cx hnt
 refine Sq (RD hnt (nn 2 []) [0] [(2,rr 1016)] [] [(1016,bx (pm (Am p0)))] tv ?_)
 refine Sq (RK hnt (nn 5 []) [(3,pB (p0.id == p1))] [(0,bx [pI p1])] tv ?_)
 obtain rfl := sj hm
 exact DW.ret (Ai [.box [pI p1]] [] (pB (p0.id == p1)))

theorem Pe (p0 : List Ah) (p1c0 : Int) (RES : Int) (hm : Fe p0 p1c0 = some RES) : Spec Tryz.prog 202 [.p (Bb p0),.fn 203 [rr 0]] [.box [pI p1c0]] (pI RES) [.box [pI p1c0]] [] := by
 unfold Fe at hm
 refine SO Tryz.func202 rfl rfl [(0,.p (Bb p0)),(1,.fn 203 [rr 0])] [(0,bx [pI p1c0])] ?_
 intro cx hnt
 refine Sq (RD hnt (.no :: []) [] [] [] [] tv ?_)
 refine Sq (Sq (RD hnt (nn 3 []) [] [(7,pI ((p0.length : Nat) : Int)),(8,pI 0)] [] [] tv ?_))
 refine Bk ?_
 obtain ⟨hc1,hm⟩ := go1 hm
 refine DW.rangeO (fun (k1 : Nat) (s1 : Unit) => Aj [(0,.p (Bb p0)),(1,.fn 203 [rr 0]),(7,pI ((p0.length : Nat) : Int)),(8,pI ((k1 : Nat) : Int))] [(0,bx [pI p1c0])]) Bh hm Conv.eqK ?_
 intro k1 s1 n1 hk1 hs1 he1
 refine Sq (RD hnt (.no :: []) [] [(9,pB (decide (((k1 : Nat) : Int) < ((p0.length : Nat) : Int))))] [] [] tv ?_)
 refine Sq (Cj (decide (((k1 : Nat) : Int) < ((p0.length : Nat) : Int))) ?_ ?_)
 ·intro h9
  have hlt1 : k1 < p0.length := by have := of_decide_eq_true h9; omega
  have hm := hs1 hlt1
  unfold Jo at hm
  refine Sk ?_
  refine Sq (Bk ?_)
  refine Sq (RD hnt (nn 2 []) [9] [(5,pI ((k1 : Nat) : Int))] [] [] tv ?_)
  obtain ⟨r10,hr10,hm⟩ := bo hm
  refine Sq (RD hnt (nn 5 (.call 203 [0] true (pB r10) [.box [pI p1c0]] [] [] :: [])) [] [(16,pB r10)] [] [] (an (nn0 k1) (an (ltc hlt1) (an (Aer (p0.getD k1 (default : Ah)) p1c0 r10 hr10) (an tv tv)))) ?_)
  refine Af hm ?_ ?_
  ·intro h11 hm
   refine Sq (RK hnt (nn 2 []) [(4,pI ((k1 : Nat) : Int))] [(0,bx [pI p1c0])] tv ?_)
   obtain rfl := sj hm
   exact DW.ret (Ai [.box [pI p1c0]] [] (pI ((k1 : Nat) : Int)))
  ·intro h11 hm
   refine Sk ?_
   refine DW.done ?_
   show DW _ _ _ _ _
   refine RD hnt (nn 2 []) [5,16] [(8,pI (w64 (((k1 : Nat) : Int) + 1)))] [] [] tv ?_
   exact jD () ⟨hlt1,hm⟩ (Conv.tp [(8,pI (w64 (((k1 : Nat) : Int) + 1)))] [] (by kernel_rfl) (.cons rfl (.of_eq (congrArg pI (Bn hlt1 hc1))) .nil) .nil)
 ·intro h9
  have hge1 : ¬ k1 < p0.length := by have := of_decide_eq_false h9; omega
  have hm := he1 hge1
  unfold Jq at hm
  refine DW.exit ?_
  refine An ?_
  refine Aw ?_
  refine Ak ?_
  show DW _ _ _ _ _
  refine Sq (RK hnt (.no :: []) [(4,pI (-1))] [(0,bx [pI p1c0])] tv ?_)
  obtain rfl := sj hm
  exact DW.ret (Ai [.box [pI p1c0]] [] (pI (-1)))

theorem Vm (p0 : Ae) (p1 : Int) (RES : Int) (hm : Nh p0 p1 = some RES) : Spec Tryz.prog 153 [.p (.agg (Aq p0)),pI p1] [] (pI RES) [] [] := by
 unfold Nh at hm
 refine SO Tryz.func153 rfl rfl [(0,.p (.agg (Aq p0))),(1,pI p1)] [] ?_
 intro cx hnt
 refine Sq (RK hnt (nn 3 []) [(2,rr 1016),(3,rr 1024)] [(1016,bx (pm (Aq p0))),(1024,bx [pI p1])] tv ?_)
 obtain ⟨r1,hr1,hm⟩ := bo hm
 refine Sq (RK hnt (nn 3 (.call 202 [1024] true (pI r1) [.box [pI p1]] [] [] :: .no :: [])) [(4,pI r1)] [] (an (Pe p0.nodes p1 r1 hr1) (an tv tv)) ?_)
 obtain rfl := sj hm
 exact DW.ret (Ai [] [] (pI r1))
abbrev o17 (ks : List Nat) (b : Bool) (RES : Int) (sm : List Nat := []) : Orc := .call 153 ks b (pI RES) [] [] sm

theorem AdM (p0 : Aa) (p1 : At) (RES : Bool) (hm : Qy p0 p1 = some RES) : Spec Tryz.prog 93 [.p (.agg (Ab p0)),.p (.agg (Ay p1))] [] (pB RES) [] [] := by
 unfold Qy at hm
 refine SO Tryz.func93 rfl rfl [(0,.p (.agg (Ab p0))),(1,.p (.agg (Ay p1)))] [] ?_
 intro cx hnt
 refine Sq (RK hnt (nn 3 []) [(2,rr 1016),(3,rr 1024)] [(1016,bx (pm (Ab p0))),(1024,bx (pm (Ay p1)))] tv ?_)
 obtain ⟨r1,hr1,hm⟩ := bo hm
 refine Sq (RD hnt (nn 3 (o13 [] true r1 :: nn 6 [])) [] [(5,rr 1040),(6,pB r1.2)] [] [(1040,bx (pm (Ay r1.1)))] (an (Abk p0 p1.process r1 hr1) tv) ?_)
 refine Sq ?_
 refine Jn (ι := Bool) (fun (y1 : Bool) => Aj [(4,pB y1)] []) (fun y1 => Hk y1 = some RES) ?_ ?_
 ·intro y1 hm
  unfold Hk at hm
  obtain rfl := sj hm
  exact DW.ret (Ai [] [] (pB y1))
 ·rcases bt (decide (p1.user ≥ 0)) with h2 | h2
  ·replace hm := Bd h2 hm
   rcases bt (decide (p1.user ≤ 1048576)) with h3 | h3
   ·replace hm := Bd h3 hm
    rcases bt r1.2 with h4 | h4
    ·replace hm := Bd h4 hm
     rcases bt (r1.1.process == r1.1.id) with h5 | h5
     ·replace hm := Bd h5 hm
      rcases bt (r1.1.user == p1.user) with h6 | h6
      ·replace hm := Bd h6 hm
       obtain ⟨r7,hr7,hm⟩ := bo hm
       refine RK hnt (nn 7 (pT :: nn 2 (pT :: nn 6 (pT :: nn 6 (pT :: nn 5 (o17 [] true r7 :: .no :: pT :: .no :: [])))))) [(4,pB (decide (r7 ≥ 0)))] [] (an4 h2 (an2 h3 (an6 h4 (an6 h5 (an5 h6 (an (Vm p0.tree p1.group r7 hr7) (an2 h6 tv))))))) ?_
       exact jD (decide (r7 ≥ 0)) hm .refl
      ·replace hm := Be h6 hm
       refine RK hnt (nn 7 (pT :: nn 2 (pT :: nn 6 (pT :: nn 6 (pT :: .no :: sk 6 (pF :: .no :: [])))))) [(4,pB false)] [] (an4 h2 (an2 h3 (an6 h4 (an6 h5 (an h6 (an6 h6 tv)))))) ?_
       exact jD false hm .refl
     ·replace hm := Be h5 hm
      refine RK hnt (nn 7 (pT :: nn 2 (pT :: nn 6 (pT :: .no :: sk 5 (pF :: .no :: sk 6 (pF :: .no :: [])))))) [(4,pB false)] [] (an4 h2 (an2 h3 (an6 h4 (an6 h5 (an ff (an6 ff tv)))))) ?_
      exact jD false hm .refl
    ·replace hm := Be h4 hm
     refine RK hnt (nn 7 (pT :: nn 2 (pT :: .no :: sk 5 (pF :: .no :: sk 5 (pF :: .no :: sk 6 (pF :: .no :: [])))))) [(4,pB false)] [] (an4 h2 (an2 h3 (an6 h4 (an ff (an6 ff (an6 ff tv)))))) ?_
     exact jD false hm .refl
   ·replace hm := Be h3 hm
    refine RK hnt (nn 7 (pT :: .no :: .skip :: pF :: .no :: sk 5 (pF :: .no :: sk 5 (pF :: .no :: sk 6 (pF :: .no :: []))))) [(4,pB false)] [] (an4 h2 (an2 h3 (an ff (an6 ff (an6 ff (an6 ff tv)))))) ?_
    exact jD false hm .refl
  ·replace hm := Be h2 hm
   refine RK hnt (nn 4 (sk 3 (pF :: .no :: .skip :: pF :: .no :: sk 5 (pF :: .no :: sk 5 (pF :: .no :: sk 6 (pF :: .no :: [])))))) [(4,pB false)] [] (an4 h2 (an3 ff (an6 ff (an6 ff (an6 ff tv))))) ?_
   exact jD false hm .refl
abbrev o12 (ks : List Nat) (b : Bool) (RES : Bool) (sm : List Nat := []) : Orc := .call 93 ks b (pB RES) [] [] sm

abbrev c6e1 (p0 : Aa) (k1 : Nat) := (p0.tasks.getD k1 (default : At))
theorem Rv (p0 : Aa) (RES : Bool) (hm : Lc p0 = some RES) : Spec Tryz.prog 18 [.p (.agg (Ab p0))] [] (pB RES) [] [] := by
 unfold Lc at hm
 refine SO Tryz.func18 rfl rfl [(0,.p (.agg (Ab p0)))] [] ?_
 intro cx hnt
 refine Sq (RK hnt (nn 2 []) [(1,rr 1008)] [(1008,bx (pm (Ab p0)))] tv ?_)
 refine Sq (Sq ?_)
 refine Jn (ι := Bool) (fun (y1 : Bool) => Aj [(1,rr 1008),(20,pB y1)] [(1008,bx (pm (Ab p0)))]) (fun y1 => (Kn p0) y1 = some RES) ?_ ?_
 ·intro y1 hm
  unfold Kn at hm
  refine Af hm ?_ ?_
  ·intro h4 hm
   refine Sq (RK hnt (.no :: []) [(2,pB false)] [] tv ?_)
   obtain rfl := sj hm
   exact DW.ret (Ai [] [] (pB false))
  ·intro h4 hm
   refine Sk ?_
   refine Sq (RD hnt (.no :: []) [20] [(3,pI 0)] [] [] tv ?_)
   refine Sq (Sq (RD hnt (nn 4 []) [] [(22,.p (Bf p0.tasks)),(23,pI ((p0.tasks.length : Nat) : Int)),(24,pI 0)] [] [] tv ?_))
   refine Bk ?_
   obtain ⟨hc1,hm⟩ := go1 hm
   refine DW.rangeO (fun (k1 : Nat) (s1 : Int) => Aj [(1,rr 1008),(3,pI s1),(22,.p (Bf p0.tasks)),(23,pI ((p0.tasks.length : Nat) : Int)),(24,pI ((k1 : Nat) : Int))] [(1008,bx (pm (Ab p0)))]) Bq hm Conv.eqK ?_
   intro k1 s1 n1 hk1 hs1 he1
   refine Sq (RD hnt (.no :: []) [] [(25,pB (decide (((k1 : Nat) : Int) < ((p0.tasks.length : Nat) : Int))))] [] [] tv ?_)
   refine Sq (Cj (decide (((k1 : Nat) : Int) < ((p0.tasks.length : Nat) : Int))) ?_ ?_)
   ·intro h15
    have hlt1 : k1 < p0.tasks.length := by have := of_decide_eq_true h15; omega
    have hm := hs1 hlt1
    unfold Tr at hm
    refine Sk ?_
    refine Sq (Bk ?_)
    refine Sq (RD hnt (nn 4 []) [25] [(5,rr 1040)] [] [(1040,bx (pm (Ay (c6e1 p0 k1))))] (an (nn0 k1) (an (ltc hlt1) tv)) ?_)
    refine Sq (Sq ?_)
    refine Jn (ι := Bool) (fun (y4 : Bool) => Aj [(1,rr 1008),(5,rr 1040),(22,.p (Bf p0.tasks)),(23,pI ((p0.tasks.length : Nat) : Int)),(24,pI ((k1 : Nat) : Int)),(37,pB y4)] [(1008,bx (pm (Ab p0))),(1040,bx (pm (Ay (c6e1 p0 k1))))]) (fun y4 => (Na (c6e1 p0 k1) n1) y4 = some RES) ?_ ?_
    ·intro y4 hm
     unfold Na at hm
     refine Af hm ?_ ?_
     ·intro h18 hm
      refine Sq (RK hnt (.no :: []) [(2,pB false)] [] tv ?_)
      obtain rfl := sj hm
      exact DW.ret (Ai [] [] (pB false))
     ·intro h18 hm
      refine Sk ?_
      refine RD hnt (nn 3 []) [5,37] [(3,pI (c6e1 p0 k1).id)] [1040] [] tv ?_
      refine DW.done ?_
      show DW _ _ _ _ _
      refine RD hnt (nn 2 []) [] [(24,pI (w64 (((k1 : Nat) : Int) + 1)))] [] [] tv ?_
      exact jD (c6e1 p0 k1).id ⟨hlt1,hm⟩ (Conv.tp [(24,pI (w64 (((k1 : Nat) : Int) + 1)))] [] (by kernel_rfl) (.cons rfl (.of_eq (congrArg pI (Bn hlt1 hc1))) .nil) .nil)
    ·rcases bt (decide ((c6e1 p0 k1).id ≤ s1)) with h16 | h16
     ·replace hm := Bd h16 hm
      refine RD hnt (nn 5 (sk 4 (pT :: []))) [3] [(37,pB true)] [] [] (an5 h16 tv) ?_
      exact jD true hm Conv.eqK
     ·replace hm := Be h16 hm
      obtain ⟨r17,hr17,hm⟩ := bo hm
      refine RD hnt (nn 7 (o12 [] true r17 :: .no :: pF :: [])) [3] [(37,pB (!r17))] [] [] (an3 h16 (an (AdM p0 (c6e1 p0 k1) r17 hr17) (an2 h16 tv))) ?_
      exact jD (!r17) hm Conv.eqK
   ·intro h15
    have hge1 : ¬ k1 < p0.tasks.length := by have := of_decide_eq_false h15; omega
    have hm := he1 hge1
    unfold Aar at hm
    refine DW.exit ?_
    refine An ?_
    refine Aw ?_
    refine Ak ?_
    show DW _ _ _ _ _
    refine Sq (RK hnt (nn 5 []) [(2,pB (decide (p0.next > s1)))] [] tv ?_)
    obtain rfl := sj hm
    exact DW.ret (Ai [] [] (pB (decide (p0.next > s1))))
 ·rcases bt (decide (((p0.tasks.length : Nat) : Int) > 128)) with h1 | h1
  ·replace hm := Bd h1 hm
   refine RD hnt (nn 5 (sk 3 (pT :: .no :: sk 4 (pT :: [])))) [] [(20,pB true)] [] [] (an4 h1 (an5 tt tv)) ?_
   exact jD true hm Conv.eqK
  ·replace hm := Be h1 hm
   rcases bt (decide (p0.next > 2147483648)) with h2 | h2
   ·replace hm := Bd h2 hm
    refine RD hnt (nn 8 (pF :: .no :: sk 4 (pT :: []))) [] [(20,pB true)] [] [] (an4 h1 (an5 h2 tv)) ?_
    exact jD true hm Conv.eqK
   ·replace hm := Be h2 hm
    obtain ⟨r3,hr3,hm⟩ := bo hm
    refine RD hnt (nn 8 (pF :: nn 3 (o7 [] true r3 :: .no :: pF :: []))) [] [(20,pB (!r3))] [] [] (an4 h1 (an3 h2 (an (Tw p0.tree r3 hr3) (an2 h2 tv)))) ?_
    exact jD (!r3) hm Conv.eqK
abbrev o6 (ks : List Nat) (b : Bool) (RES : Bool) (sm : List Nat := []) : Orc := .call 18 ks b (pB RES) [] [] sm

abbrev c5e1 (p0 : Aa) (k1 : Nat) := ({ group := (p0.tree.nodes.getD k1 (default : Ah)).id,want := false,frozen := false,changes := 0 } : Ap)
abbrev c5e2 : Nat × Obj := (1016,bx [.p (.sl .nil 0 0 (fun _ => [])),.p (.sl .nil 0 0 (fun _ => []))])
abbrev c5e3 (p0 : Aa) (k1 : Nat) := (p0.tree.nodes.getD k1 (default : Ah))
theorem Tz (p0 : Aa) (RES : Ac) (hm : Np p0 = some RES) : Spec Tryz.prog 51 [.p (.agg (Ab p0))] [] (.agg [ow 0 RES.frosts.length,ow 1 RES.stopped.length]) [] [As RES.frosts,roI RES.stopped] := by
 unfold Np at hm
 refine SO Tryz.func51 rfl rfl [(0,.p (.agg (Ab p0)))] [] ?_
 intro cx hnt
 refine Sq (RK hnt (nn 2 []) [(1,rr 1008),(2,rr 1016)] [(1008,bx (pm (Ab p0))),(c5e2)] tv ?_)
 obtain ⟨r1,hr1,hm⟩ := bo hm
 refine Sq (Sq (RD hnt (.no :: o6 [] true r1 :: .no :: []) [] [(8,pB (!r1))] [] [] (an (Rv p0 r1 hr1) tv) ?_))
 refine Af hm ?_ ?_
 ·intro h2 hm
  refine Sq (RD hnt (nn 2 []) [1,8] [] [1008] [] tv ?_)
  refine DW.cv [] [] [] [(1016,bx [ow 100000 0,ow 100001 0]),(100000,ob0 (As [])),(100001,ob0 (roI []))] (Conv.ads [(.o 1016 0,100000,4,elems Ch Bz []),(.o 1016 1,100001,1,elems Bo 0 [])]) ?_
  obtain rfl := sj hm
  exact DW.ret (Ai [As [],roI []] [100000,100001] (.agg [ow 0 0,ow 1 0]))
 ·intro h2 hm
  refine Sk ?_
  refine Sq (RD hnt (.no :: []) [8] [(3,rr 1024)] [] [(1024,bx [.p (.sl .nil 0 0 (fun _ => [])),.p (.sl .nil 0 0 (fun _ => []))])] tv ?_)
  refine Sq (Sq (RD hnt (nn 5 []) [1] [(12,.p (Bb p0.tree.nodes)),(13,pI ((p0.tree.nodes.length : Nat) : Int)),(14,pI 0)] [1008] [] tv ?_))
  refine Bk ?_
  obtain ⟨hc1,hm⟩ := go1 hm
  refine DW.rangeO (fun (k1 : Nat) (s1 : List Ap) => Aj [(2,rr 1016),(3,rr 1024),(12,.p (Bb p0.tree.nodes)),(13,pI ((p0.tree.nodes.length : Nat) : Int)),(14,pI ((k1 : Nat) : Int))] [(c5e2),(1024,bx [ow 1192 s1.length,.p (.sl .nil 0 0 (fun _ => []))]),(1192,ob0 (As s1))]) Bh hm (Conv.ads [(.o 1024 0,1192,4,elems Ch Bz [])]) ?_
  intro k1 s1 n1 hk1 hs1 he1
  refine Sq (RD hnt (.no :: []) [] [(15,pB (decide (((k1 : Nat) : Int) < ((p0.tree.nodes.length : Nat) : Int))))] [] [] tv ?_)
  refine Sq (Cj (decide (((k1 : Nat) : Int) < ((p0.tree.nodes.length : Nat) : Int))) ?_ ?_)
  ·intro h8
   have hlt1 : k1 < p0.tree.nodes.length := by have := of_decide_eq_true h8; omega
   have hm := hs1 hlt1
   unfold Yg at hm
   refine Sk ?_
   refine Sq (Bk ?_)
   refine Sq (RD hnt (nn 4 []) [15] [(5,rr 1040)] [] [(1040,bx (pm (Am (c5e3 p0 k1))))] (an (nn0 k1) (an (ltc hlt1) tv)) ?_)
   obtain ⟨g9,hm⟩ := go1 hm
   refine RN hnt (nn 9 []) [(2,rr 1016),(3,rr 1024),(12,.p (Bb p0.tree.nodes)),(13,pI ((p0.tree.nodes.length : Nat) : Int)),(14,pI ((k1 : Nat) : Int))] [(c5e2),(1024,bx [ow 1192 (s1 ++ [(c5e1 p0 k1)]).length,.p (.sl .nil 0 0 (fun _ => []))]),(1192,ob0 (As (s1 ++ [(c5e1 p0 k1)])))] [] [(1024,.box [ow 1192 (s1.length + 1),.p (.sl .nil 0 0 (fun _ => []))]),(1192,.row 4 (s1.length + 1) (Dq s1.length (Wr s1) (cut 4 [vi (c5e3 p0 k1).id,vb false,vb false,vi 0])))] (an (by omega : (s1.length + 1) * 24 ≤ 140737488355328) tv) (by kernel_rfl) .nil (.cons rfl (.box (.cons (MLe.ownLen (enc := Ch) (d := Bz) (f := (Dq s1.length (Wr s1) (cut 4 [vi (c5e3 p0 k1).id,vb false,vb false,vi 0]))) (RowIs.cat RowIs.elems (RowIs.lit (enc := Ch) (d := Bz) (n := 1) (f := (cut 4 [vi (c5e3 p0 k1).id,vb false,vb false,vi 0])) [(c5e1 p0 k1)] rfl (fun | 0,_ => rfl | n + 1,h => absurd h (by omega))))) (.cons .rfl .nil))) (.cons rfl (BLe.typed (RowIs.cat RowIs.elems (RowIs.lit (enc := Ch) (d := Bz) (n := 1) (f := (cut 4 [vi (c5e3 p0 k1).id,vb false,vb false,vi 0])) [(c5e1 p0 k1)] rfl (fun | 0,_ => rfl | n + 1,h => absurd h (by omega))))) .nil)) ?_
   refine DW.done ?_
   show DW _ _ _ _ _
   refine RD hnt (nn 2 []) [] [(14,pI (w64 (((k1 : Nat) : Int) + 1)))] [] [] tv ?_
   exact jD (s1 ++ [(c5e1 p0 k1)]) ⟨hlt1,hm⟩ (Conv.tp [(14,pI (w64 (((k1 : Nat) : Int) + 1)))] [] (by kernel_rfl) (.cons rfl (.of_eq (congrArg pI (Bn hlt1 hc1))) .nil) .nil)
  ·intro h8
   have hge1 : ¬ k1 < p0.tree.nodes.length := by have := of_decide_eq_false h8; omega
   have hm := he1 hge1
   unfold Xf at hm
   refine DW.exit ?_
   refine An ?_
   refine Aw ?_
   refine Ak ?_
   show DW _ _ _ _ _
   refine Sq (RD hnt (nn 2 []) [3,12,13,14,15] [] [1024] [(1016,bx [ow 1192 s1.length,.p (.sl .nil 0 0 (fun _ => []))])] tv ?_)
   refine DW.cv [] [] [] [(1016,bx [ow 1192 s1.length,ow 100000 0]),(100000,ob0 (roI []))] (Conv.ads [(.o 1016 1,100000,1,elems Bo 0 [])]) ?_
   obtain rfl := sj hm
   exact DW.ret (Ai [As s1,roI []] [1192,100000] (.agg [ow 0 s1.length,ow 1 0]))
abbrev o5 (ks : List Nat) (b : Bool) (RES : Ac) (sm : List Nat := []) : Orc := .call 51 ks b (.agg [ow 0 RES.frosts.length,ow 1 RES.stopped.length]) [] [As RES.frosts,roI RES.stopped] sm

theorem AdQ (p0 : Ae) (p1 : Int) (RES : Ah × Bool) (hm : Qw p0 p1 = some RES) : Spec Tryz.prog 195 [.p (.agg (Aq p0)),pI p1] [] (.p (.tup [.agg (Am RES.1),vb RES.2])) [] [] := by
 unfold Qw at hm
 refine SO Tryz.func195 rfl rfl [(0,.p (.agg (Aq p0))),(1,pI p1)] [] ?_
 intro cx hnt
 refine Sq (RK hnt (nn 3 []) [(1,pI p1),(2,rr 1016),(4,rr 1032)] [(1016,bx (pm (Aq p0))),(1032,bx [pI 0,pI 0,pS ByteArray.empty,pI 0,pI 0,pI 0])] tv ?_)
 obtain ⟨r1,hr1,hm⟩ := bo hm
 refine Sq (RD hnt (nn 2 (o17 [] true r1 :: .no :: [])) [1] [(6,pI r1)] [] [] (an (Vm p0 p1 r1 hr1) tv) ?_)
 refine Sq (Sq (RD hnt (nn 2 []) [] [(11,pB (decide (r1 < 0)))] [] [] tv ?_))
 refine Af hm ?_ ?_
 ·intro h2 hm
  refine Sq (RD hnt (nn 3 []) [2,6,11] [(5,pB false)] [1016] [] tv ?_)
  obtain rfl := sj hm
  exact DW.ret (Ai [] [] (.p (.tup [.agg [vi 0,vi 0,vs ByteArray.empty,vi 0,vi 0,vi 0],vb false])))
 ·intro h2 hm
  refine Sk ?_
  obtain ⟨g3,hm⟩ := go1 hm
  refine Sq (RK hnt (nn 7 []) [(4,rr 1032),(5,pB true)] [(1032,bx (pm (Am (p0.nodes.getD (Int.toNat r1) Bh))))] (an g3.1 (an g3.2 tv)) ?_)
  obtain rfl := sj hm
  exact DW.ret (Ai [] [] (.p (.tup [.agg (Am (p0.nodes.getD (Int.toNat r1) Bh)),vb true])))
abbrev o25 (ks : List Nat) (b : Bool) (RES : Ah × Bool) (sm : List Nat := []) : Orc := .call 195 ks b (.p (.tup [.agg (Am RES.1),vb RES.2])) [] [] sm

theorem AaZ (p0 : Ae) (p1 : Int) (RES : List Int) (hm : Kz p0 p1 = some RES) : Spec Tryz.prog 147 [.p (.agg (Aq p0)),pI p1] [] (ow 0 RES.length) [] [roI RES] := by
 unfold Kz at hm
 refine SO Tryz.func147 rfl rfl [(0,.p (.agg (Aq p0))),(1,pI p1)] [] ?_
 intro cx hnt
 refine Sq (RK hnt (nn 2 []) [(1,pI p1),(2,rr 1016)] [(1016,bx (pm (Aq p0)))] tv ?_)
 refine Sq (RD hnt (.no :: []) [] [(5,.p (.sl .nil 0 0 (fun _ => [])))] [] [] tv ?_)
 refine Sq (Sq (RD hnt (nn 4 []) [] [(10,pI ((p0.nodes.length : Nat) : Int)),(11,pI 0)] [] [] tv ?_))
 refine Jn (ι := List Int) (fun (y1 : List Int) => Aj [(5,ow 1192 y1.length)] [(1192,ob0 (roI y1))]) (fun y1 => Jl y1 = some RES) ?_ ?_
 ·intro y1 hm
  unfold Jl at hm
  refine Sq (RD hnt (nn 2 []) [5] [(4,ow 1192 y1.length)] [] [] tv ?_)
  obtain rfl := sj hm
  exact DW.ret (Ai [roI y1] [1192] (ow 0 y1.length))
 ·refine Bk ?_
  obtain ⟨hc1,hm⟩ := go1 hm
  refine DW.rangeO (fun (k1 : Nat) (s1 : (List Int) × Int) => Aj [(1,pI s1.2),(2,rr 1016),(5,ow 1192 s1.1.length),(10,pI ((p0.nodes.length : Nat) : Int)),(11,pI ((k1 : Nat) : Int))] [(1016,bx (pm (Aq p0))),(1192,ob0 (roI s1.1))]) Bh hm (Conv.ads [(.s 5,1192,1,elems Bo 0 [])]) ?_
  intro k1 s1 n1 hk1 hs1 he1
  refine Sq (RD hnt (.no :: []) [] [(12,pB (decide (((k1 : Nat) : Int) < ((p0.nodes.length : Nat) : Int))))] [] [] tv ?_)
  refine Sq (Cj (decide (((k1 : Nat) : Int) < ((p0.nodes.length : Nat) : Int))) ?_ ?_)
  ·intro h8
   have hlt1 : k1 < p0.nodes.length := by have := of_decide_eq_true h8; omega
   have hm := hs1 hlt1
   unfold Pr at hm
   refine Sk ?_
   refine Sq (Bk ?_)
   obtain ⟨r9,hr9,hm⟩ := bo hm
   refine Sq (RD hnt (nn 2 (o25 [] true r9 :: nn 6 [])) [12] [(6,rr 1048),(7,pB r9.2)] [] [(1048,bx (pm (Am r9.1)))] (an (AdQ p0 s1.2 r9 hr9) tv) ?_)
   refine Sq (Sq (RD hnt (nn 2 []) [7] [(20,pB (!r9.2))] [] [] tv ?_))
   refine Af hm ?_ ?_
   ·intro h10 hm
    refine DW.exit ?_
    refine Ml (by decide) ?_
    refine Aw ?_
    refine An ?_
    refine Aw ?_
    exact Ak (joinKQ s1.1 hm Conv.t0)
   ·intro h10 hm
    refine Sk ?_
    obtain ⟨g11,hm⟩ := go1 hm
    refine Sq (RN hnt (nn 5 []) [(2,rr 1016),(5,ow 1192 (s1.1 ++ [s1.2]).length),(6,rr 1048),(10,pI ((p0.nodes.length : Nat) : Int)),(11,pI ((k1 : Nat) : Int))] [(1016,bx (pm (Aq p0))),(1048,bx (pm (Am r9.1))),(1192,ob0 (roI (s1.1 ++ [s1.2])))] [(5,ow 1192 (s1.1.length + 1))] [(1192,.row 1 (s1.1.length + 1) (Dq s1.1.length (elI s1.1) (cut 1 [vi s1.2])))] (an (by omega : (s1.1.length + 1) * 8 ≤ 140737488355328) tv) (by kernel_rfl) (.cons rfl (MLe.ownLen (enc := Bo) (d := 0) (f := (Dq s1.1.length (elI s1.1) (cut 1 [vi s1.2]))) (RowIs.cat RowIs.elems (RowIs.lit (enc := Bo) (d := 0) (n := 1) (f := (cut 1 [vi s1.2])) [s1.2] rfl (fun | 0,_ => rfl | n + 1,h => absurd h (by omega))))) .nil) (.cons rfl (BLe.typed (RowIs.cat RowIs.elems (RowIs.lit (enc := Bo) (d := 0) (n := 1) (f := (cut 1 [vi s1.2])) [s1.2] rfl (fun | 0,_ => rfl | n + 1,h => absurd h (by omega))))) .nil) ?_)
    refine RD hnt (nn 3 []) [6] [(1,pI r9.1.parent)] [1048] [] tv ?_
    refine DW.done ?_
    show DW _ _ _ _ _
    refine RD hnt (nn 2 []) [] [(11,pI (w64 (((k1 : Nat) : Int) + 1)))] [] [] tv ?_
    exact jD ((s1.1 ++ [s1.2]),r9.1.parent) ⟨hlt1,hm⟩ (Conv.tp [(11,pI (w64 (((k1 : Nat) : Int) + 1)))] [] (by kernel_rfl) (.cons rfl (.of_eq (congrArg pI (Bn hlt1 hc1))) .nil) .nil)
  ·intro h8
   have hge1 : ¬ k1 < p0.nodes.length := by have := of_decide_eq_false h8; omega
   have hm := he1 hge1
   unfold Uz at hm
   refine DW.exit ?_
   refine An ?_
   refine Aw ?_
   exact Ak (joinKQ s1.1 hm Conv.t0)
abbrev o24 (ks : List Nat) (b : Bool) (RES : List Int) (sm : List Nat := []) : Orc := .call 147 ks b (ow 0 RES.length) [] [roI RES] sm

theorem Au (p0 : Ac) (p1 : Int) (RES : Ap) (hm : Fo p0 p1 = some RES) : Spec Tryz.prog 55 [.p (.agg (Az p0)),pI p1] [] (.p (.agg (Ch RES))) [] [] := by
 unfold Fo at hm
 refine SO Tryz.func55 rfl rfl [(0,.p (.agg (Az p0))),(1,pI p1)] [] ?_
 intro cx hnt
 refine Sq (RK hnt (nn 2 []) [(1,pI p1),(2,rr 1016),(4,rr 1032)] [(1016,bx (pm (Az p0))),(1032,bx [pI 0,pB false,pB false,pI 0])] tv ?_)
 refine Sq (Sq (RD hnt (nn 4 []) [2] [(8,.p (Gs p0.frosts)),(9,pI ((p0.frosts.length : Nat) : Int)),(10,pI 0)] [1016] [] tv ?_))
 refine Bk ?_
 obtain ⟨hc1,hm⟩ := go1 hm
 refine DW.rangeO (fun (k1 : Nat) (s1 : Unit) => Aj [(1,pI p1),(4,rr 1032),(8,.p (Gs p0.frosts)),(9,pI ((p0.frosts.length : Nat) : Int)),(10,pI ((k1 : Nat) : Int))] [(1032,bx [pI 0,pB false,pB false,pI 0])]) Bz hm Conv.eqK ?_
 intro k1 s1 n1 hk1 hs1 he1
 refine Sq (RD hnt (.no :: []) [] [(11,pB (decide (((k1 : Nat) : Int) < ((p0.frosts.length : Nat) : Int))))] [] [] tv ?_)
 refine Sq (Cj (decide (((k1 : Nat) : Int) < ((p0.frosts.length : Nat) : Int))) ?_ ?_)
 ·intro h7
  have hlt1 : k1 < p0.frosts.length := by have := of_decide_eq_true h7; omega
  have hm := hs1 hlt1
  unfold AbK at hm
  refine Sk ?_
  refine Sq (Bk ?_)
  refine Sq (RD hnt (nn 4 []) [11] [(6,rr 1048)] [] [(1048,bx (pm (Ch (p0.frosts.getD k1 (default : Ap)))))] (an (nn0 k1) (an (ltc hlt1) tv)) ?_)
  refine Sq (RD hnt (nn 4 []) [] [(17,pB ((p0.frosts.getD k1 (default : Ap)).group == p1))] [] [] tv ?_)
  refine Af hm ?_ ?_
  ·intro h8 hm
   refine Sq (RK hnt (nn 2 []) [(4,rr 1032)] [(1032,bx (pm (Ch (p0.frosts.getD k1 (default : Ap)))))] tv ?_)
   obtain rfl := sj hm
   exact DW.ret (Ai [] [] (.p (.agg (Ch (p0.frosts.getD k1 (default : Ap))))))
  ·intro h8 hm
   refine Sk ?_
   refine DW.done ?_
   show DW _ _ _ _ _
   refine RD hnt (nn 2 []) [6,17] [(10,pI (w64 (((k1 : Nat) : Int) + 1)))] [1048] [] tv ?_
   exact jD () ⟨hlt1,hm⟩ (Conv.tp [(10,pI (w64 (((k1 : Nat) : Int) + 1)))] [] (by kernel_rfl) (.cons rfl (.of_eq (congrArg pI (Bn hlt1 hc1))) .nil) .nil)
 ·intro h7
  have hge1 : ¬ k1 < p0.frosts.length := by have := of_decide_eq_false h7; omega
  have hm := he1 hge1
  unfold Ack at hm
  refine DW.exit ?_
  refine An ?_
  refine Aw ?_
  refine Ak ?_
  show DW _ _ _ _ _
  refine Sq (RK hnt (nn 3 []) [(4,rr 1032)] [(1032,bx [pI p1,pB false,pB false,pI 0])] tv ?_)
  obtain rfl := sj hm
  exact DW.ret (Ai [] [] (.p (.agg [vi p1,vb false,vb false,vi 0])))
abbrev o26 (ks : List Nat) (b : Bool) (RES : Ap) (sm : List Nat := []) : Orc := .call 55 ks b (.p (.agg (Ch RES))) [] [] sm

theorem Ik (p0 : Ae) (p1 : Ac) (p2 : Int) (RES : Bool) (hm : Jj p0 p1 p2 = some RES) : Spec Tryz.prog 126 [.p (.agg (Aq p0)),.p (.agg (Az p1)),pI p2] [] (pB RES) [] [] := by
 unfold Jj at hm
 refine SO Tryz.func126 rfl rfl [(0,.p (.agg (Aq p0))),(1,.p (.agg (Az p1))),(2,pI p2)] [] ?_
 intro cx hnt
 refine Sq (RK hnt (nn 3 []) [(2,pI p2),(3,rr 1024),(4,rr 1032)] [(1024,bx (pm (Aq p0))),(1032,bx (pm (Az p1)))] tv ?_)
 obtain ⟨r1,hr1,hm⟩ := bo hm
 refine Sq (Sq (RD hnt (nn 2 (o24 [] true r1 :: nn 2 [])) [2,3] [(11,ow 1088 r1.length),(12,pI ((r1.length : Nat) : Int)),(13,pI 0)] [1024] [(1088,ob0 (roI r1))] (an (AaZ p0 p2 r1 hr1) tv) ?_))
 refine Bk ?_
 obtain ⟨hc1,hm⟩ := go1 hm
 refine DW.rangeO (fun (k1 : Nat) (s1 : Unit) => Aj [(4,rr 1032),(11,ow 1088 r1.length),(12,pI ((r1.length : Nat) : Int)),(13,pI ((k1 : Nat) : Int))] [(1032,bx (pm (Az p1))),(1088,ob0 (roI r1))]) 0 hm Conv.eqK ?_
 intro k1 s1 n1 hk1 hs1 he1
 refine Sq (RD hnt (.no :: []) [] [(14,pB (decide (((k1 : Nat) : Int) < ((r1.length : Nat) : Int))))] [] [] tv ?_)
 refine Sq (Cj (decide (((k1 : Nat) : Int) < ((r1.length : Nat) : Int))) ?_ ?_)
 ·intro h12
  have hlt1 : k1 < r1.length := by have := of_decide_eq_true h12; omega
  have hm := hs1 hlt1
  unfold Ud at hm
  refine Sk ?_
  refine Sq (Bk ?_)
  refine Sq (RD hnt (nn 3 []) [14] [(8,pI (r1.getD k1 0))] [] [] (an (nn0 k1) (an (ltc hlt1) (an (by omega : k1 < r1.length) tv))) ?_)
  obtain ⟨r13,hr13,hm⟩ := bo hm
  refine Sq (RD hnt (nn 2 (o26 [] true r13 :: .no :: [])) [8] [(20,pB r13.want)] [] [] (an (Au p1 (r1.getD k1 0) r13 hr13) tv) ?_)
  refine Af hm ?_ ?_
  ·intro h14 hm
   refine Sq (RK hnt (.no :: []) [(6,pB true)] [] tv ?_)
   obtain rfl := sj hm
   exact DW.ret (Ai [] [] (pB true))
  ·intro h14 hm
   refine Sk ?_
   refine DW.done ?_
   show DW _ _ _ _ _
   refine RD hnt (nn 2 []) [20] [(13,pI (w64 (((k1 : Nat) : Int) + 1)))] [] [] tv ?_
   exact jD () ⟨hlt1,hm⟩ (Conv.tp [(13,pI (w64 (((k1 : Nat) : Int) + 1)))] [] (by kernel_rfl) (.cons rfl (.of_eq (congrArg pI (Bn hlt1 hc1))) .nil) .nil)
 ·intro h12
  have hge1 : ¬ k1 < r1.length := by have := of_decide_eq_false h12; omega
  have hm := he1 hge1
  unfold Aav at hm
  refine DW.exit ?_
  refine An ?_
  refine Aw ?_
  refine Ak ?_
  show DW _ _ _ _ _
  refine Sq (RK hnt (.no :: []) [(6,pB false)] [] tv ?_)
  obtain rfl := sj hm
  exact DW.ret (Ai [] [] (pB false))
abbrev o23 (ks : List Nat) (b : Bool) (RES : Bool) (sm : List Nat := []) : Orc := .call 126 ks b (pB RES) [] [] sm

theorem Qq (p0 : Aa) (p1 : Ac) (p2 : Int) (RES : Bool) (hm : Hg p0 p1 p2 = some RES) : Spec Tryz.prog 140 [.p (.agg (Ab p0)),.p (.agg (Az p1)),pI p2] [] (pB RES) [] [] := by
 unfold Hg at hm
 refine SO Tryz.func140 rfl rfl [(0,.p (.agg (Ab p0))),(1,.p (.agg (Az p1))),(2,pI p2)] [] ?_
 intro cx hnt
 refine Sq (RK hnt (nn 3 []) [(2,pI p2),(3,rr 1024),(4,rr 1032)] [(1024,bx (pm (Ab p0))),(1032,bx (pm (Az p1)))] tv ?_)
 obtain ⟨r1,hr1,hm⟩ := bo hm
 refine Sq (RD hnt (nn 2 (o13 [] true r1 :: nn 6 [])) [2] [(7,rr 1056),(8,pB r1.2)] [] [(1056,bx (pm (Ay r1.1)))] (an (Abk p0 p2 r1 hr1) tv) ?_)
 refine Sq ?_
 refine Jn (ι := Bool) (fun (y1 : Bool) => Aj [(6,pB y1)] []) (fun y1 => Oy y1 = some RES) ?_ ?_
 ·intro y1 hm
  unfold Oy at hm
  obtain rfl := sj hm
  exact DW.ret (Ai [] [] (pB y1))
 ·rcases bt r1.2 with h2 | h2
  ·replace hm := Bd h2 hm
   obtain ⟨r3,hr3,hm⟩ := bo hm
   refine RK hnt (nn 7 (o23 [] true r3 :: pT :: .no :: [])) [(6,pB r3)] [] (an6 h2 (an (Ik p0.tree p1 r1.1.group r3 hr3) (an h2 tv))) ?_
   exact jD r3 hm .refl
  ·replace hm := Be h2 hm
   refine RK hnt (nn 2 (sk 6 (pF :: .no :: []))) [(6,pB false)] [] (an h2 (an6 h2 tv)) ?_
   exact jD false hm .refl
abbrev o22 (ks : List Nat) (b : Bool) (RES : Bool) (sm : List Nat := []) : Orc := .call 140 ks b (pB RES) [] [] sm

abbrev Te (p0 : Ae) (k1 : Nat) := (p0.nodes.getD k1 (default : Ah))
abbrev c29e2 (p0 : Ae) : Nat × MV := (10,pI ((p0.nodes.length : Nat) : Int))
theorem Abz (p0 : Ae) (p1 : Int) (RES : List Int) (hm : Lv p0 p1 = some RES) : Spec Tryz.prog 211 [.p (.agg (Aq p0)),pI p1] [] (ow 0 RES.length) [] [roI RES] := by
 unfold Lv at hm
 refine SO Tryz.func211 rfl rfl [(0,.p (.agg (Aq p0))),(1,pI p1)] [] ?_
 intro cx hnt
 refine Sq (RK hnt (nn 2 []) [(1,pI p1),(2,rr 1016)] [(1016,bx (pm (Aq p0)))] tv ?_)
 refine Sq (RD hnt (.no :: []) [] [(5,.p (.sl .nil 0 0 (fun _ => [])))] [] [] tv ?_)
 refine Sq (Sq (RD hnt (nn 4 []) [2] [(9,.p (Bb p0.nodes)),(c29e2 p0),(11,pI 0)] [1016] [] tv ?_))
 refine Bk ?_
 obtain ⟨hc1,hm⟩ := go1 hm
 refine DW.rangeO (fun (k1 : Nat) (s1 : List Int) => Aj [(1,pI p1),(5,ow 1184 s1.length),(9,.p (Bb p0.nodes)),(c29e2 p0),(11,pI ((k1 : Nat) : Int))] [(1184,ob0 (roI s1))]) Bh hm (Conv.ads [(.s 5,1184,1,elems Bo 0 [])]) ?_
 intro k1 s1 n1 hk1 hs1 he1
 refine Sq (RD hnt (.no :: []) [] [(12,pB (decide (((k1 : Nat) : Int) < ((p0.nodes.length : Nat) : Int))))] [] [] tv ?_)
 refine Sq (Cj (decide (((k1 : Nat) : Int) < ((p0.nodes.length : Nat) : Int))) ?_ ?_)
 ·intro h8
  have hlt1 : k1 < p0.nodes.length := by have := of_decide_eq_true h8; omega
  have hm := hs1 hlt1
  unfold Qn at hm
  refine Sk ?_
  refine Sq ?_
  refine Jn (ι := List Int) (fun (y3 : List Int) => Aj [(1,pI p1),(5,ow 1184 y3.length),(9,.p (Bb p0.nodes)),(c29e2 p0),(11,pI ((k1 : Nat) : Int))] [(1184,ob0 (roI y3))]) (fun y3 => (Jz n1) y3 = some RES) ?_ ?_
  ·intro y3 hm
   unfold Jz at hm
   refine RD hnt (nn 2 []) [] [(11,pI (w64 (((k1 : Nat) : Int) + 1)))] [] [] tv ?_
   exact jD y3 ⟨hlt1,hm⟩ (Conv.tp [(11,pI (w64 (((k1 : Nat) : Int) + 1)))] [] (by kernel_rfl) (.cons rfl (.of_eq (congrArg pI (Bn hlt1 hc1))) .nil) .nil)
  ·refine Bk ?_
   refine Sq (RD hnt (nn 4 []) [12] [(7,rr 1056)] [] [(1056,bx (pm (Am (Te p0 k1))))] (an (nn0 k1) (an (ltc hlt1) tv)) ?_)
   refine Sq (RD hnt (nn 4 []) [] [(18,pB ((Te p0 k1).parent == p1))] [] [] tv ?_)
   refine Af hm ?_ ?_
   ·intro h9 hm
    obtain ⟨g10,hm⟩ := go1 hm
    refine RN hnt (nn 6 []) [(1,pI p1),(5,ow 1184 (s1 ++ [(Te p0 k1).id]).length),(9,.p (Bb p0.nodes)),(c29e2 p0),(11,pI ((k1 : Nat) : Int))] [(1184,ob0 (roI (s1 ++ [(Te p0 k1).id])))] [(5,ow 1184 (s1.length + 1))] [(1184,.row 1 (s1.length + 1) (Dq s1.length (elI s1) (cut 1 [vi (Te p0 k1).id])))] (an (by omega : (s1.length + 1) * 8 ≤ 140737488355328) tv) (by kernel_rfl) (.cons rfl (MLe.ownLen (enc := Bo) (d := 0) (f := (Dq s1.length (elI s1) (cut 1 [vi (Te p0 k1).id]))) (RowIs.cat RowIs.elems (RowIs.lit (enc := Bo) (d := 0) (n := 1) (f := (cut 1 [vi (Te p0 k1).id])) [(Te p0 k1).id] rfl (fun | 0,_ => rfl | n + 1,h => absurd h (by omega))))) .nil) (.cons rfl (BLe.typed (RowIs.cat RowIs.elems (RowIs.lit (enc := Bo) (d := 0) (n := 1) (f := (cut 1 [vi (Te p0 k1).id])) [(Te p0 k1).id] rfl (fun | 0,_ => rfl | n + 1,h => absurd h (by omega))))) .nil) ?_
    exact bD (s1 ++ [(Te p0 k1).id]) hm .refl
   ·intro h9 hm
    refine Sk ?_
    exact bD s1 hm Conv.t0
 ·intro h8
  have hge1 : ¬ k1 < p0.nodes.length := by have := of_decide_eq_false h8; omega
  have hm := he1 hge1
  unfold Vw at hm
  refine DW.exit ?_
  refine An ?_
  refine Aw ?_
  refine Ak ?_
  show DW _ _ _ _ _
  refine Sq (RK hnt (nn 2 []) [(4,ow 1184 s1.length)] [(1184,ob0 (roI s1))] tv ?_)
  obtain rfl := sj hm
  exact DW.ret (Ai [roI s1] [1184] (ow 0 s1.length))
abbrev o29 (ks : List Nat) (b : Bool) (RES : List Int) (sm : List Nat := []) : Orc := .call 211 ks b (ow 0 RES.length) [] [roI RES] sm

abbrev AaX (p0 : Ae) : Nat × Obj := (1016,bx (pm (Aq p0)))
abbrev c28e2 : Nat × MV := (5,.p (.sl .nil 0 0 (fun _ => [])))
theorem Acn (p0 : Ae) (p1 : Int) (RES : List Int) (hm : Nb p0 p1 = some RES) : Spec Tryz.prog 173 [.p (.agg (Aq p0)),pI p1] [] (ow 0 RES.length) [] [roI RES] := by
 unfold Nb at hm
 refine SO Tryz.func173 rfl rfl [(0,.p (.agg (Aq p0))),(1,pI p1)] [] ?_
 intro cx hnt
 refine Sq (RK hnt (nn 2 []) [(1,pI p1),(2,rr 1016)] [(AaX p0)] tv ?_)
 obtain ⟨r1,hr1,hm⟩ := bo hm
 refine Sq (Sq (RD hnt (nn 2 (o17 [] true r1 :: .no :: [])) [] [(10,pB (decide (r1 < 0)))] [] [] (an (Vm p0 p1 r1 hr1) tv) ?_))
 refine Af hm ?_ ?_
 ·intro h2 hm
  refine Sq (RK hnt (.no :: []) [(4,.p (.sl .nil 0 0 (fun _ => [])))] [] tv ?_)
  refine DW.cv [] [(4,ow 100000 0)] [] [(100000,ob0 (roI []))] (Conv.ads [(.s 4,100000,1,elems Bo 0 [])]) ?_
  obtain rfl := sj hm
  exact DW.ret (Ai [roI []] [100000] (ow 0 0))
 ·intro h2 hm
  refine Sk ?_
  refine Sq (RD hnt (.no :: []) [10] [(c28e2)] [] [] tv ?_)
  refine Sq (Sq (RN hnt (nn 3 []) [(2,rr 1016),(c28e2),(6,ow 1096 [p1].length)] [(AaX p0),(1096,ob0 (roI [p1]))] [(6,ow 1096 1)] [(1096,.row 1 1 (cut 1 [vi p1]))] tv (by kernel_rfl) (.cons rfl (MLe.ownLen (enc := Bo) (d := 0) (f := (cut 1 [vi p1])) (RowIs.lit (enc := Bo) (d := 0) (n := 1) (f := (cut 1 [vi p1])) [p1] rfl (fun | 0,_ => rfl | n + 1,h => absurd h (by omega)))) .nil) (.cons rfl (BLe.typed (RowIs.lit (enc := Bo) (d := 0) (n := 1) (f := (cut 1 [vi p1])) [p1] rfl (fun | 0,_ => rfl | n + 1,h => absurd h (by omega)))) .nil) ?_))
  refine Bk ?_
  refine DW.whileO (fun (s1 : (List Int) × (List Int)) => Aj [(2,rr 1016),(5,ow 1232 s1.1.length),(6,.p (slI s1.2))] [(AaX p0),(1232,ob0 (roI s1.1))]) hm (Conv.trans (τ := Aj [(2,rr 1016),(c28e2),(6,.p (slI [p1]))] [(AaX p0)]) (Conv.frz [1096]) (Conv.ads [(.s 5,1232,1,elems Bo 0 [])])) ?_
  intro s1 n1 hm
  unfold Rx at hm
  refine Sq (Sq (DW.regJ (sl2 := [(2,rr 1016),(5,ow 1232 s1.1.length),(6,.p (slI s1.2)),(23,pB ((decide (((s1.2.length : Nat) : Int) > 0)) && (decide (((s1.1.length : Nat) : Int) < ((p0.nodes.length : Nat) : Int)))))]) (ob2 := [(AaX p0),(1232,ob0 (roI s1.1))]) ?_ ?_))
  ·rcases bt (decide (((s1.2.length : Nat) : Int) > 0)) with h12 | h12
   ·exact RT hnt (nn 10 (pT :: [])) [(23,pB (decide (((s1.1.length : Nat) : Int) < ((p0.nodes.length : Nat) : Int))))] (an h12 (an6 h12 tv)) (by kernel_rfl) (.cons rfl (.of_eq (by rw [h12]; try rfl)) .nil)
   ·exact RT hnt (nn 4 (sk 6 (pF :: []))) [(23,pB false)] (an h12 (an6 h12 tv)) (by kernel_rfl) (.cons rfl (.of_eq (by rw [h12]; try rfl)) .nil)
  ·refine Af hm ?_ ?_
   ·intro h13 hm
    refine Sk ?_
    refine Bk ?_
    obtain ⟨g14,g15,hm⟩ := go2 hm
    refine Sq (RN hnt (nn 7 []) [(2,rr 1016),(5,ow 1232 (s1.1 ++ [(s1.2.getD 0 0)]).length),(6,.p (slI s1.2))] [(AaX p0),(1232,ob0 (roI (s1.1 ++ [(s1.2.getD 0 0)])))] [(5,ow 1232 (s1.1.length + 1))] [(1232,.row 1 (s1.1.length + 1) (Dq s1.1.length (elI s1.1) (cut 1 [vi (s1.2.getD 0 0)])))] (an (nn0 0) (an (ltc g14) (an (by omega : (s1.1.length + 1) * 8 ≤ 140737488355328) tv))) (by kernel_rfl) (.cons rfl (MLe.ownLen (enc := Bo) (d := 0) (f := (Dq s1.1.length (elI s1.1) (cut 1 [vi (s1.2.getD 0 0)]))) (RowIs.cat RowIs.elems (RowIs.lit (enc := Bo) (d := 0) (n := 1) (f := (cut 1 [vi (s1.2.getD 0 0)])) [(s1.2.getD 0 0)] rfl (fun | 0,_ => rfl | n + 1,h => absurd h (by omega))))) .nil) (.cons rfl (BLe.typed (RowIs.cat RowIs.elems (RowIs.lit (enc := Bo) (d := 0) (n := 1) (f := (cut 1 [vi (s1.2.getD 0 0)])) [(s1.2.getD 0 0)] rfl (fun | 0,_ => rfl | n + 1,h => absurd h (by omega))))) .nil) ?_)
    obtain ⟨g16,hm⟩ := go1 hm
    obtain ⟨r17,hr17,hm⟩ := bo hm
    obtain ⟨g18,g19,hm⟩ := go2 hm
    refine RN hnt (nn 4 (o29 [] true r17 :: nn 4 [])) [(2,rr 1016),(5,ow 1232 (s1.1 ++ [(s1.2.getD 0 0)]).length),(6,ow 1272 (r17 ++ (s1.2.drop 1)).length)] [(AaX p0),(1232,ob0 (roI (s1.1 ++ [(s1.2.getD 0 0)]))),(1272,ob0 (roI (r17 ++ (s1.2.drop 1))))] [(6,ow 1272 (r17.length + (Nt s1.2.length 1)))] [(1272,.row 1 (r17.length + (Nt s1.2.length 1)) (Dq r17.length (elI r17) (shF 1 (elI s1.2))))] (an (nn0 0) (an (ltc g16) (an (Abz p0 (s1.2.getD 0 0) r17 hr17) (an (by omega : (0 : Int) ≤ 1) (an (by omega : 1 ≤ ((s1.2.length : Nat) : Int)) (an (by omega : ((s1.2.length : Nat) : Int) ≤ ((s1.2.length : Nat) : Int)) (an (by omega : (r17.length + (Nt s1.2.length 1)) * 8 ≤ 140737488355328) tv))))))) (by kernel_rfl) (.cons rfl (MLe.ownLen (enc := Bo) (d := 0) (f := (Dq r17.length (elI r17) (shF 1 (elI s1.2)))) (RowIs.cat RowIs.elems (RowIs.elems.drop (Wt _ _) (by omega)))) .nil) (.cons rfl (BLe.typed (RowIs.cat RowIs.elems (RowIs.elems.drop (Wt _ _) (by omega)))) .nil) ?_
    refine DW.done ?_
    show DW _ _ _ _ _
    exact jD ((s1.1 ++ [(s1.2.getD 0 0)]),(r17 ++ (s1.2.drop 1))) hm (Conv.frz [1272])
   ·intro h13 hm
    refine DW.exit ?_
    refine An ?_
    refine Aw ?_
    refine Ak ?_
    show DW _ _ _ _ _
    refine Sq (RK hnt (nn 2 []) [(4,ow 1232 s1.1.length)] [(1232,ob0 (roI s1.1))] tv ?_)
    obtain rfl := sj hm
    exact DW.ret (Ai [roI s1.1] [1232] (ow 0 s1.1.length))
abbrev o28 (ks : List Nat) (b : Bool) (RES : List Int) (sm : List Nat := []) : Orc := .call 173 ks b (ow 0 RES.length) [] [roI RES] sm

theorem AaL (p0 : List Int) (p1 : Int) (RES : Int) (hm : Ky p0 p1 = some RES) : Spec Tryz.prog 186 [.p (slI p0),pI p1] [] (pI RES) [] [] := by
 unfold Ky at hm
 refine SO Tryz.func186 rfl rfl [(0,.p (slI p0)),(1,pI p1)] [] ?_
 intro cx hnt
 refine Sq (RD hnt (.no :: []) [] [] [] [] tv ?_)
 refine Sq (Sq (RD hnt (nn 3 []) [] [(7,pI ((p0.length : Nat) : Int)),(8,pI 0)] [] [] tv ?_))
 refine Bk ?_
 obtain ⟨hc1,hm⟩ := go1 hm
 refine DW.rangeO (fun (k1 : Nat) (s1 : Unit) => Aj [(0,.p (slI p0)),(1,pI p1),(7,pI ((p0.length : Nat) : Int)),(8,pI ((k1 : Nat) : Int))] []) 0 hm Conv.eqK ?_
 intro k1 s1 n1 hk1 hs1 he1
 refine Sq (RD hnt (.no :: []) [] [(9,pB (decide (((k1 : Nat) : Int) < ((p0.length : Nat) : Int))))] [] [] tv ?_)
 refine Sq (Cj (decide (((k1 : Nat) : Int) < ((p0.length : Nat) : Int))) ?_ ?_)
 ·intro h7
  have hlt1 : k1 < p0.length := by have := of_decide_eq_true h7; omega
  have hm := hs1 hlt1
  unfold Uu at hm
  refine Sk ?_
  refine Sq (Bk ?_)
  refine Sq (RD hnt (nn 2 []) [9] [(5,pI ((k1 : Nat) : Int))] [] [] tv ?_)
  refine Sq (RD hnt (nn 6 []) [] [(16,pB (p1 == (p0.getD k1 0)))] [] [] (an (nn0 k1) (an (ltc hlt1) tv)) ?_)
  refine Af hm ?_ ?_
  ·intro h8 hm
   refine Sq (RK hnt (nn 2 []) [(4,pI ((k1 : Nat) : Int))] [] tv ?_)
   obtain rfl := sj hm
   exact DW.ret (Ai [] [] (pI ((k1 : Nat) : Int)))
  ·intro h8 hm
   refine Sk ?_
   refine DW.done ?_
   show DW _ _ _ _ _
   refine RD hnt (nn 2 []) [5,16] [(8,pI (w64 (((k1 : Nat) : Int) + 1)))] [] [] tv ?_
   exact jD () ⟨hlt1,hm⟩ (Conv.tp [(8,pI (w64 (((k1 : Nat) : Int) + 1)))] [] (by kernel_rfl) (.cons rfl (.of_eq (congrArg pI (Bn hlt1 hc1))) .nil) .nil)
 ·intro h7
  have hge1 : ¬ k1 < p0.length := by have := of_decide_eq_false h7; omega
  have hm := he1 hge1
  unfold Vc at hm
  refine DW.exit ?_
  refine An ?_
  refine Aw ?_
  refine Ak ?_
  show DW _ _ _ _ _
  refine Sq (RK hnt (.no :: []) [(4,pI (-1))] [] tv ?_)
  obtain rfl := sj hm
  exact DW.ret (Ai [] [] (pI (-1)))
abbrev o31 (ks : List Nat) (b : Bool) (RES : Int) (sm : List Nat := []) : Orc := .call 186 ks b (pI RES) [] [] sm

theorem Gu (p0 : List Int) (p1 : Int) (RES : Bool) (hm : Ds p0 p1 = some RES) : Spec Tryz.prog 127 [.p (slI p0),pI p1] [] (pB RES) [] [] := by
 unfold Ds at hm
 refine SO Tryz.func127 rfl rfl [(0,.p (slI p0)),(1,pI p1)] [] ?_
 intro cx hnt
 refine Sq (RD hnt (.no :: []) [] [] [] [] tv ?_)
 obtain ⟨r1,hr1,hm⟩ := bo hm
 refine Sq (RK hnt (nn 2 (o31 [] true r1 :: nn 2 [])) [(4,pB (decide (r1 ≥ 0)))] [] (an (AaL p0 p1 r1 hr1) tv) ?_)
 obtain rfl := sj hm
 exact DW.ret (Ai [] [] (pB (decide (r1 ≥ 0))))
abbrev o30 (ks : List Nat) (b : Bool) (RES : Bool) (sm : List Nat := []) : Orc := .call 127 ks b (pB RES) [] [] sm

theorem Fj (p0 : Ac) (p1 : Int) (RES : Bool) (hm : Gr p0 p1 = some RES) : Spec Tryz.prog 58 [.p (.agg (Az p0)),pI p1] [] (pB RES) [] [] := by
 unfold Gr at hm
 refine SO Tryz.func58 rfl rfl [(0,.p (.agg (Az p0))),(1,pI p1)] [] ?_
 intro cx hnt
 refine Sq (RK hnt (nn 2 []) [(1,pI p1),(2,rr 1016)] [(1016,bx (pm (Az p0)))] tv ?_)
 obtain ⟨r1,hr1,hm⟩ := bo hm
 refine Sq (RK hnt (nn 3 (o30 [] true r1 :: .no :: [])) [(4,pB r1)] [] (an (Gu p0.stopped p1 r1 hr1) tv) ?_)
 obtain rfl := sj hm
 exact DW.ret (Ai [] [] (pB r1))
abbrev o32 (ks : List Nat) (b : Bool) (RES : Bool) (sm : List Nat := []) : Orc := .call 58 ks b (pB RES) [] [] sm

theorem Yt (p0 : Aa) (p1 : Ac) (p2 : Int) (RES : Bool) (hm : Me p0 p1 p2 = some RES) : Spec Tryz.prog 141 [.p (.agg (Ab p0)),.p (.agg (Az p1)),pI p2] [] (pB RES) [] [] := by
 unfold Me at hm
 refine SO Tryz.func141 rfl rfl [(0,.p (.agg (Ab p0))),(1,.p (.agg (Az p1))),(2,pI p2)] [] ?_
 intro cx hnt
 refine Sq (RK hnt (nn 3 []) [(2,pI p2),(3,rr 1024),(4,rr 1032)] [(1024,bx (pm (Ab p0))),(1032,bx (pm (Az p1)))] tv ?_)
 obtain ⟨r1,hr1,hm⟩ := bo hm
 refine Sq (Sq (RD hnt (nn 4 (o23 [] true r1 :: .no :: [])) [] [(15,pB (!r1))] [] [] (an (Ik p0.tree p1 p2 r1 hr1) tv) ?_))
 refine Af hm ?_ ?_
 ·intro h2 hm
  refine Sq (RK hnt (.no :: []) [(6,pB false)] [] tv ?_)
  obtain rfl := sj hm
  exact DW.ret (Ai [] [] (pB false))
 ·intro h2 hm
  refine Sk ?_
  obtain ⟨r3,hr3,hm⟩ := bo hm
  refine Sq (RD hnt (nn 3 (o28 [] true r3 :: .no :: [])) [2,15] [(7,ow 1152 r3.length)] [] [(1152,ob0 (roI r3))] (an (Acn p0.tree p2 r3 hr3) tv) ?_)
  refine Sq (Sq (RD hnt (nn 4 []) [3] [(21,.p (Bf p0.tasks)),(22,pI ((p0.tasks.length : Nat) : Int)),(23,pI 0)] [1024] [] tv ?_))
  refine Bk ?_
  obtain ⟨hc1,hm⟩ := go1 hm
  refine DW.rangeO (fun (k1 : Nat) (s1 : Unit) => Aj [(4,rr 1032),(7,ow 1152 r3.length),(21,.p (Bf p0.tasks)),(22,pI ((p0.tasks.length : Nat) : Int)),(23,pI ((k1 : Nat) : Int))] [(1032,bx (pm (Az p1))),(1152,ob0 (roI r3))]) Bq hm Conv.eqK ?_
  intro k1 s1 n1 hk1 hs1 he1
  refine Sq (RD hnt (.no :: []) [] [(24,pB (decide (((k1 : Nat) : Int) < ((p0.tasks.length : Nat) : Int))))] [] [] tv ?_)
  refine Sq (Cj (decide (((k1 : Nat) : Int) < ((p0.tasks.length : Nat) : Int))) ?_ ?_)
  ·intro h16
   have hlt1 : k1 < p0.tasks.length := by have := of_decide_eq_true h16; omega
   have hm := hs1 hlt1
   unfold Vq at hm
   refine Sk ?_
   refine Sq (Bk ?_)
   refine Sq (RD hnt (nn 4 []) [24] [(9,rr 1072)] [] [(1072,bx (pm (Ay (p0.tasks.getD k1 (default : At)))))] (an (nn0 k1) (an (ltc hlt1) tv)) ?_)
   obtain ⟨r17,hr17,hm⟩ := bo hm
   refine Sq ?_
   refine Jn (ι := Bool) (fun (y3 : Bool) => Aj [(4,rr 1032),(7,ow 1152 r3.length),(21,.p (Bf p0.tasks)),(22,pI ((p0.tasks.length : Nat) : Int)),(23,pI ((k1 : Nat) : Int)),(37,pB y3)] [(1032,bx (pm (Az p1))),(1152,ob0 (roI r3))]) (fun y3 => (Nx n1) y3 = some RES) ?_ ?_
   ·intro y3 hm
    unfold Nx at hm
    refine Af hm ?_ ?_
    ·intro h20 hm
     refine Sq (RK hnt (.no :: []) [(6,pB false)] [] tv ?_)
     obtain rfl := sj hm
     exact DW.ret (Ai [] [] (pB false))
    ·intro h20 hm
     refine Sk ?_
     refine DW.done ?_
     show DW _ _ _ _ _
     refine RD hnt (nn 2 []) [37] [(23,pI (w64 (((k1 : Nat) : Int) + 1)))] [] [] tv ?_
     exact jD () ⟨hlt1,hm⟩ (Conv.tp [(23,pI (w64 (((k1 : Nat) : Int) + 1)))] [] (by kernel_rfl) (.cons rfl (.of_eq (congrArg pI (Bn hlt1 hc1))) .nil) .nil)
   ·rcases bt r17 with h18 | h18
    ·replace hm := Bd h18 hm
     obtain ⟨r19,hr19,hm⟩ := bo hm
     refine RD hnt (nn 3 (o30 [] true r17 :: nn 4 (o32 [] true r19 :: .no :: pT :: []))) [9] [(37,pB (!r19))] [1072] [] (an (Gu r3 (p0.tasks.getD k1 (default : At)).group r17 hr17) (an4 h18 (an (Fj p1 (p0.tasks.getD k1 (default : At)).id r19 hr19) (an2 h18 tv)))) ?_
     exact jD (!r19) hm Conv.eqK
    ·replace hm := Be h18 hm
     refine RD hnt (nn 3 (o30 [] true r17 :: .no :: sk 5 (pF :: []))) [9] [(37,pB false)] [1072] [] (an (Gu r3 (p0.tasks.getD k1 (default : At)).group r17 hr17) (an6 h18 tv)) ?_
     exact jD false hm Conv.eqK
  ·intro h16
   have hge1 : ¬ k1 < p0.tasks.length := by have := of_decide_eq_false h16; omega
   have hm := he1 hge1
   unfold Abu at hm
   refine DW.exit ?_
   refine An ?_
   refine Aw ?_
   refine Ak ?_
   show DW _ _ _ _ _
   refine Sq (RK hnt (.no :: []) [(6,pB true)] [] tv ?_)
   obtain rfl := sj hm
   exact DW.ret (Ai [] [] (pB true))
abbrev o27 (ks : List Nat) (b : Bool) (RES : Bool) (sm : List Nat := []) : Orc := .call 141 ks b (pB RES) [] [] sm

abbrev AaK (p0 : Aa) : Nat × Obj := (1016,bx (pm (Ab p0)))
abbrev Aba (p1 : Ac) : Nat × Obj := (1024,bx (pm (Az p1)))
abbrev c21e3 (p1 : Ac) (k1 : Nat) := (p1.frosts.getD k1 (default : Ap))
theorem Xz (p0 : Aa) (p1 : Ac) (RES : Bool) (hm : Mu p0 p1 = some RES) : Spec Tryz.prog 66 [.p (.agg (Ab p0)),.p (.agg (Az p1))] [] (pB RES) [] [] := by
 unfold Mu at hm
 refine SO Tryz.func66 rfl rfl [(0,.p (.agg (Ab p0))),(1,.p (.agg (Az p1)))] [] ?_
 intro cx hnt
 refine Sq (RK hnt (nn 3 []) [(2,rr 1016),(3,rr 1024)] [(AaK p0),(Aba p1)] tv ?_)
 obtain ⟨r1,hr1,hm⟩ := bo hm
 refine Sq (Sq ?_)
 refine Jn (ι := Bool) (fun (y1 : Bool) => Aj [(2,rr 1016),(3,rr 1024),(23,pB y1)] [(AaK p0),(Aba p1)]) (fun y1 => (Mq p0 p1) y1 = some RES) ?_ ?_
 ·intro y1 hm
  unfold Mq at hm
  refine Af hm ?_ ?_
  ·intro h3 hm
   refine Sq (RK hnt (.no :: []) [(4,pB false)] [] tv ?_)
   obtain rfl := sj hm
   exact DW.ret (Ai [] [] (pB false))
  ·intro h3 hm
   refine Sk ?_
   refine Sq (Sq (RD hnt (nn 4 []) [23] [(25,.p (Gs p1.frosts)),(26,pI ((p1.frosts.length : Nat) : Int)),(27,pI 0)] [] [] tv ?_))
   refine Bk ?_
   obtain ⟨hc1,hm⟩ := go1 hm
   refine DW.rangeO (fun (k1 : Nat) (s1 : Unit) => Aj [(2,rr 1016),(3,rr 1024),(25,.p (Gs p1.frosts)),(26,pI ((p1.frosts.length : Nat) : Int)),(27,pI ((k1 : Nat) : Int))] [(AaK p0),(Aba p1)]) Bz hm Conv.eqK ?_
   intro k1 s1 n1 hk1 hs1 he1
   refine Sq (RD hnt (.no :: []) [] [(28,pB (decide (((k1 : Nat) : Int) < ((p1.frosts.length : Nat) : Int))))] [] [] tv ?_)
   refine Sq (Cj (decide (((k1 : Nat) : Int) < ((p1.frosts.length : Nat) : Int))) ?_ ?_)
   ·intro h97
    have hlt1 : k1 < p1.frosts.length := by have := of_decide_eq_true h97; omega
    have hm := hs1 hlt1
    unfold Uc at hm
    refine Sk ?_
    refine Sq (Bk ?_)
    refine Sq (RD hnt (nn 6 []) [28] [(5,pI ((k1 : Nat) : Int)),(6,rr 1048)] [] [(1048,bx (pm (Ch (c21e3 p1 k1))))] (an (nn0 k1) (an (ltc hlt1) tv)) ?_)
    obtain ⟨g98,hm⟩ := go1 hm
    refine Sq ?_
    refine Jn (ι := Bool) (fun (y10 : Bool) => Aj [(2,rr 1016),(3,rr 1024),(25,.p (Gs p1.frosts)),(26,pI ((p1.frosts.length : Nat) : Int)),(27,pI ((k1 : Nat) : Int)),(51,pB y10)] [(AaK p0),(Aba p1)]) (fun y10 => (Jp n1) y10 = some RES) ?_ ?_
    ·intro y10 hm
     unfold Jp at hm
     refine Af hm ?_ ?_
     ·intro h102 hm
      refine Sq (RK hnt (.no :: []) [(4,pB false)] [] tv ?_)
      obtain rfl := sj hm
      exact DW.ret (Ai [] [] (pB false))
     ·intro h102 hm
      refine Sk ?_
      refine DW.done ?_
      show DW _ _ _ _ _
      refine RD hnt (nn 2 []) [51] [(27,pI (w64 (((k1 : Nat) : Int) + 1)))] [] [] tv ?_
      exact jD () ⟨hlt1,hm⟩ (Conv.tp [(27,pI (w64 (((k1 : Nat) : Int) + 1)))] [] (by kernel_rfl) (.cons rfl (.of_eq (congrArg pI (Bn hlt1 hc1))) .nil) .nil)
    ·rcases bt ((c21e3 p1 k1).group != (p0.tree.nodes.getD k1 Bh).id) with h99 | h99
     ·replace hm := Bd h99 hm
      refine RD hnt (nn 11 (sk 3 (pT :: .no :: sk 3 (pT :: [])))) [5,6] [(51,pB true)] [1048] [] (an (nn0 k1) (an (ltc g98) (an4 h99 (an4 tt tv)))) ?_
      exact jD true hm Conv.eqK
     ·replace hm := Be h99 hm
      rcases bt (decide ((c21e3 p1 k1).changes < 0)) with h100 | h100
      ·replace hm := Bd h100 hm
       refine RD hnt (nn 14 (pF :: .no :: sk 3 (pT :: []))) [5,6] [(51,pB true)] [1048] [] (an (nn0 k1) (an (ltc g98) (an4 h99 (an4 h100 tv)))) ?_
       exact jD true hm Conv.eqK
      ·replace hm := Be h100 hm
       refine RD hnt (nn 14 (pF :: nn 4 (pF :: []))) [5,6] [(51,pB (decide ((c21e3 p1 k1).changes > 1099511627776)))] [1048] [] (an (nn0 k1) (an (ltc g98) (an4 h99 (an4 h100 tv)))) ?_
       exact jD (decide ((c21e3 p1 k1).changes > 1099511627776)) hm Conv.eqK
   ·intro h97
    have hge1 : ¬ k1 < p1.frosts.length := by have := of_decide_eq_false h97; omega
    have hm := he1 hge1
    unfold Tn at hm
    refine DW.exit ?_
    refine An ?_
    refine Aw ?_
    refine Ak ?_
    show DW _ _ _ _ _
    refine Sq (Sq (RD hnt (nn 4 []) [25,26,27,28] [(54,.p (slI p1.stopped)),(55,pI ((p1.stopped.length : Nat) : Int)),(56,pI 0)] [] [] tv ?_))
    refine Bk ?_
    obtain ⟨hc10,hm⟩ := go1 hm
    refine DW.rangeO (fun (k10 : Nat) (s10 : Unit) => Aj [(2,rr 1016),(3,rr 1024),(54,.p (slI p1.stopped)),(55,pI ((p1.stopped.length : Nat) : Int)),(56,pI ((k10 : Nat) : Int))] [(AaK p0),(Aba p1)]) 0 hm Conv.eqK ?_
    intro k10 s10 n10 hk10 hs10 he10
    refine Sq (RD hnt (.no :: []) [] [(57,pB (decide (((k10 : Nat) : Int) < ((p1.stopped.length : Nat) : Int))))] [] [] tv ?_)
    refine Sq (Cj (decide (((k10 : Nat) : Int) < ((p1.stopped.length : Nat) : Int))) ?_ ?_)
    ·intro h141
     have hlt10 : k10 < p1.stopped.length := by have := of_decide_eq_true h141; omega
     have hm := hs10 hlt10
     unfold Sc at hm
     refine Sk ?_
     refine Sq (Bk ?_)
     refine Sq (RD hnt (nn 5 []) [57] [(7,pI ((k10 : Nat) : Int)),(8,pI (p1.stopped.getD k10 0))] [] [] (an (nn0 k10) (an (ltc hlt10) tv)) ?_)
     refine Sq ?_
     refine Jn (ι := Bool) (fun (y13 : Bool) => Aj [(2,rr 1016),(3,rr 1024),(54,.p (slI p1.stopped)),(55,pI ((p1.stopped.length : Nat) : Int)),(56,pI ((k10 : Nat) : Int)),(79,pB y13)] [(AaK p0),(Aba p1)]) (fun y13 => (Hs n10) y13 = some RES) ?_ ?_
     ·intro y13 hm
      unfold Hs at hm
      refine Af hm ?_ ?_
      ·intro h147 hm
       refine Sq (RK hnt (.no :: []) [(4,pB false)] [] tv ?_)
       obtain rfl := sj hm
       exact DW.ret (Ai [] [] (pB false))
      ·intro h147 hm
       refine Sk ?_
       refine DW.done ?_
       show DW _ _ _ _ _
       refine RD hnt (nn 2 []) [79] [(56,pI (w64 (((k10 : Nat) : Int) + 1)))] [] [] tv ?_
       exact jD () ⟨hlt10,hm⟩ (Conv.tp [(56,pI (w64 (((k10 : Nat) : Int) + 1)))] [] (by kernel_rfl) (.cons rfl (.of_eq (congrArg pI (Bn hlt10 hc10))) .nil) .nil)
     ·rcases bt (decide (((k10 : Nat) : Int) > 0)) with h142 | h142
      ·replace hm := Bd h142 hm
       obtain ⟨g143,hm⟩ := go1 hm
       rcases bt (decide ((p1.stopped.getD k10 0) ≤ (p1.stopped.getD (Int.toNat (w64 (((k10 : Nat) : Int) - 1))) 0))) with h144 | h144
       ·replace hm := Bd h144 hm
        refine RD hnt (nn 11 (pT :: .no :: sk 5 (pT :: []))) [7,8] [(79,pB true)] [] [] (an6 h142 (an g143.1 (an g143.2 (an3 h142 (an6 h144 tv))))) ?_
        exact jD true hm Conv.eqK
       ·replace hm := Be h144 hm
        obtain ⟨r145,hr145,hm⟩ := bo hm
        refine RD hnt (nn 11 (pT :: nn 4 (o22 [] true r145 :: .no :: pF :: []))) [7,8] [(79,pB (!r145))] [] [] (an6 h142 (an g143.1 (an g143.2 (an3 h142 (an4 h144 (an (Qq p0 p1 (p1.stopped.getD k10 0) r145 hr145) (an2 h144 tv))))))) ?_
        exact jD (!r145) hm Conv.eqK
      ·replace hm := Be h142 hm
       obtain ⟨r146,hr146,hm⟩ := bo hm
       refine RD hnt (nn 3 (sk 8 (pF :: nn 4 (o22 [] true r146 :: .no :: pF :: [])))) [7,8] [(79,pB (!r146))] [] [] (an3 h142 (an6 h142 (an4 ff (an (Qq p0 p1 (p1.stopped.getD k10 0) r146 hr146) (an2 ff tv))))) ?_
       exact jD (!r146) hm Conv.eqK
    ·intro h141
     have hge10 : ¬ k10 < p1.stopped.length := by have := of_decide_eq_false h141; omega
     have hm := he10 hge10
     unfold Sw at hm
     refine DW.exit ?_
     refine An ?_
     refine Aw ?_
     refine Ak ?_
     show DW _ _ _ _ _
     refine Sq (Sq (RD hnt (nn 4 []) [54,55,56,57] [(82,.p (Gs p1.frosts)),(83,pI ((p1.frosts.length : Nat) : Int)),(84,pI 0)] [] [] tv ?_))
     refine Bk ?_
     obtain ⟨hc13,hm⟩ := go1 hm
     refine DW.rangeO (fun (k13 : Nat) (s13 : Unit) => Aj [(2,rr 1016),(3,rr 1024),(82,.p (Gs p1.frosts)),(83,pI ((p1.frosts.length : Nat) : Int)),(84,pI ((k13 : Nat) : Int))] [(AaK p0),(Aba p1)]) Bz hm Conv.eqK ?_
     intro k13 s13 n13 hk13 hs13 he13
     refine Sq (RD hnt (.no :: []) [] [(85,pB (decide (((k13 : Nat) : Int) < ((p1.frosts.length : Nat) : Int))))] [] [] tv ?_)
     refine Sq (Cj (decide (((k13 : Nat) : Int) < ((p1.frosts.length : Nat) : Int))) ?_ ?_)
     ·intro h156
      have hlt13 : k13 < p1.frosts.length := by have := of_decide_eq_true h156; omega
      have hm := hs13 hlt13
      unfold Th at hm
      refine Sk ?_
      refine Sq (Bk ?_)
      refine Sq (RD hnt (nn 4 []) [85] [(10,rr 1080)] [] [(1080,bx (pm (Ch (p1.frosts.getD k13 (default : Ap)))))] (an (nn0 k13) (an (ltc hlt13) tv)) ?_)
      obtain ⟨r157,hr157,hm⟩ := bo hm
      refine Sq (RD hnt (nn 6 (o27 [] true r157 :: .no :: [])) [10] [(95,pB ((p1.frosts.getD k13 (default : Ap)).frozen != r157))] [1080] [] (an (Yt p0 p1 (p1.frosts.getD k13 (default : Ap)).group r157 hr157) tv) ?_)
      refine Af hm ?_ ?_
      ·intro h158 hm
       refine Sq (RK hnt (.no :: []) [(4,pB false)] [] tv ?_)
       obtain rfl := sj hm
       exact DW.ret (Ai [] [] (pB false))
      ·intro h158 hm
       refine Sk ?_
       refine DW.done ?_
       show DW _ _ _ _ _
       refine RD hnt (nn 2 []) [95] [(84,pI (w64 (((k13 : Nat) : Int) + 1)))] [] [] tv ?_
       exact jD () ⟨hlt13,hm⟩ (Conv.tp [(84,pI (w64 (((k13 : Nat) : Int) + 1)))] [] (by kernel_rfl) (.cons rfl (.of_eq (congrArg pI (Bn hlt13 hc13))) .nil) .nil)
     ·intro h156
      have hge13 : ¬ k13 < p1.frosts.length := by have := of_decide_eq_false h156; omega
      have hm := he13 hge13
      unfold Yv at hm
      refine DW.exit ?_
      refine An ?_
      refine Aw ?_
      refine Ak ?_
      show DW _ _ _ _ _
      refine Sq (RK hnt (.no :: []) [(4,pB true)] [] tv ?_)
      obtain rfl := sj hm
      exact DW.ret (Ai [] [] (pB true))
 ·rcases bt (!r1) with h2 | h2
  ·replace hm := Bd h2 hm
   refine RD hnt (.no :: o6 [] true r1 :: nn 2 (sk 8 (pT :: []))) [] [(23,pB true)] [] [] (an (Rv p0 r1 hr1) (an3 h2 (an6 h2 tv))) ?_
   exact jD true hm Conv.eqK
  ·replace hm := Be h2 hm
   refine RD hnt (.no :: o6 [] true r1 :: nn 10 (pF :: [])) [] [(23,pB (((p1.frosts.length : Nat) : Int) != ((p0.tree.nodes.length : Nat) : Int)))] [] [] (an (Rv p0 r1 hr1) (an3 h2 (an6 h2 tv))) ?_
   exact jD (((p1.frosts.length : Nat) : Int) != ((p0.tree.nodes.length : Nat) : Int)) hm Conv.eqK
abbrev o21 (ks : List Nat) (b : Bool) (RES : Bool) (sm : List Nat := []) : Orc := .call 66 ks b (pB RES) [] [] sm

theorem AdB (p0 : Ap) (p1 : Int) (RES : Bool) (hm : Xs p0 p1 = some RES) : Spec Tryz.prog 122 [.p (.agg (Ch p0)),rr 0] [.box [pI p1]] (pB RES) [.box [pI p1]] [] := by
 unfold Xs at hm
 refine SO Tryz.func122 rfl rfl [(0,.p (.agg (Ch p0))),(1,rr 0)] [(0,bx [pI p1])] ?_
 intro cx hnt
 refine Sq (RD hnt (nn 2 []) [0] [(2,rr 1016)] [] [(1016,bx (pm (Ch p0)))] tv ?_)
 refine Sq (RK hnt (nn 5 []) [(3,pB (p0.group == p1))] [(0,bx [pI p1])] tv ?_)
 obtain rfl := sj hm
 exact DW.ret (Ai [.box [pI p1]] [] (pB (p0.group == p1)))

theorem Nz (p0 : List Ap) (p1c0 : Int) (RES : Int) (hm : Ep p0 p1c0 = some RES) : Spec Tryz.prog 121 [.p (Gs p0),.fn 122 [rr 0]] [.box [pI p1c0]] (pI RES) [.box [pI p1c0]] [] := by
 unfold Ep at hm
 refine SO Tryz.func121 rfl rfl [(0,.p (Gs p0)),(1,.fn 122 [rr 0])] [(0,bx [pI p1c0])] ?_
 intro cx hnt
 refine Sq (RD hnt (.no :: []) [] [] [] [] tv ?_)
 refine Sq (Sq (RD hnt (nn 3 []) [] [(7,pI ((p0.length : Nat) : Int)),(8,pI 0)] [] [] tv ?_))
 refine Bk ?_
 obtain ⟨hc1,hm⟩ := go1 hm
 refine DW.rangeO (fun (k1 : Nat) (s1 : Unit) => Aj [(0,.p (Gs p0)),(1,.fn 122 [rr 0]),(7,pI ((p0.length : Nat) : Int)),(8,pI ((k1 : Nat) : Int))] [(0,bx [pI p1c0])]) Bz hm Conv.eqK ?_
 intro k1 s1 n1 hk1 hs1 he1
 refine Sq (RD hnt (.no :: []) [] [(9,pB (decide (((k1 : Nat) : Int) < ((p0.length : Nat) : Int))))] [] [] tv ?_)
 refine Sq (Cj (decide (((k1 : Nat) : Int) < ((p0.length : Nat) : Int))) ?_ ?_)
 ·intro h9
  have hlt1 : k1 < p0.length := by have := of_decide_eq_true h9; omega
  have hm := hs1 hlt1
  unfold Iz at hm
  refine Sk ?_
  refine Sq (Bk ?_)
  refine Sq (RD hnt (nn 2 []) [9] [(5,pI ((k1 : Nat) : Int))] [] [] tv ?_)
  obtain ⟨r10,hr10,hm⟩ := bo hm
  refine Sq (RD hnt (nn 5 (.call 122 [0] true (pB r10) [.box [pI p1c0]] [] [] :: [])) [] [(16,pB r10)] [] [] (an (nn0 k1) (an (ltc hlt1) (an (AdB (p0.getD k1 (default : Ap)) p1c0 r10 hr10) (an tv tv)))) ?_)
  refine Af hm ?_ ?_
  ·intro h11 hm
   refine Sq (RK hnt (nn 2 []) [(4,pI ((k1 : Nat) : Int))] [(0,bx [pI p1c0])] tv ?_)
   obtain rfl := sj hm
   exact DW.ret (Ai [.box [pI p1c0]] [] (pI ((k1 : Nat) : Int)))
  ·intro h11 hm
   refine Sk ?_
   refine DW.done ?_
   show DW _ _ _ _ _
   refine RD hnt (nn 2 []) [5,16] [(8,pI (w64 (((k1 : Nat) : Int) + 1)))] [] [] tv ?_
   exact jD () ⟨hlt1,hm⟩ (Conv.tp [(8,pI (w64 (((k1 : Nat) : Int) + 1)))] [] (by kernel_rfl) (.cons rfl (.of_eq (congrArg pI (Bn hlt1 hc1))) .nil) .nil)
 ·intro h9
  have hge1 : ¬ k1 < p0.length := by have := of_decide_eq_false h9; omega
  have hm := he1 hge1
  unfold Iy at hm
  refine DW.exit ?_
  refine An ?_
  refine Aw ?_
  refine Ak ?_
  show DW _ _ _ _ _
  refine Sq (RK hnt (.no :: []) [(4,pI (-1))] [(0,bx [pI p1c0])] tv ?_)
  obtain rfl := sj hm
  exact DW.ret (Ai [.box [pI p1c0]] [] (pI (-1)))

theorem Ye (p0 : List Ap) (RES : List Ap) (hm : Gn p0 = some RES) : Spec Tryz.prog 183 [.p (.sl .nn 4 p0.length (elems Ch (default : Ap) p0))] [] (ow 0 RES.length) [] [As RES] := by
 unfold Gn at hm
 refine SO Tryz.func183 rfl rfl [(0,.p (.sl .nn 4 p0.length (elems Ch (default : Ap) p0)))] [] ?_
 intro cx hnt
 refine Sq (RD hnt (.no :: []) [] [] [] [] tv ?_)
 refine Sq (Sq (RD hnt (nn 2 []) [] [(4,pB false)] [] [] tv ?_))
 refine condF ff ?_
 refine Sk ?_
 obtain ⟨g1,hm⟩ := go1 hm
 refine Sq (RN hnt (nn 4 []) [(2,ow 1040 p0.length)] [(1040,ob0 (As p0))] [(2,ow 1040 (0 + p0.length))] [(1040,.row 4 (0 + p0.length) (Dq 0 (cut 4 []) (Wr p0)))] (an (by omega : (0 + p0.length) * 24 ≤ 140737488355328) tv) (by kernel_rfl) (.cons rfl (MLe.ownLen (enc := Ch) (d := Bz) (f := (Dq 0 (cut 4 []) (Wr p0))) (RowIs.cat RowIs.nil RowIs.elems)) .nil) (.cons rfl (BLe.typed (RowIs.cat RowIs.nil RowIs.elems)) .nil) ?_)
 obtain rfl := sj hm
 exact DW.ret (Ai [As p0] [1040] (ow 0 p0.length))

theorem Wm (p0 : List Ap) (RES : List Ap) (hm : Mv p0 = some RES) : Spec Tryz.prog 183 [.p (.sl .nil 4 0 (elems Ch (default : Ap) p0))] [] (ow 0 RES.length) [] [As RES] := by
 unfold Mv at hm
 refine SO Tryz.func183 rfl rfl [(0,.p (.sl .nil 4 0 (elems Ch (default : Ap) p0)))] [] ?_
 intro cx hnt
 refine Sq (RD hnt (.no :: []) [] [] [] [] tv ?_)
 refine Sq (Sq (RD hnt (nn 2 []) [] [(4,pB true)] [] [] tv ?_))
 refine condT tt ?_
 refine Sq (RK hnt (.no :: []) [(2,.p (.sl .nil 0 0 (fun _ => [])))] [] tv ?_)
 refine DW.cv [] [(2,ow 100000 0)] [] [(100000,ob0 (As []))] (Conv.ads [(.s 2,100000,4,elems Ch Bz [])]) ?_
 obtain rfl := sj hm
 exact DW.ret (Ai [As []] [100000] (ow 0 0))

theorem Aae (p0 : List Ap) (RES : List Ap) (hm : Gn p0 = some RES) : Spec Tryz.prog 183 [.p (Gs p0)] [] (ow 0 RES.length) [] [As RES] :=
  Spec.unk (fun h => Wm p0 RES (by have e : p0 = [] := List.eq_nil_of_length_eq_zero h; subst e; simpa [Gn,Mv] using hm)) (Ye p0 RES hm)
abbrev o36 (ks : List Nat) (b : Bool) (RES : List Ap) (sm : List Nat := []) : Orc := .call 183 ks b (ow 0 RES.length) [] [As RES] sm

theorem Zq (p0 : List Int) (RES : List Int) (hm : Hl p0 = some RES) : Spec Tryz.prog 117 [.p (.sl .nn 1 p0.length (elems Bo 0 p0))] [] (ow 0 RES.length) [] [roI RES] := by
 unfold Hl at hm
 refine SO Tryz.func117 rfl rfl [(0,.p (.sl .nn 1 p0.length (elems Bo 0 p0)))] [] ?_
 intro cx hnt
 refine Sq (RD hnt (.no :: []) [] [] [] [] tv ?_)
 refine Sq (Sq (RD hnt (nn 2 []) [] [(4,pB false)] [] [] tv ?_))
 refine condF ff ?_
 refine Sk ?_
 obtain ⟨g1,hm⟩ := go1 hm
 refine Sq (RN hnt (nn 4 []) [(2,ow 1040 p0.length)] [(1040,ob0 (roI p0))] [(2,ow 1040 (0 + p0.length))] [(1040,.row 1 (0 + p0.length) (Dq 0 (cut 1 []) (elI p0)))] (an (by omega : (0 + p0.length) * 8 ≤ 140737488355328) tv) (by kernel_rfl) (.cons rfl (MLe.ownLen (enc := Bo) (d := 0) (f := (Dq 0 (cut 1 []) (elI p0))) (RowIs.cat RowIs.nil RowIs.elems)) .nil) (.cons rfl (BLe.typed (RowIs.cat RowIs.nil RowIs.elems)) .nil) ?_)
 obtain rfl := sj hm
 exact DW.ret (Ai [roI p0] [1040] (ow 0 p0.length))

theorem Ym (p0 : List Int) (RES : List Int) (hm : Ow p0 = some RES) : Spec Tryz.prog 117 [.p (.sl .nil 1 0 (elems Bo 0 p0))] [] (ow 0 RES.length) [] [roI RES] := by
 unfold Ow at hm
 refine SO Tryz.func117 rfl rfl [(0,.p (.sl .nil 1 0 (elems Bo 0 p0)))] [] ?_
 intro cx hnt
 refine Sq (RD hnt (.no :: []) [] [] [] [] tv ?_)
 refine Sq (Sq (RD hnt (nn 2 []) [] [(4,pB true)] [] [] tv ?_))
 refine condT tt ?_
 refine Sq (RK hnt (.no :: []) [(2,.p (.sl .nil 0 0 (fun _ => [])))] [] tv ?_)
 refine DW.cv [] [(2,ow 100000 0)] [] [(100000,ob0 (roI []))] (Conv.ads [(.s 2,100000,1,elems Bo 0 [])]) ?_
 obtain rfl := sj hm
 exact DW.ret (Ai [roI []] [100000] (ow 0 0))

theorem AaP (p0 : List Int) (RES : List Int) (hm : Hl p0 = some RES) : Spec Tryz.prog 117 [.p (slI p0)] [] (ow 0 RES.length) [] [roI RES] :=
  Spec.unk (fun h => Ym p0 RES (by have e : p0 = [] := List.eq_nil_of_length_eq_zero h; subst e; simpa [Hl,Ow] using hm)) (Zq p0 RES hm)
abbrev o37 (ks : List Nat) (b : Bool) (RES : List Int) (sm : List Nat := []) : Orc := .call 117 ks b (ow 0 RES.length) [] [roI RES] sm

theorem Zf (p0 : Aa) (p1 : Ac) (RES : freezer) (hm : Oi p0 p1 = some RES) : Spec Tryz.prog 123 [.p (.agg (Ab p0)),.p (.agg (Az p1))] [] (rr 0) [] [.box [.p (Bb RES.h.tree.nodes),pI RES.h.tree.next,.p (Bf RES.h.tasks),pI RES.h.next,ow 1 RES.f.frosts.length,ow 2 RES.f.stopped.length],As RES.f.frosts,roI RES.f.stopped] := by
 unfold Oi at hm
 refine SO Tryz.func123 rfl rfl [(0,.p (.agg (Ab p0))),(1,.p (.agg (Az p1)))] [] ?_
 intro cx hnt
 refine Sq (RK hnt (nn 3 []) [(2,rr 1016),(3,rr 1024)] [(1016,bx (pm (Ab p0))),(1024,bx (pm (Az p1)))] tv ?_)
 obtain ⟨r1,hr1,hm⟩ := bo hm
 obtain ⟨r2,hr2,hm⟩ := bo hm
 refine Sq (RK hnt (nn 3 (o36 [] true r1 :: nn 2 (o37 [] true r2 :: nn 4 []))) [(4,rr 1112)] [(1064,ob0 (As r1)),(1088,ob0 (roI r2)),(1112,bx [.p (Bb p0.tree.nodes),pI p0.tree.next,.p (Bf p0.tasks),pI p0.next,ow 1064 r1.length,ow 1088 r2.length])] (an (Aae p1.frosts r1 hr1) (an (AaP p1.stopped r2 hr2) tv)) ?_)
 obtain rfl := sj hm
 exact DW.ret (Ai [.box [.p (Bb p0.tree.nodes),pI p0.tree.next,.p (Bf p0.tasks),pI p0.next,ow 1 r1.length,ow 2 r2.length],As r1,roI r2] [1112,1064,1088] (rr 0))
abbrev o35 (ks : List Nat) (b : Bool) (RES : freezer) (sm : List Nat := []) : Orc := .call 123 ks b (rr 0) [] [.box [.p (Bb RES.h.tree.nodes),pI RES.h.tree.next,.p (Bf RES.h.tasks),pI RES.h.next,ow 1 RES.f.frosts.length,ow 2 RES.f.stopped.length],As RES.f.frosts,roI RES.f.stopped] sm

theorem Nw (p0 : Int) (p1 : freezer) (RES : Bool) (hm : Ft p0 p1 = some RES) : Spec Tryz.prog 185 [pI p0,rr 0] [.box [rr 1],.box [.p (Bb p1.h.tree.nodes),pI p1.h.tree.next,.p (Bf p1.h.tasks),pI p1.h.next,ow 2 p1.f.frosts.length,ow 3 p1.f.stopped.length],As p1.f.frosts,roI p1.f.stopped] (pB RES) [.box [rr 1],.box [.p (Bb p1.h.tree.nodes),pI p1.h.tree.next,.p (Bf p1.h.tasks),pI p1.h.next,ow 2 p1.f.frosts.length,ow 3 p1.f.stopped.length],As p1.f.frosts,roI p1.f.stopped] [] := by
 unfold Ft at hm
 refine SO Tryz.func185 rfl rfl [(0,pI p0),(1,rr 0)] [(0,bx [rr 1]),(1,bx [.p (Bb p1.h.tree.nodes),pI p1.h.tree.next,.p (Bf p1.h.tasks),pI p1.h.next,ow 2 p1.f.frosts.length,ow 3 p1.f.stopped.length]),(2,ob0 (As p1.f.frosts)),(3,ob0 (roI p1.f.stopped))] ?_
 intro cx hnt
 refine Sq (RD hnt (.no :: []) [] [] [] [] tv ?_)
 obtain ⟨r1,hr1,hm⟩ := bo hm
 refine Sq (RD hnt (nn 9 (o22 [] true r1 :: nn 2 [])) [0,1] [(3,pB (!r1))] [] [] (an (Qq p1.h p1.f p0 r1 hr1) tv) ?_)
 obtain rfl := sj hm
 exact DW.ret (Ai [.box [rr 1],.box [.p (Bb p1.h.tree.nodes),pI p1.h.tree.next,.p (Bf p1.h.tasks),pI p1.h.next,ow 2 p1.f.frosts.length,ow 3 p1.f.stopped.length],As p1.f.frosts,roI p1.f.stopped] [] (pB (!r1)))

abbrev c40e1 (p1c0 : freezer) (p0 : List Int) : Nat × Obj := (2,bx [.p (Bb p1c0.h.tree.nodes),pI p1c0.h.tree.next,.p (Bf p1c0.h.tasks),pI p1c0.h.next,ow 3 p1c0.f.frosts.length,ow 0 p0.length])
theorem Lg (p0 : List Int) (p1c0 : freezer) (RES : Int) (hm : Cy p0 p1c0 = some RES) : Spec Tryz.prog 226 [ow 0 p0.length,.fn 185 [rr 1]] [roI p0,.box [rr 2],.box [.p (Bb p1c0.h.tree.nodes),pI p1c0.h.tree.next,.p (Bf p1c0.h.tasks),pI p1c0.h.next,ow 3 p1c0.f.frosts.length,ow 0 p0.length],As p1c0.f.frosts] (pI RES) [roI p0,.box [rr 2],.box [.p (Bb p1c0.h.tree.nodes),pI p1c0.h.tree.next,.p (Bf p1c0.h.tasks),pI p1c0.h.next,ow 3 p1c0.f.frosts.length,ow 0 p0.length],As p1c0.f.frosts] [] := by
 unfold Cy at hm
 refine SO Tryz.func226 rfl rfl [(0,ow 0 p0.length),(1,.fn 185 [rr 1])] [(0,ob0 (roI p0)),(1,bx [rr 2]),(c40e1 p1c0 p0),(3,ob0 (As p1c0.f.frosts))] ?_
 intro cx hnt
 refine Sq (RD hnt (.no :: []) [] [] [] [] tv ?_)
 refine Sq (Sq (RD hnt (nn 3 []) [] [(7,pI ((p0.length : Nat) : Int)),(8,pI 0)] [] [] tv ?_))
 refine Bk ?_
 obtain ⟨hc1,hm⟩ := go1 hm
 refine DW.rangeO (fun (k1 : Nat) (s1 : Unit) => Aj [(0,ow 0 p0.length),(1,.fn 185 [rr 1]),(7,pI ((p0.length : Nat) : Int)),(8,pI ((k1 : Nat) : Int))] [(0,ob0 (roI p0)),(1,bx [rr 2]),(c40e1 p1c0 p0),(3,ob0 (As p1c0.f.frosts))]) 0 hm Conv.eqK ?_
 intro k1 s1 n1 hk1 hs1 he1
 refine Sq (RD hnt (.no :: []) [] [(9,pB (decide (((k1 : Nat) : Int) < ((p0.length : Nat) : Int))))] [] [] tv ?_)
 refine Sq (Cj (decide (((k1 : Nat) : Int) < ((p0.length : Nat) : Int))) ?_ ?_)
 ·intro h11
  have hlt1 : k1 < p0.length := by have := of_decide_eq_true h11; omega
  have hm := hs1 hlt1
  unfold Ek at hm
  refine Sk ?_
  refine Sq (Bk ?_)
  refine Sq (RD hnt (nn 2 []) [9] [(5,pI ((k1 : Nat) : Int))] [] [] tv ?_)
  obtain ⟨r12,hr12,hm⟩ := bo hm
  refine Sq (RD hnt (nn 5 (.call 185 [1,2,3,0] true (pB r12) [.box [rr 1],.box [.p (Bb p1c0.h.tree.nodes),pI p1c0.h.tree.next,.p (Bf p1c0.h.tasks),pI p1c0.h.next,ow 2 p1c0.f.frosts.length,ow 3 p0.length],As p1c0.f.frosts,roI p0] [] [] :: [])) [] [(16,pB r12)] [] [] (an (nn0 k1) (an (ltc hlt1) (an (by omega : k1 < p0.length) (an (Nw (p0.getD k1 0) ({ h := p1c0.h,f := ({ frosts := p1c0.f.frosts,stopped := p0 } : Ac) } : freezer) r12 hr12) (an2 tv (an (⟨rfl,rfl⟩ : Body.same (As p1c0.f.frosts) (As p1c0.f.frosts)) (an (⟨rfl,rfl⟩ : Body.same (roI p0) (roI p0)) tv))))))) ?_)
  refine Af hm ?_ ?_
  ·intro h13 hm
   refine Sq (RD hnt (nn 2 []) [0,1,5,7,8,16] [(4,pI ((k1 : Nat) : Int))] [] [] tv ?_)
   obtain rfl := sj hm
   exact DW.ret (Ai [roI p0,.box [rr 2],.box [.p (Bb p1c0.h.tree.nodes),pI p1c0.h.tree.next,.p (Bf p1c0.h.tasks),pI p1c0.h.next,ow 3 p1c0.f.frosts.length,ow 0 p0.length],As p1c0.f.frosts] [] (pI ((k1 : Nat) : Int)))
  ·intro h13 hm
   refine Sk ?_
   refine DW.done ?_
   show DW _ _ _ _ _
   refine RD hnt (nn 2 []) [5,16] [(8,pI (w64 (((k1 : Nat) : Int) + 1)))] [] [] tv ?_
   exact jD () ⟨hlt1,hm⟩ (Conv.tp [(8,pI (w64 (((k1 : Nat) : Int) + 1)))] [] (by kernel_rfl) (.cons rfl (.of_eq (congrArg pI (Bn hlt1 hc1))) .nil) .nil)
 ·intro h11
  have hge1 : ¬ k1 < p0.length := by have := of_decide_eq_false h11; omega
  have hm := he1 hge1
  unfold Gx at hm
  refine DW.exit ?_
  refine An ?_
  refine Aw ?_
  refine Ak ?_
  show DW _ _ _ _ _
  refine Sq (RD hnt (.no :: []) [0,1,7,8,9] [(4,pI (-1))] [] [] tv ?_)
  obtain rfl := sj hm
  exact DW.ret (Ai [roI p0,.box [rr 2],.box [.p (Bb p1c0.h.tree.nodes),pI p1c0.h.tree.next,.p (Bf p1c0.h.tasks),pI p1c0.h.next,ow 3 p1c0.f.frosts.length,ow 0 p0.length],As p1c0.f.frosts] [] (pI (-1)))

abbrev c39e1 (s1 : (List Int) × Int × Int) := (Pz s1.1 (Int.toNat s1.2.1) (Nt s1.1.length (Int.toNat s1.2.1)) 0)
abbrev Wc (s1 : (List Int) × Int × Int) := (s1.1.getD (Int.toNat s1.2.2) 0)
abbrev c39e3 (p1c0 : freezer) (s1 : (List Int) × Int × Int) : Nat × Body := (2,.box [.p (Bb p1c0.h.tree.nodes),pI p1c0.h.tree.next,.p (Bf p1c0.h.tasks),pI p1c0.h.next,ow 3 p1c0.f.frosts.length,ow 0 s1.1.length])
abbrev c39e4 (p1c0 : freezer) : Nat × Obj := (3,ob0 (As p1c0.f.frosts))
abbrev c39e5 (s1 : (List Int) × Int × Int) := (s1.1.set (Int.toNat s1.2.1) (Wc s1))
theorem Kr (p0 : List Int) (p1c0 : freezer) (RES : Nat × (List Int) × freezer) (hm : Cd p0 p1c0 = some RES) : Spec Tryz.prog 184 [ow 0 p0.length,.fn 185 [rr 1]] [roI p0,.box [rr 2],.box [.p (Bb p1c0.h.tree.nodes),pI p1c0.h.tree.next,.p (Bf p1c0.h.tasks),pI p1c0.h.next,ow 3 p1c0.f.frosts.length,ow 0 p0.length],As p1c0.f.frosts] (ow 0 RES.1) [roI RES.2.1,.box [rr 2],.box [.p (Bb RES.2.2.h.tree.nodes),pI RES.2.2.h.tree.next,.p (Bf RES.2.2.h.tasks),pI RES.2.2.h.next,ow 3 RES.2.2.f.frosts.length,ow 0 RES.2.1.length],As RES.2.2.f.frosts] [] := by
 unfold Cd at hm
 refine SO Tryz.func184 rfl rfl [(0,ow 0 p0.length),(1,.fn 185 [rr 1])] [(0,ob0 (roI p0)),(1,bx [rr 2]),(2,bx [.p (Bb p1c0.h.tree.nodes),pI p1c0.h.tree.next,.p (Bf p1c0.h.tasks),pI p1c0.h.next,ow 3 p1c0.f.frosts.length,ow 0 p0.length]),(c39e4 p1c0)] ?_
 intro cx hnt
 refine Sq (RD hnt (.no :: []) [] [] [] [] tv ?_)
 obtain ⟨r1,hr1,hm⟩ := bo hm
 refine Sq (RD hnt (nn 2 (.call 226 [0,1,2,3] true (pI r1) [roI p0,.box [rr 2],.box [.p (Bb p1c0.h.tree.nodes),pI p1c0.h.tree.next,.p (Bf p1c0.h.tasks),pI p1c0.h.next,ow 3 p1c0.f.frosts.length,ow 0 p0.length],As p1c0.f.frosts] [] [] :: .no :: [])) [] [(5,pI r1)] [] [] (an (Lg p0 ({ h := p1c0.h,f := ({ frosts := p1c0.f.frosts,stopped := p0 } : Ac) } : freezer) r1 hr1) (an (⟨rfl,rfl⟩ : Body.same (roI p0) (roI p0)) (an2 tv (an (⟨rfl,rfl⟩ : Body.same (As p1c0.f.frosts) (As p1c0.f.frosts)) tv)))) ?_)
 refine Sq (Sq (RD hnt (nn 2 []) [] [(12,pB (r1 == (-1)))] [] [] tv ?_))
 refine Af hm ?_ ?_
 ·intro h2 hm
  refine Sq (RD hnt (nn 2 []) [0,1,5,12] [(4,ow 0 p0.length)] [] [] tv ?_)
  obtain rfl := sj hm
  exact DW.ret (Ai [roI p0,.box [rr 2],.box [.p (Bb p1c0.h.tree.nodes),pI p1c0.h.tree.next,.p (Bf p1c0.h.tasks),pI p1c0.h.next,ow 3 p1c0.f.frosts.length,ow 0 p0.length],As p1c0.f.frosts] [] (ow 0 p0.length))
 ·intro h2 hm
  refine Sk ?_
  refine Sq (Sq (RD hnt (nn 3 []) [12] [(6,pI (w64 (r1 + 1)))] [] [] tv ?_))
  refine Bk ?_
  refine DW.whileO (fun (s1 : (List Int) × Int × Int) => Aj [(0,ow 0 s1.1.length),(1,.fn 185 [rr 1]),(5,pI s1.2.1),(6,pI s1.2.2)] [(0,ob0 (roI s1.1)),(1,bx [rr 2]),(2,bx [.p (Bb p1c0.h.tree.nodes),pI p1c0.h.tree.next,.p (Bf p1c0.h.tasks),pI p1c0.h.next,ow 3 p1c0.f.frosts.length,ow 0 s1.1.length]),(c39e4 p1c0)]) hm Conv.eqK ?_
  intro s1 n1 hm
  unfold Cq at hm
  refine Sq (Sq (RD hnt (nn 4 []) [] [(19,pB (decide (s1.2.2 < ((s1.1.length : Nat) : Int))))] [] [] tv ?_))
  refine Af hm ?_ ?_
  ·intro h13 hm
   refine Sk ?_
   refine Sq ?_
   refine Jn (ι := (List Int) × Int) (fun (y2 : (List Int) × Int) => Aj [(0,ow 0 y2.1.length),(1,.fn 185 [rr 1]),(5,pI y2.2),(6,pI s1.2.2)] [(0,ob0 (roI y2.1)),(1,bx [rr 2]),(2,bx [.p (Bb p1c0.h.tree.nodes),pI p1c0.h.tree.next,.p (Bf p1c0.h.tasks),pI p1c0.h.next,ow 3 p1c0.f.frosts.length,ow 0 y2.1.length]),(c39e4 p1c0)]) (fun y2 => (Cb s1 n1) y2 = some RES) ?_ ?_
   ·intro y2 hm
    unfold Cb at hm
    refine RD hnt (nn 3 []) [] [(6,pI (w64 (s1.2.2 + 1)))] [] [] tv ?_
    exact jD (y2.1,y2.2,(w64 (s1.2.2 + 1))) hm Conv.eqK
   ·refine Bk ?_
    obtain ⟨g14,g15,hm⟩ := go2 hm
    refine Sq (RD hnt (nn 5 []) [19] [(7,pI (Wc s1))] [] [] (an g14.1 (an g14.2 (an g15 tv))) ?_)
    obtain ⟨r16,hr16,hm⟩ := bo hm
    refine Sq (RD hnt (nn 2 (.call 185 [1,2,3,0] true (pB r16) [.box [rr 1],.box [.p (Bb p1c0.h.tree.nodes),pI p1c0.h.tree.next,.p (Bf p1c0.h.tasks),pI p1c0.h.next,ow 2 p1c0.f.frosts.length,ow 3 s1.1.length],As p1c0.f.frosts,roI s1.1] [] [] :: .no :: [])) [] [(29,pB (!r16))] [] [] (an (Nw (Wc s1) ({ h := p1c0.h,f := ({ frosts := p1c0.f.frosts,stopped := s1.1 } : Ac) } : freezer) r16 hr16) (an2 tv (an (⟨rfl,rfl⟩ : Body.same (As p1c0.f.frosts) (As p1c0.f.frosts)) (an (⟨rfl,rfl⟩ : Body.same (roI s1.1) (roI s1.1)) tv)))) ?_)
    refine Af hm ?_ ?_
    ·intro h17 hm
     obtain ⟨g18,g19,hm⟩ := go2 hm
     refine Sq (RN hnt (nn 5 []) [(0,ow 0 (c39e5 s1).length),(1,.fn 185 [rr 1]),(5,pI s1.2.1),(6,pI s1.2.2)] [(0,ob0 (roI (c39e5 s1))),(1,bx [rr 2]),(2,bx [.p (Bb p1c0.h.tree.nodes),pI p1c0.h.tree.next,.p (Bf p1c0.h.tasks),pI p1c0.h.next,ow 3 p1c0.f.frosts.length,ow 0 (c39e5 s1).length]),(c39e4 p1c0)] [(0,ow 0 s1.1.length)] [(0,.row 1 s1.1.length (Ca (elI s1.1) (Int.toNat s1.2.1) [vi (Wc s1)])),(c39e3 p1c0 s1)] (an g18.1 (an g18.2 (an g19 tv))) (by kernel_rfl) (.cons rfl (MLe.ownLen (enc := Bo) (d := 0) (f := (Ca (elI s1.1) (Int.toNat s1.2.1) [vi (Wc s1)])) (RowIs.upd RowIs.elems (Wc s1) rfl)) .nil) (.cons rfl (BLe.typed (RowIs.upd RowIs.elems (Wc s1) rfl)) (.cons rfl (.box (.cons .rfl (.cons .rfl (.cons .rfl (.cons .rfl (.cons .rfl (.cons (MLe.ownLen (enc := Bo) (d := 0) (f := (Ca (elI s1.1) (Int.toNat s1.2.1) [vi (Wc s1)])) (RowIs.upd RowIs.elems (Wc s1) rfl)) .nil))))))) .nil)) ?_)
     refine RD hnt (nn 3 []) [] [(5,pI (w64 (s1.2.1 + 1)))] [] [] tv ?_
     exact bD ((c39e5 s1),(w64 (s1.2.1 + 1))) hm Conv.eqK
    ·intro h17 hm
     refine Sk ?_
     exact bD (s1.1,s1.2.1) hm Conv.t0
  ·intro h13 hm
   refine DW.exit ?_
   refine An ?_
   refine Aw ?_
   refine Ak ?_
   show DW _ _ _ _ _
   obtain ⟨g20,g21,hm⟩ := go2 hm
   refine Sq (RN hnt (nn 4 []) [(0,ow 0 (c39e1 s1).length),(5,pI s1.2.1)] [(0,ob0 (roI (c39e1 s1))),(1,bx [rr 2]),(2,bx [.p (Bb p1c0.h.tree.nodes),pI p1c0.h.tree.next,.p (Bf p1c0.h.tasks),pI p1c0.h.next,ow 3 p1c0.f.frosts.length,ow 0 (c39e1 s1).length]),(c39e4 p1c0)] [(0,ow 0 s1.1.length)] [(0,.row 1 s1.1.length (Mh (elI s1.1) (Int.toNat s1.2.1) (Nt s1.1.length (Int.toNat s1.2.1)) (fun _ => [vi 0]))),(c39e3 p1c0 s1)] (an (by omega : (0 : Int) ≤ s1.2.1) (an (by omega : s1.2.1 ≤ ((s1.1.length : Nat) : Int)) (an (by omega : ((s1.1.length : Nat) : Int) ≤ ((s1.1.length : Nat) : Int)) (an g21 tv)))) (by kernel_rfl) (.cons rfl (MLe.ownLen (enc := Bo) (d := 0) (f := (Mh (elI s1.1) (Int.toNat s1.2.1) (Nt s1.1.length (Int.toNat s1.2.1)) (fun _ => [vi 0]))) (RowIs.fill RowIs.elems 0 rfl (by first | exact g21 | omega))) .nil) (.cons rfl (BLe.typed (RowIs.fill RowIs.elems 0 rfl (by first | exact g21 | omega))) (.cons rfl (.box (.cons .rfl (.cons .rfl (.cons .rfl (.cons .rfl (.cons .rfl (.cons (MLe.ownLen (enc := Bo) (d := 0) (f := (Mh (elI s1.1) (Int.toNat s1.2.1) (Nt s1.1.length (Int.toNat s1.2.1)) (fun _ => [vi 0]))) (RowIs.fill RowIs.elems 0 rfl (by first | exact g21 | omega))) .nil))))))) .nil)) ?_)
   obtain ⟨g22,hm⟩ := go1 hm
   refine Sq (RD hnt (nn 4 []) [0,5] [(4,ow 0 (Int.toNat s1.2.1))] [] [] (an (by omega : (0 : Int) ≤ 0) (an (by omega : (0 : Int) ≤ s1.2.1) (an (by omega : s1.2.1 ≤ (((Pz s1.1 (Int.toNat s1.2.1) (Nt s1.1.length (Int.toNat s1.2.1)) 0).length : Nat) : Int)) tv))) ?_)
   obtain rfl := sj hm
   exact DW.ret (Ai [roI (c39e1 s1),.box [rr 2],.box [.p (Bb p1c0.h.tree.nodes),pI p1c0.h.tree.next,.p (Bf p1c0.h.tasks),pI p1c0.h.next,ow 3 p1c0.f.frosts.length,ow 0 (c39e1 s1).length],As p1c0.f.frosts] [] (ow 0 (Int.toNat s1.2.1)))
abbrev o39 (ks : List Nat) (b : Bool) (RES : Nat × (List Int) × freezer) (sm : List Nat := []) : Orc := .call 184 ks b (ow 0 RES.1) [roI RES.2.1,.box [rr 2],.box [.p (Bb RES.2.2.h.tree.nodes),pI RES.2.2.h.tree.next,.p (Bf RES.2.2.h.tasks),pI RES.2.2.h.next,ow 3 RES.2.2.f.frosts.length,ow 0 RES.2.1.length],As RES.2.2.f.frosts] [] sm
end Go.Dm


/- Go functions compute their models, printed by a program. -/
namespace Go.Dm
open Go.Proofs
set_option linter.unusedVariables false
theorem Xc (p0 : freezer) (RES : freezer × Nat) (hm : Hx p0 = some RES) : Spec Tryz.prog 124 [rr 0] [.box [.p (Bb p0.h.tree.nodes),pI p0.h.tree.next,.p (Bf p0.h.tasks),pI p0.h.next,ow 1 p0.f.frosts.length,ow 2 p0.f.stopped.length],As p0.f.frosts,roI p0.f.stopped] (.p (.tup [])) [.box [.p (Bb RES.1.h.tree.nodes),pI RES.1.h.tree.next,.p (Bf RES.1.h.tasks),pI RES.1.h.next,ow 1 RES.1.f.frosts.length,ow 2 RES.2],As RES.1.f.frosts,roI RES.1.f.stopped] [] := by
 unfold Hx at hm
 refine SO Tryz.func124 rfl rfl [(0,rr 0)] [(0,bx [.p (Bb p0.h.tree.nodes),pI p0.h.tree.next,.p (Bf p0.h.tasks),pI p0.h.next,ow 1 p0.f.frosts.length,ow 2 p0.f.stopped.length]),(1,ob0 (As p0.f.frosts)),(2,ob0 (roI p0.f.stopped))] ?_
 intro cx hnt
 refine Sq (RD hnt (.no :: []) [0] [(1,rr 1008)] [] [(1008,bx [rr 0])] tv ?_)
 obtain ⟨r1,hr1,hm⟩ := bo hm
 obtain ⟨g2,g3,g4,hm⟩ := go3 hm
 refine RK hnt (nn 7 (o39 [2,1008,0,1] true r1 [1008] :: nn 4 [])) [] [(0,bx [.p (Bb r1.2.2.h.tree.nodes),pI r1.2.2.h.tree.next,.p (Bf r1.2.2.h.tasks),pI r1.2.2.h.next,ow 1 r1.2.2.f.frosts.length,ow 2 r1.1]),(1,ob0 (As r1.2.2.f.frosts)),(2,ob0 (roI r1.2.1))] (an (Kr p0.f.stopped p0 r1 hr1) (an (⟨rfl,g2⟩ : Body.same (roI p0.f.stopped) (roI r1.2.1)) (an2 tv (an (⟨rfl,g3⟩ : Body.same (As p0.f.frosts) (As r1.2.2.f.frosts)) (an (Eq.refl (some (bx [rr 0] : Obj))) tv))))) ?_
 refine DW.done ?_
 obtain rfl := sj hm
 exact endK [.box [.p (Bb r1.2.2.h.tree.nodes),pI r1.2.2.h.tree.next,.p (Bf r1.2.2.h.tasks),pI r1.2.2.h.next,ow 1 r1.2.2.f.frosts.length,ow 2 r1.1],As r1.2.2.f.frosts,roI r1.2.1] [] (.p (.tup []))
abbrev o38 (ks : List Nat) (b : Bool) (RES : freezer × Nat) (sm : List Nat := []) : Orc := .call 124 ks b (.p (.tup [])) [.box [.p (Bb RES.1.h.tree.nodes),pI RES.1.h.tree.next,.p (Bf RES.1.h.tasks),pI RES.1.h.next,ow 1 RES.1.f.frosts.length,ow 2 RES.2],As RES.1.f.frosts,roI RES.1.f.stopped] [] sm

abbrev c42e1 (s1 : List Ap) (k1 : Int) (r22 : Bool) := ({ group := ((s1.set (Int.toNat k1) ({ group := (s1.getD (Int.toNat k1) Bz).group,want := (s1.getD (Int.toNat k1) Bz).want,frozen := r22,changes := (s1.getD (Int.toNat k1) Bz).changes } : Ap)).getD (Int.toNat k1) Bz).group,want := ((s1.set (Int.toNat k1) ({ group := (s1.getD (Int.toNat k1) Bz).group,want := (s1.getD (Int.toNat k1) Bz).want,frozen := r22,changes := (s1.getD (Int.toNat k1) Bz).changes } : Ap)).getD (Int.toNat k1) Bz).want,frozen := ((s1.set (Int.toNat k1) ({ group := (s1.getD (Int.toNat k1) Bz).group,want := (s1.getD (Int.toNat k1) Bz).want,frozen := r22,changes := (s1.getD (Int.toNat k1) Bz).changes } : Ap)).getD (Int.toNat k1) Bz).frozen,changes := (minI (w64 ((s1.getD (Int.toNat k1) Bz).changes + 1)) 1099511627776) } : Ap)
abbrev c42e2 (s1 : List Ap) (k1 : Int) (r22 : Bool) := ({ group := (s1.getD (Int.toNat k1) Bz).group,want := (s1.getD (Int.toNat k1) Bz).want,frozen := r22,changes := (s1.getD (Int.toNat k1) Bz).changes } : Ap)
abbrev c42e3 (s1 : List Ap) (k1 : Int) (r22 : Bool) := (Ca (Wr s1) (Int.toNat k1) [vi (s1.getD (Int.toNat k1) Bz).group,vb (s1.getD (Int.toNat k1) Bz).want,vb r22,vi (s1.getD (Int.toNat k1) Bz).changes])
abbrev c42e4 : Nat × Obj := (1016,bx [.p (.sl .nil 0 0 (fun _ => [])),.p (.sl .nil 0 0 (fun _ => []))])
abbrev c42e5 (s1 : List Ap) (k1 : Int) (r22 : Bool) := (Ca (c42e3 s1 k1 r22) (Int.toNat k1) (setRange ((c42e3 s1 k1 r22) (Int.toNat k1)) 3 [vi (minI (w64 ((s1.getD (Int.toNat k1) Bz).changes + 1)) 1099511627776)]))
abbrev c42e6 (p0 : freezer) : Nat × MV := (11,pI ((p0.f.frosts.length : Nat) : Int))
abbrev c42e7 (s1 : List Ap) (k1 : Int) (r22 : Bool) := ((s1.set (Int.toNat k1) (c42e2 s1 k1 r22)).set (Int.toNat k1) (c42e1 s1 k1 r22))
theorem Oz (p0 : freezer) (RES : Ac × freezer) (hm : Du p0 = some RES) : Spec Tryz.prog 125 [rr 0] [.box [.p (Bb p0.h.tree.nodes),pI p0.h.tree.next,.p (Bf p0.h.tasks),pI p0.h.next,ow 1 p0.f.frosts.length,ow 2 p0.f.stopped.length],As p0.f.frosts,roI p0.f.stopped] (.agg [ow 1 RES.2.f.frosts.length,ow 2 RES.2.f.stopped.length]) [.box [.p (Bb RES.2.h.tree.nodes),pI RES.2.h.tree.next,.p (Bf RES.2.h.tasks),pI RES.2.h.next,ow 1 RES.2.f.frosts.length,ow 2 RES.2.f.stopped.length],As RES.2.f.frosts,roI RES.2.f.stopped] [] := by
 unfold Du at hm
 refine SO Tryz.func125 rfl rfl [(0,rr 0)] [(0,bx [.p (Bb p0.h.tree.nodes),pI p0.h.tree.next,.p (Bf p0.h.tasks),pI p0.h.next,ow 1 p0.f.frosts.length,ow 2 p0.f.stopped.length]),(1,ob0 (As p0.f.frosts)),(2,ob0 (roI p0.f.stopped))] ?_
 intro cx hnt
 refine Sq (RD hnt (.no :: []) [] [(2,rr 1016)] [] [(c42e4)] tv ?_)
 refine Sq (Sq (RD hnt (nn 7 []) [] [(c42e6 p0),(12,pI 0)] [] [] tv ?_))
 refine Bk ?_
 obtain ⟨hc1,hm⟩ := go1 hm
 refine DW.forO (fun (k1 : Int) (s1 : List Ap) => Aj [(0,rr 0),(2,rr 1016),(c42e6 p0),(12,pI k1)] [(0,bx [.p (Bb p0.h.tree.nodes),pI p0.h.tree.next,.p (Bf p0.h.tasks),pI p0.h.next,ow 1 s1.length,ow 2 p0.f.stopped.length]),(1,ob0 (As s1)),(2,ob0 (roI p0.f.stopped)),(c42e4)]) (lo := 0) (hi := ((p0.f.frosts.length : Nat) : Int)) hm Conv.eqK ?_
 intro k1 s1 n1 hk1 hs1 he1
 refine Sq (RD hnt (.no :: []) [] [(13,pB (decide (k1 < ((p0.f.frosts.length : Nat) : Int))))] [] [] tv ?_)
 refine Sq (Cj (decide (k1 < ((p0.f.frosts.length : Nat) : Int))) ?_ ?_)
 ·intro h19
  have hlt1 : k1 < ((p0.f.frosts.length : Nat) : Int) := by have := of_decide_eq_true h19; omega
  have hm := hs1 hlt1
  unfold Li at hm
  refine Sk ?_
  refine Sq ?_
  refine Jn (ι := List Ap) (fun (y3 : List Ap) => Aj [(0,rr 0),(2,rr 1016),(c42e6 p0),(12,pI k1)] [(0,bx [.p (Bb p0.h.tree.nodes),pI p0.h.tree.next,.p (Bf p0.h.tasks),pI p0.h.next,ow 1 y3.length,ow 2 p0.f.stopped.length]),(1,ob0 (As y3)),(2,ob0 (roI p0.f.stopped)),(c42e4)]) (fun y3 => (Gt n1) y3 = some RES) ?_ ?_
  ·intro y3 hm
   unfold Gt at hm
   refine RD hnt (nn 2 []) [] [(12,pI (w64 (k1 + 1)))] [] [] tv ?_
   exact jD y3 ⟨hlt1,hm⟩ (Conv.tp [(12,pI (w64 (k1 + 1)))] [] (by kernel_rfl) (.cons rfl (.of_eq (congrArg pI (To (lo := 0) (hi := ((p0.f.frosts.length : Nat) : Int)) (by omega) hk1 hlt1 (by omega)))) .nil) .nil)
  ·refine Bk ?_
   refine Sq (RD hnt (nn 2 []) [13] [(3,pI k1)] [] [] tv ?_)
   obtain ⟨g20,hm⟩ := go1 hm
   refine Sq (RD hnt (nn 8 []) [3] [(4,.eref 1 0 (Int.toNat k1) 0)] [] [] (an g20.1 (an g20.2 tv)) ?_)
   obtain ⟨g21,hm⟩ := go1 hm
   obtain ⟨r22,hr22,hm⟩ := bo hm
   refine Sq (RD hnt (nn 12 (o27 [] true r22 :: .no :: [])) [] [(5,pB r22)] [] [] (an g21 (an (Yt p0.h ({ frosts := s1,stopped := p0.f.stopped } : Ac) (s1.getD (Int.toNat k1) Bz).group r22 hr22) tv)) ?_)
   obtain ⟨g23,hm⟩ := go1 hm
   refine Sq (RD hnt (nn 6 []) [] [(40,pB (r22 != (s1.getD (Int.toNat k1) Bz).frozen))] [] [] (an g23 tv) ?_)
   refine Af hm ?_ ?_
   ·intro h24 hm
    obtain ⟨g25,g26,g27,hm⟩ := go3 hm
    refine RN hnt (nn 15 []) [(0,rr 0),(2,rr 1016),(c42e6 p0),(12,pI k1)] [(0,bx [.p (Bb p0.h.tree.nodes),pI p0.h.tree.next,.p (Bf p0.h.tasks),pI p0.h.next,ow 1 (c42e7 s1 k1 r22).length,ow 2 p0.f.stopped.length]),(1,ob0 (As (c42e7 s1 k1 r22))),(2,ob0 (roI p0.f.stopped)),(c42e4)] [] [(0,.box [.p (Bb p0.h.tree.nodes),pI p0.h.tree.next,.p (Bf p0.h.tasks),pI p0.h.next,ow 1 s1.length,ow 2 p0.f.stopped.length]),(1,.row 4 s1.length (c42e5 s1 k1 r22))] (an g25 (an g26 (an g27 tv))) (by kernel_rfl) .nil (.cons rfl (.box (.cons .rfl (.cons .rfl (.cons .rfl (.cons .rfl (.cons (MLe.ownLen (enc := Ch) (d := Bz) (f := (c42e5 s1 k1 r22)) (RowIs.updR (RowIs.upd RowIs.elems (c42e2 s1 k1 r22) rfl) (by omega) (c42e1 s1 k1 r22) rfl)) (.cons .rfl .nil))))))) (.cons rfl (BLe.typed (RowIs.updR (RowIs.upd RowIs.elems (c42e2 s1 k1 r22) rfl) (by omega) (c42e1 s1 k1 r22) rfl)) .nil)) ?_
    exact bD (c42e7 s1 k1 r22) hm .refl
   ·intro h24 hm
    refine Sk ?_
    exact bD s1 hm Conv.t0
 ·intro h19
  have hge1 : ¬ k1 < ((p0.f.frosts.length : Nat) : Int) := by have := of_decide_eq_false h19; omega
  have hm := he1 hge1
  unfold Qm at hm
  refine DW.exit ?_
  refine An ?_
  refine Aw ?_
  refine Ak ?_
  show DW _ _ _ _ _
  refine Sq (RD hnt (nn 5 []) [0,11,12,13] [] [] [(1016,bx [ow 1 s1.length,ow 2 p0.f.stopped.length])] tv ?_)
  obtain rfl := sj hm
  exact DW.ret (Ai [.box [.p (Bb p0.h.tree.nodes),pI p0.h.tree.next,.p (Bf p0.h.tasks),pI p0.h.next,ow 1 s1.length,ow 2 p0.f.stopped.length],As s1,roI p0.f.stopped] [] (.agg [ow 1 s1.length,ow 2 p0.f.stopped.length]))
abbrev o42 (ks : List Nat) (b : Bool) (RES : Ac × freezer) (sm : List Nat := []) : Orc := .call 125 ks b (.agg [ow 1 RES.2.f.frosts.length,ow 2 RES.2.f.stopped.length]) [.box [.p (Bb RES.2.h.tree.nodes),pI RES.2.h.tree.next,.p (Bf RES.2.h.tasks),pI RES.2.h.next,ow 1 RES.2.f.frosts.length,ow 2 RES.2.f.stopped.length],As RES.2.f.frosts,roI RES.2.f.stopped] [] sm

abbrev AcF (r6 : freezer) (r3 : Int) (p3 : Bool) := ({ group := (r6.f.frosts.getD (Int.toNat r3) Bz).group,want := p3,frozen := (r6.f.frosts.getD (Int.toNat r3) Bz).frozen,changes := (r6.f.frosts.getD (Int.toNat r3) Bz).changes } : Ap)
abbrev c20e2 : Nat × Obj := (1064,bx [.p (.sl .nil 0 0 (fun _ => [])),.p (.sl .nil 0 0 (fun _ => []))])
abbrev c20e3 (r6 : freezer) (r3 : Int) (p3 : Bool) := (Ca (Wr r6.f.frosts) (Int.toNat r3) [vi (r6.f.frosts.getD (Int.toNat r3) Bz).group,vb p3,vb (r6.f.frosts.getD (Int.toNat r3) Bz).frozen,vi (r6.f.frosts.getD (Int.toNat r3) Bz).changes])
abbrev c20e4 (r9 : freezer × Nat) : Nat × Obj := (1232,bx [.p (Bb r9.1.h.tree.nodes),pI r9.1.h.tree.next,.p (Bf r9.1.h.tasks),pI r9.1.h.next,ow 1233 r9.1.f.frosts.length,ow 1234 r9.2])
abbrev c20e5 : Nat × Obj := (1064,bx [ow 100000 0,ow 100001 0])
theorem Ts (p0 : Aa) (p1 : Ac) (p2 : Int) (p3 : Bool) (RES : Ac × Int) (hm : Nl p0 p1 p2 p3 = some RES) : Spec Tryz.prog 52 [.p (.agg (Ab p0)),.p (.agg (Az p1)),pI p2,pB p3] [] (.tup [.agg [ow 0 RES.1.frosts.length,ow 1 RES.1.stopped.length],pI RES.2]) [] [As RES.1.frosts,roI RES.1.stopped] := by
 unfold Nl at hm
 refine SO Tryz.func52 rfl rfl [(0,.p (.agg (Ab p0))),(1,.p (.agg (Az p1))),(2,pI p2),(3,pB p3)] [] ?_
 intro cx hnt
 refine Sq (RK hnt (nn 5 []) [(3,pB p3),(4,rr 1032),(5,rr 1040),(6,rr 1048),(8,rr 1064)] [(1032,bx (pm (Ab p0))),(1040,bx (pm (Az p1))),(1048,bx [pI p2]),(c20e2)] tv ?_)
 obtain ⟨r1,hr1,hm⟩ := bo hm
 refine Sq (Sq (RD hnt (nn 2 (o21 [] true r1 :: .no :: [])) [] [(15,pB (!r1))] [] [] (an (Xz p0 p1 r1 hr1) tv) ?_))
 refine Af hm ?_ ?_
 ·intro h2 hm
  refine Sq (RD hnt (nn 3 []) [3,4,5,6,15] [(9,pI 1)] [1032,1040,1048] [] tv ?_)
  refine DW.cv [] [] [] [(c20e5),(100000,ob0 (As [])),(100001,ob0 (roI []))] (Conv.ads [(.o 1064 0,100000,4,elems Ch Bz []),(.o 1064 1,100001,1,elems Bo 0 [])]) ?_
  obtain rfl := sj hm
  exact DW.ret (Ai [As [],roI []] [100000,100001] (.tup [.agg [ow 0 0,ow 1 0],pI 1]))
 ·intro h2 hm
  refine Sk ?_
  obtain ⟨r3,hr3,hm⟩ := bo hm
  refine Sq (RD hnt (nn 3 (.call 121 [1048] true (pI r3) [.box [pI p2]] [] [] :: .no :: [])) [15] [(10,pI r3)] [] [] (an (Nz p1.frosts p2 r3 hr3) (an tv tv)) ?_)
  refine Sq (Sq (RD hnt (nn 2 []) [] [(22,pB (decide (r3 < 0)))] [] [] tv ?_))
  refine Af hm ?_ ?_
  ·intro h4 hm
   refine Sq (RD hnt (nn 3 []) [3,4,5,6,10,22] [(9,pI 4)] [1032,1040,1048] [] tv ?_)
   refine DW.cv [] [] [] [(c20e5),(100000,ob0 (As [])),(100001,ob0 (roI []))] (Conv.ads [(.o 1064 0,100000,4,elems Ch Bz []),(.o 1064 1,100001,1,elems Bo 0 [])]) ?_
   obtain rfl := sj hm
   exact DW.ret (Ai [As [],roI []] [100000,100001] (.tup [.agg [ow 0 0,ow 1 0],pI 4]))
  ·intro h4 hm
   refine Sk ?_
   refine Sq (Sq (RD hnt (nn 2 []) [6,22] [(25,pB (p2 == 1))] [1048] [] tv ?_))
   refine Af hm ?_ ?_
   ·intro h5 hm
    refine Sq (RD hnt (nn 3 []) [3,4,5,10,25] [(9,pI 9)] [1032,1040] [] tv ?_)
    refine DW.cv [] [] [] [(c20e5),(100000,ob0 (As [])),(100001,ob0 (roI []))] (Conv.ads [(.o 1064 0,100000,4,elems Ch Bz []),(.o 1064 1,100001,1,elems Bo 0 [])]) ?_
    obtain rfl := sj hm
    exact DW.ret (Ai [As [],roI []] [100000,100001] (.tup [.agg [ow 0 0,ow 1 0],pI 9]))
   ·intro h5 hm
    refine Sk ?_
    obtain ⟨r6,hr6,hm⟩ := bo hm
    refine Sq (RD hnt (nn 2 (o35 [] true r6 :: .no :: [])) [4,5,25] [(11,rr 1232)] [1032,1040] [(1232,bx [.p (Bb r6.h.tree.nodes),pI r6.h.tree.next,.p (Bf r6.h.tasks),pI r6.h.next,ow 1233 r6.f.frosts.length,ow 1234 r6.f.stopped.length]),(1233,ob0 (As r6.f.frosts)),(1234,ob0 (roI r6.f.stopped))] (an (Zf p0 p1 r6 hr6) tv) ?_)
    obtain ⟨g7,g8,hm⟩ := go2 hm
    refine Sq (RN hnt (nn 10 []) [(8,rr 1064),(11,rr 1232)] [(c20e2),(1232,bx [.p (Bb r6.h.tree.nodes),pI r6.h.tree.next,.p (Bf r6.h.tasks),pI r6.h.next,ow 1233 (r6.f.frosts.set (Int.toNat r3) (AcF r6 r3 p3)).length,ow 1234 r6.f.stopped.length]),(1233,ob0 (As (r6.f.frosts.set (Int.toNat r3) (AcF r6 r3 p3)))),(1234,ob0 (roI r6.f.stopped))] [] [(1232,.box [.p (Bb r6.h.tree.nodes),pI r6.h.tree.next,.p (Bf r6.h.tasks),pI r6.h.next,ow 1233 r6.f.frosts.length,ow 1234 r6.f.stopped.length]),(1233,.row 4 r6.f.frosts.length (c20e3 r6 r3 p3))] (an g7.1 (an g7.2 (an g8 tv))) (by kernel_rfl) .nil (.cons rfl (.box (.cons .rfl (.cons .rfl (.cons .rfl (.cons .rfl (.cons (MLe.ownLen (enc := Ch) (d := Bz) (f := (c20e3 r6 r3 p3)) (RowIs.upd RowIs.elems (AcF r6 r3 p3) rfl)) (.cons .rfl .nil))))))) (.cons rfl (BLe.typed (RowIs.upd RowIs.elems (AcF r6 r3 p3) rfl)) .nil)) ?_)
    obtain ⟨r9,hr9,hm⟩ := bo hm
    obtain ⟨g10,g11,g12,hm⟩ := go3 hm
    refine Sq (RD hnt (.no :: o38 [1232,1233,1234] true r9 :: []) [] [] [] [(c20e4 r9),(1233,ob0 (As r9.1.f.frosts)),(1234,ob0 (roI r9.1.f.stopped))] (an (Xc ({ h := r6.h,f := ({ frosts := (r6.f.frosts.set (Int.toNat r3) (AcF r6 r3 p3)),stopped := r6.f.stopped } : Ac) } : freezer) r9 hr9) (an tv (an (⟨rfl,g10⟩ : Body.same (As (r6.f.frosts.set (Int.toNat r3) (AcF r6 r3 p3))) (As r9.1.f.frosts)) (an (⟨rfl,g11⟩ : Body.same (roI r6.f.stopped) (roI r9.1.f.stopped)) tv)))) ?_)
    refine Sq (DW.conv (τ := Aj [(8,rr 1064),(11,rr 1232)] [(c20e2),(1232,bx [.p (Bb r9.1.h.tree.nodes),pI r9.1.h.tree.next,.p (Bf r9.1.h.tasks),pI r9.1.h.next,ow 1233 r9.1.f.frosts.length,ow 1234 (r9.1.f.stopped.take r9.2).length]),(1233,ob0 (As r9.1.f.frosts)),(1234,ob0 (roI (r9.1.f.stopped.take r9.2)))]) (Conv.trans (τ := Aj [(8,rr 1064),(11,rr 1232)] [(c20e2),(c20e4 r9),(1233,ob0 (As r9.1.f.frosts)),(1234,ob0 (.row 1 r9.2 (elI r9.1.f.stopped)))]) (Conv.cut 1234 r9.2 (And.intro (show r9.2 ≤ r9.1.f.stopped.length by omega) (an (Nat.le_of_eq (Nat.zero_add r9.2)) tv))) (Conv.tp [] [(1232,.box [.p (Bb r9.1.h.tree.nodes),pI r9.1.h.tree.next,.p (Bf r9.1.h.tasks),pI r9.1.h.next,ow 1233 r9.1.f.frosts.length,ow 1234 r9.2]),(1234,.row 1 r9.2 (elI r9.1.f.stopped))] (by kernel_rfl) .nil (.cons rfl (.box (.cons .rfl (.cons .rfl (.cons .rfl (.cons .rfl (.cons .rfl (.cons (MLe.ownLen (enc := Bo) (d := 0) (f := (elI r9.1.f.stopped)) (RowIs.elems.take (by omega))) .nil))))))) (.cons rfl (BLe.typed (RowIs.elems.take (by omega))) .nil)))) ?_)
    obtain ⟨r13,hr13,hm⟩ := bo hm
    obtain ⟨g14,g15,hm⟩ := go2 hm
    refine RK hnt (.no :: o42 [1232,1233,1234] true r13 :: nn 2 []) [(8,rr 1064),(9,pI 0)] [(1064,bx [ow 1233 r13.2.f.frosts.length,ow 1234 r13.2.f.stopped.length]),(1233,ob0 (As r13.2.f.frosts)),(1234,ob0 (roI r13.2.f.stopped))] (an (Oz ({ h := r9.1.h,f := ({ frosts := r9.1.f.frosts,stopped := (r9.1.f.stopped.take r9.2) } : Ac) } : freezer) r13 hr13) (an tv (an (⟨rfl,g14⟩ : Body.same (As r9.1.f.frosts) (As r13.2.f.frosts)) (an (⟨rfl,g15⟩ : Body.same (roI (r9.1.f.stopped.take r9.2)) (roI r13.2.f.stopped)) tv)))) ?_
    obtain rfl := sj hm
    exact DW.ret (Ai [As r13.2.f.frosts,roI r13.2.f.stopped] [1233,1234] (.tup [.agg [ow 0 r13.2.f.frosts.length,ow 1 r13.2.f.stopped.length],pI 0]))
abbrev o20 (ks : List Nat) (b : Bool) (RES : Ac × Int) (sm : List Nat := []) : Orc := .call 52 ks b (.tup [.agg [ow 0 RES.1.frosts.length,ow 1 RES.1.stopped.length],pI RES.2]) [] [As RES.1.frosts,roI RES.1.stopped] sm

abbrev c46e1 (y3 : Int × Int) := (w64 (y3.2 + (w64 (((Bj (bs [0,1,2,2,3,3,3,3,4,4,4,4,4,4,4,4,5,5,5,5,5,5,5,5,5,5,5,5,5,5,5,5,6,6,6,6,6,6,6,6,6,6,6,6,6,6,6,6,6,6,6,6,6,6,6,6,6,6,6,6,6,6,6,6,7,7,7,7,7,7,7,7,7,7,7,7,7,7,7,7,7,7,7,7,7,7,7,7,7,7,7,7,7,7,7,7,7,7,7,7,7,7,7,7,7,7,7,7,7,7,7,7,7,7,7,7,7,7,7,7,7,7,7,7,7,7,7,7,8,8,8,8,8,8,8,8,8,8,8,8,8,8,8,8,8,8,8,8,8,8,8,8,8,8,8,8,8,8,8,8,8,8,8,8,8,8,8,8,8,8,8,8,8,8,8,8,8,8,8,8,8,8,8,8,8,8,8,8,8,8,8,8,8,8,8,8,8,8,8,8,8,8,8,8,8,8,8,8,8,8,8,8,8,8,8,8,8,8,8,8,8,8,8,8,8,8,8,8,8,8,8,8,8,8,8,8,8,8,8,8,8,8,8,8,8,8,8,8,8,8,8,8,8,8,8,8]) (Int.toNat (IntKind.u8.wrap y3.1))) : Nat) : Int))))
theorem Afa (p0 : Int) (RES : Int) (hm : AaH p0 = some RES) : Spec Tryz.prog 225 [.p (vk .u64 p0)] [] (pI RES) [] [] := by
 unfold AaH at hm
 refine SO Tryz.func225 rfl rfl [(0,.p (vk .u64 p0))] [] ?_
 intro cx hnt
 refine Sq (RD hnt (.no :: []) [] [(2,pI 0)] [] [] tv ?_)
 refine Sq (Sq (RD hnt (nn 2 []) [] [(4,pB (decide (p0 ≥ 4294967296)))] [] [] tv ?_))
 refine Jn (ι := Int × Int) (fun (y1 : Int × Int) => Aj [(0,.p (vk .u64 y1.1)),(2,pI y1.2)] []) (fun y1 => Tc y1 = some RES) ?_ ?_
 ·intro y1 hm
  unfold Tc at hm
  refine Sq (Sq (RD hnt (nn 2 []) [] [(8,pB (decide (y1.1 ≥ 65536)))] [] [] tv ?_))
  refine Jn (ι := Int × Int) (fun (y2 : Int × Int) => Aj [(0,.p (vk .u64 y2.1)),(2,pI y2.2)] []) (fun y2 => Sm y2 = some RES) ?_ ?_
  ·intro y2 hm
   unfold Sm at hm
   refine Sq (Sq (RD hnt (nn 2 []) [] [(14,pB (decide (y2.1 ≥ 256)))] [] [] tv ?_))
   refine Jn (ι := Int × Int) (fun (y3 : Int × Int) => Aj [(0,.p (vk .u64 y3.1)),(2,pI y3.2)] []) (fun y3 => Tf y3 = some RES) ?_ ?_
   ·intro y3 hm
    unfold Tf at hm
    obtain ⟨g4,hm⟩ := go1 hm
    refine Sq (RK hnt (nn 7 []) [(2,pI (c46e1 y3))] [] (an g4.1 (an g4.2 tv)) ?_)
    obtain rfl := sj hm
    exact DW.ret (Ai [] [] (pI (c46e1 y3)))
   ·refine Af hm ?_ ?_
    ·intro h3 hm
     refine Sq (RK hnt (nn 3 []) [(0,.p (vk .u64 (kshr .u64 y2.1 8))),(2,pI y2.2)] [] (an (by decide : (0 : Int) ≤ 8) tv) ?_)
     refine RD hnt (nn 3 []) [] [(2,pI (w64 (y2.2 + 8)))] [] [] tv ?_
     exact jD ((kshr .u64 y2.1 8),(w64 (y2.2 + 8))) hm Conv.eqK
    ·intro h3 hm
     refine Sk ?_
     exact jD (y2.1,y2.2) hm Conv.t0
  ·refine Af hm ?_ ?_
   ·intro h2 hm
    refine Sq (RK hnt (nn 3 []) [(0,.p (vk .u64 (kshr .u64 y1.1 16))),(2,pI y1.2)] [] (an (by decide : (0 : Int) ≤ 16) tv) ?_)
    refine RD hnt (nn 3 []) [] [(2,pI (w64 (y1.2 + 16)))] [] [] tv ?_
    exact jD ((kshr .u64 y1.1 16),(w64 (y1.2 + 16))) hm Conv.eqK
   ·intro h2 hm
    refine Sk ?_
    exact jD (y1.1,y1.2) hm Conv.t0
 ·refine Af hm ?_ ?_
  ·intro h1 hm
   refine Sq (RK hnt (nn 3 []) [(0,.p (vk .u64 (kshr .u64 p0 32)))] [] (an (by decide : (0 : Int) ≤ 32) tv) ?_)
   refine RD hnt (.no :: []) [] [(2,pI 32)] [] [] tv ?_
   exact jD ((kshr .u64 p0 32),32) hm Conv.eqK
  ·intro h1 hm
   refine Sk ?_
   exact jD (p0,0) hm Conv.t0
abbrev o46 (ks : List Nat) (b : Bool) (RES : Int) (sm : List Nat := []) : Orc := .call 225 ks b (pI RES) [] [] sm

theorem AbE (p0 : Int) (RES : Int) (hm : Rt p0 = some RES) : Spec Tryz.prog 182 [.p (vk .u64 p0)] [] (pI RES) [] [] := by
 unfold Rt at hm
 refine SO Tryz.func182 rfl rfl [(0,.p (vk .u64 p0))] [] ?_
 intro cx hnt
 refine Sq (RD hnt (.no :: []) [] [] [] [] tv ?_)
 refine Sq (condF ff ?_)
 refine Sk ?_
 obtain ⟨r1,hr1,hm⟩ := bo hm
 refine Sq (RK hnt (.no :: o46 [] true r1 :: .no :: []) [(2,pI r1)] [] (an (Afa p0 r1 hr1) tv) ?_)
 obtain rfl := sj hm
 exact DW.ret (Ai [] [] (pI r1))
abbrev o45 (ks : List Nat) (b : Bool) (RES : Int) (sm : List Nat := []) : Orc := .call 182 ks b (pI RES) [] [] sm

theorem Jy (p0 : Int) (RES : Bool) (hm : Of p0 = some RES) : Spec Tryz.prog 247 [pI p0] [] (pB RES) [] [] := by
 unfold Of at hm
 refine SO Tryz.func247 rfl rfl [(0,pI p0)] [] ?_
 intro cx hnt
 refine Sq (RK hnt (.no :: []) [(0,pI p0)] [] tv ?_)
 refine Sq (RK hnt (nn 4 []) [(2,pB (p0 != p0))] [] tv ?_)
 obtain rfl := sj hm
 exact DW.ret (Ai [] [] (pB (p0 != p0)))
abbrev o50 (ks : List Nat) (b : Bool) (RES : Bool) (sm : List Nat := []) : Orc := .call 247 ks b (pB RES) [] [] sm

theorem Cl (p0 : Int) (p1 : Int) (RES : Bool) (hm : Cs p0 p1 = some RES) : Spec Tryz.prog 221 [pI p0,pI p1] [] (pB RES) [] [] := by
 unfold Cs at hm
 refine SO Tryz.func221 rfl rfl [(0,pI p0),(1,pI p1)] [] ?_
 intro cx hnt
 refine Sq (RD hnt (.no :: []) [] [] [] [] tv ?_)
 obtain ⟨r1,hr1,hm⟩ := bo hm
 refine Sq ?_
 refine Jn (ι := Bool) (fun (y1 : Bool) => Aj [(4,pB y1)] []) (fun y1 => Km y1 = some RES) ?_ ?_
 ·intro y1 hm
  unfold Km at hm
  obtain rfl := sj hm
  exact DW.ret (Ai [] [] (pB y1))
 ·rcases bt r1 with h2 | h2
  ·replace hm := Bd h2 hm
   obtain ⟨r3,hr3,hm⟩ := bo hm
   rcases bt (!r3) with h4 | h4
   ·replace hm := Bd h4 hm
    refine RK hnt (.no :: o50 [] true r1 :: nn 2 (o50 [] true r3 :: .no :: pT :: .no :: sk 3 (pT :: .no :: []))) [(4,pB true)] [] (an (Jy p0 r1 hr1) (an2 h2 (an (Jy p1 r3 hr3) (an2 h2 (an4 h4 tv))))) ?_
    exact jD true hm .refl
   ·replace hm := Be h4 hm
    refine RK hnt (.no :: o50 [] true r1 :: nn 2 (o50 [] true r3 :: .no :: pT :: nn 4 (pF :: .no :: []))) [(4,pB (decide (p0 < p1)))] [] (an (Jy p0 r1 hr1) (an2 h2 (an (Jy p1 r3 hr3) (an2 h2 (an4 h4 tv))))) ?_
    exact jD (decide (p0 < p1)) hm .refl
  ·replace hm := Be h2 hm
   refine RK hnt (.no :: o50 [] true r1 :: .no :: sk 3 (pF :: nn 4 (pF :: .no :: []))) [(4,pB (decide (p0 < p1)))] [] (an (Jy p0 r1 hr1) (an4 h2 (an4 ff tv))) ?_
   exact jD (decide (p0 < p1)) hm .refl
abbrev o49 (ks : List Nat) (b : Bool) (RES : Bool) (sm : List Nat := []) : Orc := .call 221 ks b (pB RES) [] [] sm

abbrev AcJ (s4 : (List Int) × Int) := (s4.1.getD (Int.toNat (w64 (s4.2 - 1))) 0)
abbrev c48e2 (s4 : (List Int) × Int) := (Ca (Ca (elI s4.1) (Int.toNat s4.2) [vi (AcJ s4)]) (Int.toNat (w64 (s4.2 - 1))) (setRange ((Ca (elI s4.1) (Int.toNat s4.2) [vi (AcJ s4)]) (Int.toNat (w64 (s4.2 - 1)))) 0 [vi (s4.1.getD (Int.toNat s4.2) 0)]))
abbrev c48e3 (s4 : (List Int) × Int) := ((s4.1.set (Int.toNat s4.2) (AcJ s4)).set (Int.toNat (w64 (s4.2 - 1))) (s4.1.getD (Int.toNat s4.2) 0))
theorem Ql (p0 : List Int) (p1 : Int) (p2 : Int) (RES : List Int) (hm : Dx p0 p1 p2 = some RES) : Spec Tryz.prog 215 [ow 0 p0.length,pI p1,pI p2] [roI p0] (.p (.tup [])) [roI RES] [] := by
 unfold Dx at hm
 refine SO Tryz.func215 rfl rfl [(0,ow 0 p0.length),(1,pI p1),(2,pI p2)] [(0,ob0 (roI p0))] ?_
 intro cx hnt
 refine Sq (RD hnt (nn 3 []) [] [(6,pI (w64 (p1 + 1)))] [] [] tv ?_)
 refine Bk ?_
 obtain ⟨hc1,hm⟩ := go1 hm
 refine DW.forO (fun (k1 : Int) (s1 : List Int) => Aj [(0,ow 0 s1.length),(1,pI p1),(2,pI p2),(6,pI k1)] [(0,ob0 (roI s1))]) (lo := (w64 (p1 + 1))) (hi := p2) hm Conv.eqK ?_
 intro k1 s1 n1 hk1 hs1 he1
 refine Sq (Sq (RD hnt (nn 3 []) [] [(12,pB (decide (k1 < p2)))] [] [] tv ?_))
 refine Cj (decide (k1 < p2)) ?_ ?_
 ·intro h75
  have hlt1 : k1 < p2 := by have := of_decide_eq_true h75; omega
  have hm := hs1 hlt1
  unfold Hd at hm
  refine Sk ?_
  refine Sq (Bk ?_)
  refine Sq (RD hnt (nn 2 []) [12] [(7,pI k1)] [] [] tv ?_)
  refine Bk ?_
  refine DW.whileO (fun (s4 : (List Int) × Int) => Aj [(0,ow 0 s4.1.length),(1,pI p1),(2,pI p2),(6,pI k1),(7,pI s4.2)] [(0,ob0 (roI s4.1))]) hm Conv.eqK ?_
  intro s4 n4 hm
  unfold Hf at hm
  refine Sq (Sq ?_)
  refine Jn (ι := Bool) (fun (y6 : Bool) => Aj [(0,ow 0 s4.1.length),(1,pI p1),(2,pI p2),(6,pI k1),(7,pI s4.2),(30,pB y6)] [(0,ob0 (roI s4.1))]) (fun y6 => (Df n1 s4 n4) y6 = some RES) ?_ ?_
  ·intro y6 hm
   unfold Df at hm
   refine Af hm ?_ ?_
   ·intro h97 hm
    refine Sk ?_
    refine Sq (Bk ?_)
    obtain ⟨g98,g99,g100,g101,hm⟩ := go4 hm
    obtain ⟨g102,g103,g104,g105,hm⟩ := go4 hm
    refine RN hnt (nn 18 []) [(0,ow 0 (c48e3 s4).length),(1,pI p1),(2,pI p2),(6,pI k1),(7,pI s4.2)] [(0,ob0 (roI (c48e3 s4)))] [(0,ow 0 s4.1.length)] [(0,.row 1 s4.1.length (c48e2 s4))] (an g98.1 (an g98.2 (an g99 (an g100.1 (an g100.2 (an g101 (an g102.1 (an g102.2 (an g103 (an g104.1 (an g104.2 (an g105 tv)))))))))))) (by kernel_rfl) (.cons rfl (MLe.ownLen (enc := Bo) (d := 0) (f := (c48e2 s4)) (RowIs.updR (RowIs.upd RowIs.elems (AcJ s4) rfl) (by omega) (s4.1.getD (Int.toNat s4.2) 0) rfl)) .nil) (.cons rfl (BLe.typed (RowIs.updR (RowIs.upd RowIs.elems (AcJ s4) rfl) (by omega) (s4.1.getD (Int.toNat s4.2) 0) rfl)) .nil) ?_
    refine DW.done ?_
    show DW _ _ _ _ _
    refine RD hnt (nn 3 []) [] [(7,pI (w64 (s4.2 - 1)))] [] [] tv ?_
    exact jD ((c48e3 s4),(w64 (s4.2 - 1))) hm Conv.eqK
   ·intro h97 hm
    refine DW.exit ?_
    refine An ?_
    refine Aw ?_
    refine Ak ?_
    show DW _ _ _ _ _
    refine DW.done ?_
    show DW _ _ _ _ _
    refine RD hnt (nn 3 []) [7,30] [(6,pI (w64 (k1 + 1)))] [] [] tv ?_
    exact jD s4.1 ⟨hlt1,hm⟩ (Conv.tp [(6,pI (w64 (k1 + 1)))] [] (by kernel_rfl) (.cons rfl (.of_eq (congrArg pI (To (lo := (w64 (p1 + 1))) (hi := p2) (by omega) hk1 hlt1 (by omega)))) .nil) .nil)
  ·rcases bt (decide (s4.2 > p1)) with h91 | h91
   ·replace hm := Bd h91 hm
    obtain ⟨g92,g93,g94,g95,hm⟩ := go4 hm
    obtain ⟨r96,hr96,hm⟩ := bo hm
    refine RD hnt (nn 13 (o49 [] true r96 :: pT :: [])) [] [(30,pB r96)] [] [] (an3 h91 (an g92.1 (an g92.2 (an h91 (an g93 (an4 h91 (an g94.1 (an g94.2 (an h91 (an g95 (an h91 (an (Cl (s4.1.getD (Int.toNat s4.2) 0) (AcJ s4) r96 hr96) (an h91 tv))))))))))))) ?_
    exact jD r96 hm Conv.eqK
   ·replace hm := Be h91 hm
    refine RD hnt (nn 4 (sk 10 (pF :: []))) [] [(30,pB false)] [] [] (an5 h91 (an6 h91 tv)) ?_
    exact jD false hm Conv.eqK
 ·intro h75
  have hge1 : ¬ k1 < p2 := by have := of_decide_eq_false h75; omega
  have hm := he1 hge1
  unfold Kj at hm
  refine DW.exit ?_
  refine An ?_
  refine Aw ?_
  refine Ak ?_
  show DW _ _ _ _ _
  refine DW.done ?_
  obtain rfl := sj hm
  exact endK [roI s1] [] (.p (.tup []))
abbrev o48 (ks : List Nat) (b : Bool) (RES : List Int) (sm : List Nat := []) : Orc := .call 215 ks b (.p (.tup [])) [roI RES] [] sm

abbrev c52e1 (s1 : (List Int) × Int) (p3 : Int) (y4 : Int) := (Ca (Ca (elI s1.1) (Int.toNat (w64 (p3 + s1.2))) [vi (s1.1.getD (Int.toNat (w64 (p3 + y4))) 0)]) (Int.toNat (w64 (p3 + y4))) (setRange ((Ca (elI s1.1) (Int.toNat (w64 (p3 + s1.2))) [vi (s1.1.getD (Int.toNat (w64 (p3 + y4))) 0)]) (Int.toNat (w64 (p3 + y4)))) 0 [vi (s1.1.getD (Int.toNat (w64 (p3 + s1.2))) 0)]))
abbrev c52e2 (s1 : (List Int) × Int) (p3 : Int) (y4 : Int) := ((s1.1.set (Int.toNat (w64 (p3 + s1.2))) (s1.1.getD (Int.toNat (w64 (p3 + y4))) 0)).set (Int.toNat (w64 (p3 + y4))) (s1.1.getD (Int.toNat (w64 (p3 + s1.2))) 0))
abbrev We (s1 : (List Int) × Int) := (w64 ((w64 (2 * s1.2)) + 1))
theorem Lx (p0 : List Int) (p1 : Int) (p2 : Int) (p3 : Int) (RES : List Int) (hm : Ea p0 p1 p2 p3 = some RES) : Spec Tryz.prog 242 [ow 0 p0.length,pI p1,pI p2,pI p3] [roI p0] (.p (.tup [])) [roI RES] [] := by
 unfold Ea at hm
 refine SO Tryz.func242 rfl rfl [(0,ow 0 p0.length),(1,pI p1),(2,pI p2),(3,pI p3)] [(0,ob0 (roI p0))] ?_
 intro cx hnt
 refine Sq (RD hnt (nn 2 []) [1] [(8,pI p1)] [] [] tv ?_)
 refine Bk ?_
 refine DW.whileO (fun (s1 : (List Int) × Int) => Aj [(0,ow 0 s1.1.length),(2,pI p2),(3,pI p3),(8,pI s1.2)] [(0,ob0 (roI s1.1))]) hm Conv.eqK ?_
 intro s1 n1 hm
 unfold Is at hm
 refine Bk ?_
 refine Sq (RD hnt (nn 4 []) [] [(9,pI (We s1))] [] [] tv ?_)
 refine Sq (Sq (RD hnt (nn 3 []) [] [(16,pB (decide ((We s1) ≥ p2)))] [] [] tv ?_))
 refine Af hm ?_ ?_
 ·intro h23 hm
  refine DW.exit ?_
  refine Ml (by decide) ?_
  refine Aw ?_
  refine An ?_
  refine Aw ?_
  refine Ak ?_
  show DW _ _ _ _ _
  refine DW.done ?_
  obtain rfl := sj hm
  exact endK [roI s1.1] [] (.p (.tup []))
 ·intro h23 hm
  refine Sk ?_
  refine Sq (Sq ?_)
  refine Jn (ι := Bool) (fun (y3 : Bool) => Aj [(0,ow 0 s1.1.length),(2,pI p2),(3,pI p3),(8,pI s1.2),(9,pI (We s1)),(36,pB y3)] [(0,ob0 (roI s1.1))]) (fun y3 => (Ex p3 s1 n1) y3 = some RES) ?_ ?_
  ·intro y3 hm
   unfold Ex at hm
   refine Jn (ι := Int) (fun (y4 : Int) => Aj [(0,ow 0 s1.1.length),(2,pI p2),(3,pI p3),(8,pI s1.2),(9,pI y4)] [(0,ob0 (roI s1.1))]) (fun y4 => (Dh p3 s1 n1) y4 = some RES) ?_ ?_
   ·intro y4 hm
    unfold Dh at hm
    obtain ⟨g31,g32,g33,g34,hm⟩ := go4 hm
    obtain ⟨r35,hr35,hm⟩ := bo hm
    refine Sq (Sq (RD hnt (nn 12 (o49 [] true r35 :: .no :: [])) [] [(52,pB (!r35))] [] [] (an g31.1 (an g31.2 (an g32 (an g33.1 (an g33.2 (an g34 (an (Cl (s1.1.getD (Int.toNat (w64 (p3 + s1.2))) 0) (s1.1.getD (Int.toNat (w64 (p3 + y4))) 0) r35 hr35) tv))))))) ?_))
    refine Af hm ?_ ?_
    ·intro h36 hm
     obtain rfl := sj hm
     exact DW.ret (Ai [roI s1.1] [] (.p (.tup [])))
    ·intro h36 hm
     refine Sk ?_
     obtain ⟨g37,g38,g39,g40,hm⟩ := go4 hm
     obtain ⟨g41,g42,g43,g44,hm⟩ := go4 hm
     refine Sq (RN hnt (nn 24 []) [(0,ow 0 (c52e2 s1 p3 y4).length),(2,pI p2),(3,pI p3),(9,pI y4)] [(0,ob0 (roI (c52e2 s1 p3 y4)))] [(0,ow 0 s1.1.length)] [(0,.row 1 s1.1.length (c52e1 s1 p3 y4))] (an g37.1 (an g37.2 (an g38 (an g39.1 (an g39.2 (an g40 (an g41.1 (an g41.2 (an g42 (an g43.1 (an g43.2 (an g44 tv)))))))))))) (by kernel_rfl) (.cons rfl (MLe.ownLen (enc := Bo) (d := 0) (f := (c52e1 s1 p3 y4)) (RowIs.updR (RowIs.upd RowIs.elems (s1.1.getD (Int.toNat (w64 (p3 + y4))) 0) rfl) (by omega) (s1.1.getD (Int.toNat (w64 (p3 + s1.2))) 0) rfl)) .nil) (.cons rfl (BLe.typed (RowIs.updR (RowIs.upd RowIs.elems (s1.1.getD (Int.toNat (w64 (p3 + y4))) 0) rfl) (by omega) (s1.1.getD (Int.toNat (w64 (p3 + s1.2))) 0) rfl)) .nil) ?_)
     refine RD hnt (nn 2 []) [9] [(8,pI y4)] [] [] tv ?_
     refine DW.done ?_
     show DW _ _ _ _ _
     exact jD ((c52e2 s1 p3 y4),y4) hm Conv.eqK
   ·refine Af hm ?_ ?_
    ·intro h30 hm
     refine RD hnt (nn 3 []) [36] [(9,pI (w64 ((We s1) + 1)))] [] [] tv ?_
     exact jD (w64 ((We s1) + 1)) hm Conv.eqK
    ·intro h30 hm
     refine Sk ?_
     exact jD (We s1) hm Conv.t0
  ·rcases bt (decide ((w64 ((We s1) + 1)) < p2)) with h24 | h24
   ·replace hm := Bd h24 hm
    obtain ⟨g25,g26,g27,g28,hm⟩ := go4 hm
    obtain ⟨r29,hr29,hm⟩ := bo hm
    refine RD hnt (nn 18 (o49 [] true r29 :: pT :: [])) [16] [(36,pB r29)] [] [] (an5 h24 (an g25.1 (an g25.2 (an h24 (an g26 (an6 h24 (an g27.1 (an g27.2 (an h24 (an g28 (an h24 (an (Cl (s1.1.getD (Int.toNat (w64 (p3 + (We s1)))) 0) (s1.1.getD (Int.toNat (w64 ((w64 (p3 + (We s1))) + 1))) 0) r29 hr29) (an h24 tv))))))))))))) ?_
    exact jD r29 hm Conv.eqK
   ·replace hm := Be h24 hm
    refine RD hnt (nn 5 (sk 14 (pF :: []))) [16] [(36,pB false)] [] [] (an3 h24 (an6 h24 (an6 h24 tv))) ?_
    exact jD false hm Conv.eqK
abbrev o52 (ks : List Nat) (b : Bool) (RES : List Int) (sm : List Nat := []) : Orc := .call 242 ks b (.p (.tup [])) [roI RES] [] sm

abbrev c51e1 (s3 : (List Int) × Int) (p1 : Int) := ((s3.1.set (Int.toNat p1) (s3.1.getD (Int.toNat (w64 (p1 + s3.2))) 0)).set (Int.toNat (w64 (p1 + s3.2))) (s3.1.getD (Int.toNat p1) 0))
abbrev c51e2 (s3 : (List Int) × Int) (p1 : Int) := (Ca (Ca (elI s3.1) (Int.toNat p1) [vi (s3.1.getD (Int.toNat (w64 (p1 + s3.2))) 0)]) (Int.toNat (w64 (p1 + s3.2))) (setRange ((Ca (elI s3.1) (Int.toNat p1) [vi (s3.1.getD (Int.toNat (w64 (p1 + s3.2))) 0)]) (Int.toNat (w64 (p1 + s3.2)))) 0 [vi (s3.1.getD (Int.toNat p1) 0)]))
theorem Sp (p0 : List Int) (p1 : Int) (p2 : Int) (RES : List Int) (hm : Fp p0 p1 p2 = some RES) : Spec Tryz.prog 216 [ow 0 p0.length,pI p1,pI p2] [roI p0] (.p (.tup [])) [roI RES] [] := by
 unfold Fp at hm
 refine SO Tryz.func216 rfl rfl [(0,ow 0 p0.length),(1,pI p1),(2,pI p2)] [(0,ob0 (roI p0))] ?_
 intro cx hnt
 refine Sq (RD hnt (nn 2 []) [] [(6,pI p1)] [] [] tv ?_)
 refine Sq (RD hnt (.no :: []) [] [(7,pI 0)] [] [] tv ?_)
 refine Sq (RD hnt (nn 4 []) [1,2] [(8,pI (w64 (p2 - p1)))] [] [] tv ?_)
 refine Sq (Sq (RD hnt (nn 4 []) [] [(9,pI (w64 (Int.tdiv (w64 ((w64 (p2 - p1)) - 1)) 2)))] [] [] (an (by decide : (2 : Int) ≠ 0) tv) ?_))
 refine Bk ?_
 refine DW.whileO (fun (s1 : (List Int) × Int) => Aj [(0,ow 0 s1.1.length),(6,pI p1),(7,pI 0),(8,pI (w64 (p2 - p1))),(9,pI s1.2)] [(0,ob0 (roI s1.1))]) hm Conv.eqK ?_
 intro s1 n1 hm
 unfold Iw at hm
 refine Sq (Sq (RD hnt (nn 2 []) [] [(19,pB (decide (s1.2 ≥ 0)))] [] [] tv ?_))
 refine Af hm ?_ ?_
 ·intro h26 hm
  refine Sk ?_
  refine Sq (Bk ?_)
  obtain ⟨r27,hr27,hm⟩ := bo hm
  obtain ⟨g28,hm⟩ := go1 hm
  refine RN hnt (nn 4 (o52 [0] true r27 :: [])) [(0,ow 0 r27.length),(6,pI p1),(7,pI 0),(8,pI (w64 (p2 - p1))),(9,pI s1.2)] [(0,ob0 (roI r27))] [(0,ow 0 s1.1.length)] [] (an (Lx s1.1 s1.2 (w64 (p2 - p1)) p1 r27 hr27) (an (⟨rfl,g28⟩ : Body.same (roI s1.1) (roI r27)) tv)) (by kernel_rfl) (.cons rfl (MLe.of_eq (congrArg (MV.own 0 0 0) g28)) .nil) .nil ?_
  refine DW.done ?_
  show DW _ _ _ _ _
  refine RD hnt (nn 3 []) [] [(9,pI (w64 (s1.2 - 1)))] [] [] tv ?_
  exact jD (r27,(w64 (s1.2 - 1))) hm Conv.eqK
 ·intro h26 hm
  refine DW.exit ?_
  refine An ?_
  refine Aw ?_
  refine Ak ?_
  show DW _ _ _ _ _
  refine Sq (RD hnt (nn 3 []) [8,9,19] [(10,pI (w64 ((w64 (p2 - p1)) - 1)))] [] [] tv ?_)
  refine Bk ?_
  refine DW.whileO (fun (s3 : (List Int) × Int) => Aj [(0,ow 0 s3.1.length),(6,pI p1),(7,pI 0),(10,pI s3.2)] [(0,ob0 (roI s3.1))]) hm Conv.eqK ?_
  intro s3 n3 hm
  unfold Iu at hm
  refine Sq (Sq (RD hnt (nn 2 []) [] [(30,pB (decide (s3.2 ≥ 0)))] [] [] tv ?_))
  refine Af hm ?_ ?_
  ·intro h40 hm
   refine Sk ?_
   refine Sq (Bk ?_)
   obtain ⟨g41,g42,g43,g44,hm⟩ := go4 hm
   obtain ⟨g45,g46,g47,g48,hm⟩ := go4 hm
   refine Sq (RN hnt (nn 20 []) [(0,ow 0 (c51e1 s3 p1).length),(6,pI p1),(7,pI 0),(10,pI s3.2)] [(0,ob0 (roI (c51e1 s3 p1)))] [(0,ow 0 s3.1.length)] [(0,.row 1 s3.1.length (c51e2 s3 p1))] (an g41.1 (an g41.2 (an g42 (an g43.1 (an g43.2 (an g44 (an g45.1 (an g45.2 (an g46 (an g47.1 (an g47.2 (an g48 tv)))))))))))) (by kernel_rfl) (.cons rfl (MLe.ownLen (enc := Bo) (d := 0) (f := (c51e2 s3 p1)) (RowIs.updR (RowIs.upd RowIs.elems (s3.1.getD (Int.toNat (w64 (p1 + s3.2))) 0) rfl) (by omega) (s3.1.getD (Int.toNat p1) 0) rfl)) .nil) (.cons rfl (BLe.typed (RowIs.updR (RowIs.upd RowIs.elems (s3.1.getD (Int.toNat (w64 (p1 + s3.2))) 0) rfl) (by omega) (s3.1.getD (Int.toNat p1) 0) rfl)) .nil) ?_)
   obtain ⟨r49,hr49,hm⟩ := bo hm
   obtain ⟨g50,hm⟩ := go1 hm
   refine RN hnt (nn 4 (o52 [0] true r49 :: [])) [(0,ow 0 r49.length),(6,pI p1),(7,pI 0),(10,pI s3.2)] [(0,ob0 (roI r49))] [(0,ow 0 (c51e1 s3 p1).length)] [] (an (Lx (c51e1 s3 p1) 0 s3.2 p1 r49 hr49) (an (⟨rfl,g50⟩ : Body.same (roI (c51e1 s3 p1)) (roI r49)) tv)) (by kernel_rfl) (.cons rfl (MLe.of_eq (congrArg (MV.own 0 0 0) g50)) .nil) .nil ?_
   refine DW.done ?_
   show DW _ _ _ _ _
   refine RD hnt (nn 3 []) [] [(10,pI (w64 (s3.2 - 1)))] [] [] tv ?_
   exact jD (r49,(w64 (s3.2 - 1))) hm Conv.eqK
  ·intro h40 hm
   refine DW.exit ?_
   refine An ?_
   refine Aw ?_
   refine Ak ?_
   show DW _ _ _ _ _
   refine DW.done ?_
   obtain rfl := sj hm
   exact endK [roI s3.1] [] (.p (.tup []))
abbrev o51 (ks : List Nat) (b : Bool) (RES : List Int) (sm : List Nat := []) : Orc := .call 216 ks b (.p (.tup [])) [roI RES] [] sm

theorem Im (p0 : List Int) (p1 : Int) (p2 : Int) (p3 : Int) (RES : Int × Int × Int) (hm : Dn p0 p1 p2 p3 = some RES) : Spec Tryz.prog 251 [.p (slI p0),pI p1,pI p2,rr 0] [.box [pI p3]] (.p (.tup [vi RES.1,vi RES.2.1])) [.box [pI RES.2.2]] [] := by
 unfold Dn at hm
 refine SO Tryz.func251 rfl rfl [(0,.p (slI p0)),(1,pI p1),(2,pI p2),(3,rr 0)] [(0,bx [pI p3])] ?_
 intro cx hnt
 refine Sq (RD hnt (nn 2 []) [] [] [] [] tv ?_)
 obtain ⟨g1,g2,hm⟩ := go2 hm
 obtain ⟨r3,hr3,hm⟩ := bo hm
 refine Sq (Sq (RD hnt (nn 8 (o49 [] true r3 :: [])) [0] [(18,pB r3)] [] [] (an g1.1 (an g1.2 (an g2.1 (an g2.2 (an (Cl (p0.getD (Int.toNat p2) 0) (p0.getD (Int.toNat p1) 0) r3 hr3) tv))))) ?_))
 refine Af hm ?_ ?_
 ·intro h4 hm
  refine Sq (RD hnt (nn 6 []) [3,18] [] [] [(0,bx [pI (w64 (p3 + 1))])] tv ?_)
  refine Sq (RD hnt (nn 4 []) [1,2] [(8,pI p2),(9,pI p1)] [] [] tv ?_)
  obtain rfl := sj hm
  exact DW.ret (Ai [.box [pI (w64 (p3 + 1))]] [] (.p (.tup [vi p2,vi p1])))
 ·intro h4 hm
  refine Sk ?_
  refine Sq (RK hnt (nn 4 []) [(8,pI p1),(9,pI p2)] [(0,bx [pI p3])] tv ?_)
  obtain rfl := sj hm
  exact DW.ret (Ai [.box [pI p3]] [] (.p (.tup [vi p1,vi p2])))
abbrev o56 (ks : List Nat) (b : Bool) (RES : Int × Int × Int) (sm : List Nat := []) : Orc := .call 251 ks b (.p (.tup [vi RES.1,vi RES.2.1])) [.box [pI RES.2.2]] [] sm

theorem Ms (p0 : List Int) (p1 : Int) (p2 : Int) (p3 : Int) (p4 : Int) (RES : Int × Int) (hm : Ew p0 p1 p2 p3 p4 = some RES) : Spec Tryz.prog 246 [.p (slI p0),pI p1,pI p2,pI p3,rr 0] [.box [pI p4]] (pI RES.1) [.box [pI RES.2]] [] := by
 unfold Ew at hm
 refine SO Tryz.func246 rfl rfl [(0,.p (slI p0)),(1,pI p1),(2,pI p2),(3,pI p3),(4,rr 0)] [(0,bx [pI p4])] ?_
 intro cx hnt
 refine Sq (RD hnt (.no :: []) [] [] [] [] tv ?_)
 obtain ⟨r1,hr1,hm⟩ := bo hm
 refine Sq (RD hnt (nn 4 (o56 [0] true r1 :: nn 5 [])) [] [(1,pI r1.1),(2,pI r1.2.1)] [] [(0,bx [pI r1.2.2])] (an (Im p0 p1 p2 p4 r1 hr1) (an tv tv)) ?_)
 obtain ⟨r2,hr2,hm⟩ := bo hm
 refine Sq (RD hnt (nn 4 (o56 [0] true r2 :: nn 5 [])) [3] [(2,pI r2.1)] [] [(0,bx [pI r2.2.2])] (an (Im p0 r1.2.1 p3 r1.2.2 r2 hr2) (an tv tv)) ?_)
 obtain ⟨r3,hr3,hm⟩ := bo hm
 refine Sq (RK hnt (nn 4 (o56 [0] true r3 :: nn 5 [])) [(2,pI r3.2.1)] [(0,bx [pI r3.2.2])] (an (Im p0 r1.1 r2.1 r2.2.2 r3 hr3) (an tv tv)) ?_)
 refine Sq (RD hnt (nn 2 []) [2] [(10,pI r3.2.1)] [] [] tv ?_)
 obtain rfl := sj hm
 exact DW.ret (Ai [.box [pI r3.2.2]] [] (pI r3.2.1))
abbrev o55 (ks : List Nat) (b : Bool) (RES : Int × Int) (sm : List Nat := []) : Orc := .call 246 ks b (pI RES.1) [.box [pI RES.2]] [] sm

theorem Gk (p0 : List Int) (p1 : Int) (p2 : Int) (RES : Int × Int) (hm : Ci p0 p1 p2 = some RES) : Spec Tryz.prog 245 [.p (slI p0),pI p1,rr 0] [.box [pI p2]] (pI RES.1) [.box [pI RES.2]] [] := by
 unfold Ci at hm
 refine SO Tryz.func245 rfl rfl [(0,.p (slI p0)),(1,pI p1),(2,rr 0)] [(0,bx [pI p2])] ?_
 intro cx hnt
 refine Sq (RD hnt (.no :: []) [] [] [] [] tv ?_)
 obtain ⟨r1,hr1,hm⟩ := bo hm
 refine Sq (RK hnt (nn 7 (o55 [0] true r1 :: .no :: [])) [(6,pI r1.1)] [(0,bx [pI r1.2])] (an (Ms p0 (w64 (p1 - 1)) p1 (w64 (p1 + 1)) p2 r1 hr1) (an tv tv)) ?_)
 obtain rfl := sj hm
 exact DW.ret (Ai [.box [pI r1.2]] [] (pI r1.1))
abbrev o54 (ks : List Nat) (b : Bool) (RES : Int × Int) (sm : List Nat := []) : Orc := .call 245 ks b (pI RES.1) [.box [pI RES.2]] [] sm

abbrev Zk (p2 : Int) (p1 : Int) := (w64 (Int.tdiv (w64 (p2 - p1)) 4))
abbrev c53e2 (p1 : Int) (p2 : Int) := (w64 (p1 + (w64 ((Zk p2 p1) * 2))))
theorem Qx (p0 : List Int) (p1 : Int) (p2 : Int) (RES : Int × Int) (hm : Er p0 p1 p2 = some RES) : Spec Tryz.prog 218 [.p (slI p0),pI p1,pI p2] [] (.p (.tup [vi RES.1,vi RES.2])) [] [] := by
 unfold Er at hm
 refine SO Tryz.func218 rfl rfl [(0,.p (slI p0)),(1,pI p1),(2,pI p2)] [] ?_
 intro cx hnt
 refine Sq (RD hnt (nn 2 []) [] [] [] [] tv ?_)
 refine Sq (RD hnt (nn 4 []) [2] [(8,pI (w64 (p2 - p1)))] [] [] tv ?_)
 refine Sq (RD hnt (.no :: []) [] [(9,rr 1072)] [] [(1072,bx [pI 0])] tv ?_)
 refine Sq (RD hnt (nn 6 []) [] [(10,pI (w64 (p1 + (w64 ((Zk p2 p1) * 1)))))] [] [] (an (by decide : (4 : Int) ≠ 0) tv) ?_)
 refine Sq (RD hnt (nn 6 []) [] [(11,pI (c53e2 p1 p2))] [] [] (an (by decide : (4 : Int) ≠ 0) tv) ?_)
 refine Sq (RD hnt (nn 6 []) [1] [(12,pI (w64 (p1 + (w64 ((Zk p2 p1) * 3)))))] [] [] (an (by decide : (4 : Int) ≠ 0) tv) ?_)
 refine Sq (Sq (RD hnt (nn 2 []) [] [(32,pB (decide ((w64 (p2 - p1)) ≥ 8)))] [] [] tv ?_))
 refine Jn (ι := Int × Int) (fun (y1 : Int × Int) => Aj [(9,rr 1072),(11,pI y1.2)] [(1072,bx [pI y1.1])]) (fun y1 => Cu y1 = some RES) ?_ ?_
 ·intro y1 hm
  unfold Cu at hm
  refine Sq (RK hnt (.no :: []) [(11,pI y1.2),(49,pI y1.1)] [] tv ?_)
  refine Bk ?_
  refine Sq (RD hnt (nn 2 []) [] [(51,pB (y1.1 == 0))] [] [] tv ?_)
  refine Af hm ?_ ?_
  ·intro h7 hm
   refine Sq (RK hnt (nn 3 []) [(6,pI y1.2),(7,pI 1)] [] tv ?_)
   obtain rfl := sj hm
   exact DW.ret (Ai [] [] (.p (.tup [vi y1.2,vi 1])))
  ·intro h7 hm
   refine Sq (RK hnt (nn 2 []) [(11,pI y1.2),(54,pB (y1.1 == 12))] [] tv ?_)
   refine Af hm ?_ ?_
   ·intro h8 hm
    refine Sq (RK hnt (nn 3 []) [(6,pI y1.2),(7,pI 2)] [] tv ?_)
    obtain rfl := sj hm
    exact DW.ret (Ai [] [] (.p (.tup [vi y1.2,vi 2])))
   ·intro h8 hm
    refine Sq (RK hnt (nn 3 []) [(6,pI y1.2),(7,pI 0)] [] tv ?_)
    obtain rfl := sj hm
    exact DW.ret (Ai [] [] (.p (.tup [vi y1.2,vi 0])))
 ·refine Af hm ?_ ?_
  ·intro h1 hm
   refine Sq (Sq (RD hnt (nn 2 []) [8,32] [(34,pB (decide ((w64 (p2 - p1)) ≥ 50)))] [] [] tv ?_))
   refine Jn (ι := Int × Int × Int × Int) (fun (y2 : Int × Int × Int × Int) => Aj [(0,.p (slI p0)),(9,rr 1072),(10,pI y2.2.1),(11,pI y2.2.2.1),(12,pI y2.2.2.2)] [(1072,bx [pI y2.1])]) (fun y2 => (Cv p0) y2 = some RES) ?_ ?_
   ·intro y2 hm
    unfold Cv at hm
    obtain ⟨r6,hr6,hm⟩ := bo hm
    refine RK hnt (nn 4 (o55 [1072] true r6 :: .no :: [])) [(9,rr 1072),(11,pI r6.1)] [(1072,bx [pI r6.2])] (an (Ms p0 y2.2.1 y2.2.2.1 y2.2.2.2 y2.1 r6 hr6) (an tv tv)) ?_
    exact jD (r6.2,r6.1) hm .refl
   ·refine Af hm ?_ ?_
    ·intro h2 hm
     obtain ⟨r3,hr3,hm⟩ := bo hm
     refine Sq (RK hnt (nn 2 (o54 [1072] true r3 :: .no :: [])) [(0,.p (slI p0)),(9,rr 1072),(10,pI r3.1),(11,pI (c53e2 p1 p2)),(12,pI (w64 (p1 + (w64 ((Zk p2 p1) * 3)))))] [(1072,bx [pI r3.2])] (an (Gk p0 (w64 (p1 + (w64 ((Zk p2 p1) * 1)))) 0 r3 hr3) (an tv tv)) ?_)
     obtain ⟨r4,hr4,hm⟩ := bo hm
     refine Sq (RD hnt (nn 2 (o54 [1072] true r4 :: .no :: [])) [] [(11,pI r4.1)] [] [(1072,bx [pI r4.2])] (an (Gk p0 (c53e2 p1 p2) r3.2 r4 hr4) (an tv tv)) ?_)
     obtain ⟨r5,hr5,hm⟩ := bo hm
     refine RD hnt (nn 2 (o54 [1072] true r5 :: .no :: [])) [] [(12,pI r5.1)] [] [(1072,bx [pI r5.2])] (an (Gk p0 (w64 (p1 + (w64 ((Zk p2 p1) * 3)))) r4.2 r5 hr5) (an tv tv)) ?_
     exact jD (r5.2,r3.1,r4.1,r5.1) hm Conv.eqK
    ·intro h2 hm
     refine Sk ?_
     exact jD (0,(w64 (p1 + (w64 ((Zk p2 p1) * 1)))),(c53e2 p1 p2),(w64 (p1 + (w64 ((Zk p2 p1) * 3))))) hm Conv.t0
  ·intro h1 hm
   refine Sk ?_
   exact jD (0,(c53e2 p1 p2)) hm Conv.t0
abbrev o53 (ks : List Nat) (b : Bool) (RES : Int × Int) (sm : List Nat := []) : Orc := .call 218 ks b (.p (.tup [vi RES.1,vi RES.2])) [] [] sm

abbrev c57e1 (s1 : (List Int) × Int × Int) := (Ca (Ca (elI s1.1) (Int.toNat s1.2.1) [vi (s1.1.getD (Int.toNat s1.2.2) 0)]) (Int.toNat s1.2.2) (setRange ((Ca (elI s1.1) (Int.toNat s1.2.1) [vi (s1.1.getD (Int.toNat s1.2.2) 0)]) (Int.toNat s1.2.2)) 0 [vi (s1.1.getD (Int.toNat s1.2.1) 0)]))
abbrev c57e2 (s1 : (List Int) × Int × Int) := ((s1.1.set (Int.toNat s1.2.1) (s1.1.getD (Int.toNat s1.2.2) 0)).set (Int.toNat s1.2.2) (s1.1.getD (Int.toNat s1.2.1) 0))
theorem Qp (p0 : List Int) (p1 : Int) (p2 : Int) (RES : List Int) (hm : El p0 p1 p2 = some RES) : Spec Tryz.prog 219 [ow 0 p0.length,pI p1,pI p2] [roI p0] (.p (.tup [])) [roI RES] [] := by
 unfold El at hm
 refine SO Tryz.func219 rfl rfl [(0,ow 0 p0.length),(1,pI p1),(2,pI p2)] [(0,ob0 (roI p0))] ?_
 intro cx hnt
 refine Sq (RD hnt (nn 2 []) [1] [(6,pI p1)] [] [] tv ?_)
 refine Sq (RD hnt (nn 3 []) [2] [(7,pI (w64 (p2 - 1)))] [] [] tv ?_)
 refine Bk ?_
 refine DW.whileO (fun (s1 : (List Int) × Int × Int) => Aj [(0,ow 0 s1.1.length),(6,pI s1.2.1),(7,pI s1.2.2)] [(0,ob0 (roI s1.1))]) hm Conv.eqK ?_
 intro s1 n1 hm
 unfold Hm at hm
 refine Sq (Sq (RD hnt (nn 3 []) [] [(13,pB (decide (s1.2.1 < s1.2.2)))] [] [] tv ?_))
 refine Af hm ?_ ?_
 ·intro h10 hm
  refine Sk ?_
  refine Bk ?_
  obtain ⟨g11,g12,g13,g14,hm⟩ := go4 hm
  obtain ⟨g15,g16,g17,g18,hm⟩ := go4 hm
  refine Sq (RN hnt (nn 16 []) [(0,ow 0 (c57e2 s1).length),(6,pI s1.2.1),(7,pI s1.2.2)] [(0,ob0 (roI (c57e2 s1)))] [(0,ow 0 s1.1.length)] [(0,.row 1 s1.1.length (c57e1 s1))] (an g11.1 (an g11.2 (an g12 (an g13.1 (an g13.2 (an g14 (an g15.1 (an g15.2 (an g16 (an g17.1 (an g17.2 (an g18 tv)))))))))))) (by kernel_rfl) (.cons rfl (MLe.ownLen (enc := Bo) (d := 0) (f := (c57e1 s1)) (RowIs.updR (RowIs.upd RowIs.elems (s1.1.getD (Int.toNat s1.2.2) 0) rfl) (by omega) (s1.1.getD (Int.toNat s1.2.1) 0) rfl)) .nil) (.cons rfl (BLe.typed (RowIs.updR (RowIs.upd RowIs.elems (s1.1.getD (Int.toNat s1.2.2) 0) rfl) (by omega) (s1.1.getD (Int.toNat s1.2.1) 0) rfl)) .nil) ?_)
  refine Sq (RD hnt (nn 3 []) [] [(6,pI (w64 (s1.2.1 + 1)))] [] [] tv ?_)
  refine RD hnt (nn 3 []) [] [(7,pI (w64 (s1.2.2 - 1)))] [] [] tv ?_
  refine DW.done ?_
  show DW _ _ _ _ _
  exact jD ((c57e2 s1),(w64 (s1.2.1 + 1)),(w64 (s1.2.2 - 1))) hm Conv.eqK
 ·intro h10 hm
  refine DW.exit ?_
  refine An ?_
  refine Aw ?_
  refine Ak ?_
  show DW _ _ _ _ _
  refine DW.done ?_
  obtain rfl := sj hm
  exact endK [roI s1.1] [] (.p (.tup []))
abbrev o57 (ks : List Nat) (b : Bool) (RES : List Int) (sm : List Nat := []) : Orc := .call 219 ks b (.p (.tup [])) [roI RES] [] sm

abbrev AcR (s15 : (List Int) × Int) := (s15.1.getD (Int.toNat (w64 (s15.2 - 1))) 0)
abbrev c58e2 (s1 : (List Int) × Int) (s12 : Int) := (Ca (Ca (elI s1.1) (Int.toNat s12) [vi (s1.1.getD (Int.toNat (w64 (s12 - 1))) 0)]) (Int.toNat (w64 (s12 - 1))) (setRange ((Ca (elI s1.1) (Int.toNat s12) [vi (s1.1.getD (Int.toNat (w64 (s12 - 1))) 0)]) (Int.toNat (w64 (s12 - 1)))) 0 [vi (s1.1.getD (Int.toNat s12) 0)]))
abbrev c58e3 (s16 : List Int) (k16 : Int) := (Ca (Ca (elI s16) (Int.toNat k16) [vi (s16.getD (Int.toNat (w64 (k16 - 1))) 0)]) (Int.toNat (w64 (k16 - 1))) (setRange ((Ca (elI s16) (Int.toNat k16) [vi (s16.getD (Int.toNat (w64 (k16 - 1))) 0)]) (Int.toNat (w64 (k16 - 1)))) 0 [vi (s16.getD (Int.toNat k16) 0)]))
abbrev c58e4 (s1 : (List Int) × Int) (s12 : Int) := ((s1.1.set (Int.toNat s12) (s1.1.getD (Int.toNat (w64 (s12 - 1))) 0)).set (Int.toNat (w64 (s12 - 1))) (s1.1.getD (Int.toNat s12) 0))
abbrev c58e5 (s16 : List Int) (k16 : Int) := ((s16.set (Int.toNat k16) (s16.getD (Int.toNat (w64 (k16 - 1))) 0)).set (Int.toNat (w64 (k16 - 1))) (s16.getD (Int.toNat k16) 0))
abbrev c58e6 (s15 : (List Int) × Int) := (Ca (Ca (elI s15.1) (Int.toNat s15.2) [vi (AcR s15)]) (Int.toNat (w64 (s15.2 - 1))) (setRange ((Ca (elI s15.1) (Int.toNat s15.2) [vi (AcR s15)]) (Int.toNat (w64 (s15.2 - 1)))) 0 [vi (s15.1.getD (Int.toNat s15.2) 0)]))
abbrev c58e7 (s15 : (List Int) × Int) := ((s15.1.set (Int.toNat s15.2) (AcR s15)).set (Int.toNat (w64 (s15.2 - 1))) (s15.1.getD (Int.toNat s15.2) 0))
theorem Mm (p0 : List Int) (p1 : Int) (p2 : Int) (RES : Bool × (List Int)) (hm : Cr p0 p1 p2 = some RES) : Spec Tryz.prog 220 [ow 0 p0.length,pI p1,pI p2] [roI p0] (pB RES.1) [roI RES.2] [] := by
 unfold Cr at hm
 refine SO Tryz.func220 rfl rfl [(0,ow 0 p0.length),(1,pI p1),(2,pI p2)] [(0,ob0 (roI p0))] ?_
 intro cx hnt
 refine Sq (RD hnt (.no :: []) [] [] [] [] tv ?_)
 refine Sq (RD hnt (nn 3 []) [] [(7,pI (w64 (p1 + 1)))] [] [] tv ?_)
 refine Sq (Sq (RD hnt (.no :: []) [] [(8,pI 0)] [] [] tv ?_))
 refine Bk ?_
 refine DW.forO (fun (k1 : Int) (s1 : (List Int) × Int) => Aj [(0,ow 0 s1.1.length),(1,pI p1),(2,pI p2),(7,pI s1.2),(8,pI k1)] [(0,ob0 (roI s1.1))]) (lo := 0) (hi := 5) hm Conv.eqK ?_
 intro k1 s1 n1 hk1 hs1 he1
 refine Sq (Sq (RD hnt (nn 2 []) [] [(14,pB (decide (k1 < 5)))] [] [] tv ?_))
 refine Cj (decide (k1 < 5)) ?_ ?_
 ·intro h391
  have hlt1 : k1 < 5 := by have := of_decide_eq_true h391; omega
  have hm := hs1 hlt1
  unfold Fn at hm
  refine Sk ?_
  refine Sq ?_
  refine Jn (ι := (List Int) × Int) (fun (y11 : (List Int) × Int) => Aj [(0,ow 0 y11.1.length),(1,pI p1),(2,pI p2),(7,pI y11.2),(8,pI k1)] [(0,ob0 (roI y11.1))]) (fun y11 => (Br n1) y11 = some RES) ?_ ?_
  ·intro y11 hm
   unfold Br at hm
   refine RD hnt (nn 3 []) [] [(8,pI (w64 (k1 + 1)))] [] [] tv ?_
   exact jD (y11.1,y11.2) ⟨hlt1,hm⟩ (Conv.tp [(8,pI (w64 (k1 + 1)))] [] (by kernel_rfl) (.cons rfl (.of_eq (congrArg pI (To (lo := 0) (hi := 5) (by omega) hk1 hlt1 (by omega)))) .nil) .nil)
  ·refine Bk ?_
   refine Sq (Bk ?_)
   refine DW.whileO (fun (s12 : Int) => Aj [(0,ow 0 s1.1.length),(1,pI p1),(2,pI p2),(7,pI s12),(8,pI k1)] [(0,ob0 (roI s1.1))]) hm Conv.t0 ?_
   intro s12 n12 hm
   unfold Fh at hm
   refine Sq (Sq ?_)
   refine Jn (ι := Bool) (fun (y14 : Bool) => Aj [(0,ow 0 s1.1.length),(1,pI p1),(2,pI p2),(7,pI s12),(8,pI k1),(32,pB y14)] [(0,ob0 (roI s1.1))]) (fun y14 => (Bs p1 p2 s1 n1 s12 n12) y14 = some RES) ?_ ?_
   ·intro y14 hm
    unfold Bs at hm
    refine Af hm ?_ ?_
    ·intro h492 hm
     refine Sk ?_
     refine Bk ?_
     refine RD hnt (nn 3 []) [32] [(7,pI (w64 (s12 + 1)))] [] [] tv ?_
     refine DW.done ?_
     show DW _ _ _ _ _
     exact jD (w64 (s12 + 1)) hm Conv.eqK
    ·intro h492 hm
     refine DW.exit ?_
     refine An ?_
     refine Aw ?_
     refine Ak ?_
     show DW _ _ _ _ _
     refine Sq (Sq (RD hnt (nn 3 []) [32] [(37,pB (s12 == p2))] [] [] tv ?_))
     refine Af hm ?_ ?_
     ·intro h493 hm
      refine Sq (RK hnt (.no :: []) [(6,pB true)] [(0,ob0 (roI s1.1))] tv ?_)
      obtain rfl := sj hm
      exact DW.ret (Ai [roI s1.1] [] (pB true))
     ·intro h493 hm
      refine Sk ?_
      refine Sq (Sq (RD hnt (nn 4 []) [37] [(41,pB (decide ((w64 (p2 - p1)) < 50)))] [] [] tv ?_))
      refine Af hm ?_ ?_
      ·intro h494 hm
       refine Sq (RK hnt (.no :: []) [(6,pB false)] [(0,ob0 (roI s1.1))] tv ?_)
       obtain rfl := sj hm
       exact DW.ret (Ai [roI s1.1] [] (pB false))
      ·intro h494 hm
       refine Sk ?_
       obtain ⟨g495,g496,g497,g498,hm⟩ := go4 hm
       obtain ⟨g499,g500,g501,g502,hm⟩ := go4 hm
       refine Sq (RN hnt (nn 18 []) [(0,ow 0 (c58e4 s1 s12).length),(1,pI p1),(2,pI p2),(7,pI s12),(8,pI k1)] [(0,ob0 (roI (c58e4 s1 s12)))] [(0,ow 0 s1.1.length)] [(0,.row 1 s1.1.length (c58e2 s1 s12))] (an g495.1 (an g495.2 (an g496 (an g497.1 (an g497.2 (an g498 (an g499.1 (an g499.2 (an g500 (an g501.1 (an g501.2 (an g502 tv)))))))))))) (by kernel_rfl) (.cons rfl (MLe.ownLen (enc := Bo) (d := 0) (f := (c58e2 s1 s12)) (RowIs.updR (RowIs.upd RowIs.elems (s1.1.getD (Int.toNat (w64 (s12 - 1))) 0) rfl) (by omega) (s1.1.getD (Int.toNat s12) 0) rfl)) .nil) (.cons rfl (BLe.typed (RowIs.updR (RowIs.upd RowIs.elems (s1.1.getD (Int.toNat (w64 (s12 - 1))) 0) rfl) (by omega) (s1.1.getD (Int.toNat s12) 0) rfl)) .nil) ?_)
       refine Sq (Sq (RD hnt (nn 4 []) [] [(61,pB (decide ((w64 (s12 - p1)) ≥ 2)))] [] [] tv ?_))
       refine Jn (ι := List Int) (fun (y15 : List Int) => Aj [(0,ow 0 y15.length),(1,pI p1),(2,pI p2),(7,pI s12),(8,pI k1)] [(0,ob0 (roI y15))]) (fun y15 => (Bm p2 n1 s12) y15 = some RES) ?_ ?_
       ·intro y15 hm
        unfold Bm at hm
        refine Sq (RD hnt (nn 4 []) [] [(98,pB (decide ((w64 (p2 - s12)) ≥ 2)))] [] [] tv ?_)
        refine Af hm ?_ ?_
        ·intro h534 hm
         refine Sq (RD hnt (nn 3 []) [98] [(10,pI (w64 (s12 + 1)))] [] [] tv ?_)
         refine Bk ?_
         obtain ⟨hc16,hm⟩ := go1 hm
         refine DW.forO (fun (k16 : Int) (s16 : List Int) => Aj [(0,ow 0 s16.length),(1,pI p1),(2,pI p2),(7,pI s12),(8,pI k1),(10,pI k16)] [(0,ob0 (roI s16))]) (lo := (w64 (s12 + 1))) (hi := p2) hm Conv.eqK ?_
         intro k16 s16 n16 hk16 hs16 he16
         refine Sq (Sq (RD hnt (nn 3 []) [] [(103,pB (decide (k16 < p2)))] [] [] tv ?_))
         refine Cj (decide (k16 < p2)) ?_ ?_
         ·intro h565
          have hlt16 : k16 < p2 := by have := of_decide_eq_true h565; omega
          have hm := hs16 hlt16
          unfold Ff at hm
          refine Sk ?_
          refine Sq (Bk ?_)
          obtain ⟨g566,g567,g568,g569,hm⟩ := go4 hm
          obtain ⟨r570,hr570,hm⟩ := bo hm
          refine Sq (Sq (RD hnt (nn 9 (o49 [] true r570 :: .no :: [])) [103] [(116,pB (!r570))] [] [] (an g566.1 (an g566.2 (an g567 (an g568.1 (an g568.2 (an g569 (an (Cl (s16.getD (Int.toNat k16) 0) (s16.getD (Int.toNat (w64 (k16 - 1))) 0) r570 hr570) tv))))))) ?_))
          refine Af hm ?_ ?_
          ·intro h571 hm
           refine DW.exit ?_
           refine Ml (by decide) ?_
           refine Aw ?_
           refine An ?_
           refine Aw ?_
           refine Ak ?_
           show DW _ _ _ _ _
           exact bD (s16,s12) hm Conv.t0
          ·intro h571 hm
           refine Sk ?_
           obtain ⟨g572,g573,g574,g575,hm⟩ := go4 hm
           obtain ⟨g576,g577,g578,g579,hm⟩ := go4 hm
           refine RN hnt (nn 18 []) [(0,ow 0 (c58e5 s16 k16).length),(1,pI p1),(2,pI p2),(7,pI s12),(8,pI k1),(10,pI k16)] [(0,ob0 (roI (c58e5 s16 k16)))] [(0,ow 0 s16.length)] [(0,.row 1 s16.length (c58e3 s16 k16))] (an g572.1 (an g572.2 (an g573 (an g574.1 (an g574.2 (an g575 (an g576.1 (an g576.2 (an g577 (an g578.1 (an g578.2 (an g579 tv)))))))))))) (by kernel_rfl) (.cons rfl (MLe.ownLen (enc := Bo) (d := 0) (f := (c58e3 s16 k16)) (RowIs.updR (RowIs.upd RowIs.elems (s16.getD (Int.toNat (w64 (k16 - 1))) 0) rfl) (by omega) (s16.getD (Int.toNat k16) 0) rfl)) .nil) (.cons rfl (BLe.typed (RowIs.updR (RowIs.upd RowIs.elems (s16.getD (Int.toNat (w64 (k16 - 1))) 0) rfl) (by omega) (s16.getD (Int.toNat k16) 0) rfl)) .nil) ?_
           refine DW.done ?_
           show DW _ _ _ _ _
           refine RD hnt (nn 3 []) [] [(10,pI (w64 (k16 + 1)))] [] [] tv ?_
           exact jD (c58e5 s16 k16) ⟨hlt16,hm⟩ (Conv.tp [(10,pI (w64 (k16 + 1)))] [] (by kernel_rfl) (.cons rfl (.of_eq (congrArg pI (To (lo := (w64 (s12 + 1))) (hi := p2) (by omega) hk16 hlt16 (by omega)))) .nil) .nil)
         ·intro h565
          have hge16 : ¬ k16 < p2 := by have := of_decide_eq_false h565; omega
          have hm := he16 hge16
          unfold Hq at hm
          refine DW.exit ?_
          refine An ?_
          refine Aw ?_
          refine Ak ?_
          show DW _ _ _ _ _
          exact bD (s16,s12) hm Conv.t0
        ·intro h534 hm
         refine Sk ?_
         exact bD (y15,s12) hm Conv.t0
       ·refine Af hm ?_ ?_
        ·intro h503 hm
         refine Sq (RD hnt (nn 3 []) [61] [(9,pI (w64 (s12 - 1)))] [] [] tv ?_)
         refine Bk ?_
         refine DW.whileO (fun (s15 : (List Int) × Int) => Aj [(0,ow 0 s15.1.length),(1,pI p1),(2,pI p2),(7,pI s12),(8,pI k1),(9,pI s15.2)] [(0,ob0 (roI s15.1))]) hm Conv.eqK ?_
         intro s15 n15 hm
         unfold Fg at hm
         refine Sq (Sq (RD hnt (nn 2 []) [] [(65,pB (decide (s15.2 ≥ 1)))] [] [] tv ?_))
         refine Af hm ?_ ?_
         ·intro h519 hm
          refine Sk ?_
          refine Sq (Bk ?_)
          obtain ⟨g520,g521,g522,g523,hm⟩ := go4 hm
          obtain ⟨r524,hr524,hm⟩ := bo hm
          refine Sq (Sq (RD hnt (nn 9 (o49 [] true r524 :: .no :: [])) [65] [(78,pB (!r524))] [] [] (an g520.1 (an g520.2 (an g521 (an g522.1 (an g522.2 (an g523 (an (Cl (s15.1.getD (Int.toNat s15.2) 0) (AcR s15) r524 hr524) tv))))))) ?_))
          refine Af hm ?_ ?_
          ·intro h525 hm
           refine DW.exit ?_
           refine Ml (by decide) ?_
           refine Aw ?_
           refine An ?_
           refine Aw ?_
           refine Ak ?_
           show DW _ _ _ _ _
           exact jD s15.1 hm Conv.t0
          ·intro h525 hm
           refine Sk ?_
           obtain ⟨g526,g527,g528,g529,hm⟩ := go4 hm
           obtain ⟨g530,g531,g532,g533,hm⟩ := go4 hm
           refine RN hnt (nn 18 []) [(0,ow 0 (c58e7 s15).length),(1,pI p1),(2,pI p2),(7,pI s12),(8,pI k1),(9,pI s15.2)] [(0,ob0 (roI (c58e7 s15)))] [(0,ow 0 s15.1.length)] [(0,.row 1 s15.1.length (c58e6 s15))] (an g526.1 (an g526.2 (an g527 (an g528.1 (an g528.2 (an g529 (an g530.1 (an g530.2 (an g531 (an g532.1 (an g532.2 (an g533 tv)))))))))))) (by kernel_rfl) (.cons rfl (MLe.ownLen (enc := Bo) (d := 0) (f := (c58e6 s15)) (RowIs.updR (RowIs.upd RowIs.elems (AcR s15) rfl) (by omega) (s15.1.getD (Int.toNat s15.2) 0) rfl)) .nil) (.cons rfl (BLe.typed (RowIs.updR (RowIs.upd RowIs.elems (AcR s15) rfl) (by omega) (s15.1.getD (Int.toNat s15.2) 0) rfl)) .nil) ?_
           refine DW.done ?_
           show DW _ _ _ _ _
           refine RD hnt (nn 3 []) [] [(9,pI (w64 (s15.2 - 1)))] [] [] tv ?_
           exact jD ((c58e7 s15),(w64 (s15.2 - 1))) hm Conv.eqK
         ·intro h519 hm
          refine DW.exit ?_
          refine An ?_
          refine Aw ?_
          refine Ak ?_
          show DW _ _ _ _ _
          exact jD s15.1 hm Conv.t0
        ·intro h503 hm
         refine Sk ?_
         exact jD (c58e4 s1 s12) hm Conv.t0
   ·rcases bt (decide (s12 < p2)) with h486 | h486
    ·replace hm := Bd h486 hm
     obtain ⟨g487,g488,g489,g490,hm⟩ := go4 hm
     obtain ⟨r491,hr491,hm⟩ := bo hm
     refine RD hnt (nn 13 (o49 [] true r491 :: .no :: pT :: [])) [] [(32,pB (!r491))] [] [] (an3 h486 (an g487.1 (an g487.2 (an h486 (an g488 (an4 h486 (an g489.1 (an g489.2 (an h486 (an g490 (an h486 (an (Cl (s1.1.getD (Int.toNat s12) 0) (s1.1.getD (Int.toNat (w64 (s12 - 1))) 0) r491 hr491) (an2 h486 tv))))))))))))) ?_
     exact jD (!r491) hm Conv.eqK
    ·replace hm := Be h486 hm
     refine RD hnt (nn 4 (sk 11 (pF :: []))) [] [(32,pB false)] [] [] (an6 h486 (an6 h486 tv)) ?_
     exact jD false hm Conv.eqK
 ·intro h391
  have hge1 : ¬ k1 < 5 := by have := of_decide_eq_false h391; omega
  have hm := he1 hge1
  unfold Ib at hm
  refine DW.exit ?_
  refine An ?_
  refine Aw ?_
  refine Ak ?_
  show DW _ _ _ _ _
  refine Sq (RK hnt (.no :: []) [(6,pB false)] [(0,ob0 (roI s1.1))] tv ?_)
  obtain rfl := sj hm
  exact DW.ret (Ai [roI s1.1] [] (pB false))
abbrev o58 (ks : List Nat) (b : Bool) (RES : Bool × (List Int)) (sm : List Nat := []) : Orc := .call 220 ks b (pB RES.1) [roI RES.2] [] sm

abbrev c59e1 (p0 : List Int) (p1 : Int) (p3 : Int) := (Ca (Ca (elI p0) (Int.toNat p1) [vi (p0.getD (Int.toNat p3) 0)]) (Int.toNat p3) (setRange ((Ca (elI p0) (Int.toNat p1) [vi (p0.getD (Int.toNat p3) 0)]) (Int.toNat p3)) 0 [vi (p0.getD (Int.toNat p1) 0)]))
abbrev c59e2 (s1 : (List Int) × Int × Int) (s5 : Int) (s7 : Int) := (Ca (Ca (elI s1.1) (Int.toNat s5) [vi (s1.1.getD (Int.toNat s7) 0)]) (Int.toNat s7) (setRange ((Ca (elI s1.1) (Int.toNat s5) [vi (s1.1.getD (Int.toNat s7) 0)]) (Int.toNat s7)) 0 [vi (s1.1.getD (Int.toNat s5) 0)]))
abbrev c59e3 (s1 : (List Int) × Int × Int) (s5 : Int) (s7 : Int) := ((s1.1.set (Int.toNat s5) (s1.1.getD (Int.toNat s7) 0)).set (Int.toNat s7) (s1.1.getD (Int.toNat s5) 0))
theorem Pn (p0 : List Int) (p1 : Int) (p2 : Int) (p3 : Int) (RES : Int × (List Int)) (hm : Dp p0 p1 p2 p3 = some RES) : Spec Tryz.prog 222 [ow 0 p0.length,pI p1,pI p2,pI p3] [roI p0] (pI RES.1) [roI RES.2] [] := by
 unfold Dp at hm
 refine SO Tryz.func222 rfl rfl [(0,ow 0 p0.length),(1,pI p1),(2,pI p2),(3,pI p3)] [(0,ob0 (roI p0))] ?_
 intro cx hnt
 refine Sq (RD hnt (.no :: []) [] [] [] [] tv ?_)
 obtain ⟨g1,g2,g3,g4,hm⟩ := go4 hm
 obtain ⟨g5,g6,g7,g8,hm⟩ := go4 hm
 refine Sq (RN hnt (nn 16 []) [(0,ow 0 ((p0.set (Int.toNat p1) (p0.getD (Int.toNat p3) 0)).set (Int.toNat p3) (p0.getD (Int.toNat p1) 0)).length),(1,pI p1),(2,pI p2)] [(0,ob0 (roI ((p0.set (Int.toNat p1) (p0.getD (Int.toNat p3) 0)).set (Int.toNat p3) (p0.getD (Int.toNat p1) 0))))] [(0,ow 0 p0.length)] [(0,.row 1 p0.length (c59e1 p0 p1 p3))] (an g1.1 (an g1.2 (an g2 (an g3.1 (an g3.2 (an g4 (an g5.1 (an g5.2 (an g6 (an g7.1 (an g7.2 (an g8 tv)))))))))))) (by kernel_rfl) (.cons rfl (MLe.ownLen (enc := Bo) (d := 0) (f := (c59e1 p0 p1 p3)) (RowIs.updR (RowIs.upd RowIs.elems (p0.getD (Int.toNat p3) 0) rfl) (by omega) (p0.getD (Int.toNat p1) 0) rfl)) .nil) (.cons rfl (BLe.typed (RowIs.updR (RowIs.upd RowIs.elems (p0.getD (Int.toNat p3) 0) rfl) (by omega) (p0.getD (Int.toNat p1) 0) rfl)) .nil) ?_)
 refine Sq (RD hnt (nn 6 []) [2] [(9,pI (w64 (p1 + 1))),(10,pI (w64 (p2 - 1)))] [] [] tv ?_)
 refine Sq (Bk ?_)
 refine DW.whileO (fun (s1 : (List Int) × Int × Int) => Aj [(0,ow 0 s1.1.length),(1,pI p1),(9,pI s1.2.2),(10,pI s1.2.1)] [(0,ob0 (roI s1.1))]) hm Conv.eqK ?_
 intro s1 n1 hm
 unfold Gw at hm
 refine Bk ?_
 refine Sq (Bk ?_)
 refine DW.whileO (fun (s5 : Int) => Aj [(0,ow 0 s1.1.length),(1,pI p1),(9,pI s5),(10,pI s1.2.1)] [(0,ob0 (roI s1.1))]) hm .refl ?_
 intro s5 n5 hm
 unfold Gv at hm
 refine Sq (Sq ?_)
 refine Jn (ι := Bool) (fun (y10 : Bool) => Aj [(0,ow 0 s1.1.length),(1,pI p1),(9,pI s5),(10,pI s1.2.1),(43,pB y10)] [(0,ob0 (roI s1.1))]) (fun y10 => (Da p1 s1 n1 s5 n5) y10 = some RES) ?_ ?_
 ·intro y10 hm
  unfold Da at hm
  refine Af hm ?_ ?_
  ·intro h156 hm
   refine Sk ?_
   refine Bk ?_
   refine RD hnt (nn 3 []) [43] [(9,pI (w64 (s5 + 1)))] [] [] tv ?_
   refine DW.done ?_
   show DW _ _ _ _ _
   exact jD (w64 (s5 + 1)) hm Conv.eqK
  ·intro h156 hm
   refine DW.exit ?_
   refine An ?_
   refine Aw ?_
   refine Ak ?_
   show DW _ _ _ _ _
   refine Sq (Bk ?_)
   refine DW.whileO (fun (s7 : Int) => Aj [(0,ow 0 s1.1.length),(1,pI p1),(9,pI s5),(10,pI s7)] [(0,ob0 (roI s1.1))]) hm Conv.t0 ?_
   intro s7 n7 hm
   unfold Eu at hm
   refine Sq (Sq ?_)
   refine Jn (ι := Bool) (fun (y12 : Bool) => Aj [(0,ow 0 s1.1.length),(1,pI p1),(9,pI s5),(10,pI s7),(59,pB y12)] [(0,ob0 (roI s1.1))]) (fun y12 => (Cz s1 n1 s5 s7 n7) y12 = some RES) ?_ ?_
   ·intro y12 hm
    unfold Cz at hm
    refine Af hm ?_ ?_
    ·intro h179 hm
     refine Sk ?_
     refine Bk ?_
     refine RD hnt (nn 3 []) [59] [(10,pI (w64 (s7 - 1)))] [] [] tv ?_
     refine DW.done ?_
     show DW _ _ _ _ _
     exact jD (w64 (s7 - 1)) hm Conv.eqK
    ·intro h179 hm
     refine DW.exit ?_
     refine An ?_
     refine Aw ?_
     refine Ak ?_
     show DW _ _ _ _ _
     refine Sq (Sq (RD hnt (nn 3 []) [59] [(64,pB (decide (s5 > s7)))] [] [] tv ?_))
     refine Af hm ?_ ?_
     ·intro h180 hm
      refine DW.exit ?_
      refine Ml (by decide) ?_
      refine Aw ?_
      refine An ?_
      refine Aw ?_
      refine Ak ?_
      show DW _ _ _ _ _
      refine Sq (RK hnt (nn 2 []) [(8,pI s5)] [(0,ob0 (roI s1.1))] tv ?_)
      obtain rfl := sj hm
      exact DW.ret (Ai [roI s1.1] [] (pI s5))
     ·intro h180 hm
      refine Sk ?_
      obtain ⟨g181,g182,g183,g184,hm⟩ := go4 hm
      obtain ⟨g185,g186,g187,g188,hm⟩ := go4 hm
      refine Sq (RN hnt (nn 16 []) [(0,ow 0 (c59e3 s1 s5 s7).length),(1,pI p1),(9,pI s5),(10,pI s7)] [(0,ob0 (roI (c59e3 s1 s5 s7)))] [(0,ow 0 s1.1.length)] [(0,.row 1 s1.1.length (c59e2 s1 s5 s7))] (an g181.1 (an g181.2 (an g182 (an g183.1 (an g183.2 (an g184 (an g185.1 (an g185.2 (an g186 (an g187.1 (an g187.2 (an g188 tv)))))))))))) (by kernel_rfl) (.cons rfl (MLe.ownLen (enc := Bo) (d := 0) (f := (c59e2 s1 s5 s7)) (RowIs.updR (RowIs.upd RowIs.elems (s1.1.getD (Int.toNat s7) 0) rfl) (by omega) (s1.1.getD (Int.toNat s5) 0) rfl)) .nil) (.cons rfl (BLe.typed (RowIs.updR (RowIs.upd RowIs.elems (s1.1.getD (Int.toNat s7) 0) rfl) (by omega) (s1.1.getD (Int.toNat s5) 0) rfl)) .nil) ?_)
      refine Sq (RD hnt (nn 3 []) [] [(9,pI (w64 (s5 + 1)))] [] [] tv ?_)
      refine RD hnt (nn 3 []) [] [(10,pI (w64 (s7 - 1)))] [] [] tv ?_
      refine DW.done ?_
      show DW _ _ _ _ _
      exact jD ((c59e3 s1 s5 s7),(w64 (s7 - 1)),(w64 (s5 + 1))) hm Conv.eqK
   ·rcases bt (decide (s5 ≤ s7)) with h173 | h173
    ·replace hm := Bd h173 hm
     obtain ⟨g174,g175,g176,g177,hm⟩ := go4 hm
     obtain ⟨r178,hr178,hm⟩ := bo hm
     refine RD hnt (nn 12 (o49 [] true r178 :: pT :: [])) [] [(59,pB r178)] [] [] (an3 h173 (an g174.1 (an g174.2 (an h173 (an g175 (an3 h173 (an g176.1 (an g176.2 (an h173 (an g177 (an h173 (an (Cl (s1.1.getD (Int.toNat p1) 0) (s1.1.getD (Int.toNat s7) 0) r178 hr178) (an h173 tv))))))))))))) ?_
     exact jD r178 hm Conv.eqK
    ·replace hm := Be h173 hm
     refine RD hnt (nn 4 (sk 9 (pF :: []))) [] [(59,pB false)] [] [] (an4 h173 (an6 h173 tv)) ?_
     exact jD false hm Conv.eqK
 ·rcases bt (decide (s5 ≤ s1.2.1)) with h150 | h150
  ·replace hm := Bd h150 hm
   obtain ⟨g151,g152,g153,g154,hm⟩ := go4 hm
   obtain ⟨r155,hr155,hm⟩ := bo hm
   refine RD hnt (nn 12 (o49 [] true r155 :: .no :: pT :: [])) [] [(43,pB (!r155))] [] [] (an3 h150 (an g151.1 (an g151.2 (an h150 (an g152 (an3 h150 (an g153.1 (an g153.2 (an h150 (an g154 (an h150 (an (Cl (s1.1.getD (Int.toNat p1) 0) (s1.1.getD (Int.toNat s5) 0) r155 hr155) (an2 h150 tv))))))))))))) ?_
   exact jD (!r155) hm Conv.eqK
  ·replace hm := Be h150 hm
   refine RD hnt (nn 4 (sk 10 (pF :: []))) [] [(43,pB false)] [] [] (an5 h150 (an6 h150 tv)) ?_
   exact jD false hm Conv.eqK
abbrev o59 (ks : List Nat) (b : Bool) (RES : Int × (List Int)) (sm : List Nat := []) : Orc := .call 222 ks b (pI RES.1) [roI RES.2] [] sm

abbrev Cp (p0 : List Int) (p1 : Int) (p3 : Int) := ((p0.set (Int.toNat p1) (p0.getD (Int.toNat p3) 0)).set (Int.toNat p3) (p0.getD (Int.toNat p1) 0))
abbrev c60e2 (p0 : List Int) (p1 : Int) (p3 : Int) (s1 : Int) (s17 : Int) := (Ca (Ca (elI (Cp p0 p1 p3)) (Int.toNat s1) [vi ((Cp p0 p1 p3).getD (Int.toNat s17) 0)]) (Int.toNat s17) (setRange ((Ca (elI (Cp p0 p1 p3)) (Int.toNat s1) [vi ((Cp p0 p1 p3).getD (Int.toNat s17) 0)]) (Int.toNat s17)) 0 [vi ((Cp p0 p1 p3).getD (Int.toNat s1) 0)]))
abbrev c60e3 (p0 : List Int) (p1 : Int) (p3 : Int) := (Ca (Ca (elI p0) (Int.toNat p1) [vi (p0.getD (Int.toNat p3) 0)]) (Int.toNat p3) (setRange ((Ca (elI p0) (Int.toNat p1) [vi (p0.getD (Int.toNat p3) 0)]) (Int.toNat p3)) 0 [vi (p0.getD (Int.toNat p1) 0)]))
abbrev c60e4 (s25 : (List Int) × Int × Int) (s29 : Int) (s31 : Int) := (Ca (Ca (elI s25.1) (Int.toNat s29) [vi (s25.1.getD (Int.toNat s31) 0)]) (Int.toNat s31) (setRange ((Ca (elI s25.1) (Int.toNat s29) [vi (s25.1.getD (Int.toNat s31) 0)]) (Int.toNat s31)) 0 [vi (s25.1.getD (Int.toNat s29) 0)]))
abbrev c60e5 (s25 : (List Int) × Int × Int) (s29 : Int) (s31 : Int) := ((s25.1.set (Int.toNat s29) (s25.1.getD (Int.toNat s31) 0)).set (Int.toNat s31) (s25.1.getD (Int.toNat s29) 0))
theorem Sb (p0 : List Int) (p1 : Int) (p2 : Int) (p3 : Int) (RES : Int × Bool × (List Int)) (hm : Fm p0 p1 p2 p3 = some RES) : Spec Tryz.prog 223 [ow 0 p0.length,pI p1,pI p2,pI p3] [roI p0] (.p (.tup [vi RES.1,vb RES.2.1])) [roI RES.2.2] [] := by
 unfold Fm at hm
 refine SO Tryz.func223 rfl rfl [(0,ow 0 p0.length),(1,pI p1),(2,pI p2),(3,pI p3)] [(0,ob0 (roI p0))] ?_
 intro cx hnt
 refine Sq (RD hnt (nn 2 []) [] [] [] [] tv ?_)
 obtain ⟨g1,g2,g3,g4,hm⟩ := go4 hm
 obtain ⟨g5,g6,g7,g8,hm⟩ := go4 hm
 refine Sq (RN hnt (nn 16 []) [(0,ow 0 (Cp p0 p1 p3).length),(1,pI p1),(2,pI p2)] [(0,ob0 (roI (Cp p0 p1 p3)))] [(0,ow 0 p0.length)] [(0,.row 1 p0.length (c60e3 p0 p1 p3))] (an g1.1 (an g1.2 (an g2 (an g3.1 (an g3.2 (an g4 (an g5.1 (an g5.2 (an g6 (an g7.1 (an g7.2 (an g8 tv)))))))))))) (by kernel_rfl) (.cons rfl (MLe.ownLen (enc := Bo) (d := 0) (f := (c60e3 p0 p1 p3)) (RowIs.updR (RowIs.upd RowIs.elems (p0.getD (Int.toNat p3) 0) rfl) (by omega) (p0.getD (Int.toNat p1) 0) rfl)) .nil) (.cons rfl (BLe.typed (RowIs.updR (RowIs.upd RowIs.elems (p0.getD (Int.toNat p3) 0) rfl) (by omega) (p0.getD (Int.toNat p1) 0) rfl)) .nil) ?_)
 refine Sq (RD hnt (nn 6 []) [2] [(10,pI (w64 (p1 + 1))),(11,pI (w64 (p2 - 1)))] [] [] tv ?_)
 refine Sq (Bk ?_)
 refine DW.whileO (fun (s1 : Int) => Aj [(0,ow 0 (Cp p0 p1 p3).length),(1,pI p1),(10,pI s1),(11,pI (w64 (p2 - 1)))] [(0,ob0 (roI (Cp p0 p1 p3)))]) hm Conv.eqK ?_
 intro s1 n1 hm
 unfold Ig at hm
 refine Sq (Sq ?_)
 refine Jn (ι := Bool) (fun (y28 : Bool) => Aj [(0,ow 0 (Cp p0 p1 p3).length),(1,pI p1),(10,pI s1),(11,pI (w64 (p2 - 1))),(43,pB y28)] [(0,ob0 (roI (Cp p0 p1 p3)))]) (fun y28 => (Ei p0 p1 p2 p3 s1 n1) y28 = some RES) ?_ ?_
 ·intro y28 hm
  unfold Ei at hm
  refine Af hm ?_ ?_
  ·intro h588 hm
   refine Sk ?_
   refine Bk ?_
   refine RD hnt (nn 3 []) [43] [(10,pI (w64 (s1 + 1)))] [] [] tv ?_
   refine DW.done ?_
   show DW _ _ _ _ _
   exact jD (w64 (s1 + 1)) hm Conv.eqK
  ·intro h588 hm
   refine DW.exit ?_
   refine An ?_
   refine Aw ?_
   refine Ak ?_
   show DW _ _ _ _ _
   refine Sq (Bk ?_)
   refine DW.whileO (fun (s17 : Int) => Aj [(0,ow 0 (Cp p0 p1 p3).length),(1,pI p1),(10,pI s1),(11,pI s17)] [(0,ob0 (roI (Cp p0 p1 p3)))]) hm Conv.t0 ?_
   intro s17 n17 hm
   unfold Gb at hm
   refine Sq (Sq ?_)
   refine Jn (ι := Bool) (fun (y42 : Bool) => Aj [(0,ow 0 (Cp p0 p1 p3).length),(1,pI p1),(10,pI s1),(11,pI s17),(60,pB y42)] [(0,ob0 (roI (Cp p0 p1 p3)))]) (fun y42 => (Eg p0 p1 p3 s1 s17 n17) y42 = some RES) ?_ ?_
   ·intro y42 hm
    unfold Eg at hm
    refine Af hm ?_ ?_
    ·intro h875 hm
     refine Sk ?_
     refine Bk ?_
     refine RD hnt (nn 3 []) [60] [(11,pI (w64 (s17 - 1)))] [] [] tv ?_
     refine DW.done ?_
     show DW _ _ _ _ _
     exact jD (w64 (s17 - 1)) hm Conv.eqK
    ·intro h875 hm
     refine DW.exit ?_
     refine An ?_
     refine Aw ?_
     refine Ak ?_
     show DW _ _ _ _ _
     refine Sq (Sq (RD hnt (nn 3 []) [60] [(65,pB (decide (s1 > s17)))] [] [] tv ?_))
     refine Af hm ?_ ?_
     ·intro h876 hm
      obtain ⟨g877,g878,g879,g880,hm⟩ := go4 hm
      obtain ⟨g881,g882,g883,g884,hm⟩ := go4 hm
      refine Sq (RN hnt (nn 16 []) [(11,pI s17)] [(0,ob0 (roI (((Cp p0 p1 p3).set (Int.toNat s17) ((Cp p0 p1 p3).getD (Int.toNat p1) 0)).set (Int.toNat p1) ((Cp p0 p1 p3).getD (Int.toNat s17) 0))))] [] [(0,.row 1 (Cp p0 p1 p3).length (Ca (Ca (elI (Cp p0 p1 p3)) (Int.toNat s17) [vi ((Cp p0 p1 p3).getD (Int.toNat p1) 0)]) (Int.toNat p1) (setRange ((Ca (elI (Cp p0 p1 p3)) (Int.toNat s17) [vi ((Cp p0 p1 p3).getD (Int.toNat p1) 0)]) (Int.toNat p1)) 0 [vi ((Cp p0 p1 p3).getD (Int.toNat s17) 0)])))] (an g877.1 (an g877.2 (an g878 (an g879.1 (an g879.2 (an g880 (an g881.1 (an g881.2 (an g882 (an g883.1 (an g883.2 (an g884 tv)))))))))))) (by kernel_rfl) .nil (.cons rfl (BLe.typed (RowIs.updR (RowIs.upd RowIs.elems ((Cp p0 p1 p3).getD (Int.toNat p1) 0) rfl) (by omega) ((Cp p0 p1 p3).getD (Int.toNat s17) 0) rfl)) .nil) ?_)
      refine Sq (RD hnt (nn 3 []) [11] [(8,pI s17),(9,pB true)] [] [] tv ?_)
      obtain rfl := sj hm
      exact DW.ret (Ai [roI (((Cp p0 p1 p3).set (Int.toNat s17) ((Cp p0 p1 p3).getD (Int.toNat p1) 0)).set (Int.toNat p1) ((Cp p0 p1 p3).getD (Int.toNat s17) 0))] [] (.p (.tup [vi s17,vb true])))
     ·intro h876 hm
      refine Sk ?_
      obtain ⟨g885,g886,g887,g888,hm⟩ := go4 hm
      obtain ⟨g889,g890,g891,g892,hm⟩ := go4 hm
      refine Sq (RN hnt (nn 16 []) [(0,ow 0 (((Cp p0 p1 p3).set (Int.toNat s1) ((Cp p0 p1 p3).getD (Int.toNat s17) 0)).set (Int.toNat s17) ((Cp p0 p1 p3).getD (Int.toNat s1) 0)).length),(1,pI p1),(10,pI s1),(11,pI s17)] [(0,ob0 (roI (((Cp p0 p1 p3).set (Int.toNat s1) ((Cp p0 p1 p3).getD (Int.toNat s17) 0)).set (Int.toNat s17) ((Cp p0 p1 p3).getD (Int.toNat s1) 0))))] [(0,ow 0 (Cp p0 p1 p3).length)] [(0,.row 1 (Cp p0 p1 p3).length (c60e2 p0 p1 p3 s1 s17))] (an g885.1 (an g885.2 (an g886 (an g887.1 (an g887.2 (an g888 (an g889.1 (an g889.2 (an g890 (an g891.1 (an g891.2 (an g892 tv)))))))))))) (by kernel_rfl) (.cons rfl (MLe.ownLen (enc := Bo) (d := 0) (f := (c60e2 p0 p1 p3 s1 s17)) (RowIs.updR (RowIs.upd RowIs.elems ((Cp p0 p1 p3).getD (Int.toNat s17) 0) rfl) (by omega) ((Cp p0 p1 p3).getD (Int.toNat s1) 0) rfl)) .nil) (.cons rfl (BLe.typed (RowIs.updR (RowIs.upd RowIs.elems ((Cp p0 p1 p3).getD (Int.toNat s17) 0) rfl) (by omega) ((Cp p0 p1 p3).getD (Int.toNat s1) 0) rfl)) .nil) ?_)
      refine Sq (RD hnt (nn 3 []) [] [(10,pI (w64 (s1 + 1)))] [] [] tv ?_)
      refine Sq (RD hnt (nn 3 []) [] [(11,pI (w64 (s17 - 1)))] [] [] tv ?_)
      refine Sq (Bk ?_)
      refine DW.whileO (fun (s25 : (List Int) × Int × Int) => Aj [(0,ow 0 s25.1.length),(1,pI p1),(10,pI s25.2.1),(11,pI s25.2.2)] [(0,ob0 (roI s25.1))]) hm Conv.eqK ?_
      intro s25 n25 hm
      unfold Fz at hm
      refine Bk ?_
      refine Sq (Bk ?_)
      refine DW.whileO (fun (s29 : Int) => Aj [(0,ow 0 s25.1.length),(1,pI p1),(10,pI s29),(11,pI s25.2.2)] [(0,ob0 (roI s25.1))]) hm .refl ?_
      intro s29 n29 hm
      unfold Hw at hm
      refine Sq (Sq ?_)
      refine Jn (ι := Bool) (fun (y52 : Bool) => Aj [(0,ow 0 s25.1.length),(1,pI p1),(10,pI s29),(11,pI s25.2.2),(112,pB y52)] [(0,ob0 (roI s25.1))]) (fun y52 => (Eh p1 s25 n25 s29 n29) y52 = some RES) ?_ ?_
      ·intro y52 hm
       unfold Eh at hm
       refine Af hm ?_ ?_
       ·intro h1088 hm
        refine Sk ?_
        refine Bk ?_
        refine RD hnt (nn 3 []) [112] [(10,pI (w64 (s29 + 1)))] [] [] tv ?_
        refine DW.done ?_
        show DW _ _ _ _ _
        exact jD (w64 (s29 + 1)) hm Conv.eqK
       ·intro h1088 hm
        refine DW.exit ?_
        refine An ?_
        refine Aw ?_
        refine Ak ?_
        show DW _ _ _ _ _
        refine Sq (Bk ?_)
        refine DW.whileO (fun (s31 : Int) => Aj [(0,ow 0 s25.1.length),(1,pI p1),(10,pI s29),(11,pI s31)] [(0,ob0 (roI s25.1))]) hm Conv.t0 ?_
        intro s31 n31 hm
        unfold Fy at hm
        refine Sq (Sq ?_)
        refine Jn (ι := Bool) (fun (y54 : Bool) => Aj [(0,ow 0 s25.1.length),(1,pI p1),(10,pI s29),(11,pI s31),(129,pB y54)] [(0,ob0 (roI s25.1))]) (fun y54 => (Ej p1 s25 n25 s29 s31 n31) y54 = some RES) ?_ ?_
        ·intro y54 hm
         unfold Ej at hm
         refine Af hm ?_ ?_
         ·intro h1119 hm
          refine Sk ?_
          refine Bk ?_
          refine RD hnt (nn 3 []) [129] [(11,pI (w64 (s31 - 1)))] [] [] tv ?_
          refine DW.done ?_
          show DW _ _ _ _ _
          exact jD (w64 (s31 - 1)) hm Conv.eqK
         ·intro h1119 hm
          refine DW.exit ?_
          refine An ?_
          refine Aw ?_
          refine Ak ?_
          show DW _ _ _ _ _
          refine Sq (Sq (RD hnt (nn 3 []) [129] [(134,pB (decide (s29 > s31)))] [] [] tv ?_))
          refine Af hm ?_ ?_
          ·intro h1120 hm
           refine DW.exit ?_
           refine Ml (by decide) ?_
           refine Aw ?_
           refine An ?_
           refine Aw ?_
           refine Ak ?_
           show DW _ _ _ _ _
           obtain ⟨g1121,g1122,g1123,g1124,hm⟩ := go4 hm
           obtain ⟨g1125,g1126,g1127,g1128,hm⟩ := go4 hm
           refine Sq (RN hnt (nn 16 []) [(11,pI s31)] [(0,ob0 (roI ((s25.1.set (Int.toNat s31) (s25.1.getD (Int.toNat p1) 0)).set (Int.toNat p1) (s25.1.getD (Int.toNat s31) 0))))] [] [(0,.row 1 s25.1.length (Ca (Ca (elI s25.1) (Int.toNat s31) [vi (s25.1.getD (Int.toNat p1) 0)]) (Int.toNat p1) (setRange ((Ca (elI s25.1) (Int.toNat s31) [vi (s25.1.getD (Int.toNat p1) 0)]) (Int.toNat p1)) 0 [vi (s25.1.getD (Int.toNat s31) 0)])))] (an g1121.1 (an g1121.2 (an g1122 (an g1123.1 (an g1123.2 (an g1124 (an g1125.1 (an g1125.2 (an g1126 (an g1127.1 (an g1127.2 (an g1128 tv)))))))))))) (by kernel_rfl) .nil (.cons rfl (BLe.typed (RowIs.updR (RowIs.upd RowIs.elems (s25.1.getD (Int.toNat p1) 0) rfl) (by omega) (s25.1.getD (Int.toNat s31) 0) rfl)) .nil) ?_)
           refine Sq (RD hnt (nn 3 []) [11] [(8,pI s31),(9,pB false)] [] [] tv ?_)
           obtain rfl := sj hm
           exact DW.ret (Ai [roI ((s25.1.set (Int.toNat s31) (s25.1.getD (Int.toNat p1) 0)).set (Int.toNat p1) (s25.1.getD (Int.toNat s31) 0))] [] (.p (.tup [vi s31,vb false])))
          ·intro h1120 hm
           refine Sk ?_
           obtain ⟨g1129,g1130,g1131,g1132,hm⟩ := go4 hm
           obtain ⟨g1133,g1134,g1135,g1136,hm⟩ := go4 hm
           refine Sq (RN hnt (nn 16 []) [(0,ow 0 (c60e5 s25 s29 s31).length),(1,pI p1),(10,pI s29),(11,pI s31)] [(0,ob0 (roI (c60e5 s25 s29 s31)))] [(0,ow 0 s25.1.length)] [(0,.row 1 s25.1.length (c60e4 s25 s29 s31))] (an g1129.1 (an g1129.2 (an g1130 (an g1131.1 (an g1131.2 (an g1132 (an g1133.1 (an g1133.2 (an g1134 (an g1135.1 (an g1135.2 (an g1136 tv)))))))))))) (by kernel_rfl) (.cons rfl (MLe.ownLen (enc := Bo) (d := 0) (f := (c60e4 s25 s29 s31)) (RowIs.updR (RowIs.upd RowIs.elems (s25.1.getD (Int.toNat s31) 0) rfl) (by omega) (s25.1.getD (Int.toNat s29) 0) rfl)) .nil) (.cons rfl (BLe.typed (RowIs.updR (RowIs.upd RowIs.elems (s25.1.getD (Int.toNat s31) 0) rfl) (by omega) (s25.1.getD (Int.toNat s29) 0) rfl)) .nil) ?_)
           refine Sq (RD hnt (nn 3 []) [] [(10,pI (w64 (s29 + 1)))] [] [] tv ?_)
           refine RD hnt (nn 3 []) [] [(11,pI (w64 (s31 - 1)))] [] [] tv ?_
           refine DW.done ?_
           show DW _ _ _ _ _
           exact jD ((c60e5 s25 s29 s31),(w64 (s29 + 1)),(w64 (s31 - 1))) hm Conv.eqK
        ·rcases bt (decide (s29 ≤ s31)) with h1113 | h1113
         ·replace hm := Bd h1113 hm
          obtain ⟨g1114,g1115,g1116,g1117,hm⟩ := go4 hm
          obtain ⟨r1118,hr1118,hm⟩ := bo hm
          refine RD hnt (nn 12 (o49 [] true r1118 :: .no :: pT :: [])) [] [(129,pB (!r1118))] [] [] (an3 h1113 (an g1114.1 (an g1114.2 (an h1113 (an g1115 (an3 h1113 (an g1116.1 (an g1116.2 (an h1113 (an g1117 (an h1113 (an (Cl (s25.1.getD (Int.toNat s31) 0) (s25.1.getD (Int.toNat p1) 0) r1118 hr1118) (an2 h1113 tv))))))))))))) ?_
          exact jD (!r1118) hm Conv.eqK
         ·replace hm := Be h1113 hm
          refine RD hnt (nn 4 (sk 10 (pF :: []))) [] [(129,pB false)] [] [] (an5 h1113 (an6 h1113 tv)) ?_
          exact jD false hm Conv.eqK
      ·rcases bt (decide (s29 ≤ s25.2.2)) with h1082 | h1082
       ·replace hm := Bd h1082 hm
        obtain ⟨g1083,g1084,g1085,g1086,hm⟩ := go4 hm
        obtain ⟨r1087,hr1087,hm⟩ := bo hm
        refine RD hnt (nn 12 (o49 [] true r1087 :: pT :: [])) [] [(112,pB r1087)] [] [] (an3 h1082 (an g1083.1 (an g1083.2 (an h1082 (an g1084 (an3 h1082 (an g1085.1 (an g1085.2 (an h1082 (an g1086 (an h1082 (an (Cl (s25.1.getD (Int.toNat s29) 0) (s25.1.getD (Int.toNat p1) 0) r1087 hr1087) (an h1082 tv))))))))))))) ?_
        exact jD r1087 hm Conv.eqK
       ·replace hm := Be h1082 hm
        refine RD hnt (nn 4 (sk 9 (pF :: []))) [] [(112,pB false)] [] [] (an4 h1082 (an6 h1082 tv)) ?_
        exact jD false hm Conv.eqK
   ·rcases bt (decide (s1 ≤ s17)) with h869 | h869
    ·replace hm := Bd h869 hm
     obtain ⟨g870,g871,g872,g873,hm⟩ := go4 hm
     obtain ⟨r874,hr874,hm⟩ := bo hm
     refine RD hnt (nn 12 (o49 [] true r874 :: .no :: pT :: [])) [] [(60,pB (!r874))] [] [] (an3 h869 (an g870.1 (an g870.2 (an h869 (an g871 (an3 h869 (an g872.1 (an g872.2 (an h869 (an g873 (an h869 (an (Cl ((Cp p0 p1 p3).getD (Int.toNat s17) 0) ((Cp p0 p1 p3).getD (Int.toNat p1) 0) r874 hr874) (an2 h869 tv))))))))))))) ?_
     exact jD (!r874) hm Conv.eqK
    ·replace hm := Be h869 hm
     refine RD hnt (nn 4 (sk 10 (pF :: []))) [] [(60,pB false)] [] [] (an5 h869 (an6 h869 tv)) ?_
     exact jD false hm Conv.eqK
 ·rcases bt (decide (s1 ≤ (w64 (p2 - 1)))) with h582 | h582
  ·replace hm := Bd h582 hm
   obtain ⟨g583,g584,g585,g586,hm⟩ := go4 hm
   obtain ⟨r587,hr587,hm⟩ := bo hm
   refine RD hnt (nn 12 (o49 [] true r587 :: pT :: [])) [] [(43,pB r587)] [] [] (an3 h582 (an g583.1 (an g583.2 (an h582 (an g584 (an3 h582 (an g585.1 (an g585.2 (an h582 (an g586 (an h582 (an (Cl ((Cp p0 p1 p3).getD (Int.toNat s1) 0) ((Cp p0 p1 p3).getD (Int.toNat p1) 0) r587 hr587) (an h582 tv))))))))))))) ?_
   exact jD r587 hm Conv.eqK
  ·replace hm := Be h582 hm
   refine RD hnt (nn 4 (sk 9 (pF :: []))) [] [(43,pB false)] [] [] (an4 h582 (an6 h582 tv)) ?_
   exact jD false hm Conv.eqK
abbrev o60 (ks : List Nat) (b : Bool) (RES : Int × Bool × (List Int)) (sm : List Nat := []) : Orc := .call 223 ks b (.p (.tup [vi RES.1,vb RES.2.1])) [roI RES.2.2] [] sm

theorem Wi (p0 : Int) (RES : Int) (hm : Gd p0 = some RES) : Spec Tryz.prog 243 [pI p0] [] (.p (vk .u64 RES)) [] [] := by
 unfold Gd at hm
 refine SO Tryz.func243 rfl rfl [(0,pI p0)] [] ?_
 intro cx hnt
 refine Sq (RK hnt (.no :: []) [(0,pI p0)] [] tv ?_)
 obtain ⟨r1,hr1,hm⟩ := bo hm
 obtain ⟨g2,hm⟩ := go1 hm
 refine Sq (RK hnt (nn 2 (o45 [] true r1 :: nn 2 [])) [(2,.p (vk .u64 (kshl .u64 1 r1)))] [] (an (AbE (IntKind.u64.wrap p0) r1 hr1) (an g2 tv)) ?_)
 obtain rfl := sj hm
 exact DW.ret (Ai [] [] (.p (vk .u64 (kshl .u64 1 r1))))
abbrev o62 (ks : List Nat) (b : Bool) (RES : Int) (sm : List Nat := []) : Orc := .call 243 ks b (.p (vk .u64 RES)) [] [] sm

theorem Xx (p0 : Int) (RES : Int × Int) (hm : Kc p0 = some RES) : Spec Tryz.prog 244 [rr 0] [.box [.p (vk .u64 p0)]] (.p (vk .u64 RES.1)) [.box [.p (vk .u64 RES.2)]] [] := by
 unfold Kc at hm
 refine SO Tryz.func244 rfl rfl [(0,rr 0)] [(0,bx [.p (vk .u64 p0)])] ?_
 intro cx hnt
 refine Sq (RD hnt (.no :: []) [] [] [] [] tv ?_)
 refine Sq (RK hnt (nn 10 []) [(0,rr 0)] [(0,bx [.p (vk .u64 (kxor .u64 p0 (kshl .u64 p0 13)))])] (an (by decide : (0 : Int) ≤ 13) tv) ?_)
 refine Sq (RK hnt (nn 10 []) [(0,rr 0)] [(0,bx [.p (vk .u64 (kxor .u64 (kxor .u64 p0 (kshl .u64 p0 13)) (kshr .u64 (kxor .u64 p0 (kshl .u64 p0 13)) 7)))])] (an (by decide : (0 : Int) ≤ 7) tv) ?_)
 refine Sq (RK hnt (nn 10 []) [(0,rr 0)] [(0,bx [.p (vk .u64 (kxor .u64 (kxor .u64 (kxor .u64 p0 (kshl .u64 p0 13)) (kshr .u64 (kxor .u64 p0 (kshl .u64 p0 13)) 7)) (kshl .u64 (kxor .u64 (kxor .u64 p0 (kshl .u64 p0 13)) (kshr .u64 (kxor .u64 p0 (kshl .u64 p0 13)) 7)) 17)))])] (an (by decide : (0 : Int) ≤ 17) tv) ?_)
 refine Sq (RD hnt (nn 4 []) [0] [(2,.p (vk .u64 (kxor .u64 (kxor .u64 (kxor .u64 p0 (kshl .u64 p0 13)) (kshr .u64 (kxor .u64 p0 (kshl .u64 p0 13)) 7)) (kshl .u64 (kxor .u64 (kxor .u64 p0 (kshl .u64 p0 13)) (kshr .u64 (kxor .u64 p0 (kshl .u64 p0 13)) 7)) 17))))] [] [] tv ?_)
 obtain rfl := sj hm
 exact DW.ret (Ai [.box [.p (vk .u64 (kxor .u64 (kxor .u64 (kxor .u64 p0 (kshl .u64 p0 13)) (kshr .u64 (kxor .u64 p0 (kshl .u64 p0 13)) 7)) (kshl .u64 (kxor .u64 (kxor .u64 p0 (kshl .u64 p0 13)) (kshr .u64 (kxor .u64 p0 (kshl .u64 p0 13)) 7)) 17)))]] [] (.p (vk .u64 (kxor .u64 (kxor .u64 (kxor .u64 p0 (kshl .u64 p0 13)) (kshr .u64 (kxor .u64 p0 (kshl .u64 p0 13)) 7)) (kshl .u64 (kxor .u64 (kxor .u64 p0 (kshl .u64 p0 13)) (kshr .u64 (kxor .u64 p0 (kshl .u64 p0 13)) 7)) 17)))))
abbrev o63 (ks : List Nat) (b : Bool) (RES : Int × Int) (sm : List Nat := []) : Orc := .call 244 ks b (.p (vk .u64 RES.1)) [.box [.p (vk .u64 RES.2)]] [] sm

abbrev c61e1 (s1 : (List Int) × Int × Int) (p1 : Int) (y2 : Int) := (Ca (Ca (elI s1.1) (Int.toNat s1.2.2) [vi (s1.1.getD (Int.toNat (w64 (p1 + y2))) 0)]) (Int.toNat (w64 (p1 + y2))) (setRange ((Ca (elI s1.1) (Int.toNat s1.2.2) [vi (s1.1.getD (Int.toNat (w64 (p1 + y2))) 0)]) (Int.toNat (w64 (p1 + y2)))) 0 [vi (s1.1.getD (Int.toNat s1.2.2) 0)]))
abbrev c61e2 (s1 : (List Int) × Int × Int) (p1 : Int) (y2 : Int) := ((s1.1.set (Int.toNat s1.2.2) (s1.1.getD (Int.toNat (w64 (p1 + y2))) 0)).set (Int.toNat (w64 (p1 + y2))) (s1.1.getD (Int.toNat s1.2.2) 0))
abbrev c61e3 (r15 : Int × Int) (r2 : Int) := (w64 (kand .u64 r15.1 (IntKind.u64.wrap (r2 - 1))))
theorem Qa (p0 : List Int) (p1 : Int) (p2 : Int) (RES : List Int) (hm : Dy p0 p1 p2 = some RES) : Spec Tryz.prog 217 [ow 0 p0.length,pI p1,pI p2] [roI p0] (.p (.tup [])) [roI RES] [] := by
 unfold Dy at hm
 refine SO Tryz.func217 rfl rfl [(0,ow 0 p0.length),(1,pI p1),(2,pI p2)] [(0,ob0 (roI p0))] ?_
 intro cx hnt
 refine Sq (RD hnt (nn 4 []) [2] [(6,pI (w64 (p2 - p1)))] [] [] tv ?_)
 refine Sq (RD hnt (nn 2 []) [] [(15,pB (decide ((w64 (p2 - p1)) ≥ 8)))] [] [] tv ?_)
 refine Af hm ?_ ?_
 ·intro h1 hm
  refine Sq (RD hnt (nn 4 []) [15] [(7,rr 1056)] [] [(1056,bx [.p (vk .u64 (IntKind.u64.wrap (w64 (p2 - p1))))])] tv ?_)
  obtain ⟨r2,hr2,hm⟩ := bo hm
  refine Sq (RD hnt (.no :: o62 [] true r2 :: .no :: []) [] [(8,.p (vk .u64 r2))] [] [] (an (Wi (w64 (p2 - p1)) r2 hr2) tv) ?_)
  refine Sq (RD hnt (nn 7 []) [] [(9,pI (w64 ((w64 (p1 + (w64 ((w64 (Int.tdiv (w64 (p2 - p1)) 4)) * 2)))) - 1)))] [] [] (an (by decide : (4 : Int) ≠ 0) tv) ?_)
  refine Bk ?_
  refine DW.whileO (fun (s1 : (List Int) × Int × Int) => Aj [(0,ow 0 s1.1.length),(1,pI p1),(6,pI (w64 (p2 - p1))),(7,rr 1056),(8,.p (vk .u64 r2)),(9,pI s1.2.2)] [(0,ob0 (roI s1.1)),(1056,bx [.p (vk .u64 s1.2.1)])]) hm Conv.eqK ?_
  intro s1 n1 hm
  unfold He at hm
  refine Sq (Sq (RD hnt (nn 8 []) [] [(33,pB (decide (s1.2.2 ≤ (w64 ((w64 (p1 + (w64 ((w64 (Int.tdiv (w64 (p2 - p1)) 4)) * 2)))) + 1)))))] [] [] (an (by decide : (4 : Int) ≠ 0) tv) ?_))
  refine Af hm ?_ ?_
  ·intro h14 hm
   refine Sk ?_
   refine Sq (Bk ?_)
   obtain ⟨r15,hr15,hm⟩ := bo hm
   refine Sq (RD hnt (o63 [1056] true r15 :: nn 5 []) [33] [(10,pI (c61e3 r15 r2))] [] [(1056,bx [.p (vk .u64 r15.2)])] (an (Xx s1.2.1 r15 hr15) (an tv tv)) ?_)
   refine Sq (Sq (RD hnt (nn 3 []) [] [(43,pB (decide ((c61e3 r15 r2) ≥ (w64 (p2 - p1)))))] [] [] tv ?_))
   refine Jn (ι := Int) (fun (y2 : Int) => Aj [(0,ow 0 s1.1.length),(1,pI p1),(6,pI (w64 (p2 - p1))),(7,rr 1056),(8,.p (vk .u64 r2)),(9,pI s1.2.2),(10,pI y2)] [(0,ob0 (roI s1.1)),(1056,bx [.p (vk .u64 r15.2)])]) (fun y2 => (Co p1 s1 n1 r15) y2 = some RES) ?_ ?_
   ·intro y2 hm
    unfold Co at hm
    obtain ⟨g17,g18,g19,g20,hm⟩ := go4 hm
    obtain ⟨g21,g22,g23,g24,hm⟩ := go4 hm
    refine RN hnt (nn 20 []) [(0,ow 0 (c61e2 s1 p1 y2).length),(1,pI p1),(6,pI (w64 (p2 - p1))),(7,rr 1056),(8,.p (vk .u64 r2)),(9,pI s1.2.2)] [(0,ob0 (roI (c61e2 s1 p1 y2))),(1056,bx [.p (vk .u64 r15.2)])] [(0,ow 0 s1.1.length)] [(0,.row 1 s1.1.length (c61e1 s1 p1 y2))] (an g17.1 (an g17.2 (an g18 (an g19.1 (an g19.2 (an g20 (an g21.1 (an g21.2 (an g22 (an g23.1 (an g23.2 (an g24 tv)))))))))))) (by kernel_rfl) (.cons rfl (MLe.ownLen (enc := Bo) (d := 0) (f := (c61e1 s1 p1 y2)) (RowIs.updR (RowIs.upd RowIs.elems (s1.1.getD (Int.toNat (w64 (p1 + y2))) 0) rfl) (by omega) (s1.1.getD (Int.toNat s1.2.2) 0) rfl)) .nil) (.cons rfl (BLe.typed (RowIs.updR (RowIs.upd RowIs.elems (s1.1.getD (Int.toNat (w64 (p1 + y2))) 0) rfl) (by omega) (s1.1.getD (Int.toNat s1.2.2) 0) rfl)) .nil) ?_
    refine DW.done ?_
    show DW _ _ _ _ _
    refine RD hnt (nn 3 []) [] [(9,pI (w64 (s1.2.2 + 1)))] [] [] tv ?_
    exact jD ((c61e2 s1 p1 y2),r15.2,(w64 (s1.2.2 + 1))) hm Conv.eqK
   ·refine Af hm ?_ ?_
    ·intro h16 hm
     refine RD hnt (nn 4 []) [43] [(10,pI (w64 ((c61e3 r15 r2) - (w64 (p2 - p1)))))] [] [] tv ?_
     exact jD (w64 ((c61e3 r15 r2) - (w64 (p2 - p1)))) hm Conv.eqK
    ·intro h16 hm
     refine Sk ?_
     exact jD (c61e3 r15 r2) hm Conv.t0
  ·intro h14 hm
   refine DW.exit ?_
   refine An ?_
   refine Aw ?_
   refine Ak ?_
   show DW _ _ _ _ _
   refine DW.done ?_
   obtain rfl := sj hm
   exact endK [roI s1.1] [] (.p (.tup []))
 ·intro h1 hm
  refine Sk ?_
  refine DW.done ?_
  obtain rfl := sj hm
  exact endK [roI p0] [] (.p (.tup []))
abbrev o61 (ks : List Nat) (b : Bool) (RES : List Int) (sm : List Nat := []) : Orc := .call 217 ks b (.p (.tup [])) [roI RES] [] sm

abbrev Um (s1 : (List Int) × Int × Int × Int × Bool × Bool) : Nat × MV := (10,pI (w64 (s1.2.2.1 - s1.2.1)))
abbrev AaU (s1 : (List Int) × Int × Int × Int × Bool × Bool) := (w64 (Int.tdiv (w64 (s1.2.2.1 - s1.2.1)) 8))
theorem Su (rec : (List Int) → Int → Int → Int → Option (List Int)) (ih : ∀ (p0 : List Int) (p1 : Int) (p2 : Int) (p3 : Int) (RES : List Int),rec p0 p1 p2 p3 = some RES → Spec Tryz.prog 181 [ow 0 p0.length,pI p1,pI p2,pI p3] [roI p0] (.p (.tup [])) [roI RES] []) (p0 : List Int) (p1 : Int) (p2 : Int) (p3 : Int) (RES : List Int) (hm : Hh rec p0 p1 p2 p3 = some RES) : Spec Tryz.prog 181 [ow 0 p0.length,pI p1,pI p2,pI p3] [roI p0] (.p (.tup [])) [roI RES] [] := by
 unfold Hh at hm
 refine SO Tryz.func181 rfl rfl [(0,ow 0 p0.length),(1,pI p1),(2,pI p2),(3,pI p3)] [(0,ob0 (roI p0))] ?_
 intro cx hnt
 refine Sq (RD hnt (.no :: []) [] [(8,pB true)] [] [] tv ?_)
 refine Sq (RD hnt (.no :: []) [] [(9,pB true)] [] [] tv ?_)
 refine Bk ?_
 refine DW.whileO (fun (s1 : (List Int) × Int × Int × Int × Bool × Bool) => Aj [(0,ow 0 s1.1.length),(1,pI s1.2.1),(2,pI s1.2.2.1),(3,pI s1.2.2.2.1),(8,pB s1.2.2.2.2.1),(9,pB s1.2.2.2.2.2)] [(0,ob0 (roI s1.1))]) hm Conv.eqK ?_
 intro s1 n1 hm
 unfold Je at hm
 refine Bk ?_
 refine Sq (RD hnt (nn 4 []) [] [(Um s1)] [] [] tv ?_)
 refine Sq (Sq (RD hnt (nn 2 []) [] [(23,pB (decide ((w64 (s1.2.2.1 - s1.2.1)) ≤ 12)))] [] [] tv ?_))
 refine Af hm ?_ ?_
 ·intro h66 hm
  obtain ⟨r67,hr67,hm⟩ := bo hm
  obtain ⟨g68,hm⟩ := go1 hm
  refine Sq (RK hnt (nn 3 (o48 [0] true r67 :: [])) [] [(0,ob0 (roI r67))] (an (Ql s1.1 s1.2.1 s1.2.2.1 r67 hr67) (an (⟨rfl,g68⟩ : Body.same (roI s1.1) (roI r67)) tv)) ?_)
  obtain rfl := sj hm
  exact DW.ret (Ai [roI r67] [] (.p (.tup [])))
 ·intro h66 hm
  refine Sk ?_
  refine Sq (Sq (RD hnt (nn 2 []) [23] [(29,pB (s1.2.2.2.1 == 0))] [] [] tv ?_))
  refine Af hm ?_ ?_
  ·intro h69 hm
   obtain ⟨r70,hr70,hm⟩ := bo hm
   obtain ⟨g71,hm⟩ := go1 hm
   refine Sq (RK hnt (nn 3 (o51 [0] true r70 :: [])) [] [(0,ob0 (roI r70))] (an (Sp s1.1 s1.2.1 s1.2.2.1 r70 hr70) (an (⟨rfl,g71⟩ : Body.same (roI s1.1) (roI r70)) tv)) ?_)
   obtain rfl := sj hm
   exact DW.ret (Ai [roI r70] [] (.p (.tup [])))
  ·intro h69 hm
   refine Sk ?_
   refine Sq (Sq (RD hnt (nn 2 []) [29] [(35,pB (!s1.2.2.2.2.1))] [] [] tv ?_))
   refine Jn (ι := (List Int) × Int) (fun (y8 : (List Int) × Int) => Aj [(0,ow 0 y8.1.length),(1,pI s1.2.1),(2,pI s1.2.2.1),(3,pI y8.2),(8,pB s1.2.2.2.2.1),(9,pB s1.2.2.2.2.2),(Um s1)] [(0,ob0 (roI y8.1))]) (fun y8 => (Dw rec s1 n1) y8 = some RES) ?_ ?_
   ·intro y8 hm
    unfold Dw at hm
    obtain ⟨r75,hr75,hm⟩ := bo hm
    refine Sq (RD hnt (nn 3 (o53 [] true r75 :: nn 5 [])) [] [(11,pI r75.1),(12,pI r75.2)] [] [] (an (Qx y8.1 s1.2.1 s1.2.2.1 r75 hr75) tv) ?_)
    refine Sq (Sq (RD hnt (nn 2 []) [] [(50,pB (r75.2 == 2))] [] [] tv ?_))
    refine Jn (ι := (List Int) × Int × Int) (fun (y9 : (List Int) × Int × Int) => Aj [(0,ow 0 y9.1.length),(1,pI s1.2.1),(2,pI s1.2.2.1),(3,pI y8.2),(8,pB s1.2.2.2.2.1),(9,pB s1.2.2.2.2.2),(Um s1),(11,pI y9.2.1),(12,pI y9.2.2)] [(0,ob0 (roI y9.1))]) (fun y9 => (Dt rec s1 n1 y8) y9 = some RES) ?_ ?_
    ·intro y9 hm
     unfold Dt at hm
     refine Sq (Sq (DW.regJ (sl2 := [(0,ow 0 y9.1.length),(1,pI s1.2.1),(2,pI s1.2.2.1),(3,pI y8.2),(8,pB s1.2.2.2.2.1),(9,pB s1.2.2.2.2.2),(Um s1),(11,pI y9.2.1),(68,pB ((s1.2.2.2.2.1 && s1.2.2.2.2.2) && (y9.2.2 == 1)))]) (ob2 := [(0,ob0 (roI y9.1))]) ?_ ?_))
     ·rcases bt s1.2.2.2.2.1 with h79 | h79
      ·rcases bt s1.2.2.2.2.2 with h80 | h80
       ·exact RT hnt (nn 3 (pT :: nn 3 (pT :: []))) [(68,pB (y9.2.2 == 1))] (an2 h79 (an3 h80 tv)) (by kernel_rfl) (.cons rfl (.of_eq (by rw [h79,h80]; try rfl)) .nil)
       ·exact RT hnt (nn 3 (pT :: .no :: sk 2 (pF :: []))) [(68,pB false)] (an2 h79 (an3 h80 tv)) (by kernel_rfl) (.cons rfl (.of_eq (by rw [h79,h80]; try rfl)) .nil)
      ·exact RT hnt (nn 2 (.skip :: pF :: .no :: sk 2 (pF :: []))) [(68,pB false)] (an2 h79 (an3 ff tv)) (by kernel_rfl) (.cons rfl (.of_eq (by rw [h79]; try rfl)) .nil)
     ·refine Jn (ι := List Int) (fun (y10 : List Int) => Aj [(0,ow 0 y10.length),(1,pI s1.2.1),(2,pI s1.2.2.1),(3,pI y8.2),(8,pB s1.2.2.2.2.1),(9,pB s1.2.2.2.2.2),(Um s1),(11,pI y9.2.1)] [(0,ob0 (roI y10))]) (fun y10 => (Dj rec s1 n1 y8 y9) y10 = some RES) ?_ ?_
      ·intro y10 hm
       unfold Dj at hm
       refine Sq (Sq ?_)
       refine Jn (ι := Bool) (fun (y11 : Bool) => Aj [(0,ow 0 y10.length),(1,pI s1.2.1),(2,pI s1.2.2.1),(3,pI y8.2),(8,pB s1.2.2.2.2.1),(9,pB s1.2.2.2.2.2),(Um s1),(11,pI y9.2.1),(87,pB y11)] [(0,ob0 (roI y10))]) (fun y11 => (Di rec s1 n1 y8 y9 y10) y11 = some RES) ?_ ?_
       ·intro y11 hm
        unfold Di at hm
        refine Af hm ?_ ?_
        ·intro h91 hm
         obtain ⟨r92,hr92,hm⟩ := bo hm
         obtain ⟨g93,hm⟩ := go1 hm
         refine Sq (RN hnt (nn 4 (o59 [0] true r92 :: .no :: [])) [(0,ow 0 r92.2.length),(2,pI s1.2.2.1),(3,pI y8.2),(8,pB s1.2.2.2.2.1),(9,pB s1.2.2.2.2.2),(13,pI r92.1)] [(0,ob0 (roI r92.2))] [(0,ow 0 y10.length)] [] (an (Pn y10 s1.2.1 s1.2.2.1 y9.2.1 r92 hr92) (an (⟨rfl,g93⟩ : Body.same (roI y10) (roI r92.2)) tv)) (by kernel_rfl) (.cons rfl (MLe.of_eq (congrArg (MV.own 0 0 0) g93)) .nil) .nil ?_)
         refine Sq (RD hnt (nn 2 []) [13] [(1,pI r92.1)] [] [] tv ?_)
         refine DW.exit ?_
         refine Ak ?_
         show DW _ _ _ _ _
         exact jD (r92.2,r92.1,s1.2.2.1,y8.2,s1.2.2.2.2.1,s1.2.2.2.2.2) hm Conv.eqK
        ·intro h91 hm
         refine Sk ?_
         obtain ⟨r94,hr94,hm⟩ := bo hm
         obtain ⟨g95,hm⟩ := go1 hm
         refine Sq (RN hnt (nn 4 (o60 [0] true r94 :: nn 5 [])) [(0,ow 0 r94.2.2.length),(1,pI s1.2.1),(2,pI s1.2.2.1),(3,pI y8.2),(Um s1),(14,pI r94.1),(15,pB r94.2.1)] [(0,ob0 (roI r94.2.2))] [(0,ow 0 y10.length)] [] (an (Sb y10 s1.2.1 s1.2.2.1 y9.2.1 r94 hr94) (an (⟨rfl,g95⟩ : Body.same (roI y10) (roI r94.2.2)) tv)) (by kernel_rfl) (.cons rfl (MLe.of_eq (congrArg (MV.own 0 0 0) g95)) .nil) .nil ?_)
         refine Sq (RD hnt (nn 2 []) [15] [(9,pB r94.2.1)] [] [] tv ?_)
         refine Sq (RD hnt (nn 8 []) [] [(16,pI (w64 (r94.1 - s1.2.1))),(17,pI (w64 (s1.2.2.1 - r94.1)))] [] [] tv ?_)
         refine Sq (RD hnt (nn 3 []) [10] [(18,pI (AaU s1))] [] [] (an (by decide : (8 : Int) ≠ 0) tv) ?_)
         refine Sq (RD hnt (nn 3 []) [] [(113,pB (decide ((w64 (r94.1 - s1.2.1)) < (w64 (s1.2.2.1 - r94.1)))))] [] [] tv ?_)
         refine Af hm ?_ ?_
         ·intro h96 hm
          refine Sq (RD hnt (nn 4 []) [16,17,18,113] [(8,pB (decide ((w64 (r94.1 - s1.2.1)) ≥ (AaU s1))))] [] [] tv ?_)
          obtain ⟨r97,hr97,hm⟩ := bo hm
          obtain ⟨g98,hm⟩ := go1 hm
          refine Sq (RN hnt (nn 4 (.call 181 [0] true (.p (.tup [])) [roI r97] [] [] :: [])) [(0,ow 0 r97.length),(2,pI s1.2.2.1),(3,pI y8.2),(8,pB (decide ((w64 (r94.1 - s1.2.1)) ≥ (AaU s1)))),(9,pB r94.2.1),(14,pI r94.1)] [(0,ob0 (roI r97))] [(0,ow 0 r94.2.2.length)] [] (an (ih r94.2.2 s1.2.1 r94.1 y8.2 r97 hr97) (an (⟨rfl,g98⟩ : Body.same (roI r94.2.2) (roI r97)) tv)) (by kernel_rfl) (.cons rfl (MLe.of_eq (congrArg (MV.own 0 0 0) g98)) .nil) .nil ?_)
          refine RD hnt (nn 3 []) [14] [(1,pI (w64 (r94.1 + 1)))] [] [] tv ?_
          refine DW.done ?_
          show DW _ _ _ _ _
          exact jD (r97,(w64 (r94.1 + 1)),s1.2.2.1,y8.2,(decide ((w64 (r94.1 - s1.2.1)) ≥ (AaU s1))),r94.2.1) hm Conv.eqK
         ·intro h96 hm
          refine Sq (RD hnt (nn 4 []) [16,17,18,113] [(8,pB (decide ((w64 (s1.2.2.1 - r94.1)) ≥ (AaU s1))))] [] [] tv ?_)
          obtain ⟨r99,hr99,hm⟩ := bo hm
          obtain ⟨g100,hm⟩ := go1 hm
          refine Sq (RN hnt (nn 5 (.call 181 [0] true (.p (.tup [])) [roI r99] [] [] :: [])) [(0,ow 0 r99.length),(1,pI s1.2.1),(3,pI y8.2),(8,pB (decide ((w64 (s1.2.2.1 - r94.1)) ≥ (AaU s1)))),(9,pB r94.2.1),(14,pI r94.1)] [(0,ob0 (roI r99))] [(0,ow 0 r94.2.2.length)] [] (an (ih r94.2.2 (w64 (r94.1 + 1)) s1.2.2.1 y8.2 r99 hr99) (an (⟨rfl,g100⟩ : Body.same (roI r94.2.2) (roI r99)) tv)) (by kernel_rfl) (.cons rfl (MLe.of_eq (congrArg (MV.own 0 0 0) g100)) .nil) .nil ?_)
          refine RD hnt (nn 2 []) [14] [(2,pI r94.1)] [] [] tv ?_
          refine DW.done ?_
          show DW _ _ _ _ _
          exact jD (r99,s1.2.1,r94.1,y8.2,(decide ((w64 (s1.2.2.1 - r94.1)) ≥ (AaU s1))),r94.2.1) hm Conv.eqK
       ·rcases bt (decide (s1.2.1 > 0)) with h85 | h85
        ·replace hm := Bd h85 hm
         obtain ⟨g86,g87,g88,g89,hm⟩ := go4 hm
         obtain ⟨r90,hr90,hm⟩ := bo hm
         refine RD hnt (nn 12 (o49 [] true r90 :: .no :: pT :: [])) [] [(87,pB (!r90))] [] [] (an4 h85 (an g86.1 (an g86.2 (an h85 (an g87 (an3 h85 (an g88.1 (an g88.2 (an h85 (an g89 (an h85 (an (Cl (y10.getD (Int.toNat (w64 (s1.2.1 - 1))) 0) (y10.getD (Int.toNat y9.2.1) 0) r90 hr90) (an2 h85 tv))))))))))))) ?_
         exact jD (!r90) hm Conv.eqK
        ·replace hm := Be h85 hm
         refine RD hnt (nn 3 (sk 11 (pF :: []))) [] [(87,pB false)] [] [] (an6 h85 (an6 h85 tv)) ?_
         exact jD false hm Conv.eqK
      ·refine Af hm ?_ ?_
       ·intro h81 hm
        obtain ⟨r82,hr82,hm⟩ := bo hm
        obtain ⟨g83,hm⟩ := go1 hm
        refine Sq (RN hnt (nn 3 (o58 [0] true r82 :: [])) [(0,ow 0 r82.2.length),(1,pI s1.2.1),(2,pI s1.2.2.1),(3,pI y8.2),(8,pB s1.2.2.2.2.1),(9,pB s1.2.2.2.2.2),(Um s1),(11,pI y9.2.1),(72,pB r82.1)] [(0,ob0 (roI r82.2))] [(0,ow 0 y9.1.length)] [] (an (Mm y9.1 s1.2.1 s1.2.2.1 r82 hr82) (an (⟨rfl,g83⟩ : Body.same (roI y9.1) (roI r82.2)) tv)) (by kernel_rfl) (.cons rfl (MLe.of_eq (congrArg (MV.own 0 0 0) g83)) .nil) .nil ?_)
        refine Af hm ?_ ?_
        ·intro h84 hm
         obtain rfl := sj hm
         exact DW.ret (Ai [roI r82.2] [] (.p (.tup [])))
        ·intro h84 hm
         refine Sk ?_
         exact jD r82.2 hm Conv.t0
       ·intro h81 hm
        refine Sk ?_
        exact jD y9.1 hm Conv.t0
    ·refine Af hm ?_ ?_
     ·intro h76 hm
      obtain ⟨r77,hr77,hm⟩ := bo hm
      obtain ⟨g78,hm⟩ := go1 hm
      refine Sq (RN hnt (nn 3 (o57 [0] true r77 :: [])) [(0,ow 0 r77.length),(1,pI s1.2.1),(2,pI s1.2.2.1),(3,pI y8.2),(8,pB s1.2.2.2.2.1),(9,pB s1.2.2.2.2.2),(Um s1),(11,pI r75.1)] [(0,ob0 (roI r77))] [(0,ow 0 y8.1.length)] [] (an (Qp y8.1 s1.2.1 s1.2.2.1 r77 hr77) (an (⟨rfl,g78⟩ : Body.same (roI y8.1) (roI r77)) tv)) (by kernel_rfl) (.cons rfl (MLe.of_eq (congrArg (MV.own 0 0 0) g78)) .nil) .nil ?_)
      refine Sq (RD hnt (nn 7 []) [] [(11,pI (w64 ((w64 (s1.2.2.1 - 1)) - (w64 (r75.1 - s1.2.1)))))] [] [] tv ?_)
      refine RD hnt (.no :: []) [] [(12,pI 1)] [] [] tv ?_
      exact jD (r77,(w64 ((w64 (s1.2.2.1 - 1)) - (w64 (r75.1 - s1.2.1)))),1) hm Conv.eqK
     ·intro h76 hm
      refine Sk ?_
      exact jD (y8.1,r75.1,r75.2) hm Conv.t0
   ·refine Af hm ?_ ?_
    ·intro h72 hm
     obtain ⟨r73,hr73,hm⟩ := bo hm
     obtain ⟨g74,hm⟩ := go1 hm
     refine Sq (RN hnt (nn 3 (o61 [0] true r73 :: [])) [(0,ow 0 r73.length),(1,pI s1.2.1),(2,pI s1.2.2.1),(3,pI s1.2.2.2.1),(8,pB s1.2.2.2.2.1),(9,pB s1.2.2.2.2.2),(Um s1)] [(0,ob0 (roI r73))] [(0,ow 0 s1.1.length)] [] (an (Qa s1.1 s1.2.1 s1.2.2.1 r73 hr73) (an (⟨rfl,g74⟩ : Body.same (roI s1.1) (roI r73)) tv)) (by kernel_rfl) (.cons rfl (MLe.of_eq (congrArg (MV.own 0 0 0) g74)) .nil) .nil ?_)
     refine RD hnt (nn 3 []) [] [(3,pI (w64 (s1.2.2.2.1 - 1)))] [] [] tv ?_
     exact jD (r73,(w64 (s1.2.2.2.1 - 1))) hm Conv.eqK
    ·intro h72 hm
     refine Sk ?_
     exact jD (s1.1,s1.2.2.2.1) hm Conv.t0
theorem Lr : ∀ (n : Nat) (p0 : List Int) (p1 : Int) (p2 : Int) (p3 : Int) (RES : List Int),Bw n p0 p1 p2 p3 = some RES → Spec Tryz.prog 181 [ow 0 p0.length,pI p1,pI p2,pI p3] [roI p0] (.p (.tup [])) [roI RES] []
  | 0,p0,p1,p2,p3,RES,hm => by simp [Bw] at hm
  | n + 1,p0,p1,p2,p3,RES,hm => Su (Bw n) (Lr n) p0 p1 p2 p3 RES hm
theorem Tk (p0 : List Int) (p1 : Int) (p2 : Int) (p3 : Int) (RES : List Int) (hm : Ka p0 p1 p2 p3 = some RES) : Spec Tryz.prog 181 [ow 0 p0.length,pI p1,pI p2,pI p3] [roI p0] (.p (.tup [])) [roI RES] [] := Lr En p0 p1 p2 p3 RES hm
abbrev o47 (ks : List Nat) (b : Bool) (RES : List Int) (sm : List Nat := []) : Orc := .call 181 ks b (.p (.tup [])) [roI RES] [] sm

theorem AbA (p0 : List Int) (RES : List Int) (hm : Lq p0 = some RES) : Spec Tryz.prog 116 [ow 0 p0.length] [roI p0] (.p (.tup [])) [roI RES] [] := by
 unfold Lq at hm
 refine SO Tryz.func116 rfl rfl [(0,ow 0 p0.length)] [(0,ob0 (roI p0))] ?_
 intro cx hnt
 refine Sq (RD hnt (nn 3 []) [] [(2,pI ((p0.length : Nat) : Int))] [] [] tv ?_)
 obtain ⟨r1,hr1,hm⟩ := bo hm
 obtain ⟨r2,hr2,hm⟩ := bo hm
 obtain ⟨g3,hm⟩ := go1 hm
 refine RK hnt (nn 4 (o45 [] true r1 :: o47 [0] true r2 :: [])) [] [(0,ob0 (roI r2))] (an (AbE (IntKind.u64.wrap ((p0.length : Nat) : Int)) r1 hr1) (an (Tk p0 0 ((p0.length : Nat) : Int) r1 r2 hr2) (an (⟨rfl,g3⟩ : Body.same (roI p0) (roI r2)) tv))) ?_
 refine DW.done ?_
 obtain rfl := sj hm
 exact endK [roI r2] [] (.p (.tup []))
abbrev o44 (ks : List Nat) (b : Bool) (RES : List Int) (sm : List Nat := []) : Orc := .call 116 ks b (.p (.tup [])) [roI RES] [] sm

abbrev AcO : Nat × Obj := (1048,bx [.p (.sl .nil 0 0 (fun _ => [])),.p (.sl .nil 0 0 (fun _ => []))])
abbrev Le (p0 : Aa) (k1 : Nat) := (p0.tasks.getD k1 (default : At))
abbrev c43e3 (p0 : Aa) : Nat × MV := (21,pI ((p0.tasks.length : Nat) : Int))
abbrev AcP (r3 : freezer) : Nat × Obj := (1145,ob0 (As r3.f.frosts))
abbrev c43e5 (r3 : freezer) (s1 : List Int) : Nat × Obj := (1144,bx [.p (Bb r3.h.tree.nodes),pI r3.h.tree.next,.p (Bf r3.h.tasks),pI r3.h.next,ow 1145 r3.f.frosts.length,ow 1146 s1.length])
abbrev c43e6 (p0 : Aa) : Nat × Obj := (1024,bx (pm (Ab p0)))
abbrev c43e7 (p1 : Ac) : Nat × Obj := (1032,bx (pm (Az p1)))
theorem Sr (p0 : Aa) (p1 : Ac) (p2 : List Int) (RES : Ac × Int) (hm : Mb p0 p1 p2 = some RES) : Spec Tryz.prog 53 [.p (.agg (Ab p0)),.p (.agg (Az p1)),.p (slI p2)] [] (.tup [.agg [ow 0 RES.1.frosts.length,ow 1 RES.1.stopped.length],pI RES.2]) [] [As RES.1.frosts,roI RES.1.stopped] := by
 unfold Mb at hm
 refine SO Tryz.func53 rfl rfl [(0,.p (.agg (Ab p0))),(1,.p (.agg (Az p1))),(2,.p (slI p2))] [] ?_
 intro cx hnt
 refine Sq (RK hnt (nn 4 []) [(2,.p (slI p2)),(3,rr 1024),(4,rr 1032),(6,rr 1048)] [(c43e6 p0),(c43e7 p1),(AcO)] tv ?_)
 obtain ⟨r1,hr1,hm⟩ := bo hm
 refine Sq (Sq (RD hnt (nn 2 (o21 [] true r1 :: .no :: [])) [] [(14,pB (!r1))] [] [] (an (Xz p0 p1 r1 hr1) tv) ?_))
 refine Af hm ?_ ?_
 ·intro h2 hm
  refine Sq (RD hnt (nn 3 []) [2,3,4,14] [(7,pI 1)] [1024,1032] [] tv ?_)
  refine DW.cv [] [] [] [(1048,bx [ow 100000 0,ow 100001 0]),(100000,ob0 (As [])),(100001,ob0 (roI []))] (Conv.ads [(.o 1048 0,100000,4,elems Ch Bz []),(.o 1048 1,100001,1,elems Bo 0 [])]) ?_
  obtain rfl := sj hm
  exact DW.ret (Ai [As [],roI []] [100000,100001] (.tup [.agg [ow 0 0,ow 1 0],pI 1]))
 ·intro h2 hm
  refine Sk ?_
  obtain ⟨r3,hr3,hm⟩ := bo hm
  refine Sq (RD hnt (nn 2 (o35 [] true r3 :: .no :: [])) [14] [(8,rr 1144)] [] [(1144,bx [.p (Bb r3.h.tree.nodes),pI r3.h.tree.next,.p (Bf r3.h.tasks),pI r3.h.next,ow 1145 r3.f.frosts.length,ow 1146 r3.f.stopped.length]),(AcP r3),(1146,ob0 (roI r3.f.stopped))] (an (Zf p0 p1 r3 hr3) tv) ?_)
  refine Sq (Sq (RD hnt (nn 4 []) [] [(20,.p (Bf p0.tasks)),(c43e3 p0),(22,pI 0)] [] [] tv ?_))
  refine Bk ?_
  obtain ⟨hc1,hm⟩ := go1 hm
  refine DW.rangeO (fun (k1 : Nat) (s1 : List Int) => Aj [(2,.p (slI p2)),(3,rr 1024),(4,rr 1032),(6,rr 1048),(8,rr 1144),(20,.p (Bf p0.tasks)),(c43e3 p0),(22,pI ((k1 : Nat) : Int))] [(c43e6 p0),(c43e7 p1),(AcO),(c43e5 r3 s1),(AcP r3),(1146,ob0 (roI s1))]) Bq hm Conv.eqK ?_
  intro k1 s1 n1 hk1 hs1 he1
  refine Sq (RD hnt (.no :: []) [] [(23,pB (decide (((k1 : Nat) : Int) < ((p0.tasks.length : Nat) : Int))))] [] [] tv ?_)
  refine Sq (Cj (decide (((k1 : Nat) : Int) < ((p0.tasks.length : Nat) : Int))) ?_ ?_)
  ·intro h32
   have hlt1 : k1 < p0.tasks.length := by have := of_decide_eq_true h32; omega
   have hm := hs1 hlt1
   unfold Vj at hm
   refine Sk ?_
   refine Sq ?_
   refine Jn (ι := List Int) (fun (y5 : List Int) => Aj [(2,.p (slI p2)),(3,rr 1024),(4,rr 1032),(6,rr 1048),(8,rr 1144),(20,.p (Bf p0.tasks)),(c43e3 p0),(22,pI ((k1 : Nat) : Int))] [(c43e6 p0),(c43e7 p1),(AcO),(1144,bx [.p (Bb r3.h.tree.nodes),pI r3.h.tree.next,.p (Bf r3.h.tasks),pI r3.h.next,ow 1145 r3.f.frosts.length,ow 1146 y5.length]),(AcP r3),(1146,ob0 (roI y5))]) (fun y5 => (Nv n1) y5 = some RES) ?_ ?_
   ·intro y5 hm
    unfold Nv at hm
    refine RD hnt (nn 2 []) [] [(22,pI (w64 (((k1 : Nat) : Int) + 1)))] [] [] tv ?_
    exact jD y5 ⟨hlt1,hm⟩ (Conv.tp [(22,pI (w64 (((k1 : Nat) : Int) + 1)))] [] (by kernel_rfl) (.cons rfl (.of_eq (congrArg pI (Bn hlt1 hc1))) .nil) .nil)
   ·refine Bk ?_
    refine Sq (RD hnt (nn 4 []) [23] [(10,rr 1080)] [] [(1080,bx (pm (Ay (Le p0 k1))))] (an (nn0 k1) (an (ltc hlt1) tv)) ?_)
    obtain ⟨r33,hr33,hm⟩ := bo hm
    refine Sq ?_
    refine Jn (ι := Bool) (fun (y6 : Bool) => Aj [(2,.p (slI p2)),(3,rr 1024),(4,rr 1032),(6,rr 1048),(8,rr 1144),(10,rr 1080),(20,.p (Bf p0.tasks)),(c43e3 p0),(22,pI ((k1 : Nat) : Int)),(48,pB y6)] [(c43e6 p0),(c43e7 p1),(AcO),(1080,bx (pm (Ay (Le p0 k1)))),(c43e5 r3 s1),(AcP r3),(1146,ob0 (roI s1))]) (fun y6 => (Ln (Le p0 k1) s1 n1) y6 = some RES) ?_ ?_
    ·intro y6 hm
     unfold Ln at hm
     refine Af hm ?_ ?_
     ·intro h38 hm
      obtain ⟨g39,hm⟩ := go1 hm
      refine RN hnt (nn 14 []) [(2,.p (slI p2)),(3,rr 1024),(4,rr 1032),(6,rr 1048),(8,rr 1144),(20,.p (Bf p0.tasks)),(c43e3 p0),(22,pI ((k1 : Nat) : Int))] [(c43e6 p0),(c43e7 p1),(AcO),(1144,bx [.p (Bb r3.h.tree.nodes),pI r3.h.tree.next,.p (Bf r3.h.tasks),pI r3.h.next,ow 1145 r3.f.frosts.length,ow 1146 (s1 ++ [(Le p0 k1).id]).length]),(AcP r3),(1146,ob0 (roI (s1 ++ [(Le p0 k1).id])))] [] [(1144,.box [.p (Bb r3.h.tree.nodes),pI r3.h.tree.next,.p (Bf r3.h.tasks),pI r3.h.next,ow 1145 r3.f.frosts.length,ow 1146 (s1.length + 1)]),(1146,.row 1 (s1.length + 1) (Dq s1.length (elI s1) (cut 1 [vi (Le p0 k1).id])))] (an (by omega : (s1.length + 1) * 8 ≤ 140737488355328) tv) (by kernel_rfl) .nil (.cons rfl (.box (.cons .rfl (.cons .rfl (.cons .rfl (.cons .rfl (.cons .rfl (.cons (MLe.ownLen (enc := Bo) (d := 0) (f := (Dq s1.length (elI s1) (cut 1 [vi (Le p0 k1).id]))) (RowIs.cat RowIs.elems (RowIs.lit (enc := Bo) (d := 0) (n := 1) (f := (cut 1 [vi (Le p0 k1).id])) [(Le p0 k1).id] rfl (fun | 0,_ => rfl | n + 1,h => absurd h (by omega))))) .nil))))))) (.cons rfl (BLe.typed (RowIs.cat RowIs.elems (RowIs.lit (enc := Bo) (d := 0) (n := 1) (f := (cut 1 [vi (Le p0 k1).id])) [(Le p0 k1).id] rfl (fun | 0,_ => rfl | n + 1,h => absurd h (by omega))))) .nil)) ?_
      exact bD (s1 ++ [(Le p0 k1).id]) hm .refl
     ·intro h38 hm
      refine Sk ?_
      exact bD s1 hm Conv.t0
    ·rcases bt r33 with h34 | h34
     ·replace hm := Bd h34 hm
      obtain ⟨r35,hr35,hm⟩ := bo hm
      rcases bt (!r35) with h36 | h36
      ·replace hm := Bd h36 hm
       obtain ⟨r37,hr37,hm⟩ := bo hm
       refine RD hnt (nn 5 (o23 [] true r33 :: nn 4 (o30 [] true r35 :: .no :: pT :: nn 7 (o32 [] true r37 :: .no :: pT :: [])))) [] [(48,pB (!r37))] [] [] (an (Ik p0.tree p1 (Le p0 k1).group r33 hr33) (an4 h34 (an (Gu p2 (Le p0 k1).id r35 hr35) (an2 h34 (an h36 (an6 h36 (an (Fj ({ frosts := r3.f.frosts,stopped := s1 } : Ac) (Le p0 k1).id r37 hr37) (an2 h36 tv)))))))) ?_
       exact jD (!r37) hm Conv.eqK
      ·replace hm := Be h36 hm
       refine RD hnt (nn 5 (o23 [] true r33 :: nn 4 (o30 [] true r35 :: .no :: pT :: .no :: sk 8 (pF :: [])))) [] [(48,pB false)] [] [] (an (Ik p0.tree p1 (Le p0 k1).group r33 hr33) (an4 h34 (an (Gu p2 (Le p0 k1).id r35 hr35) (an2 h34 (an3 h36 (an6 h36 tv)))))) ?_
       exact jD false hm Conv.eqK
     ·replace hm := Be h34 hm
      refine RD hnt (nn 5 (o23 [] true r33 :: .no :: sk 5 (pF :: .no :: sk 8 (pF :: [])))) [] [(48,pB false)] [] [] (an (Ik p0.tree p1 (Le p0 k1).group r33 hr33) (an6 h34 (an3 ff (an6 ff tv)))) ?_
      exact jD false hm Conv.eqK
  ·intro h32
   have hge1 : ¬ k1 < p0.tasks.length := by have := of_decide_eq_false h32; omega
   have hm := he1 hge1
   unfold Vt at hm
   refine DW.exit ?_
   refine An ?_
   refine Aw ?_
   refine Ak ?_
   show DW _ _ _ _ _
   obtain ⟨r40,hr40,hm⟩ := bo hm
   obtain ⟨g41,hm⟩ := go1 hm
   refine Sq (RN hnt (nn 5 (o44 [1146] true r40 :: [])) [(6,rr 1048),(8,rr 1144)] [(AcO),(1144,bx [.p (Bb r3.h.tree.nodes),pI r3.h.tree.next,.p (Bf r3.h.tasks),pI r3.h.next,ow 1145 r3.f.frosts.length,ow 1146 r40.length]),(AcP r3),(1146,ob0 (roI r40))] [] [(1144,.box [.p (Bb r3.h.tree.nodes),pI r3.h.tree.next,.p (Bf r3.h.tasks),pI r3.h.next,ow 1145 r3.f.frosts.length,ow 1146 s1.length])] (an (AbA s1 r40 hr40) (an (⟨rfl,g41⟩ : Body.same (roI s1) (roI r40)) tv)) (by kernel_rfl) .nil (.cons rfl (.box (.cons .rfl (.cons .rfl (.cons .rfl (.cons .rfl (.cons .rfl (.cons (MLe.of_eq (congrArg (MV.own 1146 0 0) g41)) .nil))))))) .nil) ?_)
   obtain ⟨r42,hr42,hm⟩ := bo hm
   obtain ⟨g43,g44,hm⟩ := go2 hm
   refine Sq (RK hnt (.no :: o42 [1144,1145,1146] true r42 :: nn 2 []) [(6,rr 1048),(7,pI 0)] [(1048,bx [ow 1145 r42.2.f.frosts.length,ow 1146 r42.2.f.stopped.length]),(1145,ob0 (As r42.2.f.frosts)),(1146,ob0 (roI r42.2.f.stopped))] (an (Oz ({ h := r3.h,f := ({ frosts := r3.f.frosts,stopped := r40 } : Ac) } : freezer) r42 hr42) (an tv (an (⟨rfl,g43⟩ : Body.same (As r3.f.frosts) (As r42.2.f.frosts)) (an (⟨rfl,g44⟩ : Body.same (roI r40) (roI r42.2.f.stopped)) tv)))) ?_)
   obtain rfl := sj hm
   exact DW.ret (Ai [As r42.2.f.frosts,roI r42.2.f.stopped] [1145,1146] (.tup [.agg [ow 0 r42.2.f.frosts.length,ow 1 r42.2.f.stopped.length],pI 0]))
abbrev o43 (ks : List Nat) (b : Bool) (RES : Ac × Int) (sm : List Nat := []) : Orc := .call 53 ks b (.tup [.agg [ow 0 RES.1.frosts.length,ow 1 RES.1.stopped.length],pI RES.2]) [] [As RES.1.frosts,roI RES.1.stopped] sm
end Go.Dm

