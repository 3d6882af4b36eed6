/- Texts of the proof of ProtectExact: the data machine, the models of the Go functions, their contracts. -/
import Derived.Test.YtonaidnipimjgaaProtectExactA1
import Derived.KernelRfl
import Derived.Test.YtonaidnipimjgaaProg
set_option linter.unusedVariables false
set_option linter.unusedSimpArgs false
/- Plain theory, part 4: the nodes of a tree, one behind the other. -/
namespace Go.Dm
theorem Ej {α : Type} (L : List α) : L = [] ∨ ∃ P x,L = P ++ [x] := by
 rcases List.eq_nil_or_concat L with h | ⟨P,x,h⟩
 ·exact .inl h
 ·exact .inr ⟨P,x,by simpa using h⟩
structure Rx (x : Ac) : Prop where
 kind : x.kind = 0 ∨ x.kind = 1
 c1 : 0 ≤ x.control
 c2 : x.control ≤ 31
 o1 : 0 ≤ x.owner
 o2 : x.owner ≤ 1048576
structure Vs (x : Ac) : Prop where
 id : x.id = 1
 parent : x.parent = 0
 name : Dl x.name ByteArray.empty = true
 kind : x.kind = 0
structure NodeS (pre : List Ac) (x : Ac) : Prop where
 lt : ∀ y ∈ pre,y.id < x.id
 valid : Ec x.name = true
 parent : ∃ y ∈ pre,y.id = x.parent
 fresh : ∀ y ∈ pre,y.parent = x.parent → Dl y.name x.name = false
inductive WfP : List Ac → Prop
 | root (x : Ac) : Rx x → Vs x → WfP [x]
 | snoc (L : List Ac) (x : Ac) : WfP L → Rx x → NodeS L x → WfP (L ++ [x])
theorem nodeV_of {pre : List Ac} {x : Ac} (h : Il pre x = true) : Rx x := by
 simp only [Il,Bool.and_eq_true,Bool.or_eq_true,beq_iff_eq,decide_eq_true_eq] at h
 exact ⟨h.1.1.1.1.1,h.1.1.1.1.2,h.1.1.1.2,h.1.1.2,h.1.2⟩
theorem WfP.pos {L : List Ac} (h : WfP L) : 0 < L.length := by
 cases h <;> simp
theorem wfP_of {L : List Ac} (hn : 1 ≤ L.length) (h : ∀ pre x post,L = pre ++ x :: post → Il pre x = true) : WfP L := by
 have key : ∀ (n : Nat) (M : List Ac),M.length = n → 1 ≤ M.length → (∀ pre x post,M = pre ++ x :: post → Il pre x = true) → WfP M ∧ ∀ y,M.getLast? = some y → ∀ z ∈ M,z.id ≤ y.id := by
  intro n
  induction n with
  | zero => intro M hM h1; omega
  | succ n ih =>
   intro M hM h1 hB
   rcases Ej M with rfl | ⟨P,x,rfl⟩
   ·simp at hM
   have hx : Il P x = true := hB P x [] (by simp)
   have hv := nodeV_of hx
   rcases Ej P with rfl | ⟨P',y,rfl⟩
   ·simp only [Il,List.getLast?_nil,Bool.and_eq_true,beq_iff_eq] at hx
    refine ⟨.root x hv ⟨hx.2.1.1.1,hx.2.1.1.2,hx.2.1.2,hx.2.2⟩,?_⟩
    intro y hy z hz
    simp at hy hz
    subst hy hz
    exact Int.le_refl _
   ·obtain ⟨w,hl⟩ := ih (P' ++ [y]) (by simp at hM ⊢; omega) (by simp) (fun pre u post e => hB pre u (post ++ [x]) (by rw [e]; simp))
    have hl := hl y (by simp)
    simp only [Il,List.getLast?_append,List.getLast?_singleton,Option.some_or,Bool.and_eq_true,decide_eq_true_eq,List.any_eq_true,List.all_eq_true,beq_iff_eq] at hx
    obtain ⟨_,⟨⟨hlt,hval⟩,hpar⟩,hfr⟩ := hx
    have hs : NodeS (P' ++ [y]) x := by
     refine ⟨fun z hz => ?_,hval,hpar,fun z hz hp => ?_⟩
     ·have := hl z hz
      omega
     ·have := hfr z hz
      simpa [hp] using this
    refine ⟨.snoc _ x w hv hs,?_⟩
    intro u hu z hz
    have hu : u = x := by simpa [eq_comm] using hu
    subst hu
    rcases List.mem_append.mp hz with hz | hz
    ·have := hs.lt z hz
     omega
    ·simp at hz
     subst hz
     exact Int.le_refl _
 exact (key _ L rfl hn h).1
theorem Adb {x : Ac} (v : Rx x) (r : Vs x) : Il [] x = true := by
 have := v.kind
 simp [Il,v.c1,v.c2,v.o1,v.o2,r.id,r.parent,r.name,r.kind]
theorem Ads {L : List Ac} {x : Ac} (hL : 0 < L.length) (v : Rx x) (r : NodeS L x) : Il L x = true := by
 rcases Ej L with rfl | ⟨P,y,rfl⟩
 ·simp at hL
 simp only [Il,List.getLast?_append,List.getLast?_singleton,Option.some_or,Bool.and_eq_true,decide_eq_true_eq,List.any_eq_true,List.all_eq_true,beq_iff_eq,Bool.or_eq_true]
 refine ⟨⟨⟨⟨⟨v.kind,v.c1⟩,v.c2⟩,v.o1⟩,v.o2⟩,⟨⟨r.lt y (by simp),r.valid⟩,r.parent⟩,fun z hz => ?_⟩
 by_cases hp : z.parent = x.parent
 ·simp [r.fresh z hz hp]
 ·simp [hp]
theorem WfP.split {L : List Ac} (h : WfP L) : ∀ pre x post,L = pre ++ x :: post → Il pre x = true := by
 induction h with
 | root x v r =>
  intro pre y post e
  have : pre = [] ∧ y = x := by
   cases pre with
   | nil => simp at e; exact ⟨rfl,e.1.symm⟩
   | cons a q => simp at e
  rw [this.1,this.2]
  exact Adb v r
 | snoc L x w v s ih =>
  intro pre y post e
  rcases Ej post with rfl | ⟨p',z,rfl⟩
  ·have := List.append_inj' (s₁ := L) (t₁ := [x]) (s₂ := pre) (t₂ := [y]) (by simpa using e) rfl
   have e2 : x = y := by simpa using this.2
   rw [← this.1,← e2]
   exact Ads w.pos v s
  ·have e2 : L ++ [x] = (pre ++ y :: p') ++ [z] := by simpa using e
   have := List.append_inj' e2 rfl
   exact ih pre y p' this.1
theorem WfP.sorted {L : List Ac} (h : WfP L) : L.Pairwise (fun a b => a.id < b.id) := by
 induction h with
 | root x v r => simp
 | snoc L x w v s ih =>
  rw [List.pairwise_append]
  exact ⟨ih,by simp,fun a ha b hb => by simp at hb; subst hb; exact s.lt a ha⟩
theorem WfP.val {L : List Ac} (h : WfP L) : ∀ x ∈ L,Rx x := by
 induction h with
 | root x v r => intro y hy; simp at hy; subst hy; exact v
 | snoc L x w v s ih =>
  intro y hy
  rcases List.mem_append.mp hy with hy | hy
  ·exact ih y hy
  ·simp at hy; subst hy; exact v
theorem WfP.first {L : List Ac} (h : WfP L) : ∃ x r,L = x :: r ∧ Vs x := by
 induction h with
 | root x v r => exact ⟨x,[],rfl,r⟩
 | snoc L x w v s ih =>
  obtain ⟨y,r,rfl,hr⟩ := ih
  exact ⟨y,r ++ [x],rfl,hr⟩
theorem WfP.ge1 {L : List Ac} (h : WfP L) : ∀ x ∈ L,1 ≤ x.id := by
 induction h with
 | root x v r => intro y hy; simp at hy; subst hy; rw [r.id]; omega
 | snoc L x w v s ih =>
  intro y hy
  rcases List.mem_append.mp hy with hy | hy
  ·exact ih y hy
  ·simp at hy; subst hy
   obtain ⟨z,hz,_⟩ := s.parent
   have := ih z hz
   have := s.lt z hz
   omega
theorem WfP.par {L : List Ac} (h : WfP L) : ∀ x ∈ L,(x.id = 1 ∧ Vs x) ∨ (1 ≤ x.parent ∧ x.parent < x.id ∧ (∃ y ∈ L,y.id = x.parent) ∧ Ec x.name = true) := by
 induction h with
 | root x v r => intro y hy; simp at hy; subst hy; exact .inl ⟨r.id,r⟩
 | snoc L x w v s ih =>
  intro y hy
  rcases List.mem_append.mp hy with hy | hy
  ·rcases ih y hy with h | ⟨h1,h2,⟨z,hz,he⟩,h3⟩
   ·exact .inl h
   ·exact .inr ⟨h1,h2,⟨z,by simp [hz],he⟩,h3⟩
  ·simp at hy; subst hy
   obtain ⟨z,hz,he⟩ := s.parent
   refine .inr ⟨?_,?_,⟨z,by simp [hz],he⟩,s.valid⟩
   ·have := w.ge1 z hz
    omega
   ·have := s.lt z hz
    omega
theorem Oc {L : List Ac} (h : L.Pairwise (fun a b => a.id < b.id)) {x y : Ac} (hx : x ∈ L) (hy : y ∈ L) (e : x.id = y.id) : x = y := by
 induction L with
 | nil => simp at hx
 | cons a r ih =>
  rw [List.pairwise_cons] at h
  rcases List.mem_cons.mp hx with ex | hx' <;> rcases List.mem_cons.mp hy with ey | hy'
  ·rw [ex,ey]
  ·have := h.1 y hy'; rw [ex] at e; omega
  ·have := h.1 x hx'; rw [ey] at e; omega
  ·exact ih h.2 hx' hy'
theorem Zv {t : Aa} {id : Int} {x : Ac} (h : Ml t id = some x) : x ∈ t.nodes ∧ x.id = id :=
 ⟨List.mem_of_find?_eq_some h,by have := List.find?_some h; simpa using this⟩
theorem getN_of {t : Aa} (hs : t.nodes.Pairwise (fun a b => a.id < b.id)) {x : Ac} (h : x ∈ t.nodes) : Ml t x.id = some x := by
 unfold Ml
 cases hf : t.nodes.find? (fun y => y.id == x.id) with
 | none =>
  rw [List.find?_eq_none] at hf
  have := hf x h
  simp at this
 | some y =>
  have h1 := List.mem_of_find?_eq_some hf
  have h2 := List.find?_some hf
  rw [Oc hs h1 h (by simpa using h2)]
theorem hasN_iff {t : Aa} {id : Int} : Cd t id = true ↔ ∃ x ∈ t.nodes,x.id = id := by
 unfold Cd Ml
 rw [List.find?_isSome]
 simp
theorem Su {A B : List Ac} {id : Int} (h : ∀ x ∈ A,x.id ≠ id) : upR (A ++ B) id = upR B id := by
 induction A with
 | nil => rfl
 | cons a r ih =>
  rw [List.cons_append,upR,if_neg (by simpa using h a (by simp))]
  exact ih fun x hx => h x (by simp [hx])
theorem Ym {A : List Ac} {id : Int} (h : ∀ x ∈ A,x.id ≠ id) : upR A id = [] := by
 have := Su (B := []) h
 simpa [upR] using this
theorem WfP.up {L : List Ac} (h : WfP L) : ∀ x ∈ L,upR L.reverse x.id = x.id :: upR L.reverse x.parent := by
 induction h with
 | root x v r =>
  intro y hy
  simp at hy
  subst hy
  simp [upR,r.parent,r.id]
 | snoc L x w v s ih =>
  intro y hy
  rw [List.reverse_append,List.reverse_cons,List.reverse_nil,List.nil_append,List.singleton_append]
  rcases List.mem_append.mp hy with hy | hy
  ·have hlt := s.lt y hy
   have hp : y.parent < x.id := by
    rcases w.par y hy with ⟨h1,r⟩ | ⟨_,h2,_⟩
    ·rw [r.parent]; have := w.ge1 y hy; omega
    ·omega
   rw [upR,if_neg (by simp; omega),upR,if_neg (by simp; omega)]
   exact ih y hy
  ·simp at hy
   subst hy
   obtain ⟨z,hz,he⟩ := s.parent
   have := s.lt z hz
   rw [upR,if_pos (by simp),upR,if_neg (by simp; omega)]
theorem WfT.p {t : Aa} (h : WfT t) : WfP t.nodes := wfP_of h.len1 h.node
theorem WfT.sorted {t : Aa} (h : WfT t) : t.nodes.Pairwise (fun a b => a.id < b.id) := h.p.sorted
theorem WfT.up {t : Aa} (h : WfT t) {x : Ac} (hx : x ∈ t.nodes) : upT t x.id = x.id :: upT t x.parent := h.p.up x hx
theorem WfT.upZero {t : Aa} (h : WfT t) : upT t 0 = [] := Ym fun x hx => by
 have := h.p.ge1 x (by simpa using hx)
 omega
theorem WfT.next {t : Aa} (h : WfT t) : ∀ x ∈ t.nodes,x.id < t.next := by
 have hl := h.last
 have h1 := h.len1
 have hs := h.sorted
 intro x hx
 obtain ⟨i,hi,rfl⟩ := List.getElem_of_mem hx
 rw [Mh (by omega)] at hl
 by_cases e : i = t.nodes.length - 1
 ·subst e; exact hl
 ·have := List.pairwise_iff_getElem.mp hs i (t.nodes.length - 1) hi (by omega) (by omega)
  omega
theorem WfT.root {t : Aa} (h : WfT t) : ∃ x r,t.nodes = x :: r ∧ Vs x := h.p.first
theorem WfT.mk' {t : Aa} (hp : WfP t.nodes) (h2 : t.nodes.length ≤ 64) (hd : ∀ x ∈ t.nodes,(upT t x.id).length ≤ 9) (hn : ∀ x ∈ t.nodes,x.id < t.next) (hl : t.next ≤ 2147483648) : WfT t := by
 refine ⟨hp.pos,h2,hp.split,hd,hn _ (Rq ?_),hl⟩
 have := hp.pos
 omega
end Go.Dm

/- Plain theory, part 5: dice; trees that grow and shrink. -/
namespace Go.Dm
structure Dx (d : Ao) : Prop where
 a0 : 0 ≤ d.atF
 a1 : d.atF ≤ (d.l.length : Int)
 l : d.l.length ≤ 600
theorem dice_roll {l : List Int} (h : l.length ≤ 600) : Dx { l := l,atF := 0 } := ⟨by simp,by simp,h⟩
theorem AaD {d : Ao} (h : Dx d) (n : Int) (hn : n ≤ 1000000) : Ok (Cr d n) (fun r => Dx r.2 ∧ 0 ≤ r.1 ∧ (r.1 < n ∨ (n < 1 ∧ r.1 = 0))) := by
 have h0 := h.a0
 have h1 := h.a1
 have hl := h.l
 unfold Cr
 refine Ok.ite (fun c => ?_) fun c => ?_
 ·simp only [Bool.or_eq_true,decide_eq_true_eq] at c
  refine Ok.ret ⟨h,by simp,?_⟩
  show (0 : Int) < n ∨ (n < 1 ∧ (0 : Int) = 0)
  omega
 simp only [Bool.or_eq_false_iff,decide_eq_false_iff_not] at c
 have e1 : w64 (d.atF + 1) = d.atF + 1 := Al (by omega) (by omega)
 have e2 : w64 (d.atF + 1 - 1) = d.atF := by
  rw [Al (by omega) (by omega)]
  omega
 have hd : Dx { l := d.l,atF := d.atF + 1 } := ⟨by simp only; omega,by simp only; omega,hl⟩
 rw [e1,e2]
 refine Ok.guard (by omega) ?_
 refine Ok.guard (by omega) ?_
 generalize d.l.getD d.atF.toNat 0 = x
 have b1 : Int.tmod x n < n := Int.tmod_lt_of_pos x (by omega)
 have b2 : -n < Int.tmod x n := by
  have := Int.tmod_lt_of_pos (-x) (show 0 < n by omega)
  rw [Int.neg_tmod] at this
  omega
 unfold Jm
 rw [e1]
 refine Ok.ite (fun c2 => ?_) fun c2 => ?_
 ·have := of_decide_eq_true c2
  rw [Al (by omega) (by omega)]
  refine Ok.ret ⟨hd,?_,?_⟩ <;> simp only <;> omega
 ·have := of_decide_eq_false c2
  refine Ok.ret ⟨hd,?_,?_⟩ <;> simp only <;> omega
theorem Lo {d : Ao} (h : Dx d) (n : Int) (h1 : 1 ≤ n) (hn : n ≤ 1000000) : Ok (Cr d n) (fun r => Dx r.2 ∧ 0 ≤ r.1 ∧ r.1 < n) :=
 (AaD h n hn).mono fun r ⟨a,b,c⟩ => ⟨a,b,by omega⟩
theorem Bool_ok {d : Ao} (h : Dx d) (n : Int) (hn : n ≤ 1000000) : Ok (Jg d n) (fun r => Dx r.2) := by
 unfold Jg
 exact Ok.bind (AaD h n hn) fun r hr => Ok.ret hr.1
theorem Aex : ∀ s ∈ [(bs [97]),(bs [98]),(bs [99]),(bs [119,101,98]),(bs [100,98,45,49]),(bs [88,95,57])],Ec s = true := by
 intro s hs
 have : ([(bs [97]),(bs [98]),(bs [99]),(bs [119,101,98]),(bs [100,98,45,49]),(bs [88,95,57])].all Ec) = true := by kernel_rfl
 exact List.all_eq_true.mp this s hs
theorem Name_ok {d : Ao} (h : Dx d) : Ok (Kr d) (fun r => Dx r.2 ∧ Ec r.1 = true) := by
 unfold Kr
 refine Ok.bind (Lo h 6 (by omega) (by omega)) fun r ⟨h1,h2,h3⟩ => ?_
 refine Ok.guard ⟨h2,h3⟩ ?_
 have hlt : r.1.toNat < [(bs [97]),(bs [98]),(bs [99]),(bs [119,101,98]),(bs [100,98,45,49]),(bs [88,95,57])].length := by simp only [List.length_cons,List.length_nil]; omega
 refine Ok.guard hlt (Ok.ret ⟨h1,Aex _ (Rq hlt)⟩)
theorem Aea {d : Ao} (h : Dx d) (t : Aa) (ht : t.nodes.length ≤ 1000000) : Ok (Im d t) (fun r => Dx r.2) := by
 unfold Im
 refine Ok.bind (Bool_ok h 15 (by omega)) fun r hr => ?_
 have hJ : ∀ b : Bool,(b = false → 0 < t.nodes.length) → Ok (Hi t r b) (fun r => Dx r.2) := by
  intro b hb
  unfold Hi
  refine Ok.ite (fun _ => ?_) fun c => ?_
  ·exact Ok.bind (AaD hr 9 (by omega)) fun q hq => Ok.ret hq.1
  ·have := hb c
   refine Ok.bind (Lo hr _ (by omega) (by omega)) fun q hq => ?_
   exact Ok.guard ⟨hq.2.1,hq.2.2⟩ (Ok.ret hq.1)
 refine Ok.ite (fun _ => ?_) fun _ => ?_
 ·exact hJ true (by simp)
 ·refine hJ _ fun hb => ?_
  have : ¬ ((t.nodes.length : Nat) : Int) = 0 := by simpa using hb
  omega
def zT : Aa := { nodes := [],next := 0 }
def addT (t : Aa) (p : Int) (s : ByteArray) : Aa × Int × Int :=
 if !Ec s then (zT,0,1) else if !Cd t p then (zT,0,4) else if t.nodes.any (fun x => x.parent == p && Dl x.name s) then (zT,0,5)
 else if decide (9 ≤ (upT t p).length) || decide (64 ≤ t.nodes.length) || decide (2147483647 < t.next) then (zT,0,7)
 else ({ nodes := t.nodes ++ [{ id := t.next,parent := p,name := s,control := 0,kind := 0,owner := 0 }],next := t.next + 1 },t.next,0)
theorem Afd {t : Aa} (h : WfT t) (p : Int) (s : ByteArray) : Vk t p s = some (addT t p s) := by
 apply Ok.eq
 have h2 := h.len2
 have hnx := h.nextLe
 unfold Vk
 refine Ok.step (Kv h) ?_
 simp only [Bool.not_true,Bool.false_eq_true,if_false]
 refine Ok.step (Zd s) ?_
 unfold Qh addT
 refine Ok.ite (fun c => ?_) fun c => ?_
 ·rw [if_pos c]; exact Ok.ret rfl
 rw [if_neg (c := (!Ec s) = true) (by rw [c]; simp)]
 refine Ok.step (Fe h p) ?_
 refine Ok.ite (fun c => ?_) fun c => ?_
 ·rw [if_pos c]; exact Ok.ret rfl
 rw [if_neg (c := (!Cd t p) = true) (by rw [c]; simp)]
 have hp : Cd t p = true := by simpa using c
 refine Ok.guard (by omega) ?_
 refine Ok.range (fun pre _ => pre.any (fun x => x.parent == p && Dl x.name s) = false) rfl ?_ ?_
 ·intro pre x post u n he hI hn
  unfold Ya
  refine Ok.ite (fun c => ?_) fun c => ?_
  ·refine Ok.ret ?_
   rw [if_pos]
   ·rfl
   ·rw [he,List.any_append,List.any_cons,c]
    simp
  ·refine hn () ?_
   rw [List.any_append,hI,List.any_cons,c]
   rfl
 ·intro _ hI
  rw [if_neg (by rw [hI]; simp)]
  unfold Yt
  refine Ok.step (Aeb h p) ?_
  have ea : ancN t p = upT t p := by simp [ancN,hp]
  have hb : (upT t p).length ≤ 64 := by
   have := Qm t.nodes.reverse p
   simp at this
   unfold upT
   omega
  rw [ea,Al (by omega) (by omega)]
  have hJ1 : ∀ c,(c = true → (decide (9 ≤ (upT t p).length) || decide (64 ≤ t.nodes.length) || decide (2147483647 < t.next)) = true) → (c = false → (decide (9 ≤ (upT t p).length) || decide (64 ≤ t.nodes.length) || decide (2147483647 < t.next)) = false) →
    Ok (Lm t p s c) (· = if decide (9 ≤ (upT t p).length) || decide (64 ≤ t.nodes.length) || decide (2147483647 < t.next) then (zT,0,7)
 else ({ nodes := t.nodes ++ [{ id := t.next,parent := p,name := s,control := 0,kind := 0,owner := 0 }],next := t.next + 1 },t.next,0)) := by
   intro c ht hf
   unfold Lm
   refine Ok.ite (fun c => ?_) fun c => ?_
   ·rw [if_pos (ht c)]; exact Ok.ret rfl
   ·rw [if_neg (by rw [hf c]; simp)]
    refine Ok.step (AdH t (by omega)) ?_
    refine Ok.guard (by omega) ?_
    have hn0 : 0 < t.next := by
     obtain ⟨x,r,e,hr⟩ := h.root
     have := h.next x (by rw [e]; simp)
     rw [hr.id] at this
     omega
    rw [Al (by omega) (by omega)]
    exact Ok.ret rfl
  refine Ok.ite (fun c => ?_) fun c => ?_
  ·have := of_decide_eq_true c
   refine hJ1 true (fun _ => ?_) (by simp)
   have : 9 ≤ (upT t p).length := by omega
   simp [this]
  ·have h9 := of_decide_eq_false c
   refine Ok.ite (fun c => ?_) fun c => ?_
   ·have := of_decide_eq_true c
    refine hJ1 true (fun _ => ?_) (by simp)
    have : 64 ≤ t.nodes.length := by omega
    simp [this]
   ·have h64 := of_decide_eq_false c
    have a : ¬ 9 ≤ (upT t p).length := by omega
    have b : ¬ 64 ≤ t.nodes.length := by omega
    refine hJ1 _ (fun c => ?_) fun c => ?_
    ·have := of_decide_eq_true c
     have : 2147483647 < t.next := by omega
     simp [this]
    ·have := of_decide_eq_false c
     have : ¬ 2147483647 < t.next := by omega
     simp [this,a,b]
theorem Aaj {L : List Ac} {x : Ac} {id : Int} (h : x.id ≠ id) : upR (L ++ [x]).reverse id = upR L.reverse id := by
 rw [List.reverse_append]
 exact Su (A := [x].reverse) (by simpa using h)
theorem addT_wf {t : Aa} (h : WfT t) {p : Int} {s : ByteArray} {r : Aa × Int × Int} (e : addT t p s = r) (hr : r.2.2 = 0) : WfT r.1 := by
 have h2 := h.len2
 unfold addT at e
 split at e
 ·subst e; simp at hr
 split at e
 ·subst e; simp at hr
 split at e
 ·subst e; simp at hr
 split at e
 ·subst e; simp at hr
 rename_i hv hh ha hc
 subst e
 have hv' : Ec s = true := by simpa using hv
 have hh' : Cd t p = true := by simpa using hh
 obtain ⟨y,hy,hyp⟩ := hasN_iff.mp hh'
 simp only [Bool.or_eq_true,decide_eq_true_eq,not_or] at hc
 have ha' : ∀ x ∈ t.nodes,x.parent = p → Dl x.name s = false := by
  intro x hx hp
  cases hb : Dl x.name s
  ·rfl
  ·exact absurd (List.any_eq_true.mpr ⟨x,hx,by simp [hp,hb]⟩) ha
 have hnext := h.next
 refine WfT.mk' (.snoc _ _ h.p ⟨.inl rfl,by simp,by simp,by simp,by simp⟩ ⟨hnext,hv',⟨y,hy,hyp⟩,ha'⟩) (by simp; omega) ?_ ?_ (by simp only; omega)
 ·intro x hx
  rcases List.mem_append.mp hx with hx | hx
  ·have := h.depth x hx
   unfold upT at this ⊢
   simp only
   have hlt := hnext x hx
   rw [Aaj (by simp only; omega)]
   exact this
  ·simp at hx
   subst hx
   unfold upT
   simp only [List.reverse_append,List.reverse_cons,List.reverse_nil,List.nil_append,List.singleton_append]
   rw [upR,if_pos (by simp)]
   have := hc.1.1
   unfold upT at this
   simp; omega
 ·intro x hx
  simp only
  rcases List.mem_append.mp hx with hx | hx
  ·have := hnext x hx
   omega
  ·simp at hx
   subst hx
   simp only
   omega
end Go.Dm

/- Plain theory, part 6: nodes that are removed or replaced; made trees. -/
namespace Go.Dm
def AaF (t : Aa) (id : Int) : Aa × Int :=
 if !Cd t id then (zT,4) else if id == 1 then (zT,9) else if decide (0 < (Bl t id).length) then (zT,6)
 else ({ nodes := t.nodes.filter (fun x => x.id != id),next := t.next },0)
theorem Adr {t : Aa} (h : WfT t) (id : Int) : Ox t id = some (AaF t id) := by
 apply Ok.eq
 have h2 := h.len2
 unfold Ox AaF
 refine Ok.step (Kv h) ?_
 simp only [Bool.not_true,Bool.false_eq_true,if_false]
 refine Ok.step (Fe h id) ?_
 refine Ok.ite (fun c => ?_) fun c => ?_
 ·rw [if_pos c]; exact Ok.ret rfl
 rw [if_neg (c := (!Cd t id) = true) (by rw [c]; simp)]
 have hp : Cd t id = true := by simpa using c
 refine Ok.ite (fun c => ?_) fun c => ?_
 ·rw [if_pos c]; exact Ok.ret rfl
 rw [if_neg (c := (id == 1) = true) (by rw [c]; simp)]
 refine Ok.step (Na h id) ?_
 rw [if_pos hp]
 refine Ok.ite (fun c => ?_) fun c => ?_
 ·have := of_decide_eq_true c
  have : 0 < (Bl t id).length := by omega
  rw [if_pos (c := decide (0 < (Bl t id).length) = true) (by simp [this])]; exact Ok.ret rfl
 have := of_decide_eq_false c
 have : ¬ 0 < (Bl t id).length := by omega
 rw [if_neg (c := decide (0 < (Bl t id).length) = true) (by simp [this])]
 refine Ok.guard (by omega) ?_
 have e := Lu (p := fun x : Ac => x.id != id) (f := fun x : Ac => x) (xs := t.nodes) (s0 := []) (r := Pj t) (body := Pk id) (done := Pj t) (fun k x s n hs => by
  unfold Pk Lx
  rw [if_pos hs]) (fun _ => rfl) (by simp; omega)
 rw [e]
 refine Ok.ret ?_
 simp
theorem AeJ {A : List Ac} {id k : Int} (hk : k ≠ id) (h : ∀ x ∈ A,x.parent ≠ id) : upR (A.filter (fun x => x.id != id)) k = upR A k := by
 induction A generalizing k with
 | nil => rfl
 | cons a r ih =>
  have hr : ∀ x ∈ r,x.parent ≠ id := fun x hx => h x (by simp [hx])
  rw [List.filter_cons]
  by_cases e : a.id = id
  ·rw [if_neg (by simp [e]),ih hk hr,upR,if_neg (by simp; omega)]
  ·rw [if_pos (by simp [e]),upR,upR]
   by_cases q : a.id = k
   ·rw [if_pos (by simp [q]),if_pos (by simp [q]),ih (h a (by simp)) hr]
   ·rw [if_neg (by simp [q]),if_neg (by simp [q]),ih hk hr]
theorem WfP.remove {L : List Ac} (h : WfP L) {id : Int} (h1 : id ≠ 1) (hk : ∀ x ∈ L,x.parent ≠ id) : WfP (L.filter (fun x => x.id != id)) := by
 induction h with
 | root x v r =>
  have : (x.id != id) = true := by simp [r.id]; omega
  simp only [List.filter_cons,this,if_true,List.filter_nil]
  exact .root x v r
 | snoc L x w v s ih =>
  have hw := ih fun y hy => hk y (by simp [hy])
  rw [List.filter_append]
  by_cases e : x.id = id
  ·have : [x].filter (fun x => x.id != id) = [] := by simp [e]
   rw [this,List.append_nil]
   exact hw
  ·have : [x].filter (fun x => x.id != id) = [x] := by simp [e]
   rw [this]
   refine .snoc _ x hw v ⟨fun y hy => s.lt y (List.mem_filter.mp hy).1,s.valid,?_,fun y hy => s.fresh y (List.mem_filter.mp hy).1⟩
   obtain ⟨y,hy,hyp⟩ := s.parent
   refine ⟨y,List.mem_filter.mpr ⟨hy,?_⟩,hyp⟩
   have := hk x (by simp)
   simp only [bne_iff_ne]
   omega
theorem AeR {t : Aa} (h : WfT t) {id : Int} {r : Aa × Int} (e : AaF t id = r) (hr : r.2 = 0) : WfT r.1 := by
 have h2 := h.len2
 unfold AaF at e
 split at e
 ·subst e; simp at hr
 split at e
 ·subst e; simp at hr
 split at e
 ·subst e; simp at hr
 rename_i hh h1 hk
 subst e
 have h1' : id ≠ 1 := by simpa using h1
 have hk' : ∀ x ∈ t.nodes,x.parent ≠ id := by
  intro x hx hp
  have hk : ¬ 0 < (Bl t id).length := by simpa using hk
  have : x.id ∈ Bl t id := by
   unfold Bl
   exact List.mem_map.mpr ⟨x,List.mem_filter.mpr ⟨hx,by simp [hp]⟩,rfl⟩
  have := List.length_pos_of_mem this
  omega
 refine WfT.mk' (h.p.remove h1' hk') (Nat.le_trans (List.length_filter_le _ _) h2) ?_ (fun x hx => h.next x (List.mem_filter.mp hx).1) h.nextLe
 intro x hx
 have hx' := List.mem_filter.mp hx
 have := h.depth x hx'.1
 unfold upT at this ⊢
 simp only
 rw [← List.filter_reverse,AeJ (by simpa using hx'.2) (fun y hy => hk' y (by simpa using hy))]
 exact this
def newT : Aa := { nodes := [{ id := 1,parent := 0,name := ByteArray.empty,control := 0,kind := 0,owner := 0 }],next := 2 }
theorem Aet : Yg = some newT := rfl
theorem newT_wf : WfT newT := by
 refine WfT.mk' (.root _ ⟨.inl rfl,by simp,by simp,by simp,by simp⟩ ⟨rfl,rfl,AcW _,rfl⟩) (by simp [newT]) ?_ ?_ (by simp [newT])
 ·intro x hx
  have := Qm newT.nodes.reverse x.id
  simp [newT] at this
  simp [upT,newT]
  omega
 ·intro x hx
  simp [newT] at hx
  subst hx
  simp [newT]
theorem Tree_ok {d : Ao} (h : Dx d) (n : Int) (h0 : 0 ≤ n) (h1 : n ≤ 1000) : Ok (Lc d n) (fun r => WfT r.1 ∧ Dx r.2) := by
 unfold Lc
 refine Ok.step Aet ?_
 rw [Al (by omega) (by omega)]
 refine Ok.bind (Lo h (n + 1) (by omega) (by omega)) fun r ⟨a1,a2,a3⟩ => ?_
 refine Ok.while (fun s => Dx s.1 ∧ WfT s.2.1 ∧ s.2.2 ≤ 2000) (fun s => s.2.2.toNat) ⟨a1,newT_wf,by simp only; omega⟩ (by rw [Dh]; simp only; omega) ?_
 rintro ⟨d,t,c⟩ k ⟨b1,b2,b3⟩ hk
 simp only at b1 b2 b3 hk
 unfold Ps
 simp only
 refine Ok.ite (fun c1 => ?_) fun c1 => ?_
 ·have hc := of_decide_eq_true c1
  have l1 := b2.len1
  have l2 := b2.len2
  refine Ok.bind (Lo b1 _ (by omega) (by omega)) fun r2 ⟨q1,q2,q3⟩ => ?_
  refine Ok.guard ⟨q2,q3⟩ ?_
  refine Ok.bind (Name_ok q1) fun r3 ⟨u1,u2⟩ => ?_
  refine Ok.step (Afd b2 _ _) ?_
  have hw : w64 (c - 1) = c - 1 := Al (by omega) (by omega)
  have hJ3 : ∀ y : Ao × Aa,Dx y.1 → WfT y.2 → Ok (Gp (d,t,c) k y) (fun r => WfT r.1 ∧ Dx r.2) := by
   intro y hy1 hy2
   unfold Gp
   simp only
   rw [hw]
   exact hk _ ⟨hy1,hy2,by simp only; omega⟩ (by simp only; omega)
  have hJ4 : ∀ y : Aa,WfT y → Ok (Hr (d,t,c) k r3 y) (fun r => WfT r.1 ∧ Dx r.2) := by
   intro y hy
   unfold Hr
   refine Ok.bind (Bool_ok u1 6 (by omega)) fun r4 hr4 => ?_
   refine Ok.ite (fun _ => ?_) fun _ => ?_
   ·have y1 := hy.len1
    have y2 := hy.len2
    refine Ok.bind (Lo hr4 _ (by omega) (by omega)) fun r5 ⟨v1,v2,v3⟩ => ?_
    refine Ok.guard ⟨v2,v3⟩ ?_
    refine Ok.step (Adr hy _) ?_
    refine Ok.ite (fun c2 => ?_) fun _ => ?_
    ·exact hJ3 _ v1 (AeR hy rfl (by simpa using c2))
    ·exact hJ3 _ v1 hy
   ·exact hJ3 _ hr4 hy
  refine Ok.ite (fun c2 => ?_) fun _ => ?_
  ·exact hJ4 _ (addT_wf b2 rfl (by simpa using c2))
  ·exact hJ4 _ b2
 ·exact Ok.ret ⟨b2,b1⟩
end Go.Dm

/- Plain theory, part 7: hierarchies that Check accepts. -/
namespace Go.Dm
end Go.Dm

/- Plain theory, part 8: tasks that come, go and move. -/
namespace Go.Dm
end Go.Dm

/- Plain theory, part 9: made hierarchies. -/
namespace Go.Dm
theorem Vj (t : Aa) (id : Int) : (Bl t id).length ≤ t.nodes.length := by
 unfold Bl
 rw [List.length_map]
 exact List.length_filter_le _ _
end Go.Dm

/- Plain theory, part 10: the program's own Check of trees. -/
namespace Go.Dm
theorem Abt (bs : ByteArray) (i : Nat) (r : List UInt8) : ByteArray.toList.loop bs i r = r.reverse ++ bs.data.toList.drop i := by
 by_cases h : i < bs.size
 ·rw [ByteArray.toList.loop,if_pos h,Abt bs (i + 1)]
  have hd : bs.data.toList.drop i = bs.get! i :: bs.data.toList.drop (i + 1) := by
   rw [List.drop_eq_getElem_cons (show i < bs.data.toList.length from h)]
   congr 1
   have : bs.get! i = bs.data[i]! := rfl
   rw [this,getElem!_pos bs.data i h]
   simp
  rw [hd]
  simp
 ·rw [ByteArray.toList.loop,if_neg h,List.drop_of_length_le (by simpa using h)]
  simp
termination_by bs.size - i
theorem Aew (bs : ByteArray) : bs.toList = bs.data.toList := by
 unfold ByteArray.toList
 rw [Abt]
 simp
theorem beqS_eq {a b : ByteArray} (h : Dl a b = true) : a = b := by
 simp only [Dl,beq_iff_eq,Aew] at h
 exact ByteArray.ext (Array.toList_inj.mp h)
theorem AdU {c : Int} (h0 : 0 ≤ c) (h : c ≤ 31) : Rp .i64 c 31 = 0 := by
 have : ∀ n : Fin 32,Rp .i64 ((n.val : Nat) : Int) 31 = 0 := by decide
 have := this ⟨c.toNat,by omega⟩
 simpa [Int.toNat_of_nonneg h0] using this
theorem AdY {c : Int} (h : 31 < c) (hc : c < 9223372036854775808) : Rp .i64 c 31 ≠ 0 := by
 obtain ⟨n,rfl⟩ : ∃ n : Nat,c = (n : Int) := ⟨c.toNat,by omega⟩
 intro e
 unfold Rp at e
 have hb : IntKind.i64.bits = 64 := rfl
 rw [hb] at e
 generalize hx : (BitVec.ofInt 64 (n : Int) &&& ~~~(BitVec.ofInt 64 31)) = x at e
 have hn : ∀ i,5 ≤ i → n.testBit i = false := by
  intro i hi
  by_cases h63 : i < 63
  ·have h0 : x.toNat < 2 ^ 64 := x.isLt
   have hle : x.toNat ≤ n := by
    rw [← hx,BitVec.toNat_and]
    refine Nat.le_trans Nat.and_le_left ?_
    rw [BitVec.ofInt_natCast,BitVec.toNat_ofNat]
    exact Nat.mod_le _ _
   have hw : IntKind.i64.wrap ((x.toNat : Nat) : Int) = ((x.toNat : Nat) : Int) := Wo (by omega) (by omega)
   rw [hw] at e
   have hx0 : x = 0#64 := by
    apply BitVec.eq_of_toNat_eq
    simp
    omega
   have : x.getLsbD i = false := by rw [hx0]; simp
   rw [← hx,BitVec.getLsbD_and,BitVec.getLsbD_not] at this
   have h31 : (BitVec.ofInt 64 31).getLsbD i = false := by
    have : (BitVec.ofInt 64 31) = BitVec.ofNat 64 31 := rfl
    rw [this,BitVec.getLsbD_ofNat]
    have : Nat.testBit 31 i = false := Nat.testBit_lt_two_pow (Nat.lt_of_lt_of_le (by decide : 31 < 2 ^ 5) (Nat.pow_le_pow_right (by decide) hi))
    simp [this]
   rw [h31] at this
   have e2 : (BitVec.ofInt 64 (n : Int)).getLsbD i = n.testBit i := by
    rw [BitVec.ofInt_natCast,BitVec.getLsbD_ofNat]
    simp
    omega
   rw [e2] at this
   have h64 : i < 64 := by omega
   simpa [h64] using this
  ·exact Nat.testBit_lt_two_pow (Nat.lt_of_lt_of_le (show n < 2 ^ 63 by omega) (Nat.pow_le_pow_right (by decide) (by omega)))
 have : n < 2 ^ 5 := Nat.lt_pow_two_of_testBit n hn
 omega
theorem Ade (s : ByteArray) (h : s.size ≤ 9223372036854775807) : Pz s = some (Ec s) := by
 apply Ok.eq
 unfold Pz
 refine Ok.guard (by rw [Ly]; exact h) ?_
 refine Ok.range (fun pre _ => pre.all Ku = true) rfl ?_ ?_
 ·intro pre x post _ n e hI hn
  unfold Uz Tw
  refine Ok.step rfl ?_
  refine Ok.ite (fun c => ?_) fun c => ?_
  ·refine Ok.ret ?_
   have : (Hb s).all Ku = false := by
    rw [e,List.all_append,List.all_cons]
    have : Ku x = false := by simpa only [Ku,Bool.not_eq_true'] using c
    simp [this]
   simp [Ec,this]
  ·refine hn () ?_
   have : Ku x = true := by simpa only [Ku,Bool.not_eq_false'] using c
   rw [List.all_append,hI]
   simp [this]
 ·intro _ hI
  unfold Vd Le
  refine Ok.ite (fun c => ?_) fun c => ?_
  ·have hs : 0 < s.size := by
    rcases Nat.eq_zero_or_pos s.size with h0 | h0
    ·exfalso
     have : s = ByteArray.empty := by
      apply ByteArray.ext
      apply Array.ext
      ·exact h0
      ·intro i h1 h2
       simp at h2
     rw [this] at c
     simp [AcW] at c
    ·exact h0
   refine Ok.ite (fun c2 => ?_) fun c2 => ?_
   ·have := of_decide_eq_true c2
    refine Ok.guard hs (Ok.ret ?_)
    have h32 : s.size ≤ 32 := by omega
    simp [Ec,hs,h32,hI]
   ·have := of_decide_eq_false c2
    refine Ok.ret ?_
    have h32 : ¬ s.size ≤ 32 := by omega
    simp [Ec,h32]
  ·refine Ok.ret ?_
   have : s.size = 0 := by
    rw [beqS_eq (a := s) (b := ByteArray.empty) (by simpa using c)]
    rfl
   simp [Ec,this]
end Go.Dm

/- Plain theory, part 11: the program's Check of trees is the document's. -/
namespace Go.Dm
def AaT (x : Ac) : Prop := x.name.size ≤ 9223372036854775807 ∧ x.control < 9223372036854775808
theorem Adw {pre : List Ac} {y x : Ac} (hl : pre.length ≤ 1000000) (hx : AaT x) :
  Sd (pre ++ [y]) x = some (decide (y.id < x.id) && Ec x.name && (x.kind == 0 || x.kind == 1) && (pre ++ [y]).any (fun k => k.id == x.parent) && (pre ++ [y]).all (fun k => !(k.parent == x.parent && Dl k.name x.name))) := by
 apply Ok.eq
 unfold Sd
 have hw : w64 (((pre ++ [y]).length : Int) - 1) = (pre.length : Int) := by
  rw [Al (by simp) (by simp; omega)]
  simp
 have ey : (pre ++ [y]).getD (Int.toNat (pre.length : Int)) default = y := by
  rw [show Int.toNat (pre.length : Int) = pre.length by omega]
  exact Ys (post := [])
 rw [hw,ey]
 refine Ok.guard (by simp; omega) ?_
 refine Ok.ite (fun c => ?_) fun c => ?_
 ·have := of_decide_eq_true c
  have : ¬ y.id < x.id := by omega
  refine Ok.ret ?_
  simp [this]
 have hlt : y.id < x.id := by
  have := of_decide_eq_false c
  omega
 refine Ok.step (Ade _ hx.1) ?_
 refine Ok.ite (fun c => ?_) fun c => ?_
 ·refine Ok.ret ?_
  have : Ec x.name = false := by simpa using c
  simp [this]
 have hv : Ec x.name = true := by simpa using c
 have hloop : (x.kind == 0 || x.kind == 1) = true → Ok (Hz (pre ++ [y]) x false) (· = (decide (y.id < x.id) && Ec x.name && (x.kind == 0 || x.kind == 1) && (pre ++ [y]).any (fun k => k.id == x.parent) && (pre ++ [y]).all (fun k => !(k.parent == x.parent && Dl k.name x.name)))) := by
  intro hk
  rw [hk,hv]
  simp only [hlt,decide_true,Bool.and_self,Bool.true_and]
  have hlp : (pre ++ [y]).length ≤ 9223372036854775807 := by simp; omega
  generalize pre ++ [y] = P at *
  unfold Hz
  refine Ok.guard hlp ?_
  refine Ok.range (fun pre s => s = pre.any (fun k => k.id == x.parent) ∧ pre.all (fun k => !(k.parent == x.parent && Dl k.name x.name)) = true) ⟨rfl,rfl⟩ ?_ ?_
  ·intro q z post s n e hI hn
   unfold Xk
   refine Ok.ite (fun c => ?_) fun c => ?_
   ·refine Ok.ret ?_
    have : P.all (fun k => !(k.parent == x.parent && Dl k.name x.name)) = false := by
     rw [e,List.all_append,List.all_cons,c]
     simp
    rw [this,Bool.and_false]
   ·refine hn _ ⟨?_,?_⟩
    ·rw [List.any_append,← hI.1]
     simp
    ·rw [List.all_append,hI.2,List.all_cons,c]
     rfl
  ·intro s hI
   refine Ok.ret ?_
   rw [hI.2,Bool.and_true]
   exact hI.1
 have hbad : (x.kind == 0 || x.kind == 1) = false → Ok (Hz (pre ++ [y]) x true) (· = (decide (y.id < x.id) && Ec x.name && (x.kind == 0 || x.kind == 1) && (pre ++ [y]).any (fun k => k.id == x.parent) && (pre ++ [y]).all (fun k => !(k.parent == x.parent && Dl k.name x.name)))) := by
  intro hk
  refine Ok.ret ?_
  rw [hk]
  simp
 refine Ok.ite (fun c => ?_) fun c => ?_
 ·have h0 : ¬ x.kind = 0 := by simpa using c
  by_cases h1 : x.kind = 1
  ·have : (x.kind != 1) = false := by simp [h1]
   rw [this]
   exact hloop (by simp [h1])
  ·have : (x.kind != 1) = true := by simpa using h1
   rw [this]
   exact hbad (by simp [h0,h1])
 ·exact hloop (by
   have : x.kind = 0 := by simpa using c
   simp [this])
theorem nodes_pre {L pre post : List Ac} {x : Ac} (h : WfP L) (e : L = pre ++ x :: post) (hp : pre ≠ []) : WfP pre ∧ Rx x ∧ NodeS pre x := by
 induction h generalizing post with
 | root z v r =>
  exfalso
  have : (pre ++ x :: post).length = 1 := by rw [← e]; rfl
  simp at this
  have := List.length_pos_iff.mpr hp
  omega
 | snoc L z w v s ih =>
  rcases Ej post with rfl | ⟨p',u,rfl⟩
  ·have := List.append_inj' (s₁ := L) (t₁ := [z]) (s₂ := pre) (t₂ := [x]) (by simpa using e) rfl
   obtain ⟨rfl,e2⟩ := this
   obtain rfl : z = x := by simpa using e2
   exact ⟨w,v,s⟩
  ·have e2 : L ++ [z] = (pre ++ x :: p') ++ [u] := by simpa using e
   have := List.append_inj' e2 rfl
   exact ih this.1
theorem up_pre {L pre post : List Ac} (h : WfP L) (e : L = pre ++ post) (hp : WfP pre) {x : Ac} (hx : x ∈ pre) : upR L.reverse x.id = upR pre.reverse x.id := by
 rw [e,List.reverse_append]
 refine Su fun y hy => ?_
 have hs := h.sorted
 rw [e,List.pairwise_append] at hs
 have := hs.2.2 x hx y (by simpa using hy)
 omega
theorem Zi (t : Aa) (hm : ∀ x ∈ t.nodes,AaT x) : Ok (Kc t) (fun b => b = true ↔ WfT t) := by
 have bad : ¬ WfT t → Ok (some false) (fun b => b = true ↔ WfT t) := fun hn => Ok.ret ⟨fun e => by simp at e,fun w => absurd w hn⟩
 unfold Kc
 refine Ok.ite (fun c => ?_) fun c => ?_
 ·have := of_decide_eq_true c
  exact bad fun w => by have := w.len1; omega
 have l1 := of_decide_eq_false c
 refine Ok.ite (fun c => ?_) fun c => ?_
 ·have := of_decide_eq_true c
  exact bad fun w => by have := w.len2; omega
 have l2 := of_decide_eq_false c
 refine Ok.guard (by omega) ?_
 unfold Wj
 refine Ok.step rfl ?_
 unfold Ld
 have hroot0 : WfT t → ((((t.nodes.getD 0 default).id == 1 && (t.nodes.getD 0 default).parent == 0) && Dl (t.nodes.getD 0 default).name ByteArray.empty) && (t.nodes.getD 0 default).kind == 0) = true := by
  intro w
  obtain ⟨x,r,e,hr⟩ := w.root
  rw [e]
  simp [hr.id,hr.parent,hr.name,hr.kind]
 refine Ok.ite (fun c => ?_) fun c => ?_
 ·exact bad fun w => by rw [hroot0 w] at c; simp at c
 have hR : Vs (t.nodes.getD 0 default) := by
  simp only [Bool.not_eq_false',Bool.and_eq_true,beq_iff_eq] at c
  exact ⟨c.1.1.1,c.1.1.2,c.1.2,c.2⟩
 refine Ok.guard (by omega) ?_
 refine Ok.range (fun pre s => (pre = [] ∧ ∀ i,s.get i = 0) ∨ (WfP pre ∧ (∀ y ∈ pre,s.get y.id = ((upR pre.reverse y.id).length : Int) - 1 ∧ (upR pre.reverse y.id).length ≤ 9) ∧ ∀ i,(∀ y ∈ pre,y.id ≠ i) → s.get i = 0)) (.inl ⟨rfl,fun i => rfl⟩) ?_ ?_
 ·intro pre x post s n he hI hn
  have hxm : x ∈ t.nodes := by rw [he]; simp
  have hJ : ∀ b,(b = true → ¬ WfT t) → (b = false → Rx x ∧ (pre ≠ [] → NodeS pre x)) → (Rx x → pre = [] → Vs x) → Ok (Ft pre.length x s n b) (fun b => b = true ↔ WfT t) := by
   intro b hbt hbf hroot
   unfold Ft
   refine Ok.ite (fun c => bad (hbt c)) fun c => ?_
   obtain ⟨hv,hs⟩ := hbf c
   unfold Nq
   rcases hI with ⟨rfl,hz⟩ | ⟨hw,hd,hz⟩
   ·simp only [List.length_nil,Int.ofNat_eq_natCast,Int.cast_ofNat_Int,gt_iff_lt,Int.lt_irrefl,decide_false,Bool.false_eq_true,if_false]
    rw [hz]
    simp only [Int.reduceLT,decide_false,Bool.false_eq_true,if_false]
    have hr := hroot hv rfl
    refine hn _ (.inr ⟨.root x hv hr,?_,fun i _ => hz i⟩)
    intro y hy
    obtain rfl : y = x := by simpa using hy
    rw [hz]
    simp [upR,hr.parent]
   ·have hne : pre ≠ [] := by
     intro e
     have := hw.pos
     simp [e] at this
    have hs := hs hne
    have hpos := hw.pos
    have hgt : decide (((pre.length : Nat) : Int) > 0) = true := by simp; omega
    rw [hgt]
    simp only [if_true]
    obtain ⟨p,hp,hpp⟩ := hs.parent
    have hdp := hd p hp
    rw [hpp] at hdp
    have hup : upR (pre ++ [x]).reverse x.id = x.id :: upR pre.reverse x.parent := by
     rw [List.reverse_append,List.reverse_cons,List.reverse_nil,List.nil_append,List.singleton_append,upR,if_pos (by simp)]
    have hgx : (s.set x.id (w64 (s.get x.parent + 1))).get x.id = ((upR pre.reverse x.parent).length : Int) := by
     rw [Jc,if_pos rfl,hdp.1,Al (by omega) (by omega)]
     omega
    have hwx : WfP (pre ++ [x]) := .snoc pre x hw hv hs
    refine Ok.ite (fun c => ?_) fun c => ?_
    ·refine bad fun w => ?_
     have := of_decide_eq_true c
     rw [hgx] at this
     have hdx := w.depth x hxm
     unfold upT at hdx
     rw [up_pre w.p (show t.nodes = (pre ++ [x]) ++ post by rw [he]; simp) hwx (by simp),hup] at hdx
     simp at hdx
     omega
    ·have hle := of_decide_eq_false c
     rw [hgx] at hle
     refine hn _ (.inr ⟨hwx,?_,?_⟩)
     ·intro y hy
      rcases List.mem_append.mp hy with hy | hy
      ·have hlt := hs.lt y hy
       rw [Jc,if_neg (by omega),Aaj (by omega)]
       exact hd y hy
      ·obtain rfl : y = x := by simpa using hy
       rw [hgx,hup]
       simp
       omega
     ·intro i hi
      have := hi x (by simp)
      rw [Jc,if_neg (by omega)]
      exact hz i fun y hy => hi y (by simp [hy])
  have hroot : Rx x → pre = [] → Vs x := by
   intro _ e
   subst e
   rw [he] at hR
   exact hR
  unfold Ve
  have hbad : ∀ P : Prop,(WfT t → P) → ¬ P → Ok (Ft pre.length x s n true) (fun b => b = true ↔ WfT t) := fun P h1 h2 => hJ true (fun _ w => h2 (h1 w)) (by simp) hroot
  refine Ok.ite (fun c => ?_) fun c => ?_
  ·have := of_decide_eq_true c
   exact hbad (0 ≤ x.control) (fun w => (w.p.val x hxm).c1) (by omega)
  have c1 := of_decide_eq_false c
  refine Ok.ite (fun c => ?_) fun c => ?_
  ·refine hbad (x.control ≤ 31) (fun w => (w.p.val x hxm).c2) fun h => ?_
   rw [AdU (by omega) h] at c
   simp at c
  have c2 : x.control ≤ 31 := by
   by_cases h : x.control ≤ 31
   ·exact h
   ·have := AdY (c := x.control) (by omega) (hm x hxm).2
    have c' : Rp .i64 x.control 31 = 0 := by simpa using c
    exact absurd c' this
  refine Ok.ite (fun c => ?_) fun c => ?_
  ·have := of_decide_eq_true c
   exact hbad (0 ≤ x.owner) (fun w => (w.p.val x hxm).o1) (by omega)
  have o1 := of_decide_eq_false c
  refine Ok.ite (fun c => ?_) fun c => ?_
  ·have := of_decide_eq_true c
   exact hbad (x.owner ≤ 1048576) (fun w => (w.p.val x hxm).o2) (by omega)
  have o2 := of_decide_eq_false c
  refine Ok.ite (fun c => ?_) fun c => ?_
  ·have hk := of_decide_eq_true c
   have hle : pre.length ≤ t.nodes.length := by rw [he]; simp
   refine Ok.guard (by omega) ?_
   have ht : t.nodes.take pre.length = pre := by rw [he]; simp
   rw [ht]
   rcases Ej pre with rfl | ⟨pr,y,rfl⟩
   ·simp at hk
   have hw : WfP (pr ++ [y]) := by
    rcases hI with ⟨e,_⟩ | ⟨h,_⟩
    ·simp at e
    ·exact h
   refine Ok.step (Adw (by simp at hle; omega) (hm x hxm)) ?_
   refine hJ _ ?_ ?_ hroot
   ·intro hb w
    obtain ⟨_,v,s⟩ := nodes_pre w.p he (by simp)
    have a1 := s.lt y (by simp)
    have a2 := s.valid
    have a3 : (x.kind == 0 || x.kind == 1) = true := by
     rcases v.kind with h | h <;> simp [h]
    have a4 : (pr ++ [y]).any (fun k => k.id == x.parent) = true := by
     obtain ⟨p,hp,hpp⟩ := s.parent
     exact List.any_eq_true.mpr ⟨p,hp,by simp [hpp]⟩
    have a5 : (pr ++ [y]).all (fun k => !(k.parent == x.parent && Dl k.name x.name)) = true := by
     rw [List.all_eq_true]
     intro k hk
     by_cases q : k.parent = x.parent
     ·simp [s.fresh k hk q]
     ·simp [q]
    simp only [a1,a2,a3,a4,a5,decide_true] at hb
    simp at hb
   ·intro hb
    simp only [Bool.not_eq_false',Bool.and_eq_true,decide_eq_true_eq,List.any_eq_true,List.all_eq_true,beq_iff_eq,Bool.or_eq_true] at hb
    obtain ⟨⟨⟨⟨a1,a2⟩,a3⟩,a4⟩,a5⟩ := hb
    refine ⟨⟨a3,by omega,c2,by omega,by omega⟩,fun _ => ⟨?_,a2,a4,?_⟩⟩
    ·intro z hz
     have hs := hw.sorted
     rw [List.pairwise_append] at hs
     rcases List.mem_append.mp hz with hz | hz
     ·have := hs.2.2 z hz y (by simp)
      omega
     ·obtain rfl : z = y := by simpa using hz
      exact a1
    ·intro z hz hp
     have := a5 z hz
     simpa [hp] using this
  ·have hk := of_decide_eq_false c
   have e : pre = [] := List.length_eq_zero_iff.mp (by omega)
   refine hJ false (by simp) (fun _ => ⟨?_,fun h => absurd e h⟩) hroot
   subst e
   rw [he] at hR
   exact ⟨.inl hR.kind,by omega,c2,by omega,by omega⟩
 ·intro s hI
  unfold Uy Mc
  have hw : w64 ((t.nodes.length : Int) - 1) = ((t.nodes.length - 1 : Nat) : Int) := by
   rw [Al (by omega) (by omega)]
   omega
  rw [hw]
  refine Ok.guard (by omega) ?_
  have : Int.toNat ((t.nodes.length - 1 : Nat) : Int) = t.nodes.length - 1 := by omega
  rw [this]
  rcases hI with ⟨e,_⟩ | ⟨hp,hd,_⟩
  ·rw [e] at l1; simp at l1
  refine Ok.ite (fun c => ?_) fun c => ?_
  ·have hc := of_decide_eq_true c
   refine Ok.ret ⟨fun e => ?_,fun w => ?_⟩
   ·exact ⟨by omega,by omega,hp.split,fun x hx => (hd x hx).2,hc,by simpa using e⟩
   ·simpa using w.nextLe
  ·have := of_decide_eq_false c
   exact bad fun w => by have := w.last; omega
theorem WfP.names {L : List Ac} (h : WfP L) : ∀ x ∈ L,AaT x := by
 intro x hx
 have v := h.val x hx
 refine ⟨?_,by have := v.c2; omega⟩
 rcases h.par x hx with ⟨_,r⟩ | ⟨_,_,_,hv⟩
 ·rw [beqS_eq r.name]
  decide
 ·simp only [Ec,Bool.and_eq_true,decide_eq_true_eq] at hv
  omega
theorem Qu {t : Aa} (w : WfT t) : Kc t = some true := by
 obtain ⟨b,hb,e⟩ := Zi t w.p.names
 rw [hb,e.mpr w]
end Go.Dm

/- Plain theory, part 12: subtrees. -/
namespace Go.Dm
theorem Aeu {α : Type} {p : α → Bool} {xs : List α} {body : Nat → α → Unit → (Unit → Option Int) → Option Int} {done : Unit → Option Int}
  (hb : ∀ k x n,body k x () n = if p x then some ((k : Nat) : Int) else n ()) (hd : done () = some (-1)) : Ay body done xs 0 () = some ((xs.findIdx? p).elim (-1) (fun i => (i : Int))) := by
 have key : ∀ (ys : List α) (k : Nat),Ay body done ys k () = some ((ys.findIdx? p).elim (-1) (fun i => ((i + k : Nat) : Int))) := by
  intro ys
  induction ys with
  | nil => intro k; simp [Ay,hd]
  | cons x r ih =>
   intro k
   rw [Ay,hb,List.findIdx?_cons]
   cases hp : p x
   ·simp only [Bool.false_eq_true,if_false]
    rw [ih (k + 1)]
    cases r.findIdx? p with
    | none => rfl
    | some i =>
     simp only [Option.map_some,Option.elim_some]
     congr 2
     omega
   ·simp
 have := key xs 0
 simpa using this
theorem AcT {α : Type} (p : α → Bool) (xs : List α) (d : α) :
  (∃ i,i < xs.length ∧ xs.findIdx? p = some i ∧ xs.find? p = some (xs.getD i d)) ∨ (xs.findIdx? p = none ∧ xs.find? p = none) := by
 induction xs with
 | nil => exact .inr ⟨rfl,rfl⟩
 | cons x r ih =>
  rw [List.findIdx?_cons,List.find?_cons]
  cases hp : p x
  ·rcases ih with ⟨i,h1,h2,h3⟩ | ⟨h1,h2⟩
   ·refine .inl ⟨i + 1,by simp; omega,?_,?_⟩
    ·simp [h2]
    ·simpa using h3
   ·refine .inr ⟨?_,?_⟩
    ·simp [h1]
    ·simpa using h2
  ·exact .inl ⟨0,by simp,by simp,by simp⟩
theorem Zr (t : Aa) (id : Int) (hl : t.nodes.length ≤ 1000000) : Nf t id = some ((t.nodes.findIdx? (fun x => x.id == id)).elim (-1) (fun i => (i : Int))) := by
 unfold Nf Eu
 rw [if_pos (by omega),Aeu (p := fun x : Ac => x.id == id) (fun k x n => rfl) rfl]
 rfl
theorem Oa (t : Aa) (id : Int) (hl : t.nodes.length ≤ 1000000) : Fj t id = some ((Ml t id).elim (zN,false) (fun x => (x,true))) := by
 unfold Fj Ml
 rw [Zr t id hl,Option.bind_some]
 rcases AcT (fun x : Ac => x.id == id) t.nodes default with ⟨i,h1,h2,h3⟩ | ⟨h1,h2⟩
 ·rw [h2,h3,Option.elim_some,Option.elim_some,if_neg (by simp),if_pos (by omega),show Int.toNat (i : Int) = i by omega]
 ·rw [h1,h2]
  rfl
theorem Adn (t : Aa) (id : Int) (hl : t.nodes.length ≤ 1000000) : Ok (Nf t id) (fun i => decide (i < 0) = !Cd t id ∧ decide (i ≥ 0) = Cd t id) := by
 refine Ok.of_eq (Zr t id hl) ?_
 unfold Cd Ml
 rcases AcT (fun x : Ac => x.id == id) t.nodes default with ⟨i,h1,h2,h3⟩ | ⟨h1,h2⟩
 ·rw [h2,h3]
  have : ¬ (i : Int) < 0 := by omega
  simp [this]
 ·rw [h1,h2]
  simp
theorem Kn (t : Aa) (id : Int) (hl : t.nodes.length ≤ 1000000) : Hd t id = some (Bl t id) := by
 unfold Hd
 rw [if_pos (by omega)]
 refine (Lu (p := fun x : Ac => x.parent == id) (f := fun x : Ac => x.id) (r := some) ?_ (fun _ => rfl) (by simp; omega)).trans (by simp [Bl])
 intro k x s n hs
 unfold Om It
 rw [if_pos hs]
theorem Yu {α : Type} [DecidableEq α] : ∀ {l m : List α},l.Nodup → (∀ x ∈ l,x ∈ m) → l.length ≤ m.length
 | [],_,_,_ => by simp
 | a :: r,m,hn,hs => by
  rw [List.nodup_cons] at hn
  have ha := hs a (by simp)
  have := Yu (l := r) (m := m.erase a) hn.2 fun x hx => by
   have hne : x ≠ a := fun e => hn.1 (by rw [← e]; exact hx)
   rw [List.mem_erase_of_ne hne]
   exact hs x (by simp [hx])
  rw [List.length_erase_of_mem ha] at this
  have := List.length_pos_of_mem ha
  simp
  omega
theorem WfT.id_pos {t : Aa} (w : WfT t) {x : Ac} (h : x ∈ t.nodes) : 1 ≤ x.id := w.p.ge1 x h
theorem WfT.par_lt {t : Aa} (w : WfT t) {x : Ac} (h : x ∈ t.nodes) : x.parent < x.id := by
 rcases w.p.par x h with ⟨h1,r⟩ | ⟨_,h2,_⟩
 ·rw [r.parent]; omega
 ·exact h2
theorem Dv {t : Aa} {x k : Int} (h : k ∈ upT t x) : ∃ n ∈ t.nodes,n.id = x := by
 by_cases e : ∃ n ∈ t.nodes,n.id = x
 ·exact e
 ·have : upT t x = [] := Ym fun n hn hx => e ⟨n,by simpa using hn,hx⟩
  rw [this] at h
  simp at h
theorem WfT.induct {t : Aa} (w : WfT t) {P : Ac → Prop} (step : ∀ x ∈ t.nodes,(∀ y ∈ t.nodes,y.id = x.parent → P y) → P x) : ∀ x ∈ t.nodes,P x := by
 have key : ∀ (n : Nat),∀ x ∈ t.nodes,x.id.toNat < n → P x := by
  intro n
  induction n with
  | zero => intro x _ h; omega
  | succ n ih =>
   intro x hx h
   refine step x hx fun y hy e => ih y hy ?_
   have := w.par_lt hx
   have := w.id_pos hx
   omega
 intro x hx
 exact key _ x hx (Nat.lt_succ_self _)
theorem up_le {t : Aa} (w : WfT t) : ∀ x ∈ t.nodes,∀ k ∈ upT t x.id,k ≤ x.id := by
 refine w.induct fun x hx ih k hk => ?_
 rw [w.up hx] at hk
 rcases List.mem_cons.mp hk with rfl | hk
 ·exact Int.le_refl _
 ·obtain ⟨y,hy,e⟩ := Dv hk
  rw [← e] at hk
  have := ih y hy e k hk
  have := w.par_lt hx
  omega
theorem Of {t : Aa} (w : WfT t) {x : Ac} (hx : x ∈ t.nodes) : x.id ∈ upT t x.id := by
 rw [w.up hx]
 simp
theorem Xq {t : Aa} (w : WfT t) : ∀ x ∈ t.nodes,∀ k ∈ upT t x.id,∃ n ∈ t.nodes,n.id = k := by
 refine w.induct fun x hx ih k hk => ?_
 rw [w.up hx] at hk
 rcases List.mem_cons.mp hk with rfl | hk
 ·exact ⟨x,hx,rfl⟩
 ·obtain ⟨y,hy,e⟩ := Dv hk
  rw [← e] at hk
  exact ih y hy e k hk
theorem Yr {t : Aa} (w : WfT t) {k y : Int} (h2 : k ∈ upT t y) : ∀ x ∈ t.nodes,y ∈ upT t x.id → k ∈ upT t x.id := by
 refine w.induct fun x hx ih h1 => ?_
 have e := w.up hx
 rw [e] at h1
 rcases List.mem_cons.mp h1 with rfl | h1
 ·exact h2
 ·rw [e]
  obtain ⟨z,hz,ez⟩ := Dv h1
  rw [← ez] at h1
  have := ih z hz ez h1
  rw [ez] at this
  exact List.mem_cons_of_mem _ this
theorem Abx {t : Aa} (w : WfT t) {y : Int} : ∀ x ∈ t.nodes,y ∈ upT t x.id → x.id = y ∨ ∃ c ∈ Bl t y,c ∈ upT t x.id := by
 refine w.induct fun x hx ih h1 => ?_
 have e := w.up hx
 rw [e] at h1
 rcases List.mem_cons.mp h1 with rfl | h1
 ·exact .inl rfl
 ·obtain ⟨z,hz,ez⟩ := Dv h1
  rw [← ez] at h1
  refine .inr ?_
  rcases ih z hz ez h1 with h | ⟨c,hc,hcu⟩
  ·refine ⟨x.id,?_,Of w hx⟩
   unfold Bl
   exact List.mem_map.mpr ⟨x,List.mem_filter.mpr ⟨hx,by simp; omega⟩,rfl⟩
  ·refine ⟨c,hc,?_⟩
   rw [e]
   rw [ez] at hcu
   exact List.mem_cons_of_mem _ hcu
theorem kids_iff {t : Aa} {y c : Int} : c ∈ Bl t y ↔ ∃ x ∈ t.nodes,x.parent = y ∧ x.id = c := by
 unfold Bl
 constructor
 ·intro h
  obtain ⟨x,hx,e⟩ := List.mem_map.mp h
  obtain ⟨h1,h2⟩ := List.mem_filter.mp hx
  exact ⟨x,h1,by simpa using h2,e⟩
 ·rintro ⟨x,h1,h2,h3⟩
  exact List.mem_map.mpr ⟨x,List.mem_filter.mpr ⟨h1,by simp [h2]⟩,h3⟩
theorem Zy {t : Aa} (w : WfT t) : (t.nodes.map (·.id)).Nodup := by
 have := w.sorted
 unfold List.Nodup
 rw [List.pairwise_map]
 exact this.imp fun h => by omega
theorem Tv {t : Aa} (w : WfT t) (y : Int) : (Bl t y).Nodup := by
 unfold Bl List.Nodup
 rw [List.pairwise_map]
 exact (w.sorted.sublist List.filter_sublist).imp fun h => by omega
theorem Tg {t : Aa} (w : WfT t) (k : Int) : Ok (Gt t k) (fun l => l.Nodup ∧ l.length ≤ t.nodes.length ∧ ∀ x,x ∈ l ↔ k ∈ upT t x) := by
 have l2 := w.len2
 unfold Gt
 refine Ok.bind (Adn t k (by omega)) fun i hi => ?_
 refine Ok.ite (fun c => ?_) fun c => ?_
 ·refine Ok.ret ⟨List.nodup_nil,by simp,fun x => ⟨fun h => by simp at h,fun h => ?_⟩⟩
  exfalso
  have hno : Cd t k = false := by
   rw [hi.1] at c
   simpa using c
  obtain ⟨n,hn,e⟩ := Dv h
  rw [← e] at h
  obtain ⟨m,hm,em⟩ := Xq w n hn k h
  have := hasN_iff.mpr ⟨m,hm,em⟩
  rw [this] at hno
  simp at hno
 have hk : Cd t k = true := by
  rw [hi.1] at c
  simpa using c
 obtain ⟨kn,hkn,hke⟩ := hasN_iff.mp hk
 let I : List Int × List Int → Prop := fun s => (s.1 ++ s.2).Nodup ∧ (∀ z ∈ s.1 ++ s.2,k ∈ upT t z) ∧ (∀ z ∈ s.1 ++ s.2,z = k ∨ ∃ n ∈ t.nodes,n.id = z ∧ n.parent ∈ s.1) ∧ (∀ x,k ∈ upT t x → x ∈ s.1 ∨ ∃ y ∈ s.2,y ∈ upT t x)
 have hbound : ∀ s,I s → s.1.length + s.2.length ≤ t.nodes.length := by
  intro s hs
  have := Yu hs.1 (m := t.nodes.map (·.id)) fun z hz => by
   obtain ⟨n,hn,e⟩ := Dv (hs.2.1 z hz)
   exact List.mem_map.mpr ⟨n,hn,e⟩
  simpa using this
 refine Ok.while I (fun s => t.nodes.length - s.1.length) ?_ (by rw [Dh]; simp only [List.length_nil]; omega) ?_
 ·refine ⟨by simp,?_,?_,?_⟩
  ·intro z hz
   obtain rfl : z = k := by simpa using hz
   rw [← hke]
   exact Of w hkn
  ·intro z hz
   exact .inl (by simpa using hz)
  ·intro x hx
   exact .inr ⟨k,by simp,hx⟩
 rintro ⟨out,todo⟩ n hI hn
 have hb := hbound _ hI
 obtain ⟨i1,i2,i3,i4⟩ := hI
 simp only at hb i1 i2 i3 i4 hn
 unfold Ls
 simp only
 cases todo with
 | nil =>
  simp only [List.length_nil,gt_iff_lt,Int.cast_ofNat_Int,Int.lt_irrefl,decide_false,Bool.false_and,Bool.false_eq_true,if_false]
  refine Ok.ret ⟨by simpa using i1,by simpa using hb,fun x => ⟨fun h => i2 x (by simpa using h),fun h => ?_⟩⟩
  rcases i4 x h with h | ⟨y,hy,_⟩
  ·exact h
  ·simp at hy
 | cons y rest =>
  simp only [List.length_cons] at hb
  have hc : (decide (((((y :: rest).length : Nat) : Int)) > 0) && decide (((out.length : Nat) : Int) < ((t.nodes.length : Nat) : Int))) = true := by
   simp only [List.length_cons,Bool.and_eq_true,decide_eq_true_eq]
   omega
  rw [if_pos hc]
  refine Ok.guard (by simp) (Ok.guard (by omega) (Ok.guard (by simp) ?_))
  have ey : (y :: rest).getD 0 0 = y := rfl
  rw [ey]
  refine Ok.step (Kn t y (by omega)) (Ok.guard (by simp) ?_)
  have hsub : Ef (y :: rest).length 1 = rest.length := rfl
  rw [hsub]
  have hkl := Vj t y
  refine Ok.guard (by omega) ?_
  have ed : (y :: rest).drop 1 = rest := rfl
  rw [ed]
  have hyk := i2 y (by simp)
  have hyn : y ∉ out := by
   rw [List.nodup_append] at i1
   intro h
   exact i1.2.2 y h y (by simp) rfl
  have hyr : y ∉ rest := by
   rw [List.nodup_append,List.nodup_cons] at i1
   exact i1.2.1.1
  have hnew : ∀ c ∈ Bl t y,c ∉ out ∧ c ∉ rest ∧ c ≠ y := by
   intro c hc
   obtain ⟨cn,hcn,hcp,hce⟩ := kids_iff.mp hc
   have hlt := w.par_lt hcn
   have hck : c ≠ k := by
    rintro rfl
    obtain ⟨yn,hyn2,hye⟩ := Dv hyk
    rw [← hye] at hyk
    have := up_le w yn hyn2 _ hyk
    omega
   have hno : c ∉ out ++ (y :: rest) := by
    intro hm
    rcases i3 c hm with h | ⟨m,hm1,hm2,hm3⟩
    ·exact hck h
    ·obtain rfl : m = cn := Oc w.sorted hm1 hcn (by omega)
     rw [hcp] at hm3
     exact hyn hm3
   exact ⟨fun h => hno (by simp [h]),fun h => hno (by simp [h]),by omega⟩
  refine hn _ ⟨?_,?_,?_,?_⟩ (by simp only [List.length_append,List.length_cons,List.length_nil]; omega)
  ·simp only
   rw [List.nodup_append] at i1 ⊢
   obtain ⟨n1,n2,n3⟩ := i1
   rw [List.nodup_cons] at n2
   refine ⟨?_,?_,?_⟩
   ·rw [List.nodup_append]
    exact ⟨n1,by simp,fun a ha b hb => by
     obtain rfl : b = y := by simpa using hb
     exact fun e => hyn (e ▸ ha)⟩
   ·rw [List.nodup_append]
    exact ⟨Tv w y,n2.2,fun a ha b hb e => (hnew a ha).2.1 (e ▸ hb)⟩
   ·intro a ha b hb e
    subst e
    rcases List.mem_append.mp ha with ha | ha
    ·rcases List.mem_append.mp hb with hb | hb
     ·exact (hnew a hb).1 ha
     ·exact n3 a ha a (by simp [hb]) rfl
    ·obtain rfl : a = y := by simpa using ha
     rcases List.mem_append.mp hb with hb | hb
     ·exact (hnew a hb).2.2 rfl
     ·exact hyr hb
  ·intro z hz
   simp only [List.mem_append,List.mem_cons,List.not_mem_nil,or_false] at hz
   rcases hz with (hz | rfl) | hz | hz
   ·exact i2 z (by simp [hz])
   ·exact hyk
   ·obtain ⟨cn,hcn,hcp,hce⟩ := kids_iff.mp hz
    rw [← hce]
    refine Yr w hyk cn hcn ?_
    rw [w.up hcn,hcp]
    obtain ⟨yn,hyn2,hye⟩ := Dv hyk
    rw [← hye]
    exact List.mem_cons_of_mem _ (Of w hyn2)
   ·exact i2 z (by simp [hz])
  ·intro z hz
   simp only [List.mem_append,List.mem_cons,List.not_mem_nil,or_false] at hz
   have lift : (z = k ∨ ∃ n ∈ t.nodes,n.id = z ∧ n.parent ∈ out) → (z = k ∨ ∃ n ∈ t.nodes,n.id = z ∧ n.parent ∈ out ++ [y]) := by
    rintro (h | ⟨n,h1,h2,h3⟩)
    ·exact .inl h
    ·exact .inr ⟨n,h1,h2,by simp [h3]⟩
   rcases hz with (hz | rfl) | hz | hz
   ·exact lift (i3 z (by simp [hz]))
   ·exact lift (i3 z (by simp))
   ·obtain ⟨cn,hcn,hcp,hce⟩ := kids_iff.mp hz
    exact .inr ⟨cn,hcn,hce,by simp [hcp]⟩
   ·exact lift (i3 z (by simp [hz]))
  ·intro x hx
   rcases i4 x hx with h | ⟨z,hz,hzx⟩
   ·exact .inl (by simp [h])
   ·rcases List.mem_cons.mp hz with rfl | hz
    ·obtain ⟨xn,hxn,hxe⟩ := Dv hzx
     rw [← hxe] at hzx ⊢
     rcases Abx w xn hxn hzx with h | ⟨c,hc,hcx⟩
     ·exact .inl (by simp [h])
     ·exact .inr ⟨c,by simp [hc],hcx⟩
    ·exact .inr ⟨z,by simp [hz],hzx⟩
end Go.Dm

/- Plain theory, part 13: the program's Check of hierarchies; counts; moves. -/
namespace Go.Dm
end Go.Dm

/- Plain theory, part 14: the document's subtrees and counts; ancestors. -/
namespace Go.Dm
theorem up_one {t : Aa} (w : WfT t) {y : Int} {c c' : Ac} (hc : c ∈ t.nodes) (hc' : c' ∈ t.nodes) (e : c.parent = y) (e' : c'.parent = y) :
  ∀ x ∈ t.nodes,c.id ∈ upT t x.id → c'.id ∈ upT t x.id → c.id = c'.id := by
 have l1 := w.par_lt hc
 have l2 := w.par_lt hc'
 refine w.induct fun x hx ih h1 h2 => ?_
 rw [w.up hx] at h1 h2
 have low : ∀ z : Ac,z ∈ t.nodes → z.id = y → ∀ q : Ac,q.parent = y → q.parent < q.id → q.id ∉ upT t z.id := by
  intro z hz hzy q hq hlt hm
  have := up_le w z hz _ hm
  omega
 rcases List.mem_cons.mp h1 with h1 | h1 <;> rcases List.mem_cons.mp h2 with h2 | h2
 ·omega
 ·exfalso
  obtain ⟨z,hz,ez⟩ := Dv h2
  rw [← ez] at h2
  have hxc : x = c := Oc w.sorted hx hc h1.symm
  subst hxc
  exact low z hz (by omega) c' e' l2 h2
 ·exfalso
  obtain ⟨z,hz,ez⟩ := Dv h1
  rw [← ez] at h1
  have hxc : x = c' := Oc w.sorted hx hc' h2.symm
  subst hxc
  exact low z hz (by omega) c e l1 h1
 ·obtain ⟨z,hz,ez⟩ := Dv h1
  rw [← ez] at h1 h2
  exact ih z hz ez h1 h2
theorem Wf {t : Aa} {k : Int} {l : List Int} (hn : l.Nodup) (hm : ∀ x ∈ l,k ∈ upT t x) : l.length ≤ t.nodes.length := by
 have := Yu hn (m := t.nodes.map (·.id)) fun z hz => by
  obtain ⟨n,hn,e⟩ := Dv (hm z hz)
  exact List.mem_map.mpr ⟨n,hn,e⟩
 simpa using this
theorem Abz {t : Aa} (w : WfT t) : ∀ (n : Nat) (id : Int),(t.next - id).toNat < n → Ok (Hm n t id) (fun l => l.Nodup ∧ ∀ x,x ∈ l ↔ id ∈ upT t x) := by
 intro n
 have l2 := w.len2
 induction n with
 | zero => intro id h; omega
 | succ n ih =>
  intro id hlt
  unfold Hm Lv
  refine Ok.step (Fe w id) ?_
  refine Ok.ite (fun c => ?_) fun c => ?_
  ·refine Ok.ret ⟨List.nodup_nil,fun x => ⟨fun h => by simp at h,fun h => ?_⟩⟩
   exfalso
   have hno : Cd t id = false := by simpa using c
   obtain ⟨q,hq,e⟩ := Dv h
   rw [← e] at h
   obtain ⟨m,hm,em⟩ := Xq w q hq id h
   rw [hasN_iff.mpr ⟨m,hm,em⟩] at hno
   simp at hno
  have hk : Cd t id = true := by simpa using c
  obtain ⟨kn,hkn,hke⟩ := hasN_iff.mp hk
  refine Ok.step (Na w id) ?_
  rw [if_pos hk]
  have hkl := Vj t id
  refine Ok.guard (by omega) ?_
  have hkn2 := Tv w id
  refine Ok.range (fun pre s => s.Nodup ∧ ∀ x,x ∈ s ↔ x = id ∨ ∃ c ∈ pre,c ∈ upT t x) ⟨by simp,by simp⟩ ?_ ?_
  ·intro pre c post s k he ⟨i1,i2⟩ hn
   have hck : c ∈ Bl t id := by rw [he]; simp
   obtain ⟨cn,hcn,hcp,hce⟩ := kids_iff.mp hck
   have hcl := w.par_lt hcn
   have hcx := w.next cn hcn
   unfold Ri
   refine Ok.bind (ih c (by omega)) fun r ⟨r1,r2⟩ => ?_
   have hin : ∀ x ∈ s,id ∈ upT t x := by
    intro x hx
    rcases (i2 x).mp hx with rfl | ⟨d,hd,hdx⟩
    ·rw [← hke]; exact Of w hkn
    ·obtain ⟨dn,hdn,hdp,hde⟩ := kids_iff.mp (show d ∈ Bl t id by rw [he]; simp [hd])
     obtain ⟨xn,hxn,hxe⟩ := Dv hdx
     rw [← hxe] at hdx ⊢
     refine Yr w (y := d) ?_ xn hxn hdx
     rw [← hde,w.up hdn,hdp,← hke]
     exact List.mem_cons_of_mem _ (Of w hkn)
   have b1 := Wf i1 hin
   have b2 := Wf r1 fun x hx => (r2 x).mp hx
   refine Ok.guard (by omega) (hn _ ⟨?_,?_⟩)
   ·rw [List.nodup_append]
    refine ⟨i1,r1,fun a ha b hb e => ?_⟩
    subst e
    have hca := (r2 a).mp hb
    rcases (i2 a).mp ha with rfl | ⟨d,hd,hda⟩
    ·obtain ⟨xn,hxn,hxe⟩ := Dv hca
     rw [← hxe] at hca
     have := up_le w xn hxn _ hca
     omega
    ·obtain ⟨dn,hdn,hdp,hde⟩ := kids_iff.mp (show d ∈ Bl t id by rw [he]; simp [hd])
     obtain ⟨xn,hxn,hxe⟩ := Dv hca
     rw [← hxe] at hca hda
     have := up_one w hdn hcn hdp hcp xn hxn (by rw [hde]; exact hda) (by rw [hce]; exact hca)
     rw [he,List.nodup_append] at hkn2
     exact hkn2.2.2 d hd c (by simp) (by omega)
   ·intro x
    rw [List.mem_append,i2,r2]
    constructor
    ·rintro ((h | ⟨d,hd,hdx⟩) | h)
     ·exact .inl h
     ·exact .inr ⟨d,by simp [hd],hdx⟩
     ·exact .inr ⟨c,by simp,h⟩
    ·rintro (h | ⟨d,hd,hdx⟩)
     ·exact .inl (.inl h)
     ·rcases List.mem_append.mp hd with hd | hd
      ·exact .inl (.inr ⟨d,hd,hdx⟩)
      ·obtain rfl : d = c := by simpa using hd
       exact .inr hdx
  ·rintro s ⟨i1,i2⟩
   refine Ok.ret ⟨i1,fun x => ?_⟩
   rw [i2]
   constructor
   ·rintro (rfl | ⟨d,hd,hdx⟩)
    ·rw [← hke]; exact Of w hkn
    ·obtain ⟨dn,hdn,hdp,hde⟩ := kids_iff.mp hd
     obtain ⟨xn,hxn,hxe⟩ := Dv hdx
     rw [← hxe] at hdx ⊢
     refine Yr w (y := d) ?_ xn hxn hdx
     rw [← hde,w.up hdn,hdp,← hke]
     exact List.mem_cons_of_mem _ (Of w hkn)
   ·intro h
    obtain ⟨xn,hxn,hxe⟩ := Dv h
    rw [← hxe] at h ⊢
    exact Abx w xn hxn h
theorem Wk {t : Aa} (w : WfT t) (id : Int) : Ok (Ni t id) (fun l => l.Nodup ∧ ∀ x,x ∈ l ↔ id ∈ upT t x) := by
 unfold Ni
 by_cases h : (t.next - id).toNat < Ei
 ·exact Abz w Ei id h
 ·have hno : Cd t id = false := by
   cases hh : Cd t id
   ·rfl
   ·obtain ⟨n,hn,e⟩ := hasN_iff.mp hh
    have := w.id_pos hn
    have := w.nextLe
    rw [Dh] at h
    omega
  rw [Dh]
  unfold Hm Lv
  refine Ok.step (Fe w id) ?_
  rw [hno]
  refine Ok.ret ⟨List.nodup_nil,fun x => ⟨fun h => by simp at h,fun h => ?_⟩⟩
  exfalso
  obtain ⟨q,hq,e⟩ := Dv h
  rw [← e] at h
  obtain ⟨m,hm,em⟩ := Xq w q hq id h
  rw [hasN_iff.mpr ⟨m,hm,em⟩] at hno
  simp at hno
end Go.Dm

/- Plain theory, part 20: the library's sort leaves an ascending list as it is. -/
namespace Go.Dm
theorem Ij (a b : Int) : Cl a b = some (decide (a < b)) := by
 unfold Cl Mb Je
 simp
theorem lens_pos : (List.range 1001).all (fun n => (Pq (IntKind.u64.wrap (n : Int))).any (fun k => n == 0 || decide (1 ≤ k))) = true := by decide +kernel
theorem AdI {n : Nat} (hn : n ≤ 1000) : Ok (Pq (IntKind.u64.wrap (n : Int))) (fun _ => True) := by
 have := List.all_eq_true.mp lens_pos n (by rw [List.mem_range]; omega)
 cases hb : Pq (IntKind.u64.wrap (n : Int)) with
 | none => rw [hb] at this; simp at this
 | some k => exact ⟨k,rfl,trivial⟩
end Go.Dm

/- Plain theory of protections, part 1: shares along a chain of groups. -/
namespace Go.Dm
def Bp (f : Int → Int) (l : List Int) : Int := (l.map f).sum
theorem AbH (f : Int → Int) : Bp f [] = 0 := rfl
theorem Cn (f : Int → Int) (a : Int) (l : List Int) : Bp f (a :: l) = f a + Bp f l := by simp [Bp]
theorem Abm (f : Int → Int) (l m : List Int) : Bp f (l ++ m) = Bp f l + Bp f m := by simp [Bp]
theorem Pc {f : Int → Int} {l : List Int} (h : ∀ x ∈ l,0 ≤ f x) : 0 ≤ Bp f l := by
 induction l with
 | nil => simp [Bp]
 | cons a r ih =>
  rw [Cn]
  have h1 := h a (by simp)
  have h2 := ih fun x hx => h x (by simp [hx])
  omega
theorem sumF_le {f g : Int → Int} {l : List Int} (h : ∀ x ∈ l,f x ≤ g x) : Bp f l ≤ Bp g l := by
 induction l with
 | nil => simp [Bp]
 | cons a r ih =>
  rw [Cn,Cn]
  have h1 := h a (by simp)
  have h2 := ih fun x hx => h x (by simp [hx])
  omega
theorem Qf {f g : Int → Int} {l : List Int} (h : ∀ x ∈ l,f x = g x) : Bp f l = Bp g l := by
 unfold Bp
 rw [List.map_congr_left h]
theorem sumF_perm {f : Int → Int} {l m : List Int} (h : l.Perm m) : Bp f l = Bp f m := by
 induction h with
 | nil => rfl
 | cons x _ ih => rw [Cn,Cn,ih]
 | swap x y l => rw [Cn,Cn,Cn,Cn]; omega
 | trans _ _ ih1 ih2 => exact ih1.trans ih2
theorem sumF_one {f g : Int → Int} {l : List Int} {k : Int} (hn : l.Nodup) (hk : k ∈ l) (h : ∀ x ∈ l,x ≠ k → f x = g x) : Bp g l = Bp f l + (g k - f k) := by
 induction l with
 | nil => simp at hk
 | cons b r ih =>
  rw [List.nodup_cons] at hn
  rw [Cn,Cn]
  by_cases e : b = k
  ·subst e
   have : Bp f r = Bp g r := Qf fun x hx => h x (by simp [hx]) fun e => hn.1 (e ▸ hx)
   omega
  ·have hkr : k ∈ r := by
    rcases List.mem_cons.mp hk with h | h
    ·exact absurd h.symm e
    ·exact h
   have h1 := ih hn.2 hkr fun x hx hne => h x (by simp [hx]) hne
   have h2 := h b (by simp) e
   omega
def Qs (kids : Int → List Int) (cl : Int → Int) : List Int → Int
 | [] => 0
 | [c] => cl c
 | c :: p :: r => if Bp cl (kids p) ≤ Qs kids cl (p :: r) then cl c else cl c * Qs kids cl (p :: r) / Bp cl (kids p)
theorem Yp (kids : Int → List Int) (cl : Int → Int) (c : Int) : Qs kids cl [c] = cl c := by rw [Qs]
theorem Wh (kids : Int → List Int) (cl : Int → Int) (c p : Int) (r : List Int) : Qs kids cl (c :: p :: r) = if Bp cl (kids p) ≤ Qs kids cl (p :: r) then cl c else cl c * Qs kids cl (p :: r) / Bp cl (kids p) := by rw [Qs]
section
variable {kids : Int → List Int} {cl : Int → Int}
theorem Yo (h : ∀ x,0 ≤ cl x) : ∀ l,0 ≤ Qs kids cl l
 | [] => by simp [Qs]
 | [c] => by rw [Yp]; exact h c
 | c :: p :: r => by
  have ih := Yo h (p :: r)
  rw [Wh]
  split
  ·exact h c
  ·exact Int.ediv_nonneg (Int.mul_nonneg (h c) ih) (Pc fun x _ => h x)
theorem eff_le (h : ∀ x,0 ≤ cl x) : ∀ c r,Qs kids cl (c :: r) ≤ cl c
 | c,[] => by rw [Yp]; exact Int.le_refl _
 | c,p :: r => by
  rw [Wh]
  split
  ·exact Int.le_refl _
  ·rename_i hgt
   have hs : 0 < Bp cl (kids p) := by
    have := Yo (kids := kids) h (p :: r)
    omega
   refine Int.ediv_le_of_le_mul hs ?_
   exact Int.mul_le_mul_of_nonneg_left (by omega) (h c)
def So (kids : Int → List Int) (s : Int → Int) : Int → List Int → Int
 | x,[] => x
 | x,p :: r => So kids s (if Bp s (kids p) > s p then x * s p / Bp s (kids p) else x) r
variable {s u : Int → Int}
end
end Go.Dm

/- Models of Go types and functions, printed by a program. -/
namespace Go.Dm
set_option linter.unusedVariables false
structure Protection where
 group : Int
 min : Int
 low : Int
 deriving Inhabited
def As (x : Protection) : List PV := [vi x.group,vi x.min,vi x.low]
abbrev Ar : Protection := default
abbrev Ae (L : List Protection) : PV := La 3 As (default : Protection) L
abbrev Aw (L : List Protection) : Body := rowOf 3 As (default : Protection) L
abbrev Ih (L : List Protection) : Nat → List PV := elems As (default : Protection) L
def Qi (x y : Protection) : Bool := ((x.group == y.group) && ((x.min == y.min) && ((x.low == y.low) && true)))
structure Ah where
 group : Int
 own : Int
 deriving Inhabited
def Bg (x : Ah) : List PV := [vi x.group,vi x.own]
abbrev Cv : Ah := default
abbrev An (L : List Ah) : PV := La 2 Bg (default : Ah) L
abbrev Bx (L : List Ah) : Body := rowOf 2 Bg (default : Ah) L
abbrev Nn (L : List Ah) : Nat → List PV := elems Bg (default : Ah) L
structure Ag where
 charges : List Ah
 deriving Inhabited
def Xz (x : Ag) : List PV := [La 2 Bg (default : Ah) x.charges]
def Ye : Option Aa := (some ({ nodes := [({ id := 1,parent := 0,name := ByteArray.empty,control := 0,kind := 0,owner := 0 } : Ac),({ id := 2,parent := 1,name := (bs [97]),control := 0,kind := 0,owner := 0 } : Ac),({ id := 3,parent := 2,name := (bs [98]),control := 0,kind := 0,owner := 0 } : Ac),({ id := 4,parent := 2,name := (bs [99]),control := 0,kind := 0,owner := 0 } : Ac)],next := 5 } : Aa))
def Bu (x1 : Ah) (s1 : Int) (n1 : Int → Option Bool) (y3 : Bool) : Option Bool := (if y3 then (some false) else (n1 (w64 (s1 + x1.own))))
def Mu (p0 : Aa) (p1 : Ag) (k1 : Nat) (x1 : Ah) (s1 : Int) (n1 : Int → Option Bool) : Option Bool := (Option.bind (Fj p0 x1.group) fun r24 => (if (!r24.2) then ((Bu x1 s1 n1) true) else (if (decide (((k1 : Nat) : Int) > 0)) then (if 0 ≤ (w64 (((k1 : Nat) : Int) - 1)) ∧ (w64 (((k1 : Nat) : Int) - 1)) < ((p1.charges.length : Nat) : Int) then (if (decide (x1.group ≤ (p1.charges.getD (Int.toNat (w64 (((k1 : Nat) : Int) - 1))) (default : Ah)).group)) then ((Bu x1 s1 n1) true) else (if (decide (x1.own < 1)) then ((Bu x1 s1 n1) true) else ((Bu x1 s1 n1) (decide (x1.own > (w64 (16777216 - s1))))))) else none) else (if (decide (x1.own < 1)) then ((Bu x1 s1 n1) true) else ((Bu x1 s1 n1) (decide (x1.own > (w64 (16777216 - s1)))))))))
def Vp (s1 : Int) : Option Bool := (some true)
def Gh (p0 : Aa) (p1 : Ag) : Option Bool := (Option.bind (Kc p0) fun r1 => (if (!r1) then (some false) else (if p1.charges.length ≤ 9223372036854775807 then Ay (Mu p0 p1) Vp p1.charges 0 0 else none)))
def Be (n1 : Unit → Option Bool) (y3 : Bool) : Option Bool := (if y3 then (some false) else (n1 ()))
def Nc (p0 : Aa) (p1 : List Protection) (k1 : Nat) (x1 : Protection) (s1 : Unit) (n1 : Unit → Option Bool) : Option Bool := (Option.bind (Fj p0 x1.group) fun r32 => (if (!r32.2) then ((Be n1) true) else (if (decide (((k1 : Nat) : Int) > 0)) then (if 0 ≤ (w64 (((k1 : Nat) : Int) - 1)) ∧ (w64 (((k1 : Nat) : Int) - 1)) < ((p1.length : Nat) : Int) then (if (decide (x1.group ≤ (p1.getD (Int.toNat (w64 (((k1 : Nat) : Int) - 1))) (default : Protection)).group)) then ((Be n1) true) else (if (decide (x1.min < 0)) then ((Be n1) true) else (if (decide (x1.min > 4611686018427387904)) then ((Be n1) true) else (if (decide (x1.low < 0)) then ((Be n1) true) else ((Be n1) (decide (x1.low > 4611686018427387904))))))) else none) else (if (decide (x1.min < 0)) then ((Be n1) true) else (if (decide (x1.min > 4611686018427387904)) then ((Be n1) true) else (if (decide (x1.low < 0)) then ((Be n1) true) else ((Be n1) (decide (x1.low > 4611686018427387904)))))))))
def Ws (s1 : Unit) : Option Bool := (some true)
def Em (p0 : Aa) (p1 : List Protection) : Option Bool := (Option.bind (Kc p0) fun r1 => (if (!r1) then (some false) else (if p1.length ≤ 9223372036854775807 then Ay (Nc p0 p1) Ws p1 0 () else none)))
def Rs (k1 : Nat) (x1 : Ah) (s1 : IMap Int) (n1 : (IMap Int) → Option (IMap Int)) : Option (IMap Int) := (n1 (s1.set x1.group x1.own))
def Rf (p0 : Aa) (s4 : (IMap Int) × Int) (n4 : ((IMap Int) × Int) → Option (IMap Int)) : Option (IMap Int) := (if (decide (s4.2 > 0)) then (if 0 ≤ s4.2 ∧ s4.2 < ((p0.nodes.length : Nat) : Int) then (if 0 ≤ s4.2 ∧ s4.2 < ((p0.nodes.length : Nat) : Int) then (n4 ((s4.1.set (p0.nodes.getD (Int.toNat s4.2) (default : Ac)).parent (w64 ((s4.1.get (p0.nodes.getD (Int.toNat s4.2) (default : Ac)).parent) + (s4.1.get (p0.nodes.getD (Int.toNat s4.2) (default : Ac)).id)))),(w64 (s4.2 - 1)))) else none) else none) else (some s4.1))
def Rj (p0 : Aa) (s1 : IMap Int) : Option (IMap Int) := (whileO (Rf p0) Ei (s1,(w64 (((p0.nodes.length : Nat) : Int) - 1))))
def Ns (p0 : Aa) (p1 : Ag) : Option (IMap Int) := (if p1.charges.length ≤ 9223372036854775807 then Ay Rs (Rj p0) p1.charges 0 (IMap.empty 0) else none)
def Jo (n1 : (List Ah) → Option ((List Ah) × Int)) (y3 : List Ah) : Option ((List Ah) × Int) := (n1 y3)
def Lr (r3 : IMap Int) (k1 : Nat) (x1 : Ac) (s1 : List Ah) (n1 : (List Ah) → Option ((List Ah) × Int)) : Option ((List Ah) × Int) := (if (decide ((r3.get x1.id) > 0)) then (if s1.length + 1 ≤ 1073741824 then ((Jo n1) (s1 ++ [({ group := x1.id,own := (r3.get x1.id) } : Ah)])) else none) else ((Jo n1) s1))
def Pt (s1 : List Ah) : Option ((List Ah) × Int) := (some (s1,0))
def Kz (p0 : Aa) (p1 : Ag) : Option ((List Ah) × Int) := (Option.bind (Gh p0 p1) fun r1 => (if (!r1) then (some ([],1)) else (Option.bind (Ns p0 p1) fun r3 => (if p0.nodes.length ≤ 9223372036854775807 then Ay (Lr r3) Pt p0.nodes 0 [] else none))))
def Sw (p0 : Protection) : Option Int := (some p0.min)
def Gq (k1 : Nat) (x1 : Protection) (s1 : IMap Int) (n1 : (IMap Int) → Option (IMap Int)) : Option (IMap Int) := (Option.bind (Sw x1) fun r8 => (n1 (s1.set x1.group (Ck r8 16777216))))
def Jp (s1 : IMap Int) : Option (IMap Int) := (some s1)
def Cy (p0 : List Protection) : Option (IMap Int) := (if p0.length ≤ 9223372036854775807 then Ay Gq Jp p0 0 (IMap.empty 0) else none)
def Iz (p1 : IMap Int) (p2 : IMap Int) (k10 : Nat) (x10 : Int) (s10 : Int) (n10 : Int → Option (IMap Int)) : Option (IMap Int) := (n10 (w64 (s10 + (Ck (p1.get x10) (p2.get x10)))))
def Hf (n13 : (IMap Int) → Option (IMap Int)) (y18 : IMap Int) : Option (IMap Int) := (n13 y18)
def Lp (p1 : IMap Int) (p2 : IMap Int) (p3 : Int) (x1 : Int) (s10 : Int) (k13 : Nat) (x13 : Int) (s13 : IMap Int) (n13 : (IMap Int) → Option (IMap Int)) : Option (IMap Int) := (if ((x1 != p3) && (decide (s10 > ((s13.set x13 (Ck (p1.get x13) (p2.get x13))).get x1)))) then (if (s10 : Int) ≠ 0 then ((Hf n13) ((s13.set x13 (Ck (p1.get x13) (p2.get x13))).set x13 (w64 (Int.tdiv (w64 (((s13.set x13 (Ck (p1.get x13) (p2.get x13))).get x13) * ((s13.set x13 (Ck (p1.get x13) (p2.get x13))).get x1))) s10)))) else none) else ((Hf n13) (s13.set x13 (Ck (p1.get x13) (p2.get x13)))))
def Lq (n1 : (IMap Int) → Option (IMap Int)) (s13 : IMap Int) : Option (IMap Int) := (n1 s13)
def Ll (p1 : IMap Int) (p2 : IMap Int) (p3 : Int) (x1 : Int) (s1 : IMap Int) (n1 : (IMap Int) → Option (IMap Int)) (r89 : List Int) (s10 : Int) : Option (IMap Int) := (if r89.length ≤ 9223372036854775807 then Ay (Lp p1 p2 p3 x1 s10) (Lq n1) r89 0 s1 else none)
def Mn (p0 : Aa) (p1 : IMap Int) (p2 : IMap Int) (p3 : Int) (k1 : Nat) (x1 : Int) (s1 : IMap Int) (n1 : (IMap Int) → Option (IMap Int)) : Option (IMap Int) := (Option.bind (Hd p0 x1) fun r89 => (if r89.length ≤ 9223372036854775807 then Ay (Iz p1 p2) (Ll p1 p2 p3 x1 s1 n1 r89) r89 0 0 else none))
def Rc (s1 : IMap Int) : Option (IMap Int) := (some s1)
def Hj (p0 : Aa) (p1 : IMap Int) (p2 : IMap Int) (p3 : Int) : Option (IMap Int) := (Option.bind (Gt p0 p3) fun r1 => (if r1.length ≤ 9223372036854775807 then Ay (Mn p0 p1 p2 p3) Rc r1 0 (IMap.empty 0) else none))
def Xh (p0 : Protection) : Option Int := (some p0.low)
def Gz (k1 : Nat) (x1 : Protection) (s1 : IMap Int) (n1 : (IMap Int) → Option (IMap Int)) : Option (IMap Int) := (Option.bind (Xh x1) fun r8 => (n1 (s1.set x1.group (Ck r8 16777216))))
def Km (s1 : IMap Int) : Option (IMap Int) := (some s1)
def Dg (p0 : List Protection) : Option (IMap Int) := (if p0.length ≤ 9223372036854775807 then Ay Gz Km p0 0 (IMap.empty 0) else none)
def Mq (k1 : Nat) (x1 : Ah) (s1 : IMap Int) (n1 : (IMap Int) → Option ((List Protection) × Int)) : Option ((List Protection) × Int) := (n1 (s1.set x1.group x1.own))
def Jw (r51 : IMap Int) (r53 : IMap Int) (k4 : Nat) (x4 : Int) (s4 : List Protection) (n4 : (List Protection) → Option ((List Protection) × Int)) : Option ((List Protection) × Int) := (if s4.length + 1 ≤ 1073741824 then (n4 (s4 ++ [({ group := x4,min := (r51.get x4),low := (r53.get x4) } : Protection)])) else none)
def Mo (s4 : List Protection) : Option ((List Protection) × Int) := (some (s4,0))
def Mm (p0 : Aa) (p2 : List Protection) (p3 : Int) (s1 : IMap Int) : Option ((List Protection) × Int) := (Option.bind (Cy p2) fun r50 => (Option.bind (Hj p0 s1 r50 p3) fun r51 => (Option.bind (Dg p2) fun r52 => (Option.bind (Hj p0 s1 r52 p3) fun r53 => (Option.bind (Gt p0 p3) fun r54 => (Option.bind (Kj r54) fun r55 => (if r54.length = r55.length then (if r55.length ≤ 9223372036854775807 then Ay (Jw r51 r53) Mo r55 0 [] else none) else none)))))))
def Dn (p0 : Aa) (p1 : Ag) (p2 : List Protection) (p3 : Int) (y1 : Bool) : Option ((List Protection) × Int) := (if y1 then (some ([],1)) else (Option.bind (Fj p0 p3) fun r5 => (if (!r5.2) then (some ([],4)) else (Option.bind (Kz p0 p1) fun r7 => (if r7.1.length ≤ 9223372036854775807 then Ay Mq (Mm p0 p2 p3) r7.1 0 (IMap.empty 0) else none)))))
def Cs (p0 : Aa) (p1 : Ag) (p2 : List Protection) (p3 : Int) : Option ((List Protection) × Int) := (Option.bind (Gh p0 p1) fun r1 => (if (!r1) then ((Dn p0 p1 p2 p3) true) else (Option.bind (Em p0 p2) fun r3 => ((Dn p0 p1 p2 p3) (!r3)))))
def Hh (n1 : Int → Option Int) (y3 : Int) : Option Int := (n1 y3)
def Qo (p1 : IMap Int) (k4 : Nat) (x4 : Int) (s4 : Int) (n4 : Int → Option Int) : Option Int := (n4 (w64 (s4 + (p1.get x4))))
def Qk (p1 : IMap Int) (s1 : Int) (n1 : Int → Option Int) (r41 : Ac × Bool) (s4 : Int) : Option Int := (if (decide (s4 > (p1.get r41.1.parent))) then (if (s4 : Int) ≠ 0 then ((Hh n1) (w64 (Int.tdiv (w64 (s1 * (p1.get r41.1.parent))) s4))) else none) else ((Hh n1) s1))
def Kf (p0 : Aa) (p1 : IMap Int) (k1 : Nat) (x1 : Int) (s1 : Int) (n1 : Int → Option Int) : Option Int := (Option.bind (Fj p0 x1) fun r41 => (if ((r41.1.parent == 0) || (r41.1.parent == 1)) then ((Hh n1) s1) else (Option.bind (Hd p0 r41.1.parent) fun r44 => (if r44.length ≤ 9223372036854775807 then Ay (Qo p1) (Qk p1 s1 n1 r41) r44 0 0 else none))))
def Nb (s1 : Int) : Option Int := (some s1)
def Kb (p0 : Aa) (p1 : IMap Int) (p2 : Int) (p3 : Int) : Option Int := (Option.bind (Js p0 p2) fun r1 => (if r1.length ≤ 9223372036854775807 then Ay (Kf p0 p1) Nb r1 0 (Ck p3 (p1.get p2)) else none))
def En (p0 : Aa) (p1 : List Protection) (p2 : Int) (p3 : Int) : Option (Int × Int × Int) := (Option.bind (Em p0 p1) fun r1 => (if (!r1) then (some (0,0,1)) else (Option.bind (Fj p0 p2) fun r3 => (if (!r3.2) then (some (0,0,4)) else (if ((decide (p3 < 0)) || (decide (p3 > 16777216))) then (some (0,0,3)) else (Option.bind (Cy p1) fun r7 => (Option.bind (Kb p0 r7 p2 p3) fun r8 => (Option.bind (Dg p1) fun r9 => (Option.bind (Kb p0 r9 p2 p3) fun r10 => (some (r8,r10,0)))))))))))
def Ea (y1 : Bool) : Option Bool := (some y1)
def Nw : Option Bool := (Option.bind Ye fun r1 => (Option.bind (Cs r1 ({ charges := [({ group := 3,own := 200 } : Ah),({ group := 4,own := 100 } : Ah)] } : Ag) [({ group := 2,min := 100,low := 0 } : Protection),({ group := 3,min := 100,low := 0 } : Protection),({ group := 4,min := 100,low := 0 } : Protection)] 1) fun r4 => (Option.bind (Cs r1 ({ charges := [({ group := 3,own := 50 } : Ah),({ group := 4,own := 100 } : Ah)] } : Ag) [({ group := 2,min := 100,low := 0 } : Protection),({ group := 3,min := 100,low := 0 } : Protection),({ group := 4,min := 100,low := 0 } : Protection)] 1) fun r5 => (Option.bind (En r1 [({ group := 2,min := 100,low := 0 } : Protection),({ group := 3,min := 100,low := 0 } : Protection),({ group := 4,min := 100,low := 0 } : Protection)] 3 50) fun r6 => (if (r4.2 == 0) then (if (r5.2 == 0) then (if (r6.2.2 == 0) then (if (r6.1 == 25) then (if (r6.2.1 == 0) then (if (((r4.1.length : Nat) : Int) == 4) then (if 1 < r4.1.length then (if 1 < r4.1.length then (if ((r4.1.getD 1 (default : Protection)).min == 100) then (if 2 < r4.1.length then (if 2 < r4.1.length then (if ((r4.1.getD 2 (default : Protection)).min == 50) then (if 3 < r4.1.length then (if 3 < r4.1.length then (if ((r4.1.getD 3 (default : Protection)).min == 50) then (if (((r5.1.length : Nat) : Int) == 4) then (if 2 < r5.1.length then (if 2 < r5.1.length then (if ((r5.1.getD 2 (default : Protection)).min == 33) then (if 3 < r5.1.length then (if 3 < r5.1.length then (Ea ((r5.1.getD 3 (default : Protection)).min == 66)) else none) else none) else (Ea false)) else none) else none) else (Ea false)) else (Ea false)) else none) else none) else (Ea false)) else none) else none) else (Ea false)) else none) else none) else (Ea false)) else (Ea false)) else (Ea false)) else (Ea false)) else (Ea false)) else (Ea false))))))
def Ep (p0 : Ao) (p1 : List Int) : Option (Int × Ao) := (Option.bind (Cr p0 ((p1.length : Nat) : Int)) fun r1 => (if 0 ≤ r1.1 ∧ r1.1 < ((p1.length : Nat) : Int) then (some ((p1.getD (Int.toNat r1.1) 0),r1.2)) else none))
def Cp (n1 : Unit → Option Bool) (y3 : Bool) : Option Bool := (if y3 then (some false) else (n1 ()))
def Mz (p0 : Aa) (p1 : List Ah) (p2 : Int) (k1 : Nat) (x1 : Ah) (s1 : Unit) (n1 : Unit → Option Bool) : Option Bool := (Option.bind (Hg p0 x1.group) fun r32 => (if (!r32) then ((Cp n1) true) else (if (decide (((k1 : Nat) : Int) > 0)) then (if 0 ≤ (w64 (((k1 : Nat) : Int) - 1)) ∧ (w64 (((k1 : Nat) : Int) - 1)) < ((p1.length : Nat) : Int) then (if (decide (x1.group ≤ (p1.getD (Int.toNat (w64 (((k1 : Nat) : Int) - 1))) (default : Ah)).group)) then ((Cp n1) true) else (if (decide (x1.own < p2)) then ((Cp n1) true) else ((Cp n1) (decide (x1.own > 16777216))))) else none) else (if (decide (x1.own < p2)) then ((Cp n1) true) else ((Cp n1) (decide (x1.own > 16777216)))))))
def Wq (s1 : Unit) : Option Bool := (some true)
def Ir (p0 : Aa) (p1 : List Ah) (p2 : Int) : Option Bool := (if p1.length ≤ 9223372036854775807 then Ay (Mz p0 p1 p2) Wq p1 0 () else none)
def Pg (k1 : Nat) (x1 : Ah) (s1 : Int) (n1 : Int → Option Bool) : Option Bool := (n1 (w64 (s1 + x1.own)))
def Ta (s1 : Int) : Option Bool := (some (decide (s1 ≤ 16777216)))
def Iq (p1 : Ag) (y1 : Bool) : Option Bool := (if y1 then (some false) else (if p1.charges.length ≤ 9223372036854775807 then Ay Pg Ta p1.charges 0 0 else none))
def Hy (p0 : Aa) (p1 : Ag) : Option Bool := (Option.bind (He p0) fun r1 => (if (!r1) then ((Iq p1) true) else (Option.bind (Ir p0 p1.charges 1) fun r3 => ((Iq p1) (!r3)))))
def Abq (p1 : Int) (k1 : Nat) (x1 : Ah) (s1 : Unit) (n1 : Unit → Option Int) : Option Int := (if (x1.group == p1) then (some x1.own) else (n1 ()))
def Abe (s1 : Unit) : Option Int := (some 0)
def Nt (p0 : Ag) (p1 : Int) : Option Int := (if p0.charges.length ≤ 9223372036854775807 then Ay (Abq p1) Abe p0.charges 0 () else none)
def Ww (p1 : Ag) (k1 : Nat) (x1 : Int) (s1 : Int) (n1 : Int → Option Int) : Option Int := (Option.bind (Nt p1 x1) fun r11 => (n1 (w64 (s1 + r11))))
def Abv (s1 : Int) : Option Int := (some s1)
def Pw (p0 : Aa) (p1 : Ag) (p2 : Int) : Option Int := (Option.bind (Ni p0 p2) fun r1 => (if r1.length ≤ 9223372036854775807 then Ay (Ww p1) Abv r1 0 0 else none))
def Pb (n1 : ((List Ah) × Bool) → Option Ag) (y7 : (List Ah) × Bool) : Option Ag := (n1 (y7.1,y7.2))
def Oz (p1 : Int) (x1 : Ah) (n1 : ((List Ah) × Bool) → Option Ag) (y8 : (List Ah) × Bool) : Option Ag := (if (x1.group != p1) then (if y8.1.length + 1 ≤ 1073741824 then ((Pb n1) ((y8.1 ++ [x1]),y8.2)) else none) else ((Pb n1) (y8.1,y8.2)))
def Wx (p1 : Int) (p2 : Int) (k1 : Nat) (x1 : Ah) (s1 : (List Ah) × Bool) (n1 : ((List Ah) × Bool) → Option Ag) : Option Ag := (if ((!s1.2) && (decide (x1.group ≥ p1))) then (if s1.1.length + 1 ≤ 1073741824 then ((Oz p1 x1 n1) ((s1.1 ++ [({ group := p1,own := p2 } : Ah)]),true)) else none) else ((Oz p1 x1 n1) (s1.1,s1.2)))
def Pd (y9 : List Ah) : Option Ag := (some ({ charges := y9 } : Ag))
def Xb (p1 : Int) (p2 : Int) (s1 : (List Ah) × Bool) : Option Ag := (if (!s1.2) then (if s1.1.length + 1 ≤ 1073741824 then (Pd (s1.1 ++ [({ group := p1,own := p2 } : Ah)])) else none) else (Pd s1.1))
def Si (p0 : Ag) (p1 : Int) (p2 : Int) : Option Ag := (if p0.charges.length ≤ 9223372036854775807 then Ay (Wx p1 p2) (Xb p1 p2) p0.charges 0 ([],(p2 == 0)) else none)
def Md (p0 : Aa) (p1 : Ag) (p2 : Int) (p3 : Int) (y1 : Bool) : Option (Ag × Int) := (if y1 then (some (({ charges := [] } : Ag),3)) else (Option.bind (Pw p0 p1 1) fun r9 => (if (decide ((w64 (r9 + p3)) > 16777216)) then (some (({ charges := [] } : Ag),7)) else (Option.bind (Nt p1 p2) fun r11 => (Option.bind (Si p1 p2 (w64 (r11 + p3))) fun r12 => (some (r12,0)))))))
def Se (p0 : Aa) (p1 : Ag) (p2 : Int) (p3 : Int) : Option (Ag × Int) := (Option.bind (Hy p0 p1) fun r1 => (if (!r1) then (some (({ charges := [] } : Ag),1)) else (Option.bind (Hg p0 p2) fun r3 => (if (!r3) then (some (({ charges := [] } : Ag),4)) else (if (decide (p3 < (-16777216))) then ((Md p0 p1 p2 p3) true) else (if (decide (p3 > 16777216)) then ((Md p0 p1 p2 p3) true) else (Option.bind (Nt p1 p2) fun r7 => ((Md p0 p1 p2 p3) (decide ((w64 (r7 + p3)) < 0))))))))))
def Hp (n1 : (Ao × Ag) → Option (Ag × Ao)) (y4 : Ao × Ag) : Option (Ag × Ao) := (n1 (y4.1,y4.2))
def Mj (p1 : Aa) (k1 : Nat) (x1 : Ac) (s1 : Ao × Ag) (n1 : (Ao × Ag) → Option (Ag × Ao)) : Option (Ag × Ao) := (Option.bind (Ep s1.1 [0,1,5,40,100,1000]) fun r20 => (Option.bind (Se p1 s1.2 x1.id r20.1) fun r21 => (if (r21.2 == 0) then ((Hp n1) (r20.2,r21.1)) else ((Hp n1) (r20.2,s1.2)))))
def Ra (s1 : Ao × Ag) : Option (Ag × Ao) := (some (s1.2,s1.1))
def Iv (p0 : Ao) (p1 : Aa) : Option (Ag × Ao) := (if p1.nodes.length ≤ 9223372036854775807 then Ay (Mj p1) Ra p1.nodes 0 (p0,({ charges := [] } : Ag)) else none)
def Fy (n1 : (Ao × (List Protection)) → Option ((List Protection) × Ao)) (y3 : Ao × (List Protection)) : Option ((List Protection) × Ao) := (n1 (y3.1,y3.2))
def Jy (k1 : Nat) (x1 : Ac) (s1 : Ao × (List Protection)) (n1 : (Ao × (List Protection)) → Option ((List Protection) × Ao)) : Option ((List Protection) × Ao) := (Option.bind (Cr s1.1 3) fun r15 => (if (decide (r15.1 > 0)) then (Option.bind (Ep r15.2 [0,0,3,50,100,1000,4611686018427387904]) fun r17 => (Option.bind (Ep r17.2 [0,3,30,100,150,1099511627776,4611686018427387904]) fun r18 => (if s1.2.length + 1 ≤ 1073741824 then ((Fy n1) (r18.2,(s1.2 ++ [({ group := x1.id,min := r17.1,low := r18.1 } : Protection)]))) else none))) else ((Fy n1) (r15.2,s1.2))))
def Oh (s1 : Ao × (List Protection)) : Option ((List Protection) × Ao) := (some (s1.2,s1.1))
def Gs (p0 : Ao) (p1 : Aa) : Option ((List Protection) × Ao) := (if p1.nodes.length ≤ 9223372036854775807 then Ay Jy Oh p1.nodes 0 (p0,[]) else none)
def Pp (p1 : List Protection) (k1 : Nat) (x1 : Protection) (s1 : Unit) (n1 : Unit → Option Bool) : Option Bool := (if k1 < p1.length then (if (!(Qi x1 (p1.getD k1 (default : Protection)))) then (some false) else (n1 ())) else none)
def Uo (s1 : Unit) : Option Bool := (some true)
def Kx (p0 : List Protection) (p1 : List Protection) : Option Bool := (if (((p0.length : Nat) : Int) != ((p1.length : Nat) : Int)) then (some false) else (if p0.length ≤ 9223372036854775807 then Ay (Pp p1) Uo p0 0 () else none))
def Cc (n1 : Unit → Option Bool) (y3 : Bool) : Option Bool := (if y3 then (some false) else (n1 ()))
def Sy (p0 : Aa) (p1 : List Protection) (k1 : Nat) (x1 : Protection) (s1 : Unit) (n1 : Unit → Option Bool) : Option Bool := (Option.bind (Hg p0 x1.group) fun r32 => (if (!r32) then ((Cc n1) true) else (if (decide (((k1 : Nat) : Int) > 0)) then (if 0 ≤ (w64 (((k1 : Nat) : Int) - 1)) ∧ (w64 (((k1 : Nat) : Int) - 1)) < ((p1.length : Nat) : Int) then (if (decide (x1.group ≤ (p1.getD (Int.toNat (w64 (((k1 : Nat) : Int) - 1))) (default : Protection)).group)) then ((Cc n1) true) else (if (decide (x1.min < 0)) then ((Cc n1) true) else (if (decide (x1.min > 4611686018427387904)) then ((Cc n1) true) else (if (decide (x1.low < 0)) then ((Cc n1) true) else ((Cc n1) (decide (x1.low > 4611686018427387904))))))) else none) else (if (decide (x1.min < 0)) then ((Cc n1) true) else (if (decide (x1.min > 4611686018427387904)) then ((Cc n1) true) else (if (decide (x1.low < 0)) then ((Cc n1) true) else ((Cc n1) (decide (x1.low > 4611686018427387904)))))))))
def Zf (s1 : Unit) : Option Bool := (some true)
def Gw (p0 : Aa) (p1 : List Protection) : Option Bool := (Option.bind (He p0) fun r1 => (if (!r1) then (some false) else (if p1.length ≤ 9223372036854775807 then Ay (Sy p0 p1) Zf p1 0 () else none)))
def Qd (p1 : Int) (p2 : Bool) (k1 : Nat) (x1 : Protection) (s1 : Unit) (n1 : Unit → Option Int) : Option Int := (if (x1.group == p1) then (if p2 then (some (Ck x1.low 16777216)) else (some (Ck x1.min 16777216))) else (n1 ()))
def Wb (s1 : Unit) : Option Int := (some 0)
def Hl (p0 : List Protection) (p1 : Int) (p2 : Bool) : Option Int := (if p0.length ≤ 9223372036854775807 then Ay (Qd p1 p2) Wb p0 0 () else none)
def Mg (p0 : Aa) (p1 : Ag) (p2 : List Protection) (p3 : Int) (p4 : Bool) : Option Int := (Option.bind (Pw p0 p1 p3) fun r1 => (Option.bind (Hl p2 p3 p4) fun r2 => (some (Ck r1 r2))))
def Ol (p0 : Aa) (p1 : Ag) (p2 : List Protection) (p5 : Bool) (k1 : Nat) (x1 : Int) (s1 : Int) (n1 : Int → Option Int) : Option Int := (Option.bind (Mg p0 p1 p2 x1 p5) fun r19 => (n1 (w64 (s1 + r19))))
def Oi (r3 : Int) (r5 : Int) (s1 : Int) : Option Int := (if (decide (s1 ≤ r5)) then (some r3) else (if (s1 : Int) ≠ 0 then (some (w64 (Int.tdiv (w64 (r3 * r5)) s1))) else none))
def Jq (rec : Aa → Ag → (List Protection) → Int → Int → Bool → Option Int) (p0 : Aa) (p1 : Ag) (p2 : List Protection) (p3 : Int) (p4 : Int) (p5 : Bool) : Option Int := (if (p4 == p3) then (some 0) else (Option.bind (Jd p0 p4) fun r2 => (Option.bind (Mg p0 p1 p2 p4 p5) fun r3 => (if (r2.1.parent == p3) then (some r3) else (Option.bind (rec p0 p1 p2 p3 r2.1.parent p5) fun r5 => (Option.bind (Gj p0 r2.1.parent) fun r6 => (if r6.length ≤ 9223372036854775807 then Ay (Ol p0 p1 p2 p5) (Oi r3 r5) r6 0 0 else none)))))))
def Gm : Nat → Aa → Ag → (List Protection) → Int → Int → Bool → Option Int
 | 0,_,_,_,_,_,_ => none
 | n + 1,p0,p1,p2,p3,p4,p5 => Jq (Gm n) p0 p1 p2 p3 p4 p5
def Mt (p0 : Aa) (p1 : Ag) (p2 : List Protection) (p3 : Int) (p4 : Int) (p5 : Bool) : Option Int := Gm Ei p0 p1 p2 p3 p4 p5
def Oq (p0 : Aa) (p1 : Ag) (p2 : List Protection) (p3 : Int) (k1 : Nat) (x1 : Int) (s1 : List Protection) (n1 : (List Protection) → Option ((List Protection) × Int)) : Option ((List Protection) × Int) := (Option.bind (Mt p0 p1 p2 p3 x1 false) fun r29 => (Option.bind (Mt p0 p1 p2 p3 x1 true) fun r30 => (if s1.length + 1 ≤ 1073741824 then (n1 (s1 ++ [({ group := x1,min := r29,low := r30 } : Protection)])) else none)))
def Tl (s1 : List Protection) : Option ((List Protection) × Int) := (some (s1,0))
def El (p0 : Aa) (p1 : Ag) (p2 : List Protection) (p3 : Int) (y1 : Bool) : Option ((List Protection) × Int) := (if y1 then (some ([],1)) else (Option.bind (Hg p0 p3) fun r5 => (if (!r5) then (some ([],4)) else (Option.bind (Ni p0 p3) fun r7 => (Option.bind (Ou r7) fun r8 => (if r8.length ≤ 9223372036854775807 then Ay (Oq p0 p1 p2 p3) Tl r8 0 [] else none))))))
def Ew (p0 : Aa) (p1 : Ag) (p2 : List Protection) (p3 : Int) : Option ((List Protection) × Int) := (Option.bind (Hy p0 p1) fun r1 => (if (!r1) then ((El p0 p1 p2 p3) true) else (Option.bind (Gw p0 p2) fun r3 => ((El p0 p1 p2 p3) (!r3)))))
def Tc (p1 : List Protection) (p4 : Bool) (k3 : Nat) (x3 : Int) (s3 : Int) (n3 : Int → Option Int) : Option Int := (Option.bind (Hl p1 x3 p4) fun r44 => (n3 (w64 (s3 + r44))))
def Ma (s1 : Int × Int) (n1 : (Int × Int) → Option Int) (y2 : Int) : Option Int := (n1 (y2,(w64 (s1.2 + 1))))
def Sx (s1 : Int × Int) (n1 : (Int × Int) → Option Int) (r28 : Int) (s3 : Int) : Option Int := (if (decide (s3 > r28)) then (if (s3 : Int) ≠ 0 then ((Ma s1 n1) (w64 (Int.tdiv (w64 (s1.1 * r28)) s3))) else none) else ((Ma s1 n1) s1.1))
def Sz (p0 : Aa) (p1 : List Protection) (p4 : Bool) (r2 : List Int) (s1 : Int × Int) (n1 : (Int × Int) → Option Int) : Option Int := (if (decide ((w64 (s1.2 + 2)) < ((r2.length : Nat) : Int))) then (if 0 ≤ (w64 (s1.2 + 1)) ∧ (w64 (s1.2 + 1)) < ((r2.length : Nat) : Int) then (if (Int.toNat (w64 (s1.2 + 1))) < r2.length then (Option.bind (Hl p1 (r2.getD (Int.toNat (w64 (s1.2 + 1))) 0) p4) fun r28 => (if 0 ≤ (w64 (s1.2 + 1)) ∧ (w64 (s1.2 + 1)) < ((r2.length : Nat) : Int) then (if (Int.toNat (w64 (s1.2 + 1))) < r2.length then (Option.bind (Gj p0 (r2.getD (Int.toNat (w64 (s1.2 + 1))) 0)) fun r31 => (if r31.length ≤ 9223372036854775807 then Ay (Tc p1 p4) (Sx s1 n1 r28) r31 0 0 else none)) else none) else none)) else none) else none) else (some s1.1))
def Me (p0 : Aa) (p1 : List Protection) (p2 : Int) (p3 : Int) (p4 : Bool) : Option Int := (Option.bind (Hl p1 p2 p4) fun r1 => (Option.bind (Ji p0 p2) fun r2 => (whileO (Sz p0 p1 p4 r2) Ei ((Ck p3 r1),0))))
def Gx (p0 : Aa) (p1 : List Protection) (p2 : Int) (p3 : Int) : Option (Int × Int × Int) := (Option.bind (Gw p0 p1) fun r1 => (if (!r1) then (some (0,0,1)) else (Option.bind (Hg p0 p2) fun r3 => (if (!r3) then (some (0,0,4)) else (if ((decide (p3 < 0)) || (decide (p3 > 16777216))) then (some (0,0,3)) else (Option.bind (Me p0 p1 p2 p3 false) fun r7 => (Option.bind (Me p0 p1 p2 p3 true) fun r8 => (some (r7,r8,0)))))))))
def Gk (y1 : Bool) : Option Bool := (some y1)
def Jb (p0 : Aa) (p1 : Ag) (p2 : List Protection) (p3 : Int) (p4 : Int) : Option Bool := (Option.bind (Cs p0 p1 p2 p3) fun r1 => (Option.bind (Ew p0 p1 p2 p3) fun r2 => (Option.bind (En p0 p2 p3 p4) fun r3 => (Option.bind (Gx p0 p2 p3 p4) fun r4 => (Option.bind (Em p0 p2) fun r5 => (Option.bind (Gw p0 p2) fun r6 => (if (r5 == r6) then (Option.bind (Kx r1.1 r2.1) fun r8 => (if r8 then (if (r1.2 == r2.2) then (if (r3.1 == r4.1) then (if (r3.2.1 == r4.2.1) then (Gk (r3.2.2 == r4.2.2)) else (Gk false)) else (Gk false)) else (Gk false)) else (Gk false))) else (Gk false))))))))
def Iy (n1 : Ao → Option Bool) (y8 : Ao × Bool) : Option Bool := (if y8.2 then (some false) else (n1 y8.1))
def Fw (p5 : Int) (n1 : Ao → Option Bool) (r66 : Aa × Ao) (r67 : Ag × Ao) (y7 : Ao × (List Protection)) : Option Bool := (Option.bind (Im y7.1 r66.1) fun r82 => (Option.bind (Ep r82.2 [0,1,60,1000,(-1),16777216,16777217]) fun r83 => (Option.bind (Jb r66.1 r67.1 y7.2 r82.1 r83.1) fun r84 => (if (!r84) then ((Iy n1) (r83.2,true)) else (Option.bind (Im r83.2 r66.1) fun r86 => (Option.bind (Jb r66.1 r67.1 y7.2 r86.1 p5) fun r87 => ((Iy n1) (r86.2,(!r87)))))))))
def Ln (p5 : Int) (k1 : Int) (s1 : Ao) (n1 : Ao → Option Bool) : Option Bool := (Option.bind (Lc s1 7) fun r66 => (Option.bind (Iv r66.2 r66.1) fun r67 => (Option.bind (Gs r67.2 r66.1) fun r68 => (if ((k1 == 2) && (decide (((r68.1.length : Nat) : Int) > 0))) then (Option.bind (Cr r68.2 ((r68.1.length : Nat) : Int)) fun r71 => (if 0 ≤ r71.1 ∧ r71.1 < ((r68.1.length : Nat) : Int) then (if (Int.toNat r71.1) < r68.1.length then (Option.bind (Ep r71.2 [(r68.1.getD (Int.toNat r71.1) (default : Protection)).group,1,9]) fun r74 => (if (Int.toNat r71.1) < r68.1.length then (Option.bind (Ep r74.2 [(r68.1.getD (Int.toNat r71.1) (default : Protection)).min,(-1),4611686018427387904,4611686018427387905]) fun r76 => (if (Int.toNat r71.1) < r68.1.length then (Option.bind (Ep r76.2 [(r68.1.getD (Int.toNat r71.1) (default : Protection)).low,(-1),16777217]) fun r78 => (if (Int.toNat r71.1) < r68.1.length then (if (Int.toNat r71.1) < r68.1.length then (if (Int.toNat r71.1) < r68.1.length then ((Fw p5 n1 r66 r67) (r78.2,(((r68.1.set (Int.toNat r71.1) ({ group := r74.1,min := (r68.1.getD (Int.toNat r71.1) (default : Protection)).min,low := (r68.1.getD (Int.toNat r71.1) (default : Protection)).low } : Protection)).set (Int.toNat r71.1) ({ group := ((r68.1.set (Int.toNat r71.1) ({ group := r74.1,min := (r68.1.getD (Int.toNat r71.1) (default : Protection)).min,low := (r68.1.getD (Int.toNat r71.1) (default : Protection)).low } : Protection)).getD (Int.toNat r71.1) (default : Protection)).group,min := r76.1,low := ((r68.1.set (Int.toNat r71.1) ({ group := r74.1,min := (r68.1.getD (Int.toNat r71.1) (default : Protection)).min,low := (r68.1.getD (Int.toNat r71.1) (default : Protection)).low } : Protection)).getD (Int.toNat r71.1) (default : Protection)).low } : Protection)).set (Int.toNat r71.1) ({ group := (((r68.1.set (Int.toNat r71.1) ({ group := r74.1,min := (r68.1.getD (Int.toNat r71.1) (default : Protection)).min,low := (r68.1.getD (Int.toNat r71.1) (default : Protection)).low } : Protection)).set (Int.toNat r71.1) ({ group := ((r68.1.set (Int.toNat r71.1) ({ group := r74.1,min := (r68.1.getD (Int.toNat r71.1) (default : Protection)).min,low := (r68.1.getD (Int.toNat r71.1) (default : Protection)).low } : Protection)).getD (Int.toNat r71.1) (default : Protection)).group,min := r76.1,low := ((r68.1.set (Int.toNat r71.1) ({ group := r74.1,min := (r68.1.getD (Int.toNat r71.1) (default : Protection)).min,low := (r68.1.getD (Int.toNat r71.1) (default : Protection)).low } : Protection)).getD (Int.toNat r71.1) (default : Protection)).low } : Protection)).getD (Int.toNat r71.1) (default : Protection)).group,min := (((r68.1.set (Int.toNat r71.1) ({ group := r74.1,min := (r68.1.getD (Int.toNat r71.1) (default : Protection)).min,low := (r68.1.getD (Int.toNat r71.1) (default : Protection)).low } : Protection)).set (Int.toNat r71.1) ({ group := ((r68.1.set (Int.toNat r71.1) ({ group := r74.1,min := (r68.1.getD (Int.toNat r71.1) (default : Protection)).min,low := (r68.1.getD (Int.toNat r71.1) (default : Protection)).low } : Protection)).getD (Int.toNat r71.1) (default : Protection)).group,min := r76.1,low := ((r68.1.set (Int.toNat r71.1) ({ group := r74.1,min := (r68.1.getD (Int.toNat r71.1) (default : Protection)).min,low := (r68.1.getD (Int.toNat r71.1) (default : Protection)).low } : Protection)).getD (Int.toNat r71.1) (default : Protection)).low } : Protection)).getD (Int.toNat r71.1) (default : Protection)).min,low := r78.1 } : Protection)))) else none) else none) else none)) else none)) else none)) else none) else none)) else ((Fw p5 n1 r66 r67) (r68.2,r68.1))))))
def Ff (y9 : Bool) : Option Bool := (some y9)
def Lj (p1 : Aa) (p2 : Ag) (p3 : List Protection) (p4 : Int) (p5 : Int) (s1 : Ao) : Option Bool := (if (decide (((p1.nodes.length : Nat) : Int) > 40)) then (Ff true) else (if (decide (((p2.charges.length : Nat) : Int) > 40)) then (Ff true) else (if (decide (((p3.length : Nat) : Int) > 40)) then (Ff true) else (Option.bind (Jb p1 p2 p3 p4 p5) fun r92 => (if r92 then (Option.bind Nw fun r94 => (Ff r94)) else (Ff false))))))
def Ie (p0 : List Int) (p1 : Aa) (p2 : Ag) (p3 : List Protection) (p4 : Int) (p5 : Int) : Option Bool := (Option.bind (Ua p0) fun r1 => (if (!r1) then (Option.bind Nw fun r3 => (some r3)) else (Option.bind (Zw p0) fun r4 => (forO (Ln p5) (Lj p1 p2 p3 p4 p5) (Int.toNat (3 - 0)) 0 r4))))
end Go.Dm

/- Plain theory, part 26: rows that are permuted within a range; insertion sort. -/
namespace Go.Dm
structure RP (a b : Nat) (L M : List Int) : Prop where
 len : M.length = L.length
 out : ∀ i,i < a ∨ b ≤ i → M.getD i 0 = L.getD i 0
 mem : ∀ i,a ≤ i → i < b → ∃ j,a ≤ j ∧ j < b ∧ M.getD i 0 = L.getD j 0
 perm : M.Perm L
theorem RP.refl (a b : Nat) (L : List Int) : RP a b L L := ⟨rfl,fun _ _ => rfl,fun i h1 h2 => ⟨i,h1,h2,rfl⟩,.refl _⟩
theorem RP.trans {a b : Nat} {L M N : List Int} (h : RP a b L M) (k : RP a b M N) : RP a b L N := by
 refine ⟨k.len.trans h.len,fun i hi => (k.out i hi).trans (h.out i hi),fun i h1 h2 => ?_,k.perm.trans h.perm⟩
 obtain ⟨j,j1,j2,e⟩ := k.mem i h1 h2
 obtain ⟨q,q1,q2,e2⟩ := h.mem j j1 j2
 exact ⟨q,q1,q2,e.trans e2⟩
theorem RP.widen {a b c d : Nat} {L M : List Int} (h : RP a b L M) (h1 : c ≤ a) (h2 : b ≤ d) : RP c d L M := by
 refine ⟨h.len,fun i hi => h.out i (by omega),fun i i1 i2 => ?_,h.perm⟩
 by_cases q : a ≤ i ∧ i < b
 ·obtain ⟨j,j1,j2,e⟩ := h.mem i q.1 q.2
  exact ⟨j,by omega,by omega,e⟩
 ·exact ⟨i,i1,i2,h.out i (by omega)⟩
theorem RP.all {a b : Nat} {L M : List Int} (h : RP a b L M) {P : Int → Prop} (hp : ∀ i,a ≤ i → i < b → P (L.getD i 0)) : ∀ i,a ≤ i → i < b → P (M.getD i 0) := by
 intro i h1 h2
 obtain ⟨j,j1,j2,e⟩ := h.mem i h1 h2
 rw [e]
 exact hp j j1 j2
theorem AcF {α : Type} {l : List α} {i : Nat} {a d : α} (h : i < l.length) : (l.set i a).getD i d = a := by
 simp [List.getD_eq_getElem?_getD,h]
def Di (L : List Int) (i j : Nat) : List Int := (L.set i (L.getD j 0)).set j (L.getD i 0)
theorem Aal (L : List Int) (i j : Nat) : (Di L i j).length = L.length := by simp [Di]
theorem AdJ {L : List Int} {i j : Nat} {x : Int} (hi : i < L.length) : (L.set i x).getD j 0 = if j = i then x else L.getD j 0 := by
 by_cases e : j = i
 ·subst e
  rw [if_pos rfl]
  exact AcF hi
 ·rw [if_neg e,List.getD_eq_getElem?_getD,List.getElem?_set_ne (fun h => e h.symm),← List.getD_eq_getElem?_getD]
theorem Gr {L : List Int} {i j k : Nat} (hi : i < L.length) (hj : j < L.length) : (Di L i j).getD k 0 = if k = j then L.getD i 0 else if k = i then L.getD j 0 else L.getD k 0 := by
 unfold Di
 rw [AdJ (by simpa using hj),AdJ hi]
theorem Afc {L : List Int} {i j : Nat} (hi : i < L.length) (hj : j < L.length) : (Di L i j).Perm L := by
 have h := Array.swap_perm (xs := L.toArray) (i := i) (j := j) (by simpa using hi) (by simpa using hj)
 have e : (L.toArray.swap i j (by simpa using hi) (by simpa using hj)).toList = Di L i j := by
  unfold Di
  rw [Mh hi,Mh hj]
  simp [Array.swap]
 have := Array.perm_iff_toList_perm.mp h
 rw [e] at this
 simpa using this
theorem RP.swap {a b : Nat} {L : List Int} {i j : Nat} (hb : b ≤ L.length) (i1 : a ≤ i) (i2 : i < b) (j1 : a ≤ j) (j2 : j < b) : RP a b L (Di L i j) := by
 have hi : i < L.length := by omega
 have hj : j < L.length := by omega
 refine ⟨Aal L i j,fun k hk => ?_,fun k k1 k2 => ?_,Afc hi hj⟩
 ·rw [Gr hi hj,if_neg (by omega),if_neg (by omega)]
 ·rw [Gr hi hj]
  split
  ·exact ⟨i,i1,i2,rfl⟩
  ·split
   ·exact ⟨j,j1,j2,rfl⟩
   ·exact ⟨k,k1,k2,rfl⟩
def Fk (a b : Nat) (L : List Int) : Prop := ∀ p q,a ≤ p → p < q → q < b → L.getD p 0 ≤ L.getD q 0
theorem AdW {L : List Int} {a b : Nat} (hab : a ≤ b) (hb : b ≤ L.length) (hl : L.length ≤ 1000000) : Ok (Ds L (a : Int) (b : Int)) (fun M => RP a b L M ∧ Fk a b M) := by
 unfold Ds
 have e1 : w64 ((a : Int) + 1) = ((a + 1 : Nat) : Int) := by
  rw [Al (by omega) (by omega)]
  omega
 rw [e1]
 refine Ok.guard (by omega) ?_
 have em : Int.toNat ((b : Int) - ((a + 1 : Nat) : Int)) = b - (a + 1) := by omega
 rw [em]
 refine Ok.for (fun j s => RP a b L s ∧ Fk a (a + 1 + j) s) ⟨.refl _ _ _,fun p q h1 h2 h3 => by omega⟩ ?_ ?_
 ·intro j s n hj ⟨i1,i2⟩ hn
  have hs := i1.len
  have ei : ((a + 1 : Nat) : Int) + (j : Int) = ((a + 1 + j : Nat) : Int) := by omega
  rw [ei]
  unfold Ge
  refine Ok.while (fun q => ∃ k : Nat,q.2 = (k : Int) ∧ a ≤ k ∧ k ≤ a + 1 + j ∧ RP a b L q.1 ∧ (∀ p r,a ≤ p → p < r → r ≤ a + 1 + j → p ≠ k → r ≠ k → q.1.getD p 0 ≤ q.1.getD r 0) ∧ (∀ r,k < r → r ≤ a + 1 + j → q.1.getD k 0 ≤ q.1.getD r 0)) (fun q => q.2.toNat) ?_ ?_ ?_
  ·refine ⟨a + 1 + j,rfl,by omega,by omega,i1,fun p r h1 h2 h3 h4 h5 => i2 p r h1 h2 (by omega),fun r h1 h2 => by omega⟩
  ·rw [Dh]
   simp only
   omega
  ·rintro ⟨M,x⟩ nn ⟨k,hx,k1,k2,rp,hA,hB⟩ hnn
   simp only at hx rp hA hB
   subst hx
   have hM := rp.len
   have ek : Int.toNat (k : Int) = k := by omega
   have fin : (k = a ∨ ¬ M.getD k 0 < M.getD (k - 1) 0) → Ok (n M) (fun M => RP a b L M ∧ Fk a b M) := by
    intro hstop
    refine hn M ⟨rp,fun p q h1 h2 h3 => ?_⟩
    by_cases hp : p = k
    ·subst hp
     exact hB q h2 (by omega)
    by_cases hq : q = k
    ·subst hq
     rcases hstop with h | h
     ·omega
     ·by_cases hp2 : p = q - 1
      ·subst hp2
       omega
      ·have := hA p (q - 1) h1 (by omega) (by omega) hp (by omega)
       omega
    exact hA p q h1 h2 (by omega) hp hq
   unfold Gd Dc
   simp only
   refine Ok.ite (fun c => ?_) fun c => ?_
   ·have c := of_decide_eq_true c
    have hw : w64 ((k : Int) - 1) = ((k - 1 : Nat) : Int) := by
     rw [Al (by omega) (by omega)]
     omega
    have ek1 : Int.toNat ((k - 1 : Nat) : Int) = k - 1 := by omega
    rw [hw,ek,ek1,Ij]
    refine Ok.guard (by omega) (Ok.guard (by omega) (Ok.guard (by omega) (Ok.guard (by omega) ?_)))
    refine Ok.step rfl ?_
    refine Ok.ite (fun c2 => ?_) fun c2 => ?_
    ·have c2 := of_decide_eq_true c2
     refine Ok.guard (by omega) (Ok.guard (by omega) (Ok.guard (by omega) (Ok.guard (by omega) (Ok.guard (by omega) (Ok.guard (by omega) (Ok.guard (by omega) (Ok.guard (by omega) ?_)))))))
     have hkl : k < M.length := by omega
     have hk1 : k - 1 < M.length := by omega
     have hg : ∀ r,(Di M k (k - 1)).getD r 0 = if r = k - 1 then M.getD k 0 else if r = k then M.getD (k - 1) 0 else M.getD r 0 := fun r => Gr hkl hk1
     refine hnn (Di M k (k - 1),((k - 1 : Nat) : Int)) ⟨k - 1,rfl,by omega,by omega,rp.trans (RP.swap (by omega) (by omega) (by omega) (by omega) (by omega)),?_,?_⟩ (by simp only; omega)
     ·intro p r h1 h2 h3 h4 h5
      simp only
      rw [hg,hg,if_neg h4,if_neg h5]
      by_cases hp : p = k
      ·rw [if_pos hp,if_neg (by omega)]
       exact hA (k - 1) r (by omega) (by omega) h3 (by omega) (by omega)
      ·rw [if_neg hp]
       by_cases hr : r = k
       ·rw [if_pos hr]
        exact hA p (k - 1) h1 (by omega) (by omega) hp (by omega)
       ·rw [if_neg hr]
        exact hA p r h1 h2 h3 hp hr
     ·intro r h1 h2
      simp only
      rw [hg,hg,if_pos rfl,if_neg (by omega)]
      by_cases hr : r = k
      ·rw [if_pos hr]
       omega
      ·rw [if_neg hr]
       exact hB r (by omega) h2
    ·exact fin (.inr (of_decide_eq_false c2))
   ·have c := of_decide_eq_false c
    simp only [Bool.false_eq_true,if_false]
    exact fin (.inl (by omega))
 ·intro s ⟨i1,i2⟩
  refine Ok.ret ⟨i1,fun p q h1 h2 h3 => i2 p q h1 h2 (by omega)⟩
end Go.Dm

/- Plain theory, part 27: the library's partitions. -/
namespace Go.Dm
def PartQ (L : List Int) (a b : Nat) (r : Int × Bool × List Int) : Prop :=
 ∃ m : Nat,r.1 = (m : Int) ∧ a ≤ m ∧ m < b ∧ RP a b L r.2.2 ∧ (∀ k,a ≤ k → k < m → r.2.2.getD k 0 ≤ r.2.2.getD m 0) ∧ (∀ k,m < k → k < b → r.2.2.getD m 0 ≤ r.2.2.getD k 0)
structure PartI (L : List Int) (a b : Nat) (M : List Int) (i j : Nat) : Prop where
 rp : RP a b L M
 i1 : a + 1 ≤ i
 ij : i ≤ j + 1
 jb : j < b
 ja : a ≤ j
 lo : ∀ k,a + 1 ≤ k → k < i → M.getD k 0 < M.getD a 0
 hi : ∀ k,j < k → k < b → ¬ M.getD k 0 < M.getD a 0
theorem PartI.fin {L M : List Int} {a b i j : Nat} (hb : b ≤ L.length) (h : PartI L a b M i j) (hij : j < i) (t : Bool) : PartQ L a b ((j : Int),t,Di M j a) := by
 have hM := h.rp.len
 have h1 := h.i1
 have h2 := h.ij
 have h3 := h.jb
 have h4 := h.ja
 have hj : j < M.length := by omega
 have ha : a < M.length := by omega
 have hg : ∀ r,(Di M j a).getD r 0 = if r = a then M.getD j 0 else if r = j then M.getD a 0 else M.getD r 0 := fun r => Gr hj ha
 have hmid : (Di M j a).getD j 0 = M.getD a 0 := by
  rw [hg]
  split
  ·rename_i e
   rw [e]
  ·rw [if_pos rfl]
 refine ⟨j,rfl,h4,h3,h.rp.trans (RP.swap (by omega) (by omega) (by omega) (by omega) (by omega)),?_,?_⟩
 ·intro k k1 k2
  simp only
  rw [hmid,hg]
  split
  ·have := h.lo j (by omega) (by omega)
   omega
  ·rw [if_neg (by omega)]
   have := h.lo k (by omega) (by omega)
   omega
 ·intro k k1 k2
  simp only
  rw [hmid,hg,if_neg (by omega),if_neg (by omega)]
  have := h.hi k k1 k2
  omega
theorem PartI.swap {L M : List Int} {a b i j : Nat} (hb : b ≤ L.length) (h : PartI L a b M i j) (hij : i ≤ j) (hi : ¬ M.getD i 0 < M.getD a 0) (hj : M.getD j 0 < M.getD a 0) : PartI L a b (Di M i j) (i + 1) (j - 1) := by
 have hM := h.rp.len
 have h1 := h.i1
 have h3 := h.jb
 have hne : i ≠ j := fun e => by subst e; exact hi hj
 have hil : i < M.length := by omega
 have hjl : j < M.length := by omega
 have hg : ∀ r,(Di M i j).getD r 0 = if r = j then M.getD i 0 else if r = i then M.getD j 0 else M.getD r 0 := fun r => Gr hil hjl
 have ha : (Di M i j).getD a 0 = M.getD a 0 := by rw [hg,if_neg (by omega),if_neg (by omega)]
 refine ⟨h.rp.trans (RP.swap (by omega) (by omega) (by omega) (by omega) (by omega)),by omega,by omega,by omega,by omega,?_,?_⟩
 ·intro k k1 k2
  rw [ha,hg]
  by_cases e : k = i
  ·rw [if_neg (by omega),if_pos e]
   exact hj
  ·rw [if_neg (by omega),if_neg e]
   exact h.lo k k1 (by omega)
 ·intro k k1 k2
  rw [ha,hg]
  by_cases e : k = j
  ·rw [if_pos e]
   exact hi
  ·rw [if_neg e,if_neg (by omega)]
   exact h.hi k (by omega) k2
theorem PartI.incI {L M : List Int} {a b i j : Nat} (h : PartI L a b M i j) (hij : i ≤ j) (hi : M.getD i 0 < M.getD a 0) : PartI L a b M (i + 1) j := by
 refine ⟨h.rp,by have := h.i1; omega,by omega,h.jb,h.ja,fun k k1 k2 => ?_,h.hi⟩
 by_cases e : k = i
 ·subst e
  exact hi
 ·exact h.lo k k1 (by omega)
theorem PartI.decJ {L M : List Int} {a b i j : Nat} (h : PartI L a b M i j) (hij : i ≤ j) (hj : ¬ M.getD j 0 < M.getD a 0) : PartI L a b M i (j - 1) := by
 have h1 := h.i1
 have h3 := h.jb
 refine ⟨h.rp,by omega,by omega,by omega,by omega,h.lo,fun k k1 k2 => ?_⟩
 by_cases e : k = j
 ·subst e
  exact hj
 ·exact h.hi k (by omega) k2
theorem part_loop {L : List Int} {a b : Nat} (hb : b ≤ L.length) (hl : L.length ≤ 1000000) {M0 : List Int} {i0 j0 : Nat} (h0 : PartI L a b M0 i0 j0) : Ok (whileO (Fo (a : Int)) Ei (M0,(i0 : Int),(j0 : Int))) (PartQ L a b) := by
 have ea : Int.toNat (a : Int) = a := by omega
 refine Ok.while (fun s => ∃ i j : Nat,s.2.1 = (i : Int) ∧ s.2.2 = (j : Int) ∧ PartI L a b s.1 i j) (fun s => (s.2.2 + 1 - s.2.1).toNat) ⟨i0,j0,rfl,rfl,h0⟩ (by rw [Dh]; have := h0.jb; simp only; omega) ?_
 rintro ⟨M,x,y⟩ n ⟨i,j,hx,hy,h⟩ hn
 simp only at hx hy h
 subst hx hy
 unfold Fo
 simp only
 refine Ok.while (fun q => ∃ k : Nat,q = (k : Int) ∧ i ≤ k ∧ PartI L a b M k j) (fun q => ((j : Int) + 1 - q).toNat) ⟨i,rfl,Nat.le_refl _,h⟩ (by rw [Dh]; have := h.jb; omega) ?_
 rintro q n1 ⟨k,rfl,hik,hk⟩ hn1
 have hM := hk.rp.len
 have hjb := hk.jb
 have hka := hk.i1
 have hja := hk.ja
 have ek : Int.toNat (k : Int) = k := by omega
 have second : ((k : Int) ≤ (j : Int) → ¬ M.getD k 0 < M.getD a 0) → Ok (whileO (Fq (a : Int) (M,(i : Int),(j : Int)) n (k : Int)) Ei (j : Int)) (PartQ L a b) := by
  intro hstop
  refine Ok.while (fun q => ∃ m : Nat,q = (m : Int) ∧ PartI L a b M k m ∧ m ≤ j) (fun q => q.toNat) ⟨j,rfl,hk,Nat.le_refl _⟩ (by rw [Dh]; omega) ?_
  rintro q n2 ⟨m,rfl,hm,hmj⟩ hn2
  have hmb := hm.jb
  have hma := hm.ja
  have hkm := hm.ij
  have em : Int.toNat (m : Int) = m := by omega
  unfold Fq Ee
  simp only
  rw [ea,em,ek]
  refine Ok.ite (fun c => ?_) fun c => ?_
  ·have c := of_decide_eq_true c
   refine Ok.guard (by omega) (Ok.guard (by omega) (Ok.guard (by omega) (Ok.guard (by omega) ?_)))
   refine Ok.step (Ij _ _) ?_
   refine Ok.ite (fun c2 => ?_) fun c2 => ?_
   ·have c2 : ¬ M.getD m 0 < M.getD a 0 := by simpa using c2
    have hw : w64 ((m : Int) - 1) = ((m - 1 : Nat) : Int) := by
     rw [Al (by omega) (by omega)]
     omega
    rw [hw]
    exact hn2 _ ⟨m - 1,rfl,hm.decJ (by omega) c2,by omega⟩ (by omega)
   ·have c2 : M.getD m 0 < M.getD a 0 := by
     rw [Bool.not_eq_false'] at c2
     exact of_decide_eq_true c2
    refine Ok.ite (fun c3 => by have := of_decide_eq_true c3; omega) fun _ => ?_
    refine Ok.guard (by omega) (Ok.guard (by omega) (Ok.guard (by omega) (Ok.guard (by omega) (Ok.guard (by omega) (Ok.guard (by omega) (Ok.guard (by omega) (Ok.guard (by omega) ?_)))))))
    have w1 : w64 ((k : Int) + 1) = ((k + 1 : Nat) : Int) := by
     rw [Al (by omega) (by omega)]
     omega
    have w2 : w64 ((m : Int) - 1) = ((m - 1 : Nat) : Int) := by
     rw [Al (by omega) (by omega)]
     omega
    rw [w1,w2]
    have hsw := hm.swap hb (by omega) (hstop (by omega)) c2
    exact hn (Di M k m,_,_) ⟨k + 1,m - 1,rfl,rfl,hsw⟩ (by simp only; omega)
  ·have c := of_decide_eq_false c
   simp only [Bool.false_eq_true,if_false]
   refine Ok.ite (fun _ => ?_) fun c3 => by have := of_decide_eq_false c3; omega
   refine Ok.guard (by omega) (Ok.guard (by omega) (Ok.guard (by omega) (Ok.guard (by omega) (Ok.guard (by omega) (Ok.guard (by omega) (Ok.guard (by omega) (Ok.guard (by omega) (Ok.ret ?_))))))))
   exact hm.fin hb (by omega) false
 unfold Ha Dw
 simp only
 rw [ea,ek]
 refine Ok.ite (fun c => ?_) fun c => ?_
 ·have c := of_decide_eq_true c
  refine Ok.guard (by omega) (Ok.guard (by omega) (Ok.guard (by omega) (Ok.guard (by omega) ?_)))
  refine Ok.step (Ij _ _) ?_
  refine Ok.ite (fun c2 => ?_) fun c2 => second fun _ => of_decide_eq_false c2
  have c2 := of_decide_eq_true c2
  have hw : w64 ((k : Int) + 1) = ((k + 1 : Nat) : Int) := by
   rw [Al (by omega) (by omega)]
   omega
  rw [hw]
  exact hn1 _ ⟨k + 1,rfl,by omega,hk.incI (by omega) c2⟩ (by omega)
 ·have c := of_decide_eq_false c
  simp only [Bool.false_eq_true,if_false]
  exact second fun e => absurd e c
theorem AdF {L : List Int} {a b p : Nat} (hab : a + 1 < b) (hb : b ≤ L.length) (hl : L.length ≤ 1000000) (p1 : a ≤ p) (p2 : p < b) : Ok (Fc L (a : Int) (b : Int) (p : Int)) (PartQ L a b) := by
 have ea : Int.toNat (a : Int) = a := by omega
 have ep : Int.toNat (p : Int) = p := by omega
 have wa : w64 ((a : Int) + 1) = ((a + 1 : Nat) : Int) := by
  rw [Al (by omega) (by omega)]
  omega
 have wb : w64 ((b : Int) - 1) = ((b - 1 : Nat) : Int) := by
  rw [Al (by omega) (by omega)]
  omega
 have rp0 : RP a b L (Di L a p) := RP.swap hb (Nat.le_refl _) (by omega) p1 p2
 generalize hS : Di L a p = S at rp0
 have hS' : (L.set a (L.getD p 0)).set p (L.getD a 0) = S := hS
 have hlen := rp0.len
 have h0 : PartI L a b S (a + 1) (b - 1) := ⟨rp0,by omega,by omega,by omega,by omega,fun k k1 k2 => by omega,fun k k1 k2 => by omega⟩
 unfold Fc
 rw [ea,ep,wa]
 refine Ok.guard (by omega) (Ok.guard (by omega) (Ok.guard (by omega) (Ok.guard (by omega) (Ok.guard (by omega) (Ok.guard (by omega) (Ok.guard (by omega) (Ok.guard (by omega) ?_)))))))
 refine Ok.while (fun q => ∃ k : Nat,q = (k : Int) ∧ PartI L a b S k (b - 1)) (fun q => ((b : Int) - q).toNat) ⟨a + 1,rfl,h0⟩ (by rw [Dh]; omega) ?_
 rintro q n1 ⟨k,rfl,hk⟩ hn1
 have hka := hk.i1
 have ek : Int.toNat (k : Int) = k := by omega
 have second : (k ≤ b - 1 → ¬ S.getD k 0 < S.getD a 0) → Ok (whileO (Fp L (a : Int) (p : Int) (k : Int)) Ei ((b - 1 : Nat) : Int)) (PartQ L a b) := by
  intro hstop
  refine Ok.while (fun q => ∃ m : Nat,q = (m : Int) ∧ PartI L a b S k m ∧ m ≤ b - 1) (fun q => q.toNat) ⟨b - 1,rfl,hk,Nat.le_refl _⟩ (by rw [Dh]; omega) ?_
  rintro q n2 ⟨m,rfl,hm,hmj⟩ hn2
  have hmb := hm.jb
  have hma := hm.ja
  have hkm := hm.ij
  have em : Int.toNat (m : Int) = m := by omega
  unfold Fp Ed
  rw [ea,em,ek,ep,hS']
  refine Ok.ite (fun c => ?_) fun c => ?_
  ·have c := of_decide_eq_true c
   refine Ok.guard (by omega) (Ok.guard (by omega) (Ok.guard (by omega) (Ok.guard (by omega) ?_)))
   refine Ok.step (Ij _ _) ?_
   refine Ok.ite (fun c2 => ?_) fun c2 => ?_
   ·have c2 : ¬ S.getD m 0 < S.getD a 0 := by simpa using c2
    have hw : w64 ((m : Int) - 1) = ((m - 1 : Nat) : Int) := by
     rw [Al (by omega) (by omega)]
     omega
    rw [hw]
    exact hn2 _ ⟨m - 1,rfl,hm.decJ (by omega) c2,by omega⟩ (by omega)
   ·have c2 : S.getD m 0 < S.getD a 0 := by
     rw [Bool.not_eq_false'] at c2
     exact of_decide_eq_true c2
    refine Ok.ite (fun c3 => by have := of_decide_eq_true c3; omega) fun _ => ?_
    refine Ok.guard (by omega) (Ok.guard (by omega) (Ok.guard (by omega) (Ok.guard (by omega) (Ok.guard (by omega) (Ok.guard (by omega) (Ok.guard (by omega) (Ok.guard (by omega) ?_)))))))
    have w1 : w64 ((k : Int) + 1) = ((k + 1 : Nat) : Int) := by
     rw [Al (by omega) (by omega)]
     omega
    have w2 : w64 ((m : Int) - 1) = ((m - 1 : Nat) : Int) := by
     rw [Al (by omega) (by omega)]
     omega
    rw [w1,w2]
    exact part_loop hb hl (hm.swap hb (by omega) (hstop (by omega)) c2)
  ·have c := of_decide_eq_false c
   simp only [Bool.false_eq_true,if_false]
   refine Ok.ite (fun _ => ?_) fun c3 => by have := of_decide_eq_false c3; omega
   refine Ok.guard (by omega) (Ok.guard (by omega) (Ok.guard (by omega) (Ok.guard (by omega) (Ok.guard (by omega) (Ok.guard (by omega) (Ok.guard (by omega) (Ok.guard (by omega) (Ok.ret ?_))))))))
   exact hm.fin hb (by omega) true
 unfold Hn Dz
 rw [wb,ea,ek,ep,hS']
 refine Ok.ite (fun c => ?_) fun c => ?_
 ·have c := of_decide_eq_true c
  refine Ok.guard (by omega) (Ok.guard (by omega) (Ok.guard (by omega) (Ok.guard (by omega) ?_)))
  refine Ok.step (Ij _ _) ?_
  refine Ok.ite (fun c2 => ?_) fun c2 => second fun _ => of_decide_eq_false c2
  have c2 := of_decide_eq_true c2
  have hw : w64 ((k : Int) + 1) = ((k + 1 : Nat) : Int) := by
   rw [Al (by omega) (by omega)]
   omega
  rw [hw]
  exact hn1 _ ⟨k + 1,rfl,hk.incI (by omega) c2⟩ (by omega)
 ·have c := of_decide_eq_false c
  simp only [Bool.false_eq_true,if_false]
  exact second fun e => by omega
structure PartF (L : List Int) (a b : Nat) (v : Int) (M : List Int) (i j : Nat) : Prop where
 rp : RP a b L M
 pv : M.getD a 0 = v
 i1 : a + 1 ≤ i
 ij : i ≤ j + 1
 jb : j < b
 ja : a ≤ j
 lo : ∀ k,a + 1 ≤ k → k < i → ¬ v < M.getD k 0
 hi : ∀ k,j < k → k < b → v < M.getD k 0
theorem Abc {L : List Int} {a b p : Nat} (hab : a + 1 < b) (hb : b ≤ L.length) (hl : L.length ≤ 1000000) (p1 : a ≤ p) (p2 : p < b) :
  Ok (Dj L (a : Int) (b : Int) (p : Int)) (fun r => ∃ m : Nat,r.1 = (m : Int) ∧ a + 1 ≤ m ∧ m ≤ b ∧ RP a b L r.2 ∧ (∀ k,a ≤ k → k < m → r.2.getD k 0 ≤ L.getD p 0) ∧ (∀ k,m ≤ k → k < b → L.getD p 0 < r.2.getD k 0)) := by
 have ea : Int.toNat (a : Int) = a := by omega
 have ep : Int.toNat (p : Int) = p := by omega
 have wa : w64 ((a : Int) + 1) = ((a + 1 : Nat) : Int) := by
  rw [Al (by omega) (by omega)]
  omega
 have wb : w64 ((b : Int) - 1) = ((b - 1 : Nat) : Int) := by
  rw [Al (by omega) (by omega)]
  omega
 have rp0 : RP a b L (Di L a p) := RP.swap hb (Nat.le_refl _) (by omega) p1 p2
 have hpv : (Di L a p).getD a 0 = L.getD p 0 := by
  rw [Gr (by omega) (by omega)]
  split
  ·rename_i e
   rw [e]
  ·rw [if_pos rfl]
 unfold Dj
 rw [ea,ep,wa,wb]
 refine Ok.guard (by omega) (Ok.guard (by omega) (Ok.guard (by omega) (Ok.guard (by omega) (Ok.guard (by omega) (Ok.guard (by omega) (Ok.guard (by omega) (Ok.guard (by omega) ?_)))))))
 refine Ok.while (fun s => ∃ i j : Nat,s.2.2 = (i : Int) ∧ s.2.1 = (j : Int) ∧ PartF L a b (L.getD p 0) s.1 i j) (fun s => (s.2.1 + 1 - s.2.2).toNat) ⟨a + 1,b - 1,rfl,rfl,⟨rp0,hpv,by omega,by omega,by omega,by omega,fun k k1 k2 => by omega,fun k k1 k2 => by omega⟩⟩ (by rw [Dh]; simp only; omega) ?_
 rintro ⟨M,y,x⟩ n ⟨i,j,hx,hy,h⟩ hn
 simp only at hx hy h
 subst hx hy
 unfold Fz
 simp only
 refine Ok.while (fun q => ∃ k : Nat,q = (k : Int) ∧ i ≤ k ∧ PartF L a b (L.getD p 0) M k j) (fun q => ((j : Int) + 1 - q).toNat) ⟨i,rfl,Nat.le_refl _,h⟩ (by rw [Dh]; have := h.jb; omega) ?_
 rintro q n1 ⟨k,rfl,hik,hk⟩ hn1
 have hM := hk.rp.len
 have hjb := hk.jb
 have hka := hk.i1
 have hja := hk.ja
 have hpv := hk.pv
 have ek : Int.toNat (k : Int) = k := by omega
 have second : ((k : Int) ≤ (j : Int) → L.getD p 0 < M.getD k 0) → Ok (whileO (Ek (a : Int) (M,(j : Int),(i : Int)) n (k : Int)) Ei (j : Int)) (fun r => ∃ m : Nat,r.1 = (m : Int) ∧ a + 1 ≤ m ∧ m ≤ b ∧ RP a b L r.2 ∧ (∀ k,a ≤ k → k < m → r.2.getD k 0 ≤ L.getD p 0) ∧ (∀ k,m ≤ k → k < b → L.getD p 0 < r.2.getD k 0)) := by
  intro hstop
  refine Ok.while (fun q => ∃ m : Nat,q = (m : Int) ∧ PartF L a b (L.getD p 0) M k m ∧ m ≤ j) (fun q => q.toNat) ⟨j,rfl,hk,Nat.le_refl _⟩ (by rw [Dh]; omega) ?_
  rintro q n2 ⟨m,rfl,hm,hmj⟩ hn2
  have hmb := hm.jb
  have hma := hm.ja
  have hkm := hm.ij
  have em : Int.toNat (m : Int) = m := by omega
  unfold Ek Cz
  simp only
  rw [ea,em,ek]
  refine Ok.ite (fun c => ?_) fun c => ?_
  ·have c := of_decide_eq_true c
   refine Ok.guard (by omega) (Ok.guard (by omega) (Ok.guard (by omega) (Ok.guard (by omega) ?_)))
   refine Ok.step (Ij _ _) ?_
   refine Ok.ite (fun c2 => ?_) fun c2 => ?_
   ·have c2 := of_decide_eq_true c2
    have hw : w64 ((m : Int) - 1) = ((m - 1 : Nat) : Int) := by
     rw [Al (by omega) (by omega)]
     omega
    rw [hw]
    refine hn2 _ ⟨m - 1,rfl,⟨hm.rp,hm.pv,hm.i1,by omega,by omega,by omega,hm.lo,fun r r1 r2 => ?_⟩,by omega⟩ (by omega)
    by_cases e : r = m
    ·subst e
     omega
    ·exact hm.hi r (by omega) r2
   ·have c2 := of_decide_eq_false c2
    refine Ok.ite (fun c3 => by have := of_decide_eq_true c3; omega) fun _ => ?_
    refine Ok.guard (by omega) (Ok.guard (by omega) (Ok.guard (by omega) (Ok.guard (by omega) (Ok.guard (by omega) (Ok.guard (by omega) (Ok.guard (by omega) (Ok.guard (by omega) ?_)))))))
    have w1 : w64 ((k : Int) + 1) = ((k + 1 : Nat) : Int) := by
     rw [Al (by omega) (by omega)]
     omega
    have w2 : w64 ((m : Int) - 1) = ((m - 1 : Nat) : Int) := by
     rw [Al (by omega) (by omega)]
     omega
    rw [w1,w2]
    have hst := hstop (by omega)
    have hne : k ≠ m := fun e => by subst e; omega
    have hg : ∀ r,(Di M k m).getD r 0 = if r = m then M.getD k 0 else if r = k then M.getD m 0 else M.getD r 0 := fun r => Gr (by omega) (by omega)
    refine hn (Di M k m,_,_) ⟨k + 1,m - 1,rfl,rfl,⟨hm.rp.trans (RP.swap (by omega) (by omega) (by omega) (by omega) (by omega)),?_,by omega,by omega,by omega,by omega,?_,?_⟩⟩ (by simp only; omega)
    ·rw [hg,if_neg (by omega),if_neg (by omega)]
     exact hpv
    ·intro r r1 r2
     rw [hg]
     by_cases e : r = k
     ·rw [if_neg (by omega),if_pos e]
      omega
     ·rw [if_neg (by omega),if_neg e]
      exact hm.lo r r1 (by omega)
    ·intro r r1 r2
     rw [hg]
     by_cases e : r = m
     ·rw [if_pos e]
      exact hst
     ·rw [if_neg e,if_neg (by omega)]
      exact hm.hi r (by omega) r2
  ·have c := of_decide_eq_false c
   simp only [Bool.false_eq_true,if_false]
   refine Ok.ite (fun _ => Ok.ret ⟨k,rfl,by omega,by omega,hm.rp,fun r r1 r2 => ?_,fun r r1 r2 => hm.hi r (by omega) r2⟩) fun c3 => by have := of_decide_eq_false c3; omega
   by_cases e : r = a
   ·subst e
    simp only
    omega
   ·have := hm.lo r (by omega) r2
    simp only
    omega
 unfold Ga Cw
 simp only
 rw [ea,ek]
 refine Ok.ite (fun c => ?_) fun c => ?_
 ·have c := of_decide_eq_true c
  refine Ok.guard (by omega) (Ok.guard (by omega) (Ok.guard (by omega) (Ok.guard (by omega) ?_)))
  refine Ok.step (Ij _ _) ?_
  refine Ok.ite (fun c2 => ?_) fun c2 => ?_
  ·have c2 : ¬ M.getD a 0 < M.getD k 0 := by simpa using c2
   have hw : w64 ((k : Int) + 1) = ((k + 1 : Nat) : Int) := by
    rw [Al (by omega) (by omega)]
    omega
   rw [hw]
   refine hn1 _ ⟨k + 1,rfl,by omega,⟨hk.rp,hk.pv,by omega,by omega,hk.jb,hk.ja,fun r r1 r2 => ?_,hk.hi⟩⟩ (by omega)
   by_cases e : r = k
   ·subst e
    omega
   ·exact hk.lo r r1 (by omega)
  ·have c2 : M.getD a 0 < M.getD k 0 := by
    rw [Bool.not_eq_false'] at c2
    exact of_decide_eq_true c2
   exact second fun _ => by omega
 ·have c := of_decide_eq_false c
  simp only [Bool.false_eq_true,if_false]
  exact second fun e => absurd e c
end Go.Dm

/- Plain theory, part 28: the library's heap sort. -/
namespace Go.Dm
def AaS (a lo hi : Nat) (M : List Int) : Prop := ∀ c,1 ≤ c → c < hi → lo ≤ (c - 1) / 2 → M.getD (a + c) 0 ≤ M.getD (a + (c - 1) / 2) 0
theorem Abw {L : List Int} {a b lo hi : Nat} (hb : b ≤ L.length) (hl : L.length ≤ 1000000) (hhi : a + hi ≤ b) (hlo : lo ≤ 1000000) (hpre : AaS a (lo + 1) hi L) :
  Ok (Du L (lo : Int) (hi : Int) (a : Int)) (fun M => RP a (a + hi) L M ∧ AaS a lo hi M) := by
 unfold Du
 refine Ok.while (fun s => ∃ r : Nat,s.2 = (r : Int) ∧ lo ≤ r ∧ r ≤ 1000000 ∧ RP a (a + hi) L s.1 ∧ (∀ c,1 ≤ c → c < hi → lo ≤ (c - 1) / 2 → (c - 1) / 2 ≠ r → s.1.getD (a + c) 0 ≤ s.1.getD (a + (c - 1) / 2) 0) ∧
  (1 ≤ r → lo ≤ (r - 1) / 2 → ∀ c,1 ≤ c → c < hi → (c - 1) / 2 = r → s.1.getD (a + c) 0 ≤ s.1.getD (a + (r - 1) / 2) 0)) (fun s => 1000001 - s.2.toNat) ?_ (by rw [Dh]; omega) ?_
 ·exact ⟨lo,rfl,Nat.le_refl _,hlo,.refl _ _ _,fun c c1 c2 c3 c4 => hpre c c1 c2 (by omega),fun h1 h2 => by omega⟩
 rintro ⟨M,x⟩ n ⟨r,hx,r1,r2,rp,hA,hB⟩ hn
 simp only at hx rp hA hB
 subst hx
 have hM := rp.len
 have w1 : w64 ((w64 (2 * (r : Int))) + 1) = ((2 * r + 1 : Nat) : Int) := by
  rw [Al (n := 2 * (r : Int)) (by omega) (by omega),Al (by omega) (by omega)]
  omega
 have w2 : w64 (((2 * r + 1 : Nat) : Int) + 1) = ((2 * r + 2 : Nat) : Int) := by
  rw [Al (by omega) (by omega)]
  omega
 unfold Hs
 simp only
 rw [w1,w2]
 refine Ok.ite (fun c => ?_) fun c => ?_
 ·have c := of_decide_eq_true c
  refine Ok.ret ⟨rp,fun d d1 d2 d3 => hA d d1 d2 d3 (by omega)⟩
 have c := of_decide_eq_false c
 have hr : 2 * r + 1 < hi := by omega
 have hJ4 : ∀ m : Nat,m < hi → (m = 2 * r + 1 ∨ m = 2 * r + 2) → (∀ d,1 ≤ d → d < hi → (d - 1) / 2 = r → M.getD (a + d) 0 ≤ M.getD (a + m) 0) → Ok (Dd (a : Int) (M,(r : Int)) n (m : Int)) (fun M => RP a (a + hi) L M ∧ AaS a lo hi M) := by
  intro m hm hmc hmax
  have e1 : w64 ((a : Int) + (r : Int)) = ((a + r : Nat) : Int) := by
   rw [Al (by omega) (by omega)]
   omega
  have e2 : w64 ((a : Int) + (m : Int)) = ((a + m : Nat) : Int) := by
   rw [Al (by omega) (by omega)]
   omega
  have e3 : Int.toNat ((a + r : Nat) : Int) = a + r := by omega
  have e4 : Int.toNat ((a + m : Nat) : Int) = a + m := by omega
  unfold Dd
  simp only
  rw [e1,e2,e3,e4]
  refine Ok.guard (by omega) (Ok.guard (by omega) (Ok.guard (by omega) (Ok.guard (by omega) ?_)))
  refine Ok.step (Ij _ _) ?_
  refine Ok.ite (fun c2 => ?_) fun c2 => ?_
  ·have c2 : ¬ M.getD (a + r) 0 < M.getD (a + m) 0 := by simpa using c2
   refine Ok.ret ⟨rp,fun d d1 d2 d3 => ?_⟩
   by_cases e : (d - 1) / 2 = r
   ·rw [e]
    have := hmax d d1 d2 e
    omega
   ·exact hA d d1 d2 d3 e
  ·have c2 : M.getD (a + r) 0 < M.getD (a + m) 0 := by
    rw [Bool.not_eq_false'] at c2
    exact of_decide_eq_true c2
   refine Ok.guard (by omega) (Ok.guard (by omega) (Ok.guard (by omega) (Ok.guard (by omega) (Ok.guard (by omega) (Ok.guard (by omega) (Ok.guard (by omega) (Ok.guard (by omega) ?_)))))))
   have hg : ∀ q,(Di M (a + r) (a + m)).getD q 0 = if q = a + m then M.getD (a + r) 0 else if q = a + r then M.getD (a + m) 0 else M.getD q 0 := fun q => Gr (by omega) (by omega)
   refine hn (Di M (a + r) (a + m),(m : Int)) ⟨m,rfl,by omega,by omega,rp.trans (RP.swap (by omega) (by omega) (by omega) (by omega) (by omega)),?_,?_⟩ (by simp only; omega)
   ·intro d d1 d2 d3 d4
    simp only
    rw [hg,hg]
    by_cases ep : (d - 1) / 2 = r
    ·rw [if_neg (c := a + (d - 1) / 2 = a + m) (by omega),if_pos (c := a + (d - 1) / 2 = a + r) (by omega)]
     by_cases ed : d = m
     ·rw [if_pos (by omega)]
      omega
     ·rw [if_neg (by omega),if_neg (by omega)]
      exact hmax d d1 d2 ep
    ·rw [if_neg (c := a + (d - 1) / 2 = a + m) (by omega),if_neg (c := a + (d - 1) / 2 = a + r) (by omega),if_neg (c := a + d = a + m) (by omega)]
     by_cases ed : d = r
     ·rw [if_pos (by omega)]
      have := hB (by omega) (by omega) m (by omega) hm (by omega)
      rw [ed]
      exact this
     ·rw [if_neg (by omega)]
      exact hA d d1 d2 d3 ep
   ·intro _ _ d d1 d2 d3
    simp only
    have hpm : (m - 1) / 2 = r := by omega
    rw [hpm,hg,hg,if_neg (by omega),if_neg (by omega),if_neg (by omega),if_pos rfl]
    have := hA d d1 d2 (by omega) (by omega)
    rw [d3] at this
    exact this
 unfold Es
 simp only
 have e5 : w64 ((a : Int) + ((2 * r + 1 : Nat) : Int)) = ((a + (2 * r + 1) : Nat) : Int) := by
  rw [Al (by omega) (by omega)]
  omega
 have e6 : w64 (((a + (2 * r + 1) : Nat) : Int) + 1) = ((a + (2 * r + 2) : Nat) : Int) := by
  rw [Al (by omega) (by omega)]
  omega
 have e7 : Int.toNat ((a + (2 * r + 1) : Nat) : Int) = a + (2 * r + 1) := by omega
 have e8 : Int.toNat ((a + (2 * r + 2) : Nat) : Int) = a + (2 * r + 2) := by omega
 rw [w1,w2,e5,e6,e7,e8]
 refine Ok.ite (fun c2 => ?_) fun c2 => ?_
 ·have c2 := of_decide_eq_true c2
  refine Ok.guard (by omega) (Ok.guard (by omega) (Ok.guard (by omega) (Ok.guard (by omega) ?_)))
  refine Ok.step (Ij _ _) ?_
  refine Ok.ite (fun c3 => hJ4 (2 * r + 2) (by omega) (.inr rfl) fun d d1 d2 d3 => ?_) fun c3 => hJ4 (2 * r + 1) (by omega) (.inl rfl) fun d d1 d2 d3 => ?_
  ·have c3 := of_decide_eq_true c3
   by_cases e : d = 2 * r + 2
   ·rw [e]
    omega
   ·have : d = 2 * r + 1 := by omega
    rw [this]
    omega
  ·have c3 := of_decide_eq_false c3
   by_cases e : d = 2 * r + 1
   ·rw [e]
    omega
   ·have : d = 2 * r + 2 := by omega
    rw [this]
    omega
 ·have c2 := of_decide_eq_false c2
  simp only [Bool.false_eq_true,if_false]
  refine hJ4 (2 * r + 1) (by omega) (.inl rfl) fun d d1 d2 d3 => ?_
  have : d = 2 * r + 1 := by omega
  rw [this]
  omega
theorem heap_max {a hi : Nat} {M : List Int} (h : AaS a 0 hi M) : ∀ c,c < hi → M.getD (a + c) 0 ≤ M.getD a 0 := by
 intro c
 induction c using Nat.strongRecOn with
 | ind c ih =>
  intro hc
  by_cases e : c = 0
  ·subst e
   simp
  ·have h1 := h c (by omega) hc (by omega)
   have h2 := ih ((c - 1) / 2) (by omega) (by omega)
   omega
theorem Aeq {L : List Int} {a b : Nat} (hab : a < b) (hb : b ≤ L.length) (hl : L.length ≤ 1000000) : Ok (Fg L (a : Int) (b : Int)) (fun M => RP a b L M ∧ Fk a b M) := by
 have wn : w64 ((b : Int) - (a : Int)) = ((b - a : Nat) : Int) := by
  rw [Al (by omega) (by omega)]
  omega
 have wn1 : w64 (((b - a : Nat) : Int) - 1) = ((b - a - 1 : Nat) : Int) := by
  rw [Al (by omega) (by omega)]
  omega
 have wh : w64 (Int.tdiv ((b - a - 1 : Nat) : Int) 2) = (((b - a - 1) / 2 : Nat) : Int) := by
  rw [Int.tdiv_eq_ediv_of_nonneg (by omega),Al (by omega) (by omega)]
  omega
 have ea : Int.toNat (a : Int) = a := by omega
 unfold Fg
 rw [wn,wn1,wh]
 refine Ok.while (fun s => ∃ k : Nat,s.2 = (k : Int) - 1 ∧ k ≤ 1000000 ∧ RP a b L s.1 ∧ AaS a k (b - a) s.1) (fun s => (s.2 + 1).toNat) ?_ ?_ ?_
 ·exact ⟨(b - a - 1) / 2 + 1,by simp only; omega,by omega,.refl _ _ _,fun c c1 c2 c3 => by omega⟩
 ·rw [Dh]
  simp only
  omega
 rintro ⟨M,x⟩ n ⟨k,hx,hk,rp,hp⟩ hn
 simp only at hx rp hp
 subst hx
 have hM := rp.len
 unfold Ht
 simp only
 refine Ok.ite (fun c => ?_) fun c => ?_
 ·have c := of_decide_eq_true c
  have ek : (k : Int) - 1 = ((k - 1 : Nat) : Int) := by omega
  rw [wn,ek]
  refine Ok.bind (Abw (b := b) (by omega) (by omega) (by omega) (by omega) (by rw [show k - 1 + 1 = k by omega]; exact hp)) fun N ⟨rn,hn2⟩ => ?_
  refine Ok.guard rn.len.symm (hn _ ⟨k - 1,?_,by omega,rp.trans (by rw [show a + (b - a) = b by omega] at rn; exact rn),hn2⟩ ?_)
  ·simp only
   rw [Al (by omega) (by omega)]
  ·simp only
   rw [Al (by omega) (by omega)]
   omega
 ·have c := of_decide_eq_false c
  have k0 : k = 0 := by omega
  subst k0
  rw [wn,wn1]
  clear hn
  refine Ok.while (fun s => ∃ k : Nat,s.2 = (k : Int) - 1 ∧ k ≤ b - a ∧ RP a b L s.1 ∧ AaS a 0 k s.1 ∧ (∀ p q,k ≤ p → p < q → q < b - a → s.1.getD (a + p) 0 ≤ s.1.getD (a + q) 0) ∧ (∀ p q,p < k → k ≤ q → q < b - a → s.1.getD (a + p) 0 ≤ s.1.getD (a + q) 0)) (fun s => (s.2 + 1).toNat) ?_ ?_ ?_
  ·exact ⟨b - a,by simp only; omega,Nat.le_refl _,rp,hp,fun p q h1 h2 h3 => by omega,fun p q h1 h2 h3 => by omega⟩
  ·rw [Dh]
   simp only
   omega
  clear rp hp hM hk c
  rintro ⟨M,x⟩ n ⟨k,hx,hk,rp,hp,h1,h2⟩ hn
  simp only at hx rp hp h1 h2
  subst hx
  have hM := rp.len
  unfold Hw
  simp only
  refine Ok.ite (fun c => ?_) fun c => ?_
  ·have c := of_decide_eq_true c
   obtain ⟨i,rfl⟩ : ∃ i,k = i + 1 := ⟨k - 1,by omega⟩
   have ek : ((i + 1 : Nat) : Int) - 1 = (i : Int) := by omega
   have e1 : w64 ((a : Int) + (i : Int)) = ((a + i : Nat) : Int) := by
    rw [Al (by omega) (by omega)]
    omega
   have e2 : Int.toNat ((a + i : Nat) : Int) = a + i := by omega
   rw [ek,e1,e2,ea]
   refine Ok.guard (by omega) (Ok.guard (by omega) (Ok.guard (by omega) (Ok.guard (by omega) (Ok.guard (by omega) (Ok.guard (by omega) (Ok.guard (by omega) (Ok.guard (by omega) ?_)))))))
   have hS : (M.set a (M.getD (a + i) 0)).set (a + i) (M.getD a 0) = Di M a (a + i) := rfl
   rw [hS]
   have hg : ∀ q,(Di M a (a + i)).getD q 0 = if q = a + i then M.getD a 0 else if q = a then M.getD (a + i) 0 else M.getD q 0 := fun q => Gr (by omega) (by omega)
   have hmax := heap_max hp
   have hsl := Aal M a (a + i)
   have rps : RP a b M (Di M a (a + i)) := RP.swap (by omega) (by omega) (by omega) (by omega) (by omega)
   generalize Di M a (a + i) = S at *
   refine Ok.bind (Abw (L := S) (a := a) (b := b) (lo := 0) (hi := i) (by omega) (by omega) (by omega) (by omega) (fun d d1 d2 d3 => ?_)) fun N ⟨rn,hn2⟩ => ?_
   ·rw [hg,hg,if_neg (by omega),if_neg (by omega),if_neg (by omega),if_neg (by omega)]
    exact hp d d1 (by omega) (by omega)
   refine Ok.guard rn.len.symm ?_
   have hwi : w64 ((i : Int) - 1) = (i : Int) - 1 := Al (by omega) (by omega)
   rw [hwi]
   have hout : ∀ q,i ≤ q → N.getD (a + q) 0 = S.getD (a + q) 0 := fun q hq => rn.out (a + q) (by omega)
   have hSi : S.getD (a + i) 0 = M.getD a 0 := by rw [hg,if_pos rfl]
   have hSq : ∀ q,i < q → S.getD (a + q) 0 = M.getD (a + q) 0 := fun q hq => by rw [hg,if_neg (by omega),if_neg (by omega)]
   have hSp : ∀ v : Int,(∀ p,p < i + 1 → M.getD (a + p) 0 ≤ v) → ∀ p,p < i → N.getD (a + p) 0 ≤ v := by
    intro v hv p hp'
    refine rn.all (P := fun z => z ≤ v) (fun r r1 r2 => ?_) (a + p) (by omega) (by omega)
    rw [hg]
    split
    ·exact hv 0 (by omega)
    ·split
     ·exact hv i (by omega)
     ·have := hv (r - a) (by omega)
      rw [show a + (r - a) = r by omega] at this
      exact this
   refine hn _ ⟨i,rfl,by omega,rp.trans (rps.trans (rn.widen (Nat.le_refl _) (by omega))),hn2,?_,?_⟩ (by simp only; omega)
   ·intro p q p1 p2 p3
    simp only
    rw [hout p p1,hout q (by omega),hSq q (by omega)]
    by_cases e : p = i
    ·rw [e,hSi]
     have := h2 0 q (by omega) (by omega) p3
     simpa using this
    ·rw [hSq p (by omega)]
     exact h1 p q (by omega) p2 p3
   ·intro p q p1 p2 p3
    simp only
    rw [hout q p2]
    by_cases e : q = i
    ·rw [e,hSi]
     exact hSp _ (fun r hr => hmax r hr) p p1
    ·rw [hSq q (by omega)]
     exact hSp _ (fun r hr => h2 r q hr (by omega) p3) p p1
  ·have c := of_decide_eq_false c
   have k0 : k = 0 := by omega
   subst k0
   refine Ok.ret ⟨rp,fun p q p1 p2 p3 => ?_⟩
   have := h1 (p - a) (q - a) (by omega) (by omega) (by omega)
   rw [show a + (p - a) = p by omega,show a + (q - a) = q by omega] at this
   exact this
end Go.Dm

/- Plain theory, part 29: the library's sort sorts. -/
namespace Go.Dm
theorem kand_le {x y : Int} (h0 : 0 ≤ y) (h1 : y < 18446744073709551616) : 0 ≤ kand .u64 x y ∧ kand .u64 x y ≤ y := by
 unfold kand
 have hb : IntKind.u64.bits = 64 := rfl
 rw [hb]
 obtain ⟨n,rfl⟩ : ∃ n : Nat,y = (n : Int) := ⟨y.toNat,by omega⟩
 have hn : n < 2 ^ 64 := by omega
 have hle : (BitVec.ofInt 64 x &&& BitVec.ofInt 64 (n : Int)).toNat ≤ n := by
  rw [BitVec.toNat_and]
  refine Nat.le_trans Nat.and_le_right ?_
  rw [BitVec.ofInt_natCast,BitVec.toNat_ofNat]
  exact Nat.mod_le _ _
 have hw : IntKind.u64.wrap (((BitVec.ofInt 64 x &&& BitVec.ofInt 64 (n : Int)).toNat : Nat) : Int) = (((BitVec.ofInt 64 x &&& BitVec.ofInt 64 (n : Int)).toNat : Nat) : Int) := by
  generalize (BitVec.ofInt 64 x &&& BitVec.ofInt 64 (n : Int)).toNat = q at *
  have : IntKind.u64.wrap (q : Int) = (q : Int) % 18446744073709551616 := rfl
  rw [this]
  omega
 rw [hw]
 omega
theorem pow2_all : (List.range 1001).all (fun n => (Fs (n : Int)).any (fun k => n == 0 || (decide ((n : Int) < k) && decide (k ≤ 2 * (n : Int)) && (IntKind.u64.wrap (k - 1) == k - 1)))) = true := by decide +kernel
theorem pow2_ok {n : Nat} (h0 : 0 < n) (hn : n ≤ 1000) : Ok (Fs (n : Int)) (fun k => (n : Int) < k ∧ k ≤ 2 * (n : Int) ∧ IntKind.u64.wrap (k - 1) = k - 1) := by
 have := List.all_eq_true.mp pow2_all n (by rw [List.mem_range]; omega)
 cases hb : Fs (n : Int) with
 | none => rw [hb] at this; simp at this
 | some k =>
  rw [hb] at this
  simp only [Option.any_some,Bool.or_eq_true,beq_iff_eq,Bool.and_eq_true,decide_eq_true_eq] at this
  rcases this with h | ⟨⟨h1,h2⟩,h3⟩
  ·omega
  ·exact ⟨k,rfl,h1,h2,h3⟩
def InR (a b : Nat) (x : Int) : Prop := ∃ n : Nat,x = (n : Int) ∧ a ≤ n ∧ n < b
theorem Zq {L : List Int} {a b : Nat} (hb : b ≤ L.length) {x y : Int} (hx : InR a b x) (hy : InR a b y) (c : Int) : Ok (Dk L x y c) (fun r => InR a b r.1 ∧ InR a b r.2.1) := by
 obtain ⟨n,rfl,n1,n2⟩ := hx
 obtain ⟨m,rfl,m1,m2⟩ := hy
 unfold Dk
 refine Ok.guard (by omega) (Ok.guard (by omega) ?_)
 refine Ok.step (Ij _ _) ?_
 exact Ok.ite (fun _ => Ok.ret ⟨⟨m,rfl,m1,m2⟩,⟨n,rfl,n1,n2⟩⟩) fun _ => Ok.ret ⟨⟨n,rfl,n1,n2⟩,⟨m,rfl,m1,m2⟩⟩
theorem AcX {L : List Int} {a b : Nat} (hb : b ≤ L.length) {x y z : Int} (hx : InR a b x) (hy : InR a b y) (hz : InR a b z) (c : Int) : Ok (Et L x y z c) (fun r => InR a b r.1) := by
 unfold Et
 refine Ok.bind (Zq hb hx hy c) fun r ⟨r1,r2⟩ => ?_
 refine Ok.bind (Zq hb r2 hz _) fun s ⟨s1,s2⟩ => ?_
 refine Ok.bind (Zq hb r1 s1 _) fun t ⟨t1,t2⟩ => ?_
 exact Ok.ret t2
theorem Xj {L : List Int} {a b : Nat} (hb : b ≤ L.length) (hl : L.length ≤ 1000000) {n : Nat} (n1 : a + 1 ≤ n) (n2 : n + 1 < b) (c : Int) : Ok (Ca L (n : Int) c) (fun r => InR a b r.1) := by
 unfold Ca
 have e1 : w64 ((n : Int) - 1) = ((n - 1 : Nat) : Int) := by
  rw [Al (by omega) (by omega)]
  omega
 have e2 : w64 ((n : Int) + 1) = ((n + 1 : Nat) : Int) := by
  rw [Al (by omega) (by omega)]
  omega
 rw [e1,e2]
 refine Ok.bind (AcX (a := a) (b := b) hb ⟨n - 1,rfl,by omega,by omega⟩ ⟨n,rfl,by omega,by omega⟩ ⟨n + 1,rfl,by omega,by omega⟩ c) fun r hr => ?_
 exact Ok.ret hr
theorem AcI {L : List Int} {a b : Nat} (hab : a + 12 < b) (hb : b ≤ L.length) (hl : L.length ≤ 1000000) : Ok (Eg L (a : Int) (b : Int)) (fun r => InR a b r.1) := by
 unfold Eg
 have wn : w64 ((b : Int) - (a : Int)) = ((b - a : Nat) : Int) := by
  rw [Al (by omega) (by omega)]
  omega
 have wq : w64 (Int.tdiv ((b - a : Nat) : Int) 4) = (((b - a) / 4 : Nat) : Int) := by
  rw [Int.tdiv_eq_ediv_of_nonneg (by omega),Al (by omega) (by omega)]
  omega
 rw [wn,wq]
 have hq : 3 ≤ (b - a) / 4 := by omega
 have hq2 : 4 * ((b - a) / 4) ≤ b - a := by omega
 generalize (b - a) / 4 = q at *
 have m1 : w64 ((a : Int) + w64 ((q : Int) * 1)) = ((a + q : Nat) : Int) := by
  rw [Al (n := (q : Int) * 1) (by omega) (by omega),Al (by omega) (by omega)]
  omega
 have m2 : w64 ((a : Int) + w64 ((q : Int) * 2)) = ((a + 2 * q : Nat) : Int) := by
  rw [Al (n := (q : Int) * 2) (by omega) (by omega),Al (by omega) (by omega)]
  omega
 have m3 : w64 ((a : Int) + w64 ((q : Int) * 3)) = ((a + 3 * q : Nat) : Int) := by
  rw [Al (n := (q : Int) * 3) (by omega) (by omega),Al (by omega) (by omega)]
  omega
 rw [m1,m2,m3]
 have hJ1 : ∀ y : Int × Int,InR a b y.2 → Ok (Cu y) (fun r => InR a b r.1) := by
  intro y hy
  unfold Cu
  exact Ok.ite (fun _ => Ok.ret hy) fun _ => Ok.ite (fun _ => Ok.ret hy) fun _ => Ok.ret hy
 have hJ2 : ∀ y : Int × Int × Int × Int,InR a b y.2.1 → InR a b y.2.2.1 → InR a b y.2.2.2 → Ok (Ct L y) (fun r => InR a b r.1) := by
  intro y h1 h2 h3
  unfold Ct
  exact Ok.bind (AcX hb h1 h2 h3 _) fun r hr => hJ1 _ hr
 refine Ok.ite (fun _ => ?_) fun c => ?_
 ·refine Ok.ite (fun c => ?_) fun _ => ?_
  ·have := of_decide_eq_true c
   refine Ok.bind (Xj (a := a) (b := b) (n := a + q) hb hl (by omega) (by omega) 0) fun r hr => ?_
   refine Ok.bind (Xj (a := a) (b := b) (n := a + 2 * q) hb hl (by omega) (by omega) _) fun s hs => ?_
   refine Ok.bind (Xj (a := a) (b := b) (n := a + 3 * q) hb hl (by omega) (by omega) _) fun t ht => ?_
   exact hJ2 _ hr hs ht
  ·exact hJ2 _ ⟨_,rfl,by omega,by omega⟩ ⟨_,rfl,by omega,by omega⟩ ⟨_,rfl,by omega,by omega⟩
 ·exact hJ1 _ ⟨_,rfl,by omega,by omega⟩
theorem AeN {L : List Int} {a b : Nat} (hab : a < b) (hb : b ≤ L.length) (hl : L.length ≤ 1000000) : Ok (Dy L (a : Int) (b : Int)) (fun M => RP a b L M) := by
 unfold Dy
 have wb : w64 ((b : Int) - 1) = ((b - 1 : Nat) : Int) := by
  rw [Al (by omega) (by omega)]
  omega
 rw [wb]
 refine Ok.while (fun s => ∃ i j : Nat,s.2.1 = (i : Int) ∧ s.2.2 = (j : Int) ∧ a ≤ i ∧ j < b ∧ i ≤ j + 1 ∧ RP a b L s.1) (fun s => (s.2.2 + 1 - s.2.1).toNat) ⟨a,b - 1,rfl,rfl,Nat.le_refl _,by omega,by omega,.refl _ _ _⟩ (by rw [Dh]; simp only; omega) ?_
 rintro ⟨M,x,y⟩ n ⟨i,j,hx,hy,h1,h2,h3,rp⟩ hn
 simp only at hx hy rp
 subst hx hy
 have hM := rp.len
 have ei : Int.toNat (i : Int) = i := by omega
 have ej : Int.toNat (j : Int) = j := by omega
 unfold Gn
 simp only
 rw [ei,ej]
 refine Ok.ite (fun c => ?_) fun _ => Ok.ret rp
 have c := of_decide_eq_true c
 have w1 : w64 ((i : Int) + 1) = ((i + 1 : Nat) : Int) := by
  rw [Al (by omega) (by omega)]
  omega
 have w2 : w64 ((j : Int) - 1) = ((j - 1 : Nat) : Int) := by
  rw [Al (by omega) (by omega)]
  omega
 rw [w1,w2]
 refine Ok.guard (by omega) (Ok.guard (by omega) (Ok.guard (by omega) (Ok.guard (by omega) (Ok.guard (by omega) (Ok.guard (by omega) (Ok.guard (by omega) (Ok.guard (by omega) ?_)))))))
 exact hn (Di M i j,_,_) ⟨i + 1,j - 1,rfl,rfl,by omega,by omega,by omega,rp.trans (RP.swap (by omega) (by omega) (by omega) (by omega) (by omega))⟩ (by simp only; omega)
theorem break_ok {L : List Int} {a b : Nat} (hab : a + 12 < b) (hb : b ≤ L.length) (hl : L.length ≤ 1000) : Ok (Dr L (a : Int) (b : Int)) (fun M => RP a b L M) := by
 unfold Dr
 have wn : w64 ((b : Int) - (a : Int)) = ((b - a : Nat) : Int) := by
  rw [Al (by omega) (by omega)]
  omega
 rw [wn]
 refine Ok.ite (fun _ => ?_) fun _ => Ok.ret (.refl _ _ _)
 refine Ok.bind (pow2_ok (n := b - a) (by omega) (by omega)) fun k ⟨k1,k2,k3⟩ => ?_
 have wq : w64 (Int.tdiv ((b - a : Nat) : Int) 4) = (((b - a) / 4 : Nat) : Int) := by
  rw [Int.tdiv_eq_ediv_of_nonneg (by omega),Al (by omega) (by omega)]
  omega
 rw [wq]
 have hq : 3 ≤ (b - a) / 4 := by omega
 have hq2 : 4 * ((b - a) / 4) ≤ b - a := by omega
 generalize hqd : (b - a) / 4 = q at *
 have m2 : w64 ((a : Int) + w64 ((q : Int) * 2)) = ((a + 2 * q : Nat) : Int) := by
  rw [Al (n := (q : Int) * 2) (by omega) (by omega),Al (by omega) (by omega)]
  omega
 have m3 : w64 (((a + 2 * q : Nat) : Int) - 1) = ((a + 2 * q - 1 : Nat) : Int) := by
  rw [Al (by omega) (by omega)]
  omega
 have m4 : w64 (((a + 2 * q : Nat) : Int) + 1) = ((a + 2 * q + 1 : Nat) : Int) := by
  rw [Al (by omega) (by omega)]
  omega
 rw [m2,m3]
 refine Ok.while (fun s => ∃ i : Nat,s.2.2 = (i : Int) ∧ a ≤ i ∧ i ≤ a + 2 * q + 2 ∧ RP a b L s.1) (fun s => ((a + 2 * q + 2 : Nat) : Int).toNat - s.2.2.toNat) ⟨a + 2 * q - 1,rfl,by omega,by omega,.refl _ _ _⟩ (by rw [Dh]; simp only; omega) ?_
 rintro ⟨M,r,x⟩ n ⟨i,hx,i1,i2,rp⟩ hn
 simp only at hx rp
 subst hx
 have hM := rp.len
 have ei : Int.toNat (i : Int) = i := by omega
 unfold Gg
 simp only
 rw [wn,wq,m2,m4]
 refine Ok.ite (fun c => ?_) fun _ => Ok.ret rp
 have c := of_decide_eq_true c
 unfold Iw
 refine Ok.step rfl ?_
 simp only
 rw [k3]
 have hkl := kand_le (x := (kxor .u64 (kxor .u64 (kxor .u64 r (kshl .u64 r 13)) (kshr .u64 (kxor .u64 r (kshl .u64 r 13)) 7)) (kshl .u64 (kxor .u64 (kxor .u64 r (kshl .u64 r 13)) (kshr .u64 (kxor .u64 r (kshl .u64 r 13)) 7)) 17))) (y := k - 1) (by omega) (by omega)
 generalize kand .u64 (kxor .u64 (kxor .u64 (kxor .u64 r (kshl .u64 r 13)) (kshr .u64 (kxor .u64 r (kshl .u64 r 13)) 7)) (kshl .u64 (kxor .u64 (kxor .u64 r (kshl .u64 r 13)) (kshr .u64 (kxor .u64 r (kshl .u64 r 13)) 7)) 17)) (k - 1) = z at *
 generalize kxor .u64 (kxor .u64 (kxor .u64 r (kshl .u64 r 13)) (kshr .u64 (kxor .u64 r (kshl .u64 r 13)) 7)) (kshl .u64 (kxor .u64 (kxor .u64 r (kshl .u64 r 13)) (kshr .u64 (kxor .u64 r (kshl .u64 r 13)) 7)) 17) = r'
 have hJ : ∀ o : Nat,o < b - a → Ok (Ci (a : Int) (M,r,(i : Int)) n (r',r') (o : Int)) (fun M => RP a b L M) := by
  intro o ho
  unfold Ci
  simp only
  have e1 : w64 ((a : Int) + (o : Int)) = ((a + o : Nat) : Int) := by
   rw [Al (by omega) (by omega)]
   omega
  have e2 : Int.toNat ((a + o : Nat) : Int) = a + o := by omega
  have e3 : w64 ((i : Int) + 1) = ((i + 1 : Nat) : Int) := by
   rw [Al (by omega) (by omega)]
   omega
  rw [e1,e2,e3,ei]
  refine Ok.guard (by omega) (Ok.guard (by omega) (Ok.guard (by omega) (Ok.guard (by omega) (Ok.guard (by omega) (Ok.guard (by omega) (Ok.guard (by omega) (Ok.guard (by omega) ?_)))))))
  exact hn (Di M i (a + o),_,_) ⟨i + 1,rfl,by omega,by omega,rp.trans (RP.swap (by omega) (by omega) (by omega) (by omega) (by omega))⟩ (by simp only; omega)
 have hz : w64 z = z := Al (by omega) (by omega)
 rw [hz]
 refine Ok.ite (fun c2 => ?_) fun c2 => ?_
 ·have c2 := of_decide_eq_true c2
  have e : w64 (z - ((b - a : Nat) : Int)) = ((z - ((b - a : Nat) : Int)).toNat : Int) := by
   rw [Al (by omega) (by omega)]
   omega
  rw [e]
  exact hJ _ (by omega)
 ·have c2 := of_decide_eq_false c2
  have e : z = ((z.toNat : Nat) : Int) := by omega
  rw [e]
  exact hJ _ (by omega)
def lowR (a b : Nat) (L : List Int) : Prop := 0 < a → ∀ k,a ≤ k → k < b → L.getD (a - 1) 0 ≤ L.getD k 0
theorem lowR.rp {a b : Nat} {L M : List Int} (h : lowR a b L) (r : RP a b L M) : lowR a b M := by
 intro h0 k k1 k2
 rw [r.out (a - 1) (by omega)]
 exact r.all (P := fun z => L.getD (a - 1) 0 ≤ z) (fun i i1 i2 => h h0 i i1 i2) k k1 k2
theorem Afe {L : List Int} {a b : Nat} (hab : a + 12 < b) (hb : b ≤ L.length) (hl : L.length ≤ 1000000) (hlow0 : lowR a b L) :
  Ok (Cm L (a : Int) (b : Int)) (fun r => RP a b L r.2 ∧ (r.1 = true → Fk a b r.2)) := by
 unfold Cm
 have e1 : w64 ((a : Int) + 1) = ((a + 1 : Nat) : Int) := by
  rw [Al (by omega) (by omega)]
  omega
 rw [e1]
 refine Ok.for (fun _ s => ∃ i : Nat,s.2 = (i : Int) ∧ a + 1 ≤ i ∧ i ≤ b ∧ RP a b L s.1 ∧ Fk a i s.1) ⟨a + 1,rfl,Nat.le_refl _,by omega,.refl _ _ _,fun p q h1 h2 h3 => by omega⟩ ?_ ?_
 ·rintro j ⟨M,x⟩ n hj ⟨i0,hx,i01,i02,rp,hs0⟩ hn
  simp only at hx rp hs0
  subst hx
  have hM := rp.len
  unfold Fd
  simp only
  refine Ok.while (fun q => ∃ i : Nat,q = (i : Int) ∧ a + 1 ≤ i ∧ i ≤ b ∧ Fk a i M) (fun q => b - q.toNat) ⟨i0,rfl,i01,i02,hs0⟩ (by rw [Dh]; omega) ?_
  clear hs0
  rintro q nn ⟨i,rfl,h1,h2,hs⟩ hnn
  have hw : w64 ((i : Int) - 1) = ((i - 1 : Nat) : Int) := by
   rw [Al (by omega) (by omega)]
   omega
  have ei : Int.toNat (i : Int) = i := by omega
  have ei1 : Int.toNat ((i - 1 : Nat) : Int) = i - 1 := by omega
  have stop : (i = b ∨ (i < b ∧ M.getD i 0 < M.getD (i - 1) 0)) → Ok (Bi (a : Int) (b : Int) (M,(i0 : Int)) n (i : Int) nn false) (fun r => RP a b L r.2 ∧ (r.1 = true → Fk a b r.2)) := by
   intro hstop
   unfold Bi
   simp only [Bool.false_eq_true,if_false]
   refine Ok.ite (fun c => ?_) fun c => ?_
   ·have c : (i : Int) = (b : Int) := by simpa using c
    have : i = b := by omega
    subst this
    exact Ok.ret ⟨rp,fun _ => hs⟩
   have c : ¬ (i : Int) = (b : Int) := by simpa using c
   have hib : i < b := by omega
   have hlt : M.getD i 0 < M.getD (i - 1) 0 := by
    rcases hstop with h | h
    ·omega
    ·exact h.2
   refine Ok.ite (fun _ => Ok.ret ⟨rp,fun e => by simp at e⟩) fun _ => ?_
   rw [hw,ei,ei1]
   refine Ok.guard (by omega) (Ok.guard (by omega) (Ok.guard (by omega) (Ok.guard (by omega) (Ok.guard (by omega) (Ok.guard (by omega) (Ok.guard (by omega) (Ok.guard (by omega) ?_)))))))
   have hS : (M.set i (M.getD (i - 1) 0)).set (i - 1) (M.getD i 0) = Di M i (i - 1) := rfl
   rw [hS]
   have hg : ∀ r,(Di M i (i - 1)).getD r 0 = if r = i - 1 then M.getD i 0 else if r = i then M.getD (i - 1) 0 else M.getD r 0 := fun r => Gr (by omega) (by omega)
   have rps : RP a b M (Di M i (i - 1)) := RP.swap (by omega) (by omega) (by omega) (by omega) (by omega)
   generalize Di M i (i - 1) = S at *
   have hJ15 : ∀ N : List Int,RP a b L N → Fk a i N → Ok (Bc (b : Int) n (i : Int) N) (fun r => RP a b L r.2 ∧ (r.1 = true → Fk a b r.2)) := by
    intro N rN hsN
    have hN := rN.len
    have done : ∀ K : List Int,RP a b L K → Fk a i K → Ok (Bh n (K,(i : Int))) (fun r => RP a b L r.2 ∧ (r.1 = true → Fk a b r.2)) := by
     intro K rK hK
     unfold Bh
     exact hn _ ⟨i,rfl,h1,h2,rK,hK⟩
    unfold Bc
    refine Ok.ite (fun _ => ?_) fun _ => done N rN hsN
    have w1 : w64 ((i : Int) + 1) = ((i + 1 : Nat) : Int) := by
     rw [Al (by omega) (by omega)]
     omega
    rw [w1]
    refine Ok.guard (by omega) ?_
    rw [show Int.toNat ((b : Int) - ((i + 1 : Nat) : Int)) = b - (i + 1) by omega]
    refine Ok.for (fun _ K => RP a b L K ∧ Fk a i K) ⟨rN,hsN⟩ ?_ fun K ⟨rK,hK⟩ => done K rK hK
    intro t K nk ht ⟨rK,hK⟩ hnk
    have hKl := rK.len
    have et : ((i + 1 : Nat) : Int) + (t : Int) = ((i + 1 + t : Nat) : Int) := by omega
    have et1 : w64 (((i + 1 + t : Nat) : Int) - 1) = ((i + t : Nat) : Int) := by
     rw [Al (by omega) (by omega)]
     omega
    have et2 : Int.toNat ((i + 1 + t : Nat) : Int) = i + 1 + t := by omega
    have et3 : Int.toNat ((i + t : Nat) : Int) = i + t := by omega
    rw [et]
    unfold Ey
    rw [et1,et2,et3]
    refine Ok.guard (by omega) (Ok.guard (by omega) (Ok.guard (by omega) (Ok.guard (by omega) ?_)))
    refine Ok.step (Ij _ _) ?_
    refine Ok.ite (fun _ => done K rK hK) fun _ => ?_
    refine Ok.guard (by omega) (Ok.guard (by omega) (Ok.guard (by omega) (Ok.guard (by omega) (Ok.guard (by omega) (Ok.guard (by omega) (Ok.guard (by omega) (Ok.guard (by omega) ?_)))))))
    refine hnk (Di K (i + 1 + t) (i + t)) ⟨rK.trans (RP.swap (by omega) (by omega) (by omega) (by omega) (by omega)),fun p q p1 p2 p3 => ?_⟩
    rw [Gr (by omega) (by omega),Gr (by omega) (by omega),if_neg (by omega),if_neg (by omega),if_neg (by omega),if_neg (by omega)]
    exact hK p q p1 p2 p3
   have rS := rp.trans rps
   have hSl := rS.len
   refine Ok.ite (fun _ => ?_) fun c5 => ?_
   ·refine Ok.while (fun q => ∃ k : Nat,q.2 = (k : Int) ∧ a ≤ k ∧ k + 1 ≤ i ∧ RP a b L q.1 ∧ (∀ p r,a ≤ p → p < r → r < i → p ≠ k → r ≠ k → q.1.getD p 0 ≤ q.1.getD r 0) ∧ (∀ r,k < r → r < i → q.1.getD k 0 ≤ q.1.getD r 0)) (fun q => q.2.toNat) ?_ (by rw [Dh]; simp only; omega) ?_
    ·refine ⟨i - 1,rfl,by omega,by omega,rS,fun p r p1 p2 p3 p4 p5 => ?_,fun r r1 r2 => by omega⟩
     simp only
     rw [hg,hg,if_neg p4,if_neg p5,if_neg (by omega),if_neg (by omega)]
     exact hs p r p1 p2 p3
    ·rintro ⟨K,y⟩ n3 ⟨k,hy,k1,k2,rK,hA,hB⟩ hn3
     simp only at hy rK hA hB
     subst hy
     have hKl := rK.len
     have fin : (k = a ∨ ¬ K.getD k 0 < K.getD (k - 1) 0) → Ok (Bc (b : Int) n (i : Int) K) (fun r => RP a b L r.2 ∧ (r.1 = true → Fk a b r.2)) := by
      intro hstop
      refine hJ15 K rK fun p q p1 p2 p3 => ?_
      by_cases hp : p = k
      ·subst hp
       exact hB q p2 p3
      by_cases hq : q = k
      ·subst hq
       rcases hstop with h | h
       ·omega
       ·by_cases hp2 : p = q - 1
        ·subst hp2
         omega
        ·have := hA p (q - 1) p1 (by omega) (by omega) hp (by omega)
         omega
      exact hA p q p1 p2 p3 hp hq
     have ek : Int.toNat (k : Int) = k := by omega
     unfold Ex
     simp only
     refine Ok.ite (fun c6 => ?_) fun c6 => ?_
     ·have c6 := of_decide_eq_true c6
      have wk : w64 ((k : Int) - 1) = ((k - 1 : Nat) : Int) := by
       rw [Al (by omega) (by omega)]
       omega
      have ek1 : Int.toNat ((k - 1 : Nat) : Int) = k - 1 := by omega
      rw [wk,ek,ek1]
      refine Ok.guard (by omega) (Ok.guard (by omega) (Ok.guard (by omega) (Ok.guard (by omega) ?_)))
      refine Ok.step (Ij _ _) ?_
      refine Ok.ite (fun c7 => fin (.inr (by simpa using c7))) fun c7 => ?_
      have c7 : K.getD k 0 < K.getD (k - 1) 0 := by
       rw [Bool.not_eq_false'] at c7
       exact of_decide_eq_true c7
      have hka : a < k := by
       by_cases e : k = a
       ·exfalso
        subst e
        have h3 := hlow0.rp rK (by omega) k (Nat.le_refl _) (by omega)
        omega
       ·omega
      refine Ok.guard (by omega) (Ok.guard (by omega) (Ok.guard (by omega) (Ok.guard (by omega) (Ok.guard (by omega) (Ok.guard (by omega) (Ok.guard (by omega) (Ok.guard (by omega) ?_)))))))
      have hgk : ∀ r,(Di K k (k - 1)).getD r 0 = if r = k - 1 then K.getD k 0 else if r = k then K.getD (k - 1) 0 else K.getD r 0 := fun r => Gr (by omega) (by omega)
      refine hn3 (Di K k (k - 1),((k - 1 : Nat) : Int)) ⟨k - 1,rfl,by omega,by omega,rK.trans (RP.swap (by omega) (by omega) (by omega) (by omega) (by omega)),?_,?_⟩ (by simp only; omega)
      ·intro p r p1 p2 p3 p4 p5
       simp only
       rw [hgk,hgk,if_neg p4,if_neg p5]
       by_cases hp : p = k
       ·rw [if_pos hp,if_neg (by omega)]
        exact hA (k - 1) r (by omega) (by omega) p3 (by omega) (by omega)
       ·rw [if_neg hp]
        by_cases hr : r = k
        ·rw [if_pos hr]
         exact hA p (k - 1) p1 (by omega) (by omega) hp (by omega)
        ·rw [if_neg hr]
         exact hA p r p1 p2 p3 hp hr
      ·intro r r1 r2
       simp only
       rw [hgk,hgk,if_pos rfl,if_neg (by omega)]
       by_cases hr : r = k
       ·rw [if_pos hr]
        omega
       ·rw [if_neg hr]
        exact hB r (by omega) r2
     ·have c6 := of_decide_eq_false c6
      exact fin (.inl (by omega))
   ·have c5 := of_decide_eq_false c5
    rw [Al (by omega) (by omega)] at c5
    exact hJ15 S rS fun p q p1 p2 p3 => by omega
  unfold Ez
  simp only
  refine Ok.ite (fun c => ?_) fun c => ?_
  ·have c := of_decide_eq_true c
   rw [hw,ei,ei1]
   refine Ok.guard (by omega) (Ok.guard (by omega) (Ok.guard (by omega) (Ok.guard (by omega) ?_)))
   refine Ok.step (Ij _ _) ?_
   cases hlt : decide (M.getD i 0 < M.getD (i - 1) 0) with
   | true => exact stop (.inr ⟨by omega,of_decide_eq_true hlt⟩)
   | false =>
    have hlt := of_decide_eq_false hlt
    unfold Bi
    have w1 : w64 ((i : Int) + 1) = ((i + 1 : Nat) : Int) := by
     rw [Al (by omega) (by omega)]
     omega
    simp only [Bool.not_false,if_true]
    rw [w1]
    refine hnn _ ⟨i + 1,rfl,by omega,by omega,fun p q p1 p2 p3 => ?_⟩ (by omega)
    by_cases e : q = i
    ·subst e
     by_cases e2 : p = q - 1
     ·subst e2
      omega
     ·have := hs p (q - 1) p1 (by omega) (by omega)
      omega
    ·exact hs p q p1 p2 (by omega)
  ·have c := of_decide_eq_false c
   exact stop (.inl (by omega))
 ·rintro ⟨M,x⟩ ⟨i,_,_,_,rp,_⟩
  exact Ok.ret ⟨rp,fun e => by simp at e⟩
def outR (a b c d : Nat) (L : List Int) : Prop := ∀ p q,a ≤ p → p < q → q < b → ¬ (c ≤ p ∧ q < d) → L.getD p 0 ≤ L.getD q 0
theorem outR.rp {a b c d : Nat} {L M : List Int} (h : outR a b c d L) (hc : a ≤ c) (hd : d ≤ b) (r : RP c d L M) : outR a b c d M := by
 intro p q p1 p2 p3 p4
 by_cases hp : c ≤ p ∧ p < d
 ·have hq : d ≤ q := by omega
  rw [r.out q (.inr hq)]
  exact r.all (P := fun z => z ≤ L.getD q 0) (fun i i1 i2 => h i q (by omega) (by omega) p3 (by omega)) p hp.1 hp.2
 ·rw [r.out p (by omega)]
  by_cases hq : c ≤ q ∧ q < d
  ·exact r.all (P := fun z => L.getD p 0 ≤ z) (fun i i1 i2 => h p i p1 (by omega) (by omega) (by omega)) q hq.1 hq.2
  ·rw [r.out q (by omega)]
   exact h p q p1 p2 p3 p4
theorem pdq_F : ∀ (fuel : Nat) {L : List Int} {a b : Nat} (lim : Int),b - a < fuel → a ≤ b → b ≤ L.length → L.length ≤ 1000 → lowR a b L → Ok (Bo fuel L (a : Int) (b : Int) lim) (fun M => RP a b L M ∧ Fk a b M) := by
 intro fuel
 induction fuel with
 | zero => intro L a b lim h; omega
 | succ fuel ih =>
  intro L a b lim hf hab hb hl hlow
  rw [Bo]
  unfold Gi
  refine Ok.while (fun s => ∃ c d : Nat,s.2.1 = (c : Int) ∧ s.2.2.1 = (d : Int) ∧ a ≤ c ∧ c ≤ d ∧ d ≤ b ∧ RP a b L s.1 ∧ outR a b c d s.1) (fun s => (s.2.2.1 - s.2.1).toNat) ⟨a,b,rfl,rfl,Nat.le_refl _,hab,Nat.le_refl _,.refl _ _ _,fun p q h1 h2 h3 h4 => by omega⟩ (by rw [Dh]; simp only; omega) ?_
  rintro ⟨M,x,y,lm,wb,wp⟩ n ⟨c,d,hx,hy,c1,c2,c3,rp,ho⟩ hn
  simp only at hx hy rp ho
  subst hx hy
  have hM := rp.len
  have hlowc : lowR c d M := by
   intro h0 k k1 k2
   by_cases e : c = a
   ·subst e
    exact hlow.rp rp h0 k k1 (by omega)
   ·exact ho (c - 1) k (by omega) (by omega) (by omega) (by omega)
  have done : ∀ N,RP c d M N → Fk c d N → RP a b L N ∧ Fk a b N := by
   intro N rN hs
   refine ⟨rp.trans (rN.widen c1 c3),fun p q p1 p2 p3 => ?_⟩
   by_cases e : c ≤ p ∧ q < d
   ·exact hs p q e.1 p2 e.2
   ·exact ho.rp c1 c3 rN p q p1 p2 p3 e
  have wn : w64 ((d : Int) - (c : Int)) = ((d - c : Nat) : Int) := by
   rw [Al (by omega) (by omega)]
   omega
  unfold Ib
  simp only
  rw [wn]
  refine Ok.ite (fun _ => ?_) fun cc => ?_
  ·refine Ok.bind (AdW c2 (by omega) (by omega)) fun N ⟨rN,hs⟩ => ?_
   exact Ok.guard rN.len.symm (Ok.ret (done N rN hs))
  have cc := of_decide_eq_false cc
  have hcd : c + 12 < d := by omega
  refine Ok.ite (fun _ => ?_) fun _ => ?_
  ·refine Ok.bind (Aeq (by omega) (by omega) (by omega)) fun N ⟨rN,hs⟩ => ?_
   exact Ok.guard rN.len.symm (Ok.ret (done N rN hs))
  have hJ8 : ∀ (N : List Int) (l2 : Int),RP c d M N → Ok (Dp (Bo fuel) (M,(c : Int),(d : Int),lm,wb,wp) n (N,l2)) (fun M => RP a b L M ∧ Fk a b M) := by
   intro N l2 rN
   have hN := rN.len
   have hJ9 : ∀ (K : List Int) (pv hint : Int),RP c d M K → InR c d pv → Ok (Dq (Bo fuel) (M,(c : Int),(d : Int),lm,wb,wp) n (N,l2) (K,pv,hint)) (fun M => RP a b L M ∧ Fk a b M) := by
    intro K pv hint rK hpv
    have hK := rK.len
    have hJ10 : ∀ U : List Int,RP c d M U → Ok (De (Bo fuel) (M,(c : Int),(d : Int),lm,wb,wp) n (N,l2) (K,pv,hint) U) (fun M => RP a b L M ∧ Fk a b M) := by
     intro U rU
     have hU := rU.len
     obtain ⟨p,rfl,p1,p2⟩ := hpv
     have hlowU := hlowc.rp rU
     have hJ11 : ∀ e : Bool,(e = true → 0 < c ∧ ¬ U.getD (c - 1) 0 < U.getD p 0) → Ok (Df (Bo fuel) (M,(c : Int),(d : Int),lm,wb,wp) n (N,l2) (K,(p : Int),hint) U e) (fun M => RP a b L M ∧ Fk a b M) := by
      intro e he
      unfold Df
      simp only
      refine Ok.ite (fun ce => ?_) fun _ => ?_
      ·-- many equal ones
       obtain ⟨hc0,hle⟩ := he ce
       refine Ok.bind (Abc (by omega) (by omega) (by omega) p1 p2) fun r ⟨m,hr,m1,m2,rr,hlo,hhi⟩ => ?_
       refine Ok.guard rr.len.symm ?_
       have rMr := rU.trans rr
       rw [hr]
       refine hn _ ⟨m,d,rfl,rfl,by omega,by omega,c3,rp.trans (rMr.widen c1 c3),?_⟩ (by simp only; omega)
       have hor := ho.rp c1 c3 rMr
       have hlowr := hlowU.rp rr
       intro u v u1 u2 u3 u4
       simp only
       by_cases hin : c ≤ u ∧ v < d
       ·have hu : u < m := by omega
        have h1 := hlo u hin.1 hu
        by_cases hv : v < m
        ·have h2 := hlowr hc0 v (by omega) (by omega)
         rw [rr.out (c - 1) (by omega)] at h2
         omega
        ·have h2 := hhi v (by omega) hin.2
         omega
       ·exact hor u v u1 u2 u3 hin
      ·refine Ok.bind (AdF (by omega) (by omega) (by omega) p1 p2) fun r ⟨m,hr,m1,m2,rr,hlo,hhi⟩ => ?_
       have rMr := rU.trans rr
       have hrl := rMr.len
       refine Ok.guard rr.len.symm ?_
       have hor := ho.rp c1 c3 rMr
       have hlowr := hlowU.rp rr
       rw [hr]
       have w1 : w64 ((m : Int) + 1) = ((m + 1 : Nat) : Int) := by
        rw [Al (by omega) (by omega)]
        omega
       refine Ok.ite (fun _ => ?_) fun _ => ?_
       ·-- the left part first
        refine Ok.bind (ih (L := r.2.2) (a := c) (b := m) l2 (by omega) m1 (by omega) (by omega) (fun h0 k k1 k2 => hlowr h0 k k1 (by omega))) fun S ⟨rS,hs⟩ => ?_
        refine Ok.guard rS.len.symm ?_
        rw [w1]
        refine hn _ ⟨m + 1,d,rfl,rfl,by omega,by omega,c3,rp.trans ((rMr.trans (rS.widen (Nat.le_refl _) (by omega))).widen c1 c3),?_⟩ (by simp only; omega)
        have horS := hor.rp c1 c3 (rS.widen (Nat.le_refl _) (by omega))
        intro u v u1 u2 u3 u4
        simp only
        by_cases hin : c ≤ u ∧ v < d
        ·have hum : u ≤ m := by omega
         have hSm : ∀ k,m ≤ k → S.getD k 0 = r.2.2.getD k 0 := fun k hk => rS.out k (.inr hk)
         have hSlo : ∀ k,c ≤ k → k < m → S.getD k 0 ≤ r.2.2.getD m 0 := fun k k1 k2 => rS.all (P := fun z => z ≤ r.2.2.getD m 0) (fun i i1 i2 => hlo i i1 i2) k k1 k2
         by_cases hv : v < m
         ·exact hs u v hin.1 u2 hv
         ·rw [hSm v (by omega)]
          have hvm : r.2.2.getD m 0 ≤ r.2.2.getD v 0 := by
           by_cases e2 : v = m
           ·rw [e2]
            exact Int.le_refl _
           ·exact hhi v (by omega) hin.2
          by_cases e3 : u = m
          ·rw [e3,hSm m (Nat.le_refl _)]
           exact hvm
          ·have := hSlo u hin.1 (by omega)
           omega
        ·exact horS u v u1 u2 u3 hin
       ·-- the right part first
        rw [w1]
        refine Ok.bind (ih (L := r.2.2) (a := m + 1) (b := d) l2 (by omega) (by omega) (by omega) (by omega) (fun h0 k k1 k2 => by
         have := hhi k (by omega) k2
         simpa using this)) fun S ⟨rS,hs⟩ => ?_
        refine Ok.guard rS.len.symm ?_
        refine hn _ ⟨c,m,rfl,rfl,c1,m1,by omega,rp.trans ((rMr.trans (rS.widen (by omega) (Nat.le_refl _))).widen c1 c3),?_⟩ (by simp only; omega)
        have horS := hor.rp c1 c3 (rS.widen (by omega) (Nat.le_refl _))
        intro u v u1 u2 u3 u4
        simp only
        by_cases hin : c ≤ u ∧ v < d
        ·have hSm : ∀ k,k ≤ m → S.getD k 0 = r.2.2.getD k 0 := fun k hk => rS.out k (.inl (by omega))
         have hShi : ∀ k,m < k → k < d → r.2.2.getD m 0 ≤ S.getD k 0 := fun k k1 k2 => rS.all (P := fun z => r.2.2.getD m 0 ≤ z) (fun i i1 i2 => hhi i (by omega) i2) k (by omega) k2
         by_cases hu : m < u
         ·exact hs u v (by omega) u2 hin.2
         ·rw [hSm u (by omega)]
          have hum : r.2.2.getD u 0 ≤ r.2.2.getD m 0 := by
           by_cases e2 : u = m
           ·rw [e2]
            exact Int.le_refl _
           ·exact hlo u hin.1 (by omega)
          by_cases e3 : v = m
          ·rw [e3,hSm m (Nat.le_refl _)]
           exact hum
          ·have := hShi v (by omega) hin.2
           omega
        ·exact horS u v u1 u2 u3 hin
     unfold De
     simp only
     refine Ok.ite (fun ce => ?_) fun _ => hJ11 false fun e => by simp at e
     have ce := of_decide_eq_true ce
     have wc : w64 ((c : Int) - 1) = ((c - 1 : Nat) : Int) := by
      rw [Al (by omega) (by omega)]
      omega
     have ec : Int.toNat ((c - 1 : Nat) : Int) = c - 1 := by omega
     have ep : Int.toNat (p : Int) = p := by omega
     rw [wc,ec,ep]
     refine Ok.guard (by omega) (Ok.guard (by omega) (Ok.guard (by omega) (Ok.guard (by omega) ?_)))
     refine Ok.step (Ij _ _) (hJ11 _ fun e => ⟨by omega,?_⟩)
     simpa using e
    unfold Dq
    simp only
    refine Ok.ite (fun _ => ?_) fun _ => hJ10 K rK
    refine Ok.bind (Afe hcd (by omega) (by omega) (hlowc.rp rK)) fun r ⟨rr,hs⟩ => ?_
    refine Ok.guard rr.len.symm ?_
    exact Ok.ite (fun e => Ok.ret (done _ (rK.trans rr) (hs e))) fun _ => hJ10 _ (rK.trans rr)
   unfold Dp
   simp only
   refine Ok.bind (AcI hcd (by omega) (by omega)) fun r hr => ?_
   refine Ok.ite (fun _ => ?_) fun _ => hJ9 N r.1 r.2 rN hr
   refine Ok.bind (AeN (by omega) (by omega) (by omega)) fun K rK => ?_
   refine Ok.guard rK.len.symm (hJ9 _ _ _ (rN.trans rK) ?_)
   obtain ⟨p,hp,p1,p2⟩ := hr
   rw [hp,Al (n := (d : Int) - 1) (by omega) (by omega),Al (n := (p : Int) - (c : Int)) (by omega) (by omega),Al (by omega) (by omega)]
   exact ⟨d - 1 - (p - c),by omega,by omega,by omega⟩
  refine Ok.ite (fun _ => ?_) fun _ => hJ8 M _ (.refl _ _ _)
  refine Ok.bind (break_ok hcd (by omega) (by omega)) fun N rN => ?_
  exact Ok.guard rN.len.symm (hJ8 _ _ rN)
theorem Sort_ok (L : List Int) (hl : L.length ≤ 1000) : Ok (Kj L) (fun M => M.Perm L ∧ M.Pairwise (· ≤ ·)) := by
 unfold Kj
 refine Ok.bind (AdI hl) fun k _ => ?_
 unfold Ix
 have h := pdq_F Ei (L := L) (a := 0) (b := L.length) k (by rw [Dh]; omega) (by omega) (Nat.le_refl _) hl (fun h => by omega)
 refine Ok.bind h fun M ⟨rp,hs⟩ => Ok.guard rp.len.symm (Ok.ret ⟨rp.perm,?_⟩)
 rw [List.pairwise_iff_getElem]
 intro i j hi hj hij
 have := hs i j (by omega) hij (by have := rp.len; omega)
 rw [Mh hi,Mh hj] at this
 exact this
end Go.Dm

/- Plain theory, part 15: counts. -/
namespace Go.Dm
theorem Zx {t : Aa} (w : WfT t) (id : Int) : Js t id = some (upT t id) := by
 apply Ok.eq
 have l2 := w.len2
 unfold Js
 refine Ok.guard (by omega) ?_
 refine Ok.range (fun pre s => s.1 ++ upT t s.2 = upT t id ∧ s.1.length = pre.length) ⟨by simp,rfl⟩ ?_ ?_
 ·rintro pre x post ⟨o,c⟩ n he ⟨i1,i2⟩ hn
  simp only at i1 i2
  unfold Nu Ia
  refine Ok.step (Oa t c (by omega)) ?_
  cases hg : Ml t c with
  | none =>
   refine Ok.ret ?_
   have : upT t c = [] := Ym fun y hy e => by
    unfold Ml at hg
    rw [List.find?_eq_none] at hg
    have := hg y (by simpa using hy)
    simp [e] at this
   rw [this] at i1
   simpa using i1
  | some y =>
   obtain ⟨hy,hyc⟩ := Zv hg
   have hp : pre.length < t.nodes.length := by rw [he]; simp
   simp only [Option.elim_some,Bool.not_true,Bool.false_eq_true,if_false]
   refine Ok.guard (by omega) (hn _ ⟨?_,by simp [i2]⟩)
   simp only
   rw [← i1,← hyc,w.up hy]
   simp
 ·rintro ⟨o,c⟩ ⟨i1,i2⟩
  simp only at i1 i2
  refine Ok.ret ?_
  have hlen := Qm t.nodes.reverse id
  rw [List.length_reverse] at hlen
  change (upT t id).length ≤ t.nodes.length at hlen
  rw [← i1] at hlen
  have : (upT t c).length = 0 := by
   rw [List.length_append] at hlen
   omega
  have : upT t c = [] := List.length_eq_zero_iff.mp this
  rw [this] at i1
  simpa using i1
end Go.Dm

/- Plain theory, part 16: made counts. -/
namespace Go.Dm
end Go.Dm

/- Plain theory, part 17: room and refusals. -/
namespace Go.Dm
end Go.Dm

/- Plain theory, part 18: sums of counts. -/
namespace Go.Dm
theorem Aff {β : Type} {l : List β} {p : β → Bool} (hn : l.Nodup) (hu : ∀ a ∈ l,∀ b ∈ l,p a = true → p b = true → a = b) : l.countP p = if l.any p then 1 else 0 := by
 induction l with
 | nil => rfl
 | cons a r ih =>
  rw [List.nodup_cons] at hn
  have h2 := ih hn.2 fun x hx y hy => hu x (by simp [hx]) y (by simp [hy])
  rw [List.countP_cons,List.any_cons,h2]
  cases hp : p a
  ·simp
  ·have : r.any p = false := by
    rw [List.any_eq_false]
    intro b hb hpb
    have := hu a (by simp) b (by simp [hb]) hp hpb
    exact hn.1 (this ▸ hb)
   simp [this]
theorem AeL {t : Aa} (w : WfT t) {g y : Int} (hg : ∃ n ∈ t.nodes,n.id = g) (hy : ∃ n ∈ t.nodes,n.id = y) :
  (Bl t g).countP (fun c => (upT t y).contains c) = if (upT t y).contains g && y != g then 1 else 0 := by
 obtain ⟨x,hx,rfl⟩ := hy
 obtain ⟨z,hz,rfl⟩ := hg
 rw [Aff (Tv w z.id)]
 ·congr 1
  apply propext
  rw [List.any_eq_true]
  simp only [Bool.and_eq_true,bne_iff_ne,List.contains_iff_mem]
  constructor
  ·rintro ⟨c,hc,hc2⟩
   obtain ⟨n,hn,hp,e⟩ := kids_iff.mp hc
   subst e
   have hg : z.id ∈ upT t n.id := by
    rw [w.up hn,hp]
    exact List.mem_cons_of_mem _ (Of w hz)
   refine ⟨Yr w hg x hx hc2,fun e => ?_⟩
   have h1 := up_le w x hx n.id hc2
   have h2 := w.par_lt hn
   omega
  ·rintro ⟨h1,h2⟩
   rcases Abx w x hx h1 with h | ⟨c,hc,hc2⟩
   ·exact absurd h h2
   ·exact ⟨c,hc,hc2⟩
 ·intro a ha b hb h1 h2
  obtain ⟨n,hn,hp,rfl⟩ := kids_iff.mp ha
  obtain ⟨m,hm,hq,rfl⟩ := kids_iff.mp hb
  exact up_one w hn hm hp hq x hx (by simpa using h1) (by simpa using h2)
theorem up_has {t : Aa} (w : WfT t) {g : Int} (hg : ∃ n ∈ t.nodes,n.id = g) : g ∈ upT t g := by
 obtain ⟨x,hx,rfl⟩ := hg
 exact Of w hx
theorem Acr {t : Aa} {x : Ac} (hx : x ∈ t.nodes) : Cd t x.id = true := hasN_iff.mpr ⟨x,hx,rfl⟩
end Go.Dm

/- Plain theory of protections, part 2: charges, settings, dice. -/
namespace Go.Dm
theorem Ki {α β σ : Type} {xs : List α} {f : σ → α → σ} {body : Nat → α → σ → (σ → Option β) → Option β} {done : σ → Option β}
  (hb : ∀ k x s n,x ∈ xs → body k x s n = n (f s x)) (s0 : σ) : Ay body done xs 0 s0 = done (xs.foldl f s0) := by
 have key : ∀ (ys : List α),(∀ x ∈ ys,x ∈ xs) → ∀ k s,Ay body done ys k s = done (ys.foldl f s) := by
  intro ys
  induction ys with
  | nil => intro _ k s; rfl
  | cons a r ih =>
   intro h k s
   rw [Ay,hb _ _ _ _ (h a (by simp)),ih (fun x hx => h x (by simp [hx])),List.foldl_cons]
 exact key xs (fun _ h => h) 0 s0
theorem Yv {α : Type} {f : α → Int} {l : List α} (hf : ∀ x ∈ l,0 ≤ f x ∧ f x ≤ 16777216) (hl : l.length ≤ 1000000) :
  l.foldl (fun s x => w64 (s + f x)) 0 = (l.map f).sum := by
 have key : ∀ (m : List α) (a : Int),(∀ x ∈ m,x ∈ l) → 0 ≤ a → a + 16777216 * (m.length : Int) ≤ 16777216000000 → m.foldl (fun s x => w64 (s + f x)) a = a + (m.map f).sum := by
  intro m
  induction m with
  | nil => intro a _ _ _; simp
  | cons b r ih =>
   intro a h h0 h1
   have hb := hf b (h b (by simp))
   simp only [List.length_cons] at h1
   rw [List.foldl_cons,Al (by omega) (by omega),ih _ (fun x hx => h x (by simp [hx])) (by omega) (by omega),List.map_cons,List.sum_cons]
   omega
 have := key l 0 (fun _ h => h) (by omega) (by omega)
 omega
theorem Acq {α : Type} [DecidableEq α] : ∀ {l m : List α},l.Nodup → m.Nodup → (∀ x,x ∈ l ↔ x ∈ m) → l.Perm m
 | [],m,_,_,h => by
  cases m with
  | nil => exact .nil
  | cons a r => exact absurd ((h a).mpr (by simp)) (by simp)
 | a :: r,m,hl,hm,h => by
  have ha : a ∈ m := (h a).mp (by simp)
  rw [List.nodup_cons] at hl
  refine List.Perm.trans (.cons a ?_) (List.perm_cons_erase ha).symm
  refine Acq hl.2 (hm.erase a) fun x => ?_
  rw [hm.mem_erase_iff]
  constructor
  ·intro hx
   exact ⟨fun e => hl.1 (e ▸ hx),(h x).mp (by simp [hx])⟩
  ·rintro ⟨h1,h2⟩
   rcases List.mem_cons.mp ((h x).mpr h2) with h3 | h3
   ·exact absurd h3 h1
   ·exact h3
theorem asc_eq {l m : List Int} (hl : l.Pairwise (· < ·)) (hm : m.Pairwise (· < ·)) (h : ∀ x,x ∈ l ↔ x ∈ m) : l = m := by
 induction l generalizing m with
 | nil =>
  cases m with
  | nil => rfl
  | cons a r => exact absurd ((h a).mpr (by simp)) (by simp)
 | cons a r ih =>
  cases m with
  | nil => exact absurd ((h a).mp (by simp)) (by simp)
  | cons b q =>
   rw [List.pairwise_cons] at hl hm
   have hab : a = b := by
    have h1 := (h a).mp (by simp)
    have h2 := (h b).mpr (by simp)
    rcases List.mem_cons.mp h1 with e | h1
    ·exact e
    rcases List.mem_cons.mp h2 with e | h2
    ·exact e.symm
    have := hl.1 b h2
    have := hm.1 a h1
    omega
   subst hab
   congr 1
   refine ih hl.2 hm.2 fun x => ⟨fun hx => ?_,fun hx => ?_⟩
   ·rcases List.mem_cons.mp ((h x).mp (by simp [hx])) with e | h
    ·have := hl.1 x hx
     omega
    ·exact h
   ·rcases List.mem_cons.mp ((h x).mpr (by simp [hx])) with e | h
    ·have := hm.1 x hx
     omega
    ·exact h
theorem Yw {α : Type} {key val : α → Int} {l : List α} (hn : l.Pairwise (fun a b => key a < key b)) (m : IMap Int) (k : Int) :
  (l.foldl (fun m x => m.set (key x) (val x)) m).get k = (l.find? (fun x => key x == k)).elim (m.get k) val := by
 induction l generalizing m with
 | nil => rfl
 | cons a r ih =>
  rw [List.pairwise_cons] at hn
  rw [List.foldl_cons,ih hn.2,List.find?_cons]
  by_cases e : key a = k
  ·have : r.find? (fun x => key x == k) = none := by
    rw [List.find?_eq_none]
    intro x hx
    have := hn.1 x hx
    simp
    omega
   simp [this,e,Jc]
  ·have e1 : (key a == k) = false := by simpa using e
   have e2 : ¬ k = key a := fun h => e h.symm
   rw [e1,Jc,if_neg e2]
def ownL (l : List Ah) (k : Int) : Int := (l.find? (fun x => x.group == k)).elim 0 (·.own)
structure CcOk (t : Aa) (l : List Ah) : Prop where
 srt : l.Pairwise (fun a b => a.group < b.group)
 has : ∀ x ∈ l,Cd t x.group = true
 pos : ∀ x ∈ l,1 ≤ x.own
 sum : (l.map (·.own)).sum ≤ 16777216
theorem AbA {α : Type} {key : α → Int} {t : Aa} {l : List α} (hs : l.Pairwise (fun a b => key a < key b)) (hh : ∀ x ∈ l,Cd t (key x) = true) : l.length ≤ t.nodes.length := by
 have hn : (l.map key).Nodup := by
  unfold List.Nodup
  rw [List.pairwise_map]
  exact hs.imp fun h => by omega
 have := Yu hn (m := t.nodes.map (·.id)) fun z hz => by
  obtain ⟨x,hx,rfl⟩ := List.mem_map.mp hz
  obtain ⟨n,h1,h2⟩ := hasN_iff.mp (hh x hx)
  exact List.mem_map.mpr ⟨n,h1,h2⟩
 simpa using this
theorem Ow {α : Type} {f : α → Int} {l : List α} (h : ∀ x ∈ l,0 ≤ f x) : 0 ≤ (l.map f).sum := by
 induction l with
 | nil => simp
 | cons a r ih =>
  have h1 := h a (by simp)
  have h2 := ih fun x hx => h x (by simp [hx])
  rw [List.map_cons,List.sum_cons]
  omega
theorem AeD {α : Type} {f : α → Int} {l : List α} (h : ∀ x ∈ l,0 ≤ f x) {a : α} (ha : a ∈ l) : f a ≤ (l.map f).sum := by
 induction l with
 | nil => simp at ha
 | cons b r ih =>
  rw [List.map_cons,List.sum_cons]
  have h1 := h b (by simp)
  have h2 := Ow fun x hx => h x (List.mem_cons_of_mem b hx)
  rcases List.mem_cons.mp ha with e | ha
  ·rw [e]
   omega
  ·have := ih (fun x hx => h x (by simp [hx])) ha
   omega
theorem CcOk.own {t : Aa} {l : List Ah} (h : CcOk t l) {x : Ah} (hx : x ∈ l) : 1 ≤ x.own ∧ x.own ≤ 16777216 := by
 have h1 := h.pos x hx
 have h2 := AeD (f := (·.own)) (fun y hy => by have := h.pos y hy; omega) hx
 have h3 := h.sum
 omega
theorem CcOk.ownL {t : Aa} {l : List Ah} (h : CcOk t l) (k : Int) : 0 ≤ ownL l k ∧ ownL l k ≤ 16777216 := by
 unfold Go.Dm.ownL
 cases e : l.find? (fun x => x.group == k) with
 | none => simp
 | some x =>
  have := h.own (List.mem_of_find?_eq_some e)
  rw [Option.elim_some]
  omega
theorem ownL_none {l : List Ah} {k : Int} (h : ∀ x ∈ l,x.group ≠ k) : ownL l k = 0 := by
 unfold ownL
 rw [List.find?_eq_none.mpr fun x hx => by simpa using h x hx]
 rfl
theorem CcOk.len {t : Aa} {l : List Ah} (h : CcOk t l) : l.length ≤ t.nodes.length := AbA h.srt h.has
theorem Uw {c : Ag} (h : c.charges.length ≤ 1000000) (k : Int) : Nt c k = some (ownL c.charges k) := by
 unfold Nt ownL
 rw [if_pos (by omega)]
 exact Yi (fun k x n => rfl) rfl
def uN (t : Aa) (l : List Ah) (k : Int) : Int := Bp (ownL l) ((t.nodes.map (·.id)).filter (fun i => (upT t i).contains k))
theorem Abf {t : Aa} (w : WfT t) {c : Ag} (h : CcOk t c.charges) (k : Int) : Pw t c k = some (uN t c.charges k) := by
 have l2 := w.len2
 have hl := h.len
 refine Ok.eq ?_
 unfold Pw
 refine Ok.bind (Wk w k) fun l hm => ?_
 have hll := Wf hm.1 fun x hx => (hm.2 x).mp hx
 refine Ok.guard (by omega) ?_
 rw [Ki (f := fun s x => w64 (s + ownL c.charges x)) fun j x s n _ => by
  unfold Ww
  rw [Uw (by omega),Option.bind_some]]
 refine Ok.ret ?_
 rw [Yv (fun x _ => h.ownL x) (by omega)]
 unfold uN
 refine sumF_perm ?_
 refine Acq hm.1 ((Zy w).sublist List.filter_sublist) fun x => ?_
 rw [hm.2,List.mem_filter]
 constructor
 ·intro hx
  obtain ⟨n,hn,e⟩ := Dv hx
  exact ⟨List.mem_map.mpr ⟨n,hn,e⟩,by simpa using hx⟩
 ·rintro ⟨_,hx⟩
  simpa using hx
theorem Xf (f : Int → Int) (p : Int → Bool) (l : List Int) : Bp f (l.filter p) = Bp (fun i => if p i then f i else 0) l := by
 induction l with
 | nil => rfl
 | cons a r ih =>
  rw [List.filter_cons,Cn]
  cases hp : p a
  ·simp [ih]
  ·simp [ih,Cn]
theorem AeB {p : Int → Int → Bool} (f : Int → Int) (ks l : List Int) : Bp (fun c => Bp f (l.filter (p c))) ks = Bp (fun i => f i * (ks.countP (fun c => p c i) : Nat)) l := by
 induction ks with
 | nil =>
  rw [AbH]
  symm
  have : Bp (fun i => f i * ((([] : List Int).countP (fun c => p c i) : Nat) : Int)) l = Bp (fun _ => 0) l := Qf fun x _ => by simp
  rw [this]
  induction l with
  | nil => rfl
  | cons a r ih => rw [Cn,ih (Qf fun x _ => by simp)]; rfl
 | cons a r ih =>
  rw [Cn,ih,Xf]
  clear ih
  induction l with
  | nil => rfl
  | cons b q ih =>
   simp only [Cn]
   rw [← ih,List.countP_cons]
   cases hp : p a b
   ·simp
    omega
   ·simp [Int.mul_add]
    omega
theorem sumF_at {f : Int → Int} {l : List Int} (hn : l.Nodup) {k : Int} (hk : k ∈ l) : Bp (fun i => if i = k then f i else 0) l = f k := by
 have := sumF_one (f := fun _ => 0) (g := fun i => if i = k then f i else 0) hn hk fun x _ hx => by simp [hx]
 rw [this]
 have h0 : ∀ l : List Int,Bp (fun _ => 0) l = 0 := by
  intro l
  induction l with
  | nil => rfl
  | cons a r ih => rw [Cn,ih]; rfl
 rw [h0]
 simp
theorem AdQ (f g : Int → Int) (l : List Int) : Bp (fun i => f i + g i) l = Bp f l + Bp g l := by
 induction l with
 | nil => rfl
 | cons a r ih => simp only [Cn,ih]; omega
theorem uN_kids {t : Aa} (w : WfT t) (l : List Ah) {g : Int} (hg : ∃ n ∈ t.nodes,n.id = g) : uN t l g = ownL l g + Bp (uN t l) (Bl t g) := by
 unfold uN
 rw [AeB (p := fun k i => (upT t i).contains k),Xf]
 have hgm : g ∈ t.nodes.map (·.id) := by
  obtain ⟨n,hn,e⟩ := hg
  exact List.mem_map.mpr ⟨n,hn,e⟩
 have := sumF_at (f := ownL l) (Zy w) hgm
 rw [← this,← AdQ]
 refine Qf fun x hx => ?_
 have hx' : ∃ n ∈ t.nodes,n.id = x := by
  obtain ⟨n,hn,e⟩ := List.mem_map.mp hx
  exact ⟨n,hn,e⟩
 rw [AeL w hg hx']
 by_cases e : x = g
 ·subst e
  have hc : x ∈ upT t x := up_has w hg
  simp [hc]
 ·by_cases hc : g ∈ upT t x
  ·simp [hc,e]
  ·simp [hc,e]
theorem Vt {t : Aa} {l : List Ah} (h : CcOk t l) (k : Int) : 0 ≤ uN t l k := Pc fun x _ => (h.ownL x).1
theorem uN_le {t : Aa} (w : WfT t) {l : List Ah} (h : CcOk t l) (k : Int) : uN t l k ≤ 16777216 := by
 have h1 : uN t l k ≤ Bp (ownL l) (t.nodes.map (·.id)) := by
  unfold uN
  rw [Xf]
  refine sumF_le fun x _ => ?_
  have := (h.ownL x).1
  split <;> omega
 have h2 : ∀ (m : List Ah),(∀ x ∈ m,0 ≤ x.own) → Bp (ownL m) (t.nodes.map (·.id)) ≤ (m.map (·.own)).sum := by
  intro m
  induction m with
  | nil =>
   intro _
   have : Bp (ownL []) (t.nodes.map (·.id)) = Bp (fun _ => 0) (t.nodes.map (·.id)) := rfl
   rw [this]
   generalize t.nodes.map (·.id) = L
   induction L with
   | nil => simp [Bp]
   | cons a r ih => rw [Cn]; simpa using ih
  | cons a r ih =>
   intro hm
   have ih := ih fun x hx => hm x (by simp [hx])
   rw [List.map_cons,List.sum_cons]
   have ha := hm a (by simp)
   have hr : ∀ i,0 ≤ ownL r i := fun i => by
    unfold ownL
    cases e : r.find? (fun x => x.group == i) with
    | none => simp
    | some x => exact hm x (by simp [List.mem_of_find?_eq_some e])
   have e1 : Bp (ownL (a :: r)) (t.nodes.map (·.id)) ≤ Bp (fun i => (if i = a.group then a.own else 0) + ownL r i) (t.nodes.map (·.id)) := by
    refine sumF_le fun i _ => ?_
    have := hr i
    by_cases e : i = a.group
    ·subst e
     rw [if_pos rfl]
     unfold ownL at this ⊢
     rw [List.find?_cons]
     simp only [beq_self_eq_true,Option.elim_some]
     omega
    ·have e' : (a.group == i) = false := by simpa using fun h => e h.symm
     rw [if_neg e]
     unfold ownL
     rw [List.find?_cons,e']
     simp
   rw [AdQ] at e1
   by_cases hin : a.group ∈ t.nodes.map (·.id)
   ·have := sumF_at (f := fun _ => a.own) (Zy w) hin
    omega
   ·have : Bp (fun i => if i = a.group then a.own else 0) (t.nodes.map (·.id)) = Bp (fun _ => 0) (t.nodes.map (·.id)) := Qf fun x hx => by
     have : ¬ x = a.group := fun e => hin (e ▸ hx)
     rw [if_neg this]
    have h0 : ∀ L : List Int,Bp (fun _ => 0) L = 0 := by
     intro L
     induction L with
     | nil => rfl
     | cons a r ih => rw [Cn,ih]; rfl
    rw [h0] at this
    omega
 have h3 := h2 l fun x hx => by have := h.pos x hx; omega
 have := h.sum
 omega
end Go.Dm

/- Plain theory of protections, part 3: what is valid. -/
namespace Go.Dm
theorem Up {t : Aa} {k : Int} (hl : t.nodes.length ≤ 1000000) (h : Cd t k = true) : Ok (Fj t k) (fun r => r.2 = true ∧ r.1 ∈ t.nodes ∧ r.1.id = k ∧ Ml t k = some r.1) := by
 rw [Oa t k hl]
 unfold Cd at h
 cases e : Ml t k with
 | none => simp [e] at h
 | some x => exact Ok.ret ⟨rfl,(Zv e).1,(Zv e).2,rfl⟩
theorem Vz {t : Aa} (w : WfT t) {c : Ag} (h : CcOk t c.charges) : Gh t c = some true := by
 have l2 := w.len2
 have hl := h.len
 refine Ok.eq ?_
 unfold Gh
 rw [Qu w,Option.bind_some,if_neg (by simp)]
 refine Ok.guard (by omega) ?_
 refine Ok.range (fun pre s => s = (pre.map (·.own)).sum) rfl ?_ fun s _ => Ok.ret rfl
 intro pre x post s n he hs hn
 have hx : x ∈ c.charges := by rw [he]; simp
 have ho := h.own hx
 have hsum : s + x.own ≤ 16777216 ∧ 0 ≤ s := by
  have h1 := h.sum
  rw [he,List.map_append,List.map_cons,List.sum_append,List.sum_cons] at h1
  have h2 := Ow (f := (·.own)) (l := post) fun y hy => by have := h.pos y (by rw [he]; simp [hy]); omega
  have h3 := Ow (f := (·.own)) (l := pre) fun y hy => by have := h.pos y (by rw [he]; simp [hy]); omega
  omega
 have hfin : Ok (Bu x s n false) (· = true) := by
  unfold Bu
  rw [if_neg (by simp),Al (by omega) (by omega)]
  refine hn _ ?_
  rw [List.map_append,List.sum_append,← hs]
  simp
 have hlast : (if (decide (x.own < 1)) then ((Bu x s n) true) else ((Bu x s n) (decide (x.own > (w64 (16777216 - s)))))) = Bu x s n false := by
  rw [Al (by omega) (by omega),if_neg (by simp; omega),decide_eq_false (by omega)]
 unfold Mu
 refine Ok.bind (Up (by omega) (h.has x hx)) fun r hr => ?_
 rw [if_neg (by simp [hr.1])]
 rcases Ej pre with rfl | ⟨P,y,rfl⟩
 ·rw [if_neg (by simp),hlast]
  exact hfin
 ·have e1 : w64 (((((P ++ [y]).length : Nat) : Int)) - 1) = (P.length : Int) := by
   have := congrArg List.length he
   simp at this
   rw [Al (by simp <;> omega) (by simp <;> omega)]
   simp
  have e2 : c.charges.getD (Int.toNat (P.length : Int)) default = y := by
   rw [he]
   exact Lw
  have e3 : y.group < x.group := by
   have := h.srt
   rw [he,List.pairwise_append] at this
   exact this.2.2 y (by simp) x (by simp)
  rw [if_pos (by simp <;> omega),e1,e2]
  refine Ok.guard ⟨by omega,?_⟩ ?_
  ·have := congrArg List.length he
   simp at this
   omega
  rw [if_neg (by simp; omega),hlast]
  exact hfin
theorem Acm {t : Aa} (w : WfT t) {l : List Ah} (h : CcOk t l) : Ir t l 1 = some true := by
 have l2 := w.len2
 have hl := h.len
 refine Ok.eq ?_
 unfold Ir
 refine Ok.guard (by omega) ?_
 refine Ok.range (fun pre s => True) trivial ?_ fun s _ => Ok.ret rfl
 intro pre x post s n he hs hn
 have hx : x ∈ l := by rw [he]; simp
 have ho := h.own hx
 have hlast : (if (decide (x.own < 1)) then ((Cp n) true) else ((Cp n) (decide (x.own > 16777216)))) = n () := by
  rw [if_neg (by simp; omega),decide_eq_false (by omega)]
  rfl
 unfold Mz
 rw [Fe w,Option.bind_some,h.has x hx,if_neg (by simp)]
 rcases Ej pre with rfl | ⟨P,y,rfl⟩
 ·rw [if_neg (by simp),hlast]
  exact hn _ trivial
 ·have e1 : w64 (((((P ++ [y]).length : Nat) : Int)) - 1) = (P.length : Int) := by
   have := congrArg List.length he
   simp at this
   rw [Al (by simp <;> omega) (by simp <;> omega)]
   simp
  have e2 : l.getD (Int.toNat (P.length : Int)) default = y := by
   rw [he]
   exact Lw
  have e3 : y.group < x.group := by
   have := h.srt
   rw [he,List.pairwise_append] at this
   exact this.2.2 y (by simp) x (by simp)
  rw [if_pos (by simp <;> omega),e1,e2]
  refine Ok.guard ⟨by omega,?_⟩ ?_
  ·have := congrArg List.length he
   simp at this
   omega
  rw [if_neg (by simp; omega),hlast]
  exact hn _ trivial
theorem Ado {t : Aa} (w : WfT t) {c : Ag} (h : CcOk t c.charges) : Hy t c = some true := by
 have l2 := w.len2
 have hl := h.len
 unfold Hy
 rw [Kv w,Option.bind_some,if_neg (by simp),Acm w h,Option.bind_some]
 unfold Iq
 rw [if_neg (by simp),if_pos (by omega),Ki (f := fun s x => w64 (s + x.own)) (body := Pg) fun k x s n _ => rfl]
 rw [Yv (f := fun x : Ah => x.own) (fun x hx => by have := h.own hx; omega) (by omega)]
 unfold Ta
 rw [decide_eq_true h.sum]
structure PrOk (t : Aa) (l : List Protection) : Prop where
 srt : l.Pairwise (fun a b => a.group < b.group)
 has : ∀ x ∈ l,Cd t x.group = true
 mn : ∀ x ∈ l,0 ≤ x.min ∧ x.min ≤ 4611686018427387904
 lw : ∀ x ∈ l,0 ≤ x.low ∧ x.low ≤ 4611686018427387904
theorem PrOk.len {t : Aa} {l : List Protection} (h : PrOk t l) : l.length ≤ t.nodes.length := AbA h.srt h.has
theorem Vo {t : Aa} (w : WfT t) {l : List Protection} (h : PrOk t l) : Em t l = some true := by
 have l2 := w.len2
 have hl := h.len
 refine Ok.eq ?_
 unfold Em
 rw [Qu w,Option.bind_some,if_neg (by simp)]
 refine Ok.guard (by omega) ?_
 refine Ok.range (fun pre s => True) trivial ?_ fun s _ => Ok.ret rfl
 intro pre x post s n he hs hn
 have hx : x ∈ l := by rw [he]; simp
 have h1 := h.mn x hx
 have h2 := h.lw x hx
 have hlast : (if (decide (x.min < 0)) then ((Be n) true) else (if (decide (x.min > 4611686018427387904)) then ((Be n) true) else (if (decide (x.low < 0)) then ((Be n) true) else ((Be n) (decide (x.low > 4611686018427387904)))))) = n () := by
  rw [if_neg (by simp; omega),if_neg (by simp; omega),if_neg (by simp; omega),decide_eq_false (by omega)]
  rfl
 unfold Nc
 refine Ok.bind (Up (by omega) (h.has x hx)) fun r hr => ?_
 rw [if_neg (by simp [hr.1])]
 rcases Ej pre with rfl | ⟨P,y,rfl⟩
 ·rw [if_neg (by simp),hlast]
  exact hn _ trivial
 ·have e1 : w64 (((((P ++ [y]).length : Nat) : Int)) - 1) = (P.length : Int) := by
   have := congrArg List.length he
   simp at this
   rw [Al (by simp <;> omega) (by simp <;> omega)]
   simp
  have e2 : l.getD (Int.toNat (P.length : Int)) default = y := by
   rw [he]
   exact Lw
  have e3 : y.group < x.group := by
   have := h.srt
   rw [he,List.pairwise_append] at this
   exact this.2.2 y (by simp) x (by simp)
  rw [if_pos (by simp <;> omega),e1,e2]
  refine Ok.guard ⟨by omega,?_⟩ ?_
  ·have := congrArg List.length he
   simp at this
   omega
  rw [if_neg (by simp; omega),hlast]
  exact hn _ trivial
theorem Rg {d : Ao} (hd : Dx d) {l : List Int} (h1 : 1 ≤ l.length) (h2 : l.length ≤ 1000) : Ok (Ep d l) (fun r => Dx r.2 ∧ r.1 ∈ l) := by
 unfold Ep
 refine Ok.bind (Lo hd _ (by omega) (by omega)) fun r hr => ?_
 refine Ok.guard ⟨hr.2.1,hr.2.2⟩ (Ok.ret ⟨hr.1,?_⟩)
 exact Rq (by omega)
structure CMade (pre : List Ac) (l : List Ah) : Prop where
 srt : l.Pairwise (fun a b => a.group < b.group)
 mem : ∀ x ∈ l,x.group ∈ pre.map (·.id)
 own : ∀ x ∈ l,1 ≤ x.own ∧ x.own ≤ 1000
 len : l.length ≤ pre.length
theorem CMade.ok {t : Aa} (w : WfT t) {pre post : List Ac} (he : t.nodes = pre ++ post) {l : List Ah} (m : CMade pre l) : CcOk t l := by
 refine ⟨m.srt,fun x hx => ?_,fun x hx => (m.own x hx).1,?_⟩
 ·obtain ⟨n,hn,e⟩ := List.mem_map.mp (m.mem x hx)
  exact hasN_iff.mpr ⟨n,by rw [he]; simp [hn],e⟩
 ·have : ∀ k : List Ah,(∀ x ∈ k,x.own ≤ 1000) → (k.map (·.own)).sum ≤ 1000 * (k.length : Int) := by
   intro k
   induction k with
   | nil => intro _; simp
   | cons a r ih =>
    intro hk
    have h1 := hk a (by simp)
    have h2 := ih fun x hx => hk x (by simp [hx])
    rw [List.map_cons,List.sum_cons,List.length_cons]
    omega
  have h1 := this l fun x hx => (m.own x hx).2
  have h2 := m.len
  have h3 := w.len2
  rw [he,List.length_append] at h3
  omega
theorem put_new {l : List Ah} {k n : Int} (h : ∀ x ∈ l,x.group < k) (hl : l.length ≤ 1000000) : Si { charges := l } k n = some { charges := if n = 0 then l else l ++ [{ group := k,own := n }] } := by
 refine Ok.eq ?_
 unfold Si
 refine Ok.guard (by simp only; omega) ?_
 refine Ok.range (fun pre s => s = (pre,n == 0)) rfl ?_ ?_
 ·rintro pre x post s nx he rfl hn
  have hx : x ∈ l := by simp only at he; rw [he]; simp
  have := h x hx
  have hlen := congrArg List.length he
  simp at hlen
  unfold Wx
  rw [if_neg (by simp; omega)]
  unfold Oz
  rw [if_pos (by simp; omega)]
  refine Ok.guard (by simp only; omega) ?_
  unfold Pb
  exact hn _ rfl
 ·rintro s rfl
  unfold Xb Pd
  simp only
  by_cases e : n = 0
  ·subst e
   simp only [beq_self_eq_true,Bool.not_true,Bool.false_eq_true,if_false,if_true]
   exact Ok.ret rfl
  ·have : (n == 0) = false := by simpa using e
   simp only [this,Bool.not_false,if_true,e,if_false]
   exact Ok.guard (by omega) (Ok.ret rfl)
theorem AeH {d : Ao} (hd : Dx d) {t : Aa} (w : WfT t) : Ok (Iv d t) (fun r => CcOk t r.1.charges ∧ Dx r.2) := by
 have l2 := w.len2
 unfold Iv
 refine Ok.guard (by omega) ?_
 refine Ok.range (fun pre s => CMade pre s.2.charges ∧ Dx s.1) ⟨⟨by simp,by simp,by simp,by simp⟩,hd⟩ ?_ ?_
 ·rintro pre x post ⟨d',c⟩ n he ⟨m,hd'⟩ hn
  simp only at m hd'
  have ck := m.ok w (post := x :: post) he
  have hcl := ck.len
  have hx : x ∈ t.nodes := by rw [he]; simp
  have hnew : ∀ y ∈ c.charges,y.group < x.id := by
   intro y hy
   obtain ⟨z,hz,e⟩ := List.mem_map.mp (m.mem y hy)
   have := w.sorted
   rw [he,List.pairwise_append] at this
   have := this.2.2 z hz x (by simp)
   omega
  have keep : CMade (pre ++ [x]) c.charges := ⟨m.srt,fun y hy => by
   have := m.mem y hy
   rw [List.map_append]
   simp only [List.mem_append]
   exact .inl this,m.own,by have := m.len; simp; omega⟩
  unfold Mj
  refine Ok.bind (Rg hd' (by simp) (by simp)) fun r hr => ?_
  obtain ⟨v,d''⟩ := r
  simp only at hr ⊢
  have hv : 0 ≤ v ∧ v ≤ 1000 := by
   have := hr.2
   simp only [List.mem_cons,List.not_mem_nil,or_false] at this
   omega
  have hadd : Ok (Se t c x.id v) (fun r => r.2 ≠ 0 ∨ CMade (pre ++ [x]) r.1.charges) := by
   unfold Se
   rw [Ado w ck,Option.bind_some,if_neg (by simp),Fe w,Option.bind_some,Acr hx,if_neg (by simp),if_neg (by simp; omega),if_neg (by simp; omega),Uw (by omega),Option.bind_some]
   have e0 : ownL c.charges x.id = 0 := ownL_none fun y hy => by have := hnew y hy; omega
   rw [e0,show (0 : Int) + v = v by omega,Al (by omega) (by omega),decide_eq_false (by omega)]
   unfold Md
   rw [if_neg (by simp),Abf w ck,Option.bind_some]
   refine Ok.ite (fun _ => Ok.ret (.inl (by simp))) fun _ => ?_
   rw [Uw (by omega),Option.bind_some,e0,show (0 : Int) + v = v by omega,Al (by omega) (by omega)]
   obtain ⟨cl⟩ := c
   have hcl' : cl.length ≤ 1000000 := by
    simp only at hcl
    omega
   rw [put_new hnew hcl',Option.bind_some]
   refine Ok.ret (.inr ?_)
   simp only
   by_cases e : v = 0
   ·rw [if_pos e]
    exact keep
   ·rw [if_neg e]
    refine ⟨?_,?_,?_,?_⟩
    ·rw [List.pairwise_append]
     exact ⟨m.srt,by simp,fun a ha b hb => by
      obtain rfl : b = { group := x.id,own := v } := by simpa using hb
      exact hnew a ha⟩
    ·intro y hy
     rcases List.mem_append.mp hy with hy | hy
     ·exact keep.mem y hy
     ·obtain rfl : y = { group := x.id,own := v } := by simpa using hy
      simp
    ·intro y hy
     rcases List.mem_append.mp hy with hy | hy
     ·exact keep.own y hy
     ·obtain rfl : y = { group := x.id,own := v } := by simpa using hy
      simp only
      omega
    ·have := m.len
     simp only at this
     simp
     omega
  refine Ok.bind hadd fun r ha => ?_
  unfold Hp
  refine Ok.ite (fun c1 => hn _ ⟨?_,hr.1⟩) fun c1 => hn _ ⟨keep,hr.1⟩
  rcases ha with h | h
  ·exact absurd (by simpa using c1) h
  ·exact h
 ·rintro ⟨d',c⟩ ⟨m,hd'⟩
  exact Ok.ret ⟨m.ok w (post := []) (by simp),hd'⟩
structure PMade (pre : List Ac) (l : List Protection) : Prop where
 srt : l.Pairwise (fun a b => a.group < b.group)
 mem : ∀ x ∈ l,x.group ∈ pre.map (·.id)
 mn : ∀ x ∈ l,0 ≤ x.min ∧ x.min ≤ 4611686018427387904
 lw : ∀ x ∈ l,0 ≤ x.low ∧ x.low ≤ 4611686018427387904
theorem PMade.ok {t : Aa} {l : List Protection} (m : PMade t.nodes l) : PrOk t l :=
 ⟨m.srt,fun x hx => by
  obtain ⟨n,hn,e⟩ := List.mem_map.mp (m.mem x hx)
  exact hasN_iff.mpr ⟨n,hn,e⟩,m.mn,m.lw⟩
theorem PMade.keep {pre : List Ac} {x : Ac} {l : List Protection} (m : PMade pre l) : PMade (pre ++ [x]) l :=
 ⟨m.srt,fun y hy => by
  have := m.mem y hy
  rw [List.map_append]
  simp only [List.mem_append]
  exact .inl this,m.mn,m.lw⟩
theorem PMade.snoc {t : Aa} (w : WfT t) {pre post : List Ac} {x : Ac} (he : t.nodes = pre ++ x :: post) {l : List Protection} (m : PMade pre l) {a b : Int} (ha : 0 ≤ a ∧ a ≤ 4611686018427387904) (hb : 0 ≤ b ∧ b ≤ 4611686018427387904) :
  PMade (pre ++ [x]) (l ++ [{ group := x.id,min := a,low := b }]) := by
 have k := m.keep (x := x)
 refine ⟨?_,?_,?_,?_⟩
 ·rw [List.pairwise_append]
  refine ⟨m.srt,by simp,fun y hy z hz => ?_⟩
  obtain rfl : z = { group := x.id,min := a,low := b } := by simpa using hz
  obtain ⟨q,hq,e⟩ := List.mem_map.mp (m.mem y hy)
  have := w.sorted
  rw [he,List.pairwise_append] at this
  have := this.2.2 q hq x (by simp)
  simp only
  omega
 ·intro y hy
  rcases List.mem_append.mp hy with hy | hy
  ·exact k.mem y hy
  ·obtain rfl : y = { group := x.id,min := a,low := b } := by simpa using hy
   simp
 ·intro y hy
  rcases List.mem_append.mp hy with hy | hy
  ·exact k.mn y hy
  ·obtain rfl : y = { group := x.id,min := a,low := b } := by simpa using hy
   exact ha
 ·intro y hy
  rcases List.mem_append.mp hy with hy | hy
  ·exact k.lw y hy
  ·obtain rfl : y = { group := x.id,min := a,low := b } := by simpa using hy
   exact hb
theorem AcE {d : Ao} (hd : Dx d) {t : Aa} (w : WfT t) : Ok (Gs d t) (fun r => PrOk t r.1 ∧ Dx r.2) := by
 have l2 := w.len2
 unfold Gs
 refine Ok.guard (by omega) ?_
 refine Ok.range (fun pre s => (PMade pre s.2 ∧ s.2.length ≤ pre.length) ∧ Dx s.1) ⟨⟨⟨by simp,by simp,by simp,by simp⟩,by simp⟩,hd⟩ ?_ ?_
 ·rintro pre x post ⟨d',l⟩ n he ⟨⟨m,hlp⟩,hd'⟩ hn
  simp only at m hd' hlp
  have hlen := congrArg List.length he
  simp at hlen
  unfold Jy
  refine Ok.bind (AaD hd' 3 (by omega)) fun r hr => ?_
  unfold Fy
  refine Ok.ite (fun _ => ?_) fun _ => hn _ ⟨⟨m.keep,by simp; omega⟩,hr.1⟩
  refine Ok.bind (Rg hr.1 (by simp) (by simp)) fun a ha => ?_
  refine Ok.bind (Rg ha.1 (by simp) (by simp)) fun b hb => ?_
  refine Ok.guard (by simp only; omega) ?_
  refine hn _ ⟨⟨m.snoc w he ?_ ?_,by simp; omega⟩,hb.1⟩
  ·have := ha.2
   simp only [List.mem_cons,List.not_mem_nil,or_false] at this
   omega
  ·have := hb.2
   simp only [List.mem_cons,List.not_mem_nil,or_false] at this
   omega
 ·rintro ⟨d',l⟩ ⟨m,hd'⟩
  exact Ok.ret ⟨m.1.ok,hd'⟩
end Go.Dm

/- Plain theory of protections, part 4: usages, settings, shares and floors. -/
namespace Go.Dm
theorem Xe {f : Int → Int} {l : List Int} {b : Int} (h : ∀ x ∈ l,f x ≤ b) : Bp f l ≤ b * (l.length : Int) := by
 induction l with
 | nil => simp [Bp]
 | cons a r ih =>
  have h1 := h a (by simp)
  have h2 := ih fun x hx => h x (by simp [hx])
  rw [Cn,List.length_cons]
  have : b * ((r.length + 1 : Nat) : Int) = b * (r.length : Int) + b := by
   rw [Int.natCast_add,Int.mul_add]
   simp
  omega
theorem Aci {t : Aa} (w : WfT t) {c : Ag} (h : CcOk t c.charges) : Ok (Ns t c) (fun m => ∀ x ∈ t.nodes,m.get x.id = uN t c.charges x.id) := by
 have l2 := w.len2
 have hl := h.len
 unfold Ns
 refine Ok.guard (by omega) ?_
 rw [Ki (f := fun (m : IMap Int) (x : Ah) => m.set x.group x.own) (body := Rs) fun k x s n _ => rfl]
 unfold Rj
 have hm0 : ∀ k,(c.charges.foldl (fun (m : IMap Int) (x : Ah) => m.set x.group x.own) (IMap.empty 0)).get k = ownL c.charges k := fun k => by
  rw [Yw (key := fun x : Ah => x.group) (val := fun x : Ah => x.own) h.srt]
  rfl
 generalize c.charges.foldl (fun (m : IMap Int) (x : Ah) => m.set x.group x.own) (IMap.empty 0) = m0 at hm0
 let I : IMap Int × Int → Prop := fun s => ∃ A x B,t.nodes = A ++ x :: B ∧ s.2 = (A.length : Int) ∧ ∀ k,s.1.get k = ownL c.charges k + Bp (uN t c.charges) ((B.filter (fun y => y.parent == k)).map (·.id))
 have hw : w64 (((t.nodes.length : Nat) : Int) - 1) = ((t.nodes.length : Nat) : Int) - 1 := Al (by omega) (by omega)
 rw [hw]
 have hpos := w.len1
 refine Ok.while I (fun s => s.2.toNat) ?_ (by rw [Dh]; simp only; omega) ?_
 ·rcases Ej t.nodes with e | ⟨A,x,e⟩
  ·rw [e] at hpos
   simp at hpos
  ·refine ⟨A,x,[],e,by simp [e],fun k => ?_⟩
   rw [hm0]
   simp [Bp]
 rintro ⟨m,i⟩ n ⟨A,x,B,he,hi,hm⟩ hn
 simp only at hi hm
 subst hi
 have hlen := congrArg List.length he
 simp at hlen
 have hx : x ∈ t.nodes := by rw [he]; simp
 have hkid : ∀ y ∈ A ++ [x],y.parent < x.id := by
  intro y hy
  have hy' : y ∈ t.nodes := by
   rw [he]
   simp at hy ⊢
   rcases hy with h | h <;> simp [h]
  have h1 := w.par_lt hy'
  have h2 := w.sorted
  rw [he,List.pairwise_append] at h2
  simp at hy
  rcases hy with h | rfl
  ·have := h2.2.2 y h x (by simp)
   omega
  ·exact h1
 have hux : m.get x.id = uN t c.charges x.id := by
  rw [hm,uN_kids w _ ⟨x,hx,rfl⟩]
  congr 2
  unfold Bl
  have : t.nodes = (A ++ [x]) ++ B := by rw [he]; simp
  rw [this,List.filter_append]
  have : (A ++ [x]).filter (fun y => y.parent == x.id) = [] := by
   rw [List.filter_eq_nil_iff]
   intro y hy
   have := hkid y hy
   simp
   omega
  rw [this,List.nil_append]
 unfold Rf
 simp only
 rcases Ej A with rfl | ⟨P,y,rfl⟩
 ·rw [if_neg (by simp)]
  refine Ok.ret fun z hz => ?_
  rw [hm,uN_kids w _ ⟨z,hz,rfl⟩]
  congr 2
  unfold Bl
  rw [he,List.nil_append,List.filter_cons]
  have h1 := hkid x (by simp)
  have h0 : ¬ x.parent = z.id := by
   obtain ⟨r,q,e,hr⟩ := w.root
   rw [he] at e
   simp at e
   have := hr.parent
   have := w.id_pos hz
   rw [e.1]
   omega
  have h0' : (x.parent == z.id) = false := by simpa using h0
  rw [h0']
  rfl
 ·have hgx : t.nodes.getD (Int.toNat (((P ++ [y]).length : Nat) : Int)) (default : Ac) = x := by
   rw [he]
   exact Ys
  rw [if_pos (by simp <;> omega),hgx]
  refine Ok.guard ⟨by omega,by rw [he]; simp <;> omega⟩ (Ok.guard ⟨by omega,by rw [he]; simp <;> omega⟩ ?_)
  have hb1 : 0 ≤ m.get x.parent ∧ m.get x.parent ≤ 16777216 * 65 := by
   rw [hm]
   have h1 := h.ownL x.parent
   have h2 := Pc (f := uN t c.charges) (l := (B.filter (fun y => y.parent == x.parent)).map (·.id)) fun z _ => Vt h z
   have h3 := Xe (f := uN t c.charges) (l := (B.filter (fun y => y.parent == x.parent)).map (·.id)) (b := 16777216) fun z _ => uN_le w h z
   have h4 : ((B.filter (fun y => y.parent == x.parent)).map (·.id)).length ≤ 64 := by
    rw [List.length_map]
    have := List.length_filter_le (fun y : Ac => y.parent == x.parent) B
    omega
   omega
  have hb2 := Vt h x.id
  have hb3 := uN_le w h x.id
  rw [hux,Al (n := m.get x.parent + uN t c.charges x.id) (by omega) (by omega),Al (n := (((P ++ [y]).length : Nat) : Int) - 1) (by omega) (by omega)]
  refine hn _ ⟨P,y,x :: B,by simpa using he,by simp,fun k => ?_⟩ (by simp)
  simp only
  rw [Jc,List.filter_cons]
  by_cases e : k = x.parent
  ·subst e
   rw [if_pos rfl,hm]
   simp [Cn]
   omega
  ·have e' : (x.parent == k) = false := by simpa using fun h => e h.symm
   rw [if_neg e,e',hm]
   simp
theorem uN_none {t : Aa} (w : WfT t) (l : List Ah) {k : Int} (h : Cd t k = false) : uN t l k = 0 := by
 unfold uN
 have : (t.nodes.map (·.id)).filter (fun i => (upT t i).contains k) = [] := by
  rw [List.filter_eq_nil_iff]
  intro i hi hk
  obtain ⟨n,hn,rfl⟩ := List.mem_map.mp hi
  obtain ⟨m,hm,e⟩ := Xq w n hn k (by simpa using hk)
  rw [hasN_iff.mpr ⟨m,hm,e⟩] at h
  simp at h
 rw [this]
 rfl
theorem AaX {t : Aa} (w : WfT t) {c : Ag} (h : CcOk t c.charges) : Ok (Kz t c) (fun r => r.1.length ≤ 64 ∧ ∀ k,(r.1.foldl (fun (m : IMap Int) (x : Ah) => m.set x.group x.own) (IMap.empty 0)).get k = uN t c.charges k) := by
 have l2 := w.len2
 unfold Kz
 rw [Vz w h,Option.bind_some,if_neg (by simp)]
 refine Ok.bind (Aci w h) fun m hm => ?_
 refine Ok.guard (by omega) ?_
 rw [Lu (body := Lr m) (done := Pt) (p := fun x : Ac => decide (m.get x.id > 0)) (f := fun x : Ac => ({ group := x.id,own := m.get x.id } : Ah)) (r := fun s => some (s,0)) (fun k x s n hs => by
  unfold Lr Jo
  rw [if_pos hs]) (fun s => rfl) (by simp; omega)]
 refine Ok.ret ⟨?_,fun k => ?_⟩
 ·simp only [List.nil_append,List.length_map]
  have := List.length_filter_le (fun x : Ac => decide (m.get x.id > 0)) t.nodes
  omega
 ·simp only [List.nil_append]
  have hs : ((t.nodes.filter (fun x : Ac => decide (m.get x.id > 0))).map (fun x : Ac => ({ group := x.id,own := m.get x.id } : Ah))).Pairwise (fun a b => a.group < b.group) := by
   rw [List.pairwise_map]
   exact w.sorted.sublist List.filter_sublist
  rw [Yw (key := fun x : Ah => x.group) (val := fun x : Ah => x.own) hs]
  by_cases hk : Cd t k = true
  ·obtain ⟨x,hx,rfl⟩ := hasN_iff.mp hk
   have hu := hm x hx
   by_cases hp : m.get x.id > 0
   ·have hmem : ({ group := x.id,own := m.get x.id } : Ah) ∈ (t.nodes.filter (fun x : Ac => decide (m.get x.id > 0))).map (fun x : Ac => ({ group := x.id,own := m.get x.id } : Ah)) :=
     List.mem_map.mpr ⟨x,List.mem_filter.mpr ⟨hx,by simpa using hp⟩,rfl⟩
    cases e : ((t.nodes.filter (fun x : Ac => decide (m.get x.id > 0))).map (fun x : Ac => ({ group := x.id,own := m.get x.id } : Ah))).find? (fun y => y.group == x.id) with
    | none =>
     have := List.find?_eq_none.mp e _ hmem
     simp at this
    | some z =>
     have h1 := List.find?_some e
     have h2 := List.mem_of_find?_eq_some e
     obtain ⟨q,_,rfl⟩ := List.mem_map.mp h2
     simp only [beq_iff_eq] at h1
     rw [Option.elim_some]
     simp only
     rw [h1,hu]
   ·have : ((t.nodes.filter (fun x : Ac => decide (m.get x.id > 0))).map (fun x : Ac => ({ group := x.id,own := m.get x.id } : Ah))).find? (fun y => y.group == x.id) = none := by
     rw [List.find?_eq_none]
     intro z hz e
     obtain ⟨q,hq,rfl⟩ := List.mem_map.mp hz
     have hq2 := (List.mem_filter.mp hq).2
     simp only [beq_iff_eq] at e
     rw [e] at hq2
     simp at hq2
     omega
    rw [this]
    have := Vt h x.id
    show (0 : Int) = _
    omega
  ·have hk' : Cd t k = false := by simpa using hk
   have : ((t.nodes.filter (fun x : Ac => decide (m.get x.id > 0))).map (fun x : Ac => ({ group := x.id,own := m.get x.id } : Ah))).find? (fun y => y.group == k) = none := by
    rw [List.find?_eq_none]
    intro z hz e
    obtain ⟨q,hq,rfl⟩ := List.mem_map.mp hz
    simp only [beq_iff_eq] at e
    exact hk (hasN_iff.mpr ⟨q,(List.mem_filter.mp hq).1,e⟩)
   rw [this,uN_none w _ hk']
   rfl
def Jz (f : Protection → Int) (p : List Protection) (k : Int) : Int := (p.find? (fun x => x.group == k)).elim 0 (fun x => Ck (f x) 16777216)
theorem Rt {a b : Int} (ha : 0 ≤ a) (hb : 0 ≤ b) : 0 ≤ Ck a b := by
 unfold Ck
 split <;> omega
theorem AbZ (a b : Int) : Ck a b ≤ b := by
 unfold Ck
 split <;> omega
theorem AcR (a b : Int) : Ck a b ≤ a := by
 unfold Ck
 split <;> omega
theorem AaL {f : Protection → Int} {p : List Protection} (h : ∀ x ∈ p,0 ≤ f x) (k : Int) : 0 ≤ Jz f p k ∧ Jz f p k ≤ 16777216 := by
 unfold Jz
 cases e : p.find? (fun x => x.group == k) with
 | none => simp
 | some x =>
  rw [Option.elim_some]
  exact ⟨Rt (h x (List.mem_of_find?_eq_some e)) (by omega),AbZ _ _⟩
theorem Te {t : Aa} (w : WfT t) {p : List Protection} (h : PrOk t p) : Ok (Cy p) (fun m => ∀ k,m.get k = Jz (·.min) p k) := by
 have l2 := w.len2
 have hl := h.len
 unfold Cy
 refine Ok.guard (by omega) ?_
 rw [Ki (f := fun (m : IMap Int) (x : Protection) => m.set x.group (Ck x.min 16777216)) (body := Gq) fun k x s n _ => rfl]
 refine Ok.ret fun k => ?_
 rw [Yw (key := fun x : Protection => x.group) (val := fun x : Protection => Ck x.min 16777216) h.srt]
 rfl
theorem Vx {t : Aa} (w : WfT t) {p : List Protection} (h : PrOk t p) : Ok (Dg p) (fun m => ∀ k,m.get k = Jz (·.low) p k) := by
 have l2 := w.len2
 have hl := h.len
 unfold Dg
 refine Ok.guard (by omega) ?_
 rw [Ki (f := fun (m : IMap Int) (x : Protection) => m.set x.group (Ck x.low 16777216)) (body := Gz) fun k x s n _ => rfl]
 refine Ok.ret fun k => ?_
 rw [Yw (key := fun x : Protection => x.group) (val := fun x : Protection => Ck x.low 16777216) h.srt]
 rfl
def chN (t : Aa) (r k : Int) : List Int := (upT t k).takeWhile (fun i => i != r)
theorem Pu {t : Aa} (w : WfT t) {x : Ac} (hx : x ∈ t.nodes) : chN t x.id x.id = [] := by
 unfold chN
 rw [w.up hx]
 simp
theorem Po {t : Aa} (w : WfT t) {x : Ac} (hx : x ∈ t.nodes) {r : Int} (h : x.id ≠ r) : chN t r x.id = x.id :: chN t r x.parent := by
 unfold chN
 rw [w.up hx,List.takeWhile_cons,if_pos (by simpa using h)]
theorem AeY {σ β : Type} {body : σ → (σ → Option β) → Option β} (I : σ → Prop) {Q : β → Prop} (step : ∀ s n r,I s → body s n = some r → Q r ∨ ∃ s',I s' ∧ n s' = some r) :
  ∀ (f : Nat) (s : σ) (r : β),I s → whileO body f s = some r → Q r := by
 intro f
 induction f with
 | zero => intro s r _ h; simp [whileO] at h
 | succ f ih =>
  intro s r hi h
  rw [whileO] at h
  rcases step s _ r hi h with h | ⟨s',h1,h2⟩
  ·exact h
  ·exact ih s' r h1 h2
theorem Adk {t : Aa} (w : WfT t) {k : Int} {l : List Int} (h : Gt t k = some l) : ∀ pre g post,l = pre ++ g :: post → g = k ∨ ∃ n ∈ t.nodes,n.id = g ∧ n.parent ∈ pre := by
 have l2 := w.len2
 unfold Gt at h
 obtain ⟨i,_,h⟩ := Option.bind_eq_some_iff.mp h
 split at h
 ·cases h
  intro pre g post he
  simp at he
 let P : List Int → Prop := fun l => ∀ pre g post,l = pre ++ g :: post → g = k ∨ ∃ n ∈ t.nodes,n.id = g ∧ n.parent ∈ pre
 refine AeY (fun s => P s.1 ∧ ∀ z ∈ s.2,z = k ∨ ∃ n ∈ t.nodes,n.id = z ∧ n.parent ∈ s.1) (Q := P) ?_ Ei ([],[k]) l ⟨fun pre g post he => by simp at he,fun z hz => .inl (by simpa using hz)⟩ h
 rintro ⟨out,todo⟩ n r ⟨h1,h2⟩ hb
 simp only at h1 h2
 unfold Ls at hb
 simp only at hb
 split at hb
 ·right
  split at hb
  ·rename_i hne
   split at hb
   ·rw [Kn t _ (by omega),Option.bind_some] at hb
    split at hb
    ·split at hb
     ·refine ⟨_,⟨?_,?_⟩,hb⟩
      ·intro pre g post he
       simp only at he
       rcases Ej post with rfl | ⟨post',z,rfl⟩
       ·have he' : out ++ [todo.getD 0 0] = pre ++ [g] := he
        obtain ⟨e1,e2⟩ := List.append_inj' he' rfl
        simp only [List.cons.injEq,and_true] at e2
        rw [← e2,← e1]
        exact h2 _ (Rq hne)
       ·have he' : out ++ [todo.getD 0 0] = (pre ++ g :: post') ++ [z] := by rw [he]; simp
        exact h1 pre g post' (List.append_inj' he' rfl).1
      ·intro z hz
       simp only [List.mem_append] at hz
       rcases hz with hz | hz
       ·obtain ⟨x,hx,hp,e⟩ := kids_iff.mp hz
        right
        refine ⟨x,hx,e,?_⟩
        rw [hp]
        simp
       ·rcases h2 z (List.mem_of_mem_drop hz) with h | ⟨x,hx,e,hp⟩
        ·exact .inl h
        ·exact .inr ⟨x,hx,e,by simp [hp]⟩
     ·simp at hb
    ·simp at hb
   ·simp at hb
  ·simp at hb
 ·left
  cases hb
  exact h1
def Gf (t : Aa) (cl : Int → Int) (r k : Int) : Int := Qs (Bl t) cl (chN t r k)
theorem effN_bd {t : Aa} {cl : Int → Int} (h : ∀ x,0 ≤ cl x ∧ cl x ≤ 16777216) (r k : Int) : 0 ≤ Gf t cl r k ∧ Gf t cl r k ≤ 16777216 := by
 unfold Gf
 refine ⟨Yo (fun x => (h x).1) _,?_⟩
 cases chN t r k with
 | nil => simp [Qs]
 | cons a q =>
  have := eff_le (kids := Bl t) (fun x => (h x).1) a q
  have := h a
  omega
theorem Yq {t : Aa} (w : WfT t) (g : Int) : (Bl t g).length ≤ 64 := by
 have := Vj t g
 have := w.len2
 omega
theorem Qc {t : Aa} (w : WfT t) {us st : IMap Int} {cl : Int → Int} (hcl : ∀ x,cl x = Ck (us.get x) (st.get x)) (hb : ∀ x,0 ≤ cl x ∧ cl x ≤ 16777216) {r : Int} :
  Ok (Hj t us st r) (fun m => ∀ x ∈ t.nodes,r ∈ upT t x.id → m.get x.id = Gf t cl r x.id) := by
 have l2 := w.len2
 unfold Hj
 obtain ⟨l,el,hl1,hl2,hl3⟩ := Tg w r
 have hord := Adk w el
 refine Ok.step el (Ok.guard (by omega) ?_)
 refine Ok.range (fun pre (m : IMap Int) => (∀ x ∈ t.nodes,x.parent ∈ pre → m.get x.id = Gf t cl r x.id) ∧ m.get r = 0) ⟨fun x _ h => by simp at h,rfl⟩ ?_ ?_
 ·intro pre g post m n he ⟨h1,h0⟩ hn
  have hg : r ∈ upT t g := (hl3 g).mp (by rw [he]; simp)
  obtain ⟨gn,hgn,rfl⟩ := Dv hg
  have hrg : r ≤ gn.id := up_le w gn hgn r hg
  have hkr : ∀ c ∈ Bl t gn.id,c ≠ r ∧ c ≠ gn.id := by
   intro c hc
   obtain ⟨x,hx,hp,rfl⟩ := kids_iff.mp hc
   have := w.par_lt hx
   omega
  have hck : ∀ c ∈ Bl t gn.id,chN t r c = c :: chN t r gn.id := by
   intro c hc
   obtain ⟨x,hx,hp,rfl⟩ := kids_iff.mp hc
   rw [Po w hx (hkr _ hc).1,hp]
  have hmg : gn.id ≠ r → m.get gn.id = Gf t cl r gn.id := by
   intro hne
   rcases hord pre gn.id post he with h | ⟨y,hy,e,hp⟩
   ·exact absurd h hne
   ·obtain rfl := Oc w.sorted hy hgn e
    exact h1 y hgn hp
  have hkl := Yq w gn.id
  unfold Mn
  refine Ok.step (Kn t gn.id (by omega)) (Ok.guard (by omega) ?_)
  rw [Ki (f := fun s x => w64 (s + cl x)) (body := Iz us st) fun k x s n _ => by
   unfold Iz
   rw [hcl]]
  rw [Yv (fun x _ => hb x) (by omega)]
  have hS : ((Bl t gn.id).map cl).sum = Bp cl (Bl t gn.id) := rfl
  rw [hS]
  unfold Ll
  refine Ok.guard (by omega) ?_
  have hS0 := Pc (f := cl) (l := Bl t gn.id) fun x _ => (hb x).1
  have hS1 := Xe (f := cl) (l := Bl t gn.id) fun x _ => (hb x).2
  refine Ok.range (fun q (s : IMap Int) => (∀ c ∈ q,s.get c = Gf t cl r c) ∧ ∀ k,k ∉ q → s.get k = m.get k) ⟨fun c h => by simp at h,fun k _ => rfl⟩ ?_ ?_
  ·intro q c q' s n2 hq ⟨g1,g2⟩ hn2
   have hc : c ∈ Bl t gn.id := by rw [hq]; simp
   have hcq : c ∉ q := by
    have := Tv w gn.id
    rw [hq,List.nodup_append] at this
    intro h
    exact this.2.2 c h c (by simp) rfl
   have hgq : gn.id ∉ q := fun h => (hkr gn.id (by rw [hq]; simp [h])).2 rfl
   have hcg := (hkr c hc).2
   unfold Lp Hf
   simp only [Jc,if_true,← hcl]
   rw [if_neg (show ¬ gn.id = c from fun e => hcg e.symm),g2 _ hgq]
   have heff : Gf t cl r c = if gn.id = r then cl c else if Bp cl (Bl t gn.id) ≤ Gf t cl r gn.id then cl c else cl c * Gf t cl r gn.id / Bp cl (Bl t gn.id) := by
    unfold Gf
    rw [hck c hc]
    by_cases e : gn.id = r
    ·rw [if_pos e,← e,Pu w hgn,Yp]
    ·rw [if_neg e,Po w hgn e,Wh]
   have fin : ∀ (v : Int) (s' : IMap Int),v = Gf t cl r c → (∀ k,s'.get k = if k = c then v else s.get k) → Ok (n2 s') (fun m => ∀ x ∈ t.nodes,r ∈ upT t x.id → m.get x.id = Gf t cl r x.id) := by
    intro v s' hv hs'
    refine hn2 _ ⟨fun z hz => ?_,fun k hk => ?_⟩
    ·rcases List.mem_append.mp hz with hz | hz
     ·rw [hs',if_neg (show ¬ z = c from fun e => hcq (e ▸ hz)),g1 z hz]
     ·obtain rfl : z = c := by simpa using hz
      rw [hs',if_pos rfl,hv]
    ·have hk' : k ∉ q ∧ k ≠ c := by simpa using hk
     rw [hs',if_neg hk'.2,g2 k hk'.1]
   by_cases e : gn.id = r
   ·rw [if_neg (by simp [e])]
    refine fin (cl c) _ (by rw [heff,if_pos e]) fun k => rfl
   ·have hmg' := hmg e
    have hbg := effN_bd (t := t) hb r gn.id
    rw [hmg']
    rw [if_neg e] at heff
    by_cases hs : Bp cl (Bl t gn.id) ≤ Gf t cl r gn.id
    ·rw [if_neg (by simp; intro _; omega)]
     refine fin (cl c) _ (by rw [heff,if_pos hs]) fun k => rfl
    ·rw [if_pos (by simp; exact ⟨e,by omega⟩)]
     refine Ok.guard (by omega) ?_
     have hbc := hb c
     have hp0 : 0 ≤ cl c * Gf t cl r gn.id := Int.mul_nonneg hbc.1 hbg.1
     have hp1 : cl c * Gf t cl r gn.id ≤ 16777216 * 16777216 := Int.mul_le_mul hbc.2 hbg.2 hbg.1 (by omega)
     have hd : Int.tdiv (cl c * Gf t cl r gn.id) (Bp cl (Bl t gn.id)) = cl c * Gf t cl r gn.id / Bp cl (Bl t gn.id) := Int.tdiv_eq_ediv_of_nonneg hp0
     have hd0 : 0 ≤ cl c * Gf t cl r gn.id / Bp cl (Bl t gn.id) := Int.ediv_nonneg hp0 hS0
     have hd1 : cl c * Gf t cl r gn.id / Bp cl (Bl t gn.id) ≤ cl c * Gf t cl r gn.id := Int.ediv_le_self _ hp0
     rw [Al (n := cl c * Gf t cl r gn.id) (by omega) (by omega),hd,Al (by omega) (by omega)]
     refine fin (cl c * Gf t cl r gn.id / Bp cl (Bl t gn.id)) _ (by rw [heff,if_neg hs]) fun k => ?_
     simp only [Jc]
     split <;> rfl
  ·intro s ⟨g1,g2⟩
   unfold Lq
   refine hn _ ⟨fun x hx hp => ?_,?_⟩
   ·rcases List.mem_append.mp hp with hp | hp
    ·by_cases hxk : x.id ∈ Bl t gn.id
     ·exact g1 _ hxk
     ·rw [g2 _ hxk]
      exact h1 x hx hp
    ·have hp' : x.parent = gn.id := by simpa using hp
     exact g1 _ (kids_iff.mpr ⟨x,hx,hp',rfl⟩)
   ·rw [g2 r fun h => (hkr r h).1 rfl]
    exact h0
 ·intro m ⟨h1,h0⟩
  refine Ok.ret fun x hx hr => ?_
  by_cases e : x.id = r
  ·subst e
   rw [h0]
   unfold Gf
   rw [Pu w hx]
   rfl
  ·refine h1 x hx ?_
   rw [hl3]
   rw [w.up hx] at hr
   rcases List.mem_cons.mp hr with h | h
   ·exact absurd h.symm e
   ·exact h
end Go.Dm

/- Plain theory of protections, part 5: the two functions. -/
namespace Go.Dm
def Uu (t : Aa) (s : Int → Int) (k u : Int) : Int := So (Bl t) s (Ck u (s k)) (chN t 1 k).tail
theorem AeC {t : Aa} (w : WfT t) {st : IMap Int} (hb : ∀ x,0 ≤ st.get x ∧ st.get x ≤ 16777216) :
  ∀ x ∈ t.nodes,∀ (j : Nat) (v : Int),0 ≤ v → v ≤ 16777216 → Ay (Kf t st) Nb (upT t x.id) j v = some (So (Bl t) st.get v (chN t 1 x.id).tail) := by
 have l2 := w.len2
 refine w.induct fun x hx ih => ?_
 intro j v h0 h1
 refine Ok.eq ?_
 rw [w.up hx,Ay]
 generalize hN : Ay (Kf t st) Nb (upT t x.parent) (j + 1) = N
 unfold Kf Hh
 refine Ok.bind (Up (by omega) (Acr hx)) fun r hr => ?_
 obtain ⟨r1,r2⟩ := r
 simp only at hr ⊢
 obtain rfl : r1 = x := Oc w.sorted hr.2.1 hx hr.2.2.1
 rcases w.p.par r1 hx with ⟨e,hroot⟩ | ⟨hp1,hp2,⟨y,hy,ey⟩,_⟩
 ·rw [if_pos (by simp [hroot.parent]),← hN,hroot.parent,w.upZero]
  have := Pu w hx
  rw [e] at this ⊢
  rw [this]
  exact Ok.ret rfl
 ·have hne : r1.id ≠ 1 := by omega
  rw [Po w hx hne,List.tail_cons]
  by_cases e1 : r1.parent = 1
  ·rw [if_pos (by simp [e1])]
   have := ih y hy ey (j + 1) v h0 h1
   rw [ey,hN] at this
   rw [this]
   have hc := Pu w hy
   rw [ey,e1] at hc
   rw [e1,hc]
   exact Ok.ret rfl
  ·rw [if_neg (by simp; omega)]
   have hkl := Yq w r1.parent
   refine Ok.step (Kn t r1.parent (by omega)) (Ok.guard (by omega) ?_)
   rw [Ki (f := fun s x => w64 (s + st.get x)) (body := Qo st) fun k x s n _ => rfl]
   rw [Yv (fun x _ => hb x) (by omega)]
   have hS : ((Bl t r1.parent).map st.get).sum = Bp st.get (Bl t r1.parent) := rfl
   rw [hS]
   unfold Qk Hh
   simp only
   have hS0 := Pc (f := st.get) (l := Bl t r1.parent) fun x _ => (hb x).1
   have hS1 := Xe (f := st.get) (l := Bl t r1.parent) fun x _ => (hb x).2
   have hcy : chN t 1 r1.parent = r1.parent :: chN t 1 y.parent := by
    have := Po w hy (r := 1) (by omega)
    rw [ey] at this
    exact this
   have hy2 : ∀ v,0 ≤ v → v ≤ 16777216 → N v = some (So (Bl t) st.get v (chN t 1 y.parent)) := by
    intro v h0 h1
    have := ih y hy ey (j + 1) v h0 h1
    rw [ey,hcy,List.tail_cons,hN] at this
    exact this
   rw [hcy,So]
   have hbp := hb r1.parent
   by_cases hs : Bp st.get (Bl t r1.parent) > st.get r1.parent
   ·rw [if_pos (by simpa using hs),if_pos hs]
    refine Ok.guard (by omega) ?_
    have hp0 : 0 ≤ v * st.get r1.parent := Int.mul_nonneg h0 hbp.1
    have hp1 : v * st.get r1.parent ≤ 16777216 * 16777216 := Int.mul_le_mul h1 hbp.2 hbp.1 (by omega)
    have hd : Int.tdiv (v * st.get r1.parent) (Bp st.get (Bl t r1.parent)) = v * st.get r1.parent / Bp st.get (Bl t r1.parent) := Int.tdiv_eq_ediv_of_nonneg hp0
    have hd0 : 0 ≤ v * st.get r1.parent / Bp st.get (Bl t r1.parent) := Int.ediv_nonneg hp0 hS0
    have hd1 : v * st.get r1.parent / Bp st.get (Bl t r1.parent) ≤ v := by
     refine Int.ediv_le_of_le_mul (by omega) ?_
     exact Int.mul_le_mul_of_nonneg_left (by omega) h0
    rw [Al (n := v * st.get r1.parent) (by omega) (by omega),hd,Al (by omega) (by omega),hy2 _ hd0 (by omega)]
    exact Ok.ret rfl
   ·rw [if_neg (by simpa using hs),if_neg hs,hy2 _ h0 h1]
    exact Ok.ret rfl
theorem We {t : Aa} (w : WfT t) {st : IMap Int} (hb : ∀ x,0 ≤ st.get x ∧ st.get x ≤ 16777216) {k u : Int} (hk : Cd t k = true) (hu : 0 ≤ u ∧ u ≤ 16777216) :
  Kb t st k u = some (Uu t st.get k u) := by
 have l2 := w.len2
 obtain ⟨x,hx,rfl⟩ := hasN_iff.mp hk
 unfold Kb
 have : (upT t x.id).length ≤ t.nodes.length := by
  have := Qm t.nodes.reverse x.id
  simpa [upT] using this
 rw [Zx w,Option.bind_some,if_pos (by omega),AeC w hb x hx]
 ·rfl
 ·exact Rt hu.1 (hb x.id).1
 ·have := AcR u (st.get x.id)
  omega
theorem Aag {t : Aa} {s s' : Int → Int} (h : ∀ k,s k = s' k) (k u : Int) : Uu t s k u = Uu t s' k u := by
 have : s = s' := funext h
 rw [this]
theorem Acv {t : Aa} (w : WfT t) {p : List Protection} (h : PrOk t p) {k u : Int} (hk : Cd t k = true) (hu : 0 ≤ u ∧ u ≤ 16777216) :
  En t p k u = some (Uu t (Jz (·.min) p) k u,Uu t (Jz (·.low) p) k u,0) := by
 have l2 := w.len2
 refine Ok.eq ?_
 unfold En
 rw [Vo w h,Option.bind_some,if_neg (by simp)]
 refine Ok.bind (Up (by omega) hk) fun r hr => ?_
 rw [if_neg (by simp [hr.1]),if_neg (by simp; omega)]
 refine Ok.bind (Te w h) fun a ha => ?_
 have hba : ∀ x,0 ≤ a.get x ∧ a.get x ≤ 16777216 := fun x => by
  rw [ha]
  exact AaL (fun y hy => (h.mn y hy).1) x
 rw [We w hba hk hu,Option.bind_some]
 refine Ok.bind (Vx w h) fun b hb => ?_
 have hbb : ∀ x,0 ≤ b.get x ∧ b.get x ≤ 16777216 := fun x => by
  rw [hb]
  exact AaL (fun y hy => (h.lw y hy).1) x
 rw [We w hbb hk hu,Option.bind_some,Aag ha,Aag hb]
 exact Ok.ret rfl
def Ue (t : Aa) (r : Int) : List Int := (t.nodes.map (·.id)).filter (fun i => (upT t i).contains r)
def clN (t : Aa) (l : List Ah) (f : Protection → Int) (p : List Protection) (k : Int) : Int := Ck (uN t l k) (Jz f p k)
def effO (t : Aa) (l : List Ah) (p : List Protection) (r : Int) : List Protection :=
 (Ue t r).map (fun g => { group := g,min := Gf t (clN t l (·.min) p) r g,low := Gf t (clN t l (·.low) p) r g })
theorem ids_asc' {t : Aa} (w : WfT t) : (t.nodes.map (·.id)).Pairwise (· < ·) := by
 rw [List.pairwise_map]
 exact w.sorted
theorem Ady {t : Aa} (w : WfT t) (r : Int) : (Ue t r).Pairwise (· < ·) := (ids_asc' w).sublist List.filter_sublist
theorem subN_mem {t : Aa} {r x : Int} : x ∈ Ue t r ↔ r ∈ upT t x := by
 unfold Ue
 rw [List.mem_filter]
 constructor
 ·rintro ⟨_,h⟩
  simpa using h
 ·intro h
  obtain ⟨n,hn,e⟩ := Dv h
  exact ⟨List.mem_map.mpr ⟨n,hn,e⟩,by simpa using h⟩
theorem subN_len {t : Aa} (r : Int) : (Ue t r).length ≤ t.nodes.length := by
 unfold Ue
 have := List.length_filter_le (fun i => (upT t i).contains r) (t.nodes.map (·.id))
 simpa using this
theorem clN_bd {t : Aa} (w : WfT t) {l : List Ah} (hc : CcOk t l) {f : Protection → Int} {p : List Protection} (h : ∀ x ∈ p,0 ≤ f x) (k : Int) : 0 ≤ clN t l f p k ∧ clN t l f p k ≤ 16777216 := by
 have h1 := AaL h k
 have h2 := Vt hc k
 refine ⟨Rt h2 h1.1,?_⟩
 have := AbZ (uN t l k) (Jz f p k)
 unfold clN
 omega
theorem Zm {t : Aa} (w : WfT t) {c : Ag} (hc : CcOk t c.charges) {p : List Protection} (h : PrOk t p) {r : Int} (hr : Cd t r = true) :
  Cs t c p r = some (effO t c.charges p r,0) := by
 have l2 := w.len2
 refine Ok.eq ?_
 unfold Cs
 rw [Vz w hc,Option.bind_some,if_neg (by simp),Vo w h,Option.bind_some]
 unfold Dn
 rw [if_neg (by simp)]
 refine Ok.bind (Up (by omega) hr) fun q hq => ?_
 rw [if_neg (by simp [hq.1])]
 refine Ok.bind (AaX w hc) fun tt ht => ?_
 refine Ok.guard (by omega) ?_
 rw [Ki (f := fun (m : IMap Int) (x : Ah) => m.set x.group x.own) (body := Mq) fun k x s n _ => rfl]
 have hus := ht.2
 generalize tt.1.foldl (fun (m : IMap Int) (x : Ah) => m.set x.group x.own) (IMap.empty 0) = us at hus
 unfold Mm
 refine Ok.bind (Te w h) fun a ha => ?_
 refine Ok.bind (Qc w (cl := clN t c.charges (·.min) p) (fun x => by rw [hus,ha]; rfl) (clN_bd w hc fun y hy => (h.mn y hy).1) (r := r)) fun ea hea => ?_
 refine Ok.bind (Vx w h) fun b hb => ?_
 refine Ok.bind (Qc w (cl := clN t c.charges (·.low) p) (fun x => by rw [hus,hb]; rfl) (clN_bd w hc fun y hy => (h.lw y hy).1) (r := r)) fun eb heb => ?_
 refine Ok.bind (Tg w r) fun l hl => ?_
 refine Ok.bind (Sort_ok l (by omega)) fun M hM => ?_
 have hML : M = Ue t r := by
  refine asc_eq ?_ (Ady w r) fun x => ?_
  ·have hn : M.Nodup := hM.1.nodup_iff.mpr hl.1
   have := List.Pairwise.and hM.2 hn
   exact this.imp fun h => by omega
  ·rw [hM.1.mem_iff,hl.2.2,subN_mem]
 have hlen := hM.1.length_eq
 refine Ok.guard hlen.symm (Ok.guard (by omega) ?_)
 rw [Lu (body := Jw ea eb) (done := Mo) (p := fun _ => true) (f := fun x => ({ group := x,min := ea.get x,low := eb.get x } : Protection)) (r := fun s => some (s,0)) (fun k x s n hs => by
  unfold Jw
  rw [if_pos hs]
  rfl) (fun s => rfl) (by simp; omega)]
 refine Ok.ret ?_
 rw [hML]
 unfold effO
 simp only [List.nil_append,Prod.mk.injEq,and_true]
 rw [List.filter_eq_self.mpr fun _ _ => rfl]
 refine List.map_congr_left fun g hg => ?_
 have hg' := subN_mem.mp hg
 obtain ⟨n,hn,rfl⟩ := Dv hg'
 rw [hea n hn hg',heb n hn hg']
theorem AdT : Nw = some true := by kernel_rfl
end Go.Dm

/- Plain theory, part 19: charges, limits; the document's functions on counts. -/
namespace Go.Dm
end Go.Dm

/- Plain theory, part 21: what changes leave as it is; sizes of made hierarchies. -/
namespace Go.Dm
end Go.Dm

/- Plain theory, part 22: the program's changes of hierarchies are the document's. -/
namespace Go.Dm
theorem Adz {α : Type} {L M : List α} {a n : Nat} (h : a + n ≤ L.length) (hm : n ≤ M.length) : (Lh L a n M).length = L.length := by
 simp only [Lh,List.length_append,List.length_take,List.length_drop]
 omega
end Go.Dm

/- Plain theory, part 23: spoiled hierarchies; hierarchies that are refused. -/
namespace Go.Dm
end Go.Dm

/- Plain theory, part 24: kinds of groups, domains, what fits. -/
namespace Go.Dm
def AaK (t : Aa) (a : Int) : Ac := (Ml t a).getD zN
theorem find5 {t : Aa} (w : WfT t) (id : Int) : Jd t id = some (AaK t id,Cd t id) := by
 rw [Abh w]
 unfold AaK Cd
 cases Ml t id <;> rfl
theorem findF {t : Aa} (w : WfT t) (id : Int) : Fj t id = some (AaK t id,Cd t id) := by
 have := w.len2
 rw [Oa t id (by omega)]
 unfold AaK Cd
 cases Ml t id <;> rfl
theorem nodeN_of {t : Aa} (w : WfT t) {x : Ac} (hx : x ∈ t.nodes) : AaK t x.id = x := by
 unfold AaK
 rw [getN_of w.sorted hx]
 rfl
theorem ancN_up {t : Aa} (id : Int) : ancN t id = upT t id := by
 unfold ancN
 cases hg : Cd t id with
 | true => rfl
 | false =>
  have : upT t id = [] := Ym fun y hy e => by
   have := hasN_iff.mpr ⟨y,by simpa using hy,e⟩
   rw [hg] at this
   simp at this
  rw [this]
  rfl
theorem Ace {t : Aa} (w : WfT t) {x : Ac} (hx : x ∈ t.nodes) (h1 : x.id ≠ 1) : Cd t x.parent = true := by
 rcases w.p.par x hx with ⟨h,_⟩ | ⟨_,_,⟨z,hz,e⟩,_⟩
 ·exact absurd h h1
 ·exact hasN_iff.mpr ⟨z,hz,e⟩
theorem AcS {t : Aa} (w : WfT t) {x : Ac} (hx : x ∈ t.nodes) (h1 : x.id = 1) : x.parent = 0 ∧ x.kind = 0 := by
 rcases w.p.par x hx with ⟨_,r⟩ | ⟨h,h2,_⟩
 ·exact ⟨r.parent,r.kind⟩
 ·omega
theorem Pr {α : Type} {P : α → Prop} {pre : List α} {x : α} (h1 : ∀ y ∈ pre,P y) (h2 : P x) : ∀ y ∈ pre ++ [x],P y := by
 intro y hy
 rcases List.mem_append.mp hy with hy | hy
 ·exact h1 y hy
 ·obtain rfl : y = x := by simpa using hy
  exact h2
end Go.Dm

/- Plain theory, part 25: forks that are counted. -/
namespace Go.Dm
end Go.Dm

/- Plain theory, part 39: ascending lists; Sorted of the sets; Compact of lists that do not fall. -/
namespace Go.Dm
abbrev Asc (L : List Int) : Prop := L.Pairwise (· < ·)
theorem asc_ext : ∀ {A B : List Int},Asc A → Asc B → (∀ x,x ∈ A ↔ x ∈ B) → A = B
 | [],B,_,_,h => by
  cases B with
  | nil => rfl
  | cons b B => exact absurd ((h b).mpr (by simp)) (by simp)
 | a :: A,[],_,_,h => absurd ((h a).mp (by simp)) (by simp)
 | a :: A,b :: B,ha,hb,h => by
  rw [Asc,List.pairwise_cons] at ha hb
  have hab : a = b := by
   rcases List.mem_cons.mp ((h a).mp (by simp)) with e | e
   ·exact e
   ·rcases List.mem_cons.mp ((h b).mpr (by simp)) with e' | e'
    ·exact e'.symm
    ·have h1 := hb.1 a e
     have h2 := ha.1 b e'
     omega
  subst hab
  congr 1
  refine asc_ext ha.2 hb.2 fun x => ?_
  have hx := h x
  simp only [List.mem_cons] at hx
  constructor
  ·intro hm
   rcases hx.mp (.inr hm) with e | e
   ·have := ha.1 x hm
    omega
   ·exact e
  ·intro hm
   rcases hx.mpr (.inr hm) with e | e
   ·have := hb.1 x hm
    omega
   ·exact e
theorem put_in {L : List Int} {k : Nat} {x : Int} (hk : k ≤ L.length) : (Lh (L ++ [0]) (k + 1) (Fr (Ef (L ++ [0]).length k) (Ef (L ++ [0]).length (k + 1))) (((L ++ [0]).drop k).take (Ef (L ++ [0]).length k))).set k x = L.take k ++ x :: L.drop k := by
 have e1 : (L ++ [0]).drop k = L.drop k ++ [0] := List.drop_append_of_le_length hk
 have hl : (L ++ [0]).length = L.length + 1 := by simp
 have e2 : Fr (L.length + 1 - k) (L.length + 1 - (k + 1)) = L.length - k := by
  rw [Vi]
  show min _ _ = _
  omega
 have e3 : (L.drop k ++ [0]).take (L.length + 1 - k) = L.drop k ++ [(0 : Int)] := List.take_of_length_le (by simp; omega)
 have e4 : (L.drop k ++ [(0 : Int)]).take (L.length - k) = L.drop k := by
  rw [List.take_append_of_le_length (by simp),List.take_of_length_le (by simp)]
 have e5 : (L ++ [0]).drop (k + 1 + (L.length - k)) = ([] : List Int) := List.drop_of_length_le (by simp; omega)
 have e6 : ∃ y,(L ++ [0]).take (k + 1) = L.take k ++ [y] := by
  rw [List.take_add_one,List.take_append_of_le_length hk]
  have : k < (L ++ [(0 : Int)]).length := by simp; omega
  exact ⟨(L ++ [0])[k],by rw [List.getElem?_eq_getElem this]; rfl⟩
 obtain ⟨y,e6⟩ := e6
 unfold Lh
 rw [Ip,Ip,hl,e2,e1,e3,e4,e5,e6,List.append_nil,List.append_assoc]
 have hlen : (L.take k).length = k := by simp; omega
 rw [List.set_append_right _ _ (by omega),hlen,Nat.sub_self]
 rfl
theorem asc_put {L : List Int} {k : Nat} {x : Int} (h : Asc L) (h1 : ∀ y ∈ L.take k,y < x) (h2 : ∀ y ∈ L.drop k,x < y) : Asc (L.take k ++ x :: L.drop k) := by
 rw [Asc,List.pairwise_append,List.pairwise_cons]
 have hs : Asc (L.take k ++ L.drop k) := by rw [List.take_append_drop]; exact h
 rw [Asc,List.pairwise_append] at hs
 refine ⟨hs.1,⟨h2,hs.2.1⟩,fun a ha b hb => ?_⟩
 rcases List.mem_cons.mp hb with rfl | hb
 ·exact h1 a ha
 ·exact hs.2.2 a ha b hb
theorem AcD {l : List Int} (hl : l.length ≤ 1000000) : Ok (Ou l) (fun r => Asc r ∧ (∀ x,x ∈ r ↔ x ∈ l) ∧ r.length ≤ l.length) := by
 unfold Ou
 refine Ok.guard (by omega) ?_
 refine Ok.range (fun pre s => Asc s ∧ (∀ x,x ∈ s ↔ x ∈ pre) ∧ s.length ≤ pre.length) ⟨List.Pairwise.nil,by simp,by simp⟩ ?_ fun s h => Ok.ret h
 intro pre x post s n he ⟨ha,hm,hlen⟩ hn
 have hsl : s.length ≤ 1000000 := by
  have : pre.length ≤ l.length := by rw [he]; simp
  omega
 unfold Td
 refine Ok.while (fun s4 => ∃ k : Nat,s4 = (k : Int) ∧ k ≤ s.length ∧ ∀ y ∈ s.drop k,x < y) (fun s4 => s4.toNat) ⟨s.length,rfl,Nat.le_refl _,by simp⟩ (by rw [Dh]; omega) ?_
 rintro _ m ⟨k,rfl,hk,hgt⟩ hm4
 have hJ11 : ∀ r,(Asc r ∧ (∀ y,y ∈ r ↔ y ∈ pre ++ [x]) ∧ r.length ≤ (pre ++ [x]).length) → Ok (Kt n r) (fun r => Asc r ∧ (∀ x,x ∈ r ↔ x ∈ l) ∧ r.length ≤ l.length) := fun r h => hn r h
 have hJ15 : ∀ b,(b = true → x ∈ s) → (b = false → ∀ y ∈ s.take k,y < x) → Ok (Jk x s n (k : Int) b) (fun r => Asc r ∧ (∀ x,x ∈ r ↔ x ∈ l) ∧ r.length ≤ l.length) := by
  intro b h1 h2
  unfold Jk
  refine Ok.ite (fun c => ?_) fun c => ?_
  ·refine hJ11 _ ⟨ha,fun y => ?_,by simp; omega⟩
   rw [hm y,List.mem_append,List.mem_singleton]
   constructor
   ·exact .inl
   ·rintro (h | rfl)
    ·exact h
    ·exact (hm y).mp (h1 c)
  ·have hw : w64 ((k : Int) + 1) = ((k + 1 : Nat) : Int) := by
    rw [Al (by omega) (by omega)]
    omega
   have ht : Int.toNat (w64 ((k : Int) + 1)) = k + 1 := by rw [hw]; omega
   have ht0 : Int.toNat (k : Int) = k := by omega
   rw [ht,hw,ht0]
   have hl0 : (s ++ [0]).length = s.length + 1 := by simp
   have hol : (Lh (s ++ [0]) (k + 1) (Fr (Ef (s ++ [0]).length k) (Ef (s ++ [0]).length (k + 1))) (((s ++ [0]).drop k).take (Ef (s ++ [0]).length k))).length = s.length + 1 := by
    rw [Adz,hl0]
    ·rw [hl0,Ip,Ip,Vi]
     show k + 1 + min _ _ ≤ _
     omega
    ·rw [List.length_take,List.length_drop,hl0,Ip,Ip,Vi]
     show min _ _ ≤ _
     omega
   refine Ok.guard (by omega) (Ok.guard ⟨by omega,by rw [hl0]; omega⟩ (Ok.guard ⟨by omega,by rw [hl0]; omega⟩ (Ok.guard (by rw [hl0,Ip]; omega) (Ok.guard ⟨by omega,by rw [hol]; omega⟩ (Ok.guard (by rw [hol]; omega) ?_)))))
   rw [put_in hk]
   refine hJ11 _ ⟨asc_put ha (h2 c) hgt,fun y => ?_,by simp; omega⟩
   rw [List.mem_append,List.mem_cons,List.mem_append,List.mem_singleton,← hm y]
   constructor
   ·rintro (h | rfl | h)
    ·exact .inl (List.mem_of_mem_take h)
    ·exact .inr rfl
    ·exact .inl (List.mem_of_mem_drop h)
   ·rintro (h | rfl)
    ·rw [← List.take_append_drop k s,List.mem_append] at h
     rcases h with h | h
     ·exact .inl h
     ·exact .inr (.inr h)
    ·exact .inr (.inl rfl)
 by_cases k0 : k = 0
 ·subst k0
  unfold Ph Jj
  rw [if_neg (by simp),if_neg (by simp),if_neg (by simp)]
  exact hJ15 _ (by simp) (by simp)
 ·have hw : w64 ((k : Int) - 1) = ((k - 1 : Nat) : Int) := by
   rw [Al (by omega) (by omega)]
   omega
  have ht : Int.toNat (((k - 1 : Nat) : Int)) = k - 1 := by omega
  have hkl : k - 1 < s.length := by omega
  have hd : s.drop (k - 1) = s.getD (k - 1) 0 :: s.drop k := by
   rw [List.drop_eq_getElem_cons hkl,Mh hkl,Nat.sub_add_cancel (by omega)]
  have htk : s.take k = s.take (k - 1) ++ [s.getD (k - 1) 0] := by
   have : k = k - 1 + 1 := by omega
   rw [this,List.take_add_one,Mh (by omega),List.getElem?_eq_getElem (by omega)]
   rfl
  have hlast : ∀ y ∈ s.take (k - 1),y < s.getD (k - 1) 0 := by
   have hs : Asc (s.take k) := ha.sublist (List.take_sublist _ _)
   rw [htk,Asc,List.pairwise_append] at hs
   intro y hy
   exact hs.2.2 y hy _ (by simp)
  unfold Ph
  rw [hw,ht]
  refine Ok.ite (fun _ => Ok.guard ⟨by omega,by omega⟩ (Ok.guard hkl ?_)) fun c => by simp at c; omega
  unfold Jj
  rw [hw,ht]
  refine Ok.ite (fun c => ?_) fun c => ?_
  ·have hx : x < s.getD (k - 1) 0 := by simpa using c
   refine hm4 _ ⟨k - 1,rfl,by omega,?_⟩ (by omega)
   rw [hd]
   intro y hy
   rcases List.mem_cons.mp hy with rfl | hy
   ·exact hx
   ·exact hgt y hy
  ·have hx : ¬ x < s.getD (k - 1) 0 := by simpa using c
   refine Ok.ite (fun _ => Ok.guard ⟨by omega,by omega⟩ (Ok.guard hkl ?_)) fun c => by simp at c; omega
   refine hJ15 _ (fun c => ?_) (fun c => ?_)
   ·have : s.getD (k - 1) 0 = x := by simpa using c
    rw [← this]
    exact Rq hkl
   ·have hne : s.getD (k - 1) 0 ≠ x := by simpa using c
    rw [htk]
    intro y hy
    rcases List.mem_append.mp hy with hy | hy
    ·have := hlast y hy
     omega
    ·have : y = s.getD (k - 1) 0 := by simpa using hy
     omega
end Go.Dm

/- Plain theory, part 30: what keeps Fits; all made hierarchies fit. -/
namespace Go.Dm
section
variable {t t' : Aa} {fn : Ac → Ac}
end
section
variable {t t' : Aa} {p : Int} {s : ByteArray}
end
end Go.Dm

/- Models of Go types and functions, printed by a program. -/
namespace Go.Dm
set_option linter.unusedVariables false
end Go.Dm

/- Plain theory, part 31: threaded's functions. -/
namespace Go.Dm
end Go.Dm

/- Plain theory, part 32: new groups. -/
namespace Go.Dm
end Go.Dm

/- Plain theory, part 33: controllers are written, groups are made threaded. -/
namespace Go.Dm
end Go.Dm

/- Plain theory, part 34: names of made groups are short. -/
namespace Go.Dm
end Go.Dm

/- Plain theory, part 35: rights of users. -/
namespace Go.Dm
end Go.Dm

/- Plain theory, part 36: acts of users. -/
namespace Go.Dm
end Go.Dm

/- Plain theory, part 40: what is read of any hierarchy; processes; hierarchies that were handed in. -/
namespace Go.Dm
def okNode (x : Ac) : Prop := okI x.id ∧ okI x.parent ∧ okS x.name ∧ okI x.control ∧ okI x.kind ∧ okI x.owner ∧ True
def okTree (t : Aa) : Prop := okL okNode t.nodes ∧ okI t.next ∧ True
theorem names_of {t : Aa} (h : okTree t) : ∀ x ∈ t.nodes,AaT x := by
 intro x hx
 obtain ⟨_,_,h3,h4,_⟩ := h.1.2 x hx
 exact ⟨h3,by have := h4.2; omega⟩
end Go.Dm

/- Plain theory of protections, part 6: any tree, counter and settings. -/
namespace Go.Dm
theorem Aax {α : Type} [Inhabited α] {l P post : List α} {x y : α} (he : l = (P ++ [y]) ++ x :: post) (hl : l.length ≤ 1000000) :
  decide ((((P ++ [y]).length : Nat) : Int) > 0) = true ∧ w64 ((((P ++ [y]).length : Nat) : Int) - 1) = (P.length : Int) ∧ (0 ≤ (P.length : Int) ∧ (P.length : Int) < ((l.length : Nat) : Int)) ∧ l.getD (Int.toNat (P.length : Int)) default = y := by
 have hlen := congrArg List.length he
 simp at hlen
 refine ⟨by simp,?_,⟨by omega,by omega⟩,?_⟩
 ·rw [Al (by simp <;> omega) (by simp <;> omega)]
  simp
 ·rw [he]
  exact Lw
theorem PrOk.snoc {t : Aa} {pre : List Protection} {x : Protection} (h : PrOk t pre) (h1 : ∀ y ∈ pre,y.group < x.group) (h2 : Cd t x.group = true) (h3 : 0 ≤ x.min ∧ x.min ≤ 4611686018427387904) (h4 : 0 ≤ x.low ∧ x.low ≤ 4611686018427387904) : PrOk t (pre ++ [x]) := by
 refine ⟨?_,Pr h.has h2,Pr h.mn h3,Pr h.lw h4⟩
 rw [List.pairwise_append]
 exact ⟨h.srt,by simp,fun a ha b hb => by rw [List.mem_singleton.mp hb]; exact h1 a ha⟩
theorem AaP {α : Type} {key : α → Int} {P : List α} {y x : α} (h : (P ++ [y]).Pairwise (fun a b => key a < key b)) (hy : key y < key x) : ∀ z ∈ P ++ [y],key z < key x := by
 rw [List.pairwise_append] at h
 intro z hz
 rcases List.mem_append.mp hz with hz | hz
 ·have := h.2.2 z hz y (by simp)
  omega
 ·rw [List.mem_singleton.mp hz]
  exact hy
theorem Acn {α : Type} {key : α → Int} {l P post : List α} {y x : α} (h : l.Pairwise (fun a b => key a < key b)) (he : l = (P ++ [y]) ++ x :: post) : key y < key x := by
 rw [he,List.pairwise_append] at h
 exact h.2.2 y (by simp) x (by simp)
theorem AdX {t : Aa} {k : Int} (hl : t.nodes.length ≤ 1000000) : Ok (Fj t k) (fun r => r.2 = Cd t k) := by
 rw [Oa t k hl]
 unfold Cd
 cases Ml t k with
 | none => exact Ok.ret rfl
 | some x => exact Ok.ret rfl
section
variable {t : Aa} {l : List Protection}
theorem Tm (w : WfT t) (hl : l.length ≤ 1000000) : Ok (Em t l) (fun b => b = true ↔ PrOk t l) := by
 have l2 := w.len2
 unfold Em
 rw [Qu w,Option.bind_some,if_neg (by simp)]
 refine Ok.guard (by omega) ?_
 refine Ok.range (fun pre _ => PrOk t pre) ⟨List.Pairwise.nil,by simp,by simp,by simp⟩ ?_ (fun _ h => Ok.ret (by simp [h]))
 intro pre x post s n he hp hn
 have hx : x ∈ l := by rw [he]; simp
 have hJ : ∀ b,(b = true → ¬ PrOk t l) → (b = false → PrOk t (pre ++ [x])) → Ok (Be n b) (fun b => b = true ↔ PrOk t l) := by
  intro b h1 h2
  unfold Be
  refine Ok.ite (fun c => Ok.ret ?_) fun c => hn _ (h2 c)
  simp [h1 c]
 have hrest : (∀ y ∈ pre,y.group < x.group) → Cd t x.group = true → Ok (if (decide (x.min < 0)) then ((Be n) true) else (if (decide (x.min > 4611686018427387904)) then ((Be n) true) else (if (decide (x.low < 0)) then ((Be n) true) else ((Be n) (decide (x.low > 4611686018427387904)))))) (fun b => b = true ↔ PrOk t l) := by
  intro h1 h2
  refine Ok.ite (fun c => hJ _ (fun _ h => ?_) (by simp)) fun c1 => Ok.ite (fun c => hJ _ (fun _ h => ?_) (by simp)) fun c2 => Ok.ite (fun c => hJ _ (fun _ h => ?_) (by simp)) fun c3 => hJ _ (fun c h => ?_) (fun c => hp.snoc h1 h2 ?_ ?_)
  all_goals simp only [decide_eq_true_eq,decide_eq_false_iff_not] at *
  ·have := h.mn x hx; omega
  ·have := h.mn x hx; omega
  ·have := h.lw x hx; omega
  ·have := h.lw x hx; omega
  ·omega
  ·omega
 unfold Nc
 refine Ok.bind (AdX (by omega)) fun r hr => ?_
 rw [hr]
 refine Ok.ite (fun c => hJ _ (fun _ h => ?_) (by simp)) fun c => ?_
 ·have := h.has x hx
  rw [this] at c
  simp at c
 have hg : Cd t x.group = true := by simpa using c
 rcases Ej pre with rfl | ⟨P,y,rfl⟩
 ·rw [if_neg (by simp)]
  exact hrest (by simp) hg
 ·obtain ⟨e1,e2,e3,e4⟩ := Aax he hl
  rw [e1,if_pos rfl,e2,e4]
  refine Ok.guard e3 ?_
  refine Ok.ite (fun c => hJ _ (fun _ h => ?_) (by simp)) fun c => hrest (AaP hp.srt (by simpa using c)) hg
  have := Acn h.srt he
  have : x.group ≤ y.group := by simpa using c
  omega
theorem Qr (w : WfT t) (hl : l.length ≤ 1000000) : Ok (Gw t l) (fun b => b = true ↔ PrOk t l) := by
 have l2 := w.len2
 unfold Gw
 rw [Kv w,Option.bind_some,if_neg (by simp)]
 refine Ok.guard (by omega) ?_
 refine Ok.range (fun pre _ => PrOk t pre) ⟨List.Pairwise.nil,by simp,by simp,by simp⟩ ?_ (fun _ h => Ok.ret (by simp [h]))
 intro pre x post s n he hp hn
 have hx : x ∈ l := by rw [he]; simp
 have hJ : ∀ b,(b = true → ¬ PrOk t l) → (b = false → PrOk t (pre ++ [x])) → Ok (Cc n b) (fun b => b = true ↔ PrOk t l) := by
  intro b h1 h2
  unfold Cc
  refine Ok.ite (fun c => Ok.ret ?_) fun c => hn _ (h2 c)
  simp [h1 c]
 have hrest : (∀ y ∈ pre,y.group < x.group) → Cd t x.group = true → Ok (if (decide (x.min < 0)) then ((Cc n) true) else (if (decide (x.min > 4611686018427387904)) then ((Cc n) true) else (if (decide (x.low < 0)) then ((Cc n) true) else ((Cc n) (decide (x.low > 4611686018427387904)))))) (fun b => b = true ↔ PrOk t l) := by
  intro h1 h2
  refine Ok.ite (fun c => hJ _ (fun _ h => ?_) (by simp)) fun c1 => Ok.ite (fun c => hJ _ (fun _ h => ?_) (by simp)) fun c2 => Ok.ite (fun c => hJ _ (fun _ h => ?_) (by simp)) fun c3 => hJ _ (fun c h => ?_) (fun c => hp.snoc h1 h2 ?_ ?_)
  all_goals simp only [decide_eq_true_eq,decide_eq_false_iff_not] at *
  ·have := h.mn x hx; omega
  ·have := h.mn x hx; omega
  ·have := h.lw x hx; omega
  ·have := h.lw x hx; omega
  ·omega
  ·omega
 unfold Sy
 rw [Fe w,Option.bind_some]
 refine Ok.ite (fun c => hJ _ (fun _ h => ?_) (by simp)) fun c => ?_
 ·have := h.has x hx
  rw [this] at c
  simp at c
 have hg : Cd t x.group = true := by simpa using c
 rcases Ej pre with rfl | ⟨P,y,rfl⟩
 ·rw [if_neg (by simp)]
  exact hrest (by simp) hg
 ·obtain ⟨e1,e2,e3,e4⟩ := Aax he hl
  rw [e1,if_pos rfl,e2,e4]
  refine Ok.guard e3 ?_
  refine Ok.ite (fun c => hJ _ (fun _ h => ?_) (by simp)) fun c => hrest (AaP hp.srt (by simpa using c)) hg
  have := Acn h.srt he
  have : x.group ≤ y.group := by simpa using c
  omega
end
theorem CcOk.snoc {t : Aa} {pre : List Ah} {x : Ah} (h : CcOk t pre) (h1 : ∀ y ∈ pre,y.group < x.group) (h2 : Cd t x.group = true) (h3 : 1 ≤ x.own) (h4 : (pre.map (·.own)).sum + x.own ≤ 16777216) : CcOk t (pre ++ [x]) := by
 refine ⟨?_,Pr h.has h2,Pr h.pos h3,?_⟩
 ·rw [List.pairwise_append]
  exact ⟨h.srt,by simp,fun a ha b hb => by rw [List.mem_singleton.mp hb]; exact h1 a ha⟩
 ·rw [List.map_append,List.sum_append]
  simpa using h4
theorem CcOk.part {t : Aa} {pre post : List Ah} (h : CcOk t (pre ++ post)) : CcOk t pre := by
 have h3 := Ow (f := (·.own)) (l := post) fun y hy => by have := h.pos y (by simp [hy]); omega
 have h1 := h.sum
 rw [List.map_append,List.sum_append] at h1
 exact ⟨(List.pairwise_append.mp h.srt).1,fun x hx => h.has x (by simp [hx]),fun x hx => h.pos x (by simp [hx]),by omega⟩
section
variable {t : Aa} {c : Ag}
theorem On (w : WfT t) (hl : c.charges.length ≤ 1000000) : Ok (Gh t c) (fun b => b = true ↔ CcOk t c.charges) := by
 have l2 := w.len2
 unfold Gh
 rw [Qu w,Option.bind_some,if_neg (by simp)]
 refine Ok.guard (by omega) ?_
 refine Ok.range (fun pre s => CcOk t pre ∧ s = (pre.map (·.own)).sum) ⟨⟨List.Pairwise.nil,by simp,by simp,by simp⟩,rfl⟩ ?_ (fun _ h => Ok.ret (by simp [h.1]))
 rintro pre x post s n he ⟨hp,rfl⟩ hn
 have hx : x ∈ c.charges := by rw [he]; simp
 have hpart : CcOk t c.charges → CcOk t (pre ++ [x]) := fun h => by
  rw [he,← List.singleton_append,← List.append_assoc] at h
  exact h.part
 have h0 := Ow (f := (·.own)) (l := pre) fun y hy => by have := hp.pos y hy; omega
 have h01 := hp.sum
 have hJ : ∀ b,(b = true → ¬ CcOk t c.charges) → (b = false → CcOk t (pre ++ [x])) → Ok (Bu x (pre.map (·.own)).sum n b) (fun b => b = true ↔ CcOk t c.charges) := by
  intro b h1 h2
  unfold Bu
  refine Ok.ite (fun c => Ok.ret ?_) fun c => ?_
  ·simp [h1 c]
  ·have h3 := h2 c
   have h4 := h3.sum
   have h5 := h3.pos x (by simp)
   rw [List.map_append,List.sum_append] at h4
   simp only [List.map_cons,List.map_nil,List.sum_cons,List.sum_nil,Int.add_zero] at h4
   rw [Al (by omega) (by omega)]
   refine hn _ ⟨h3,?_⟩
   rw [List.map_append,List.sum_append]
   simp
 have hrest : (∀ y ∈ pre,y.group < x.group) → Cd t x.group = true → Ok (if (decide (x.own < 1)) then ((Bu x (pre.map (·.own)).sum n) true) else ((Bu x (pre.map (·.own)).sum n) (decide (x.own > (w64 (16777216 - (pre.map (·.own)).sum)))))) (fun b => b = true ↔ CcOk t c.charges) := by
  intro h1 h2
  rw [Al (by omega) (by omega)]
  refine Ok.ite (fun c => hJ _ (fun _ h => ?_) (by simp)) fun c1 => hJ _ (fun c h => ?_) (fun c => hp.snoc h1 h2 ?_ ?_)
  all_goals simp only [decide_eq_true_eq,decide_eq_false_iff_not] at *
  ·have := h.pos x hx; omega
  ·have h4 := (hpart h).sum
   rw [List.map_append,List.sum_append] at h4
   simp only [List.map_cons,List.map_nil,List.sum_cons,List.sum_nil,Int.add_zero] at h4
   omega
  ·omega
  ·omega
 unfold Mu
 refine Ok.bind (AdX (by omega)) fun r hr => ?_
 rw [hr]
 refine Ok.ite (fun c => hJ _ (fun _ h => ?_) (by simp)) fun c => ?_
 ·have := h.has x hx
  rw [this] at c
  simp at c
 have hg : Cd t x.group = true := by simpa using c
 rcases Ej pre with rfl | ⟨P,y,rfl⟩
 ·rw [if_neg (by simp)]
  exact hrest (by simp) hg
 ·obtain ⟨e1,e2,e3,e4⟩ := Aax he hl
  rw [e1,if_pos rfl,e2,e4]
  refine Ok.guard e3 ?_
  refine Ok.ite (fun c => hJ _ (fun _ h => ?_) (by simp)) fun c => hrest (AaP hp.srt (by simpa using c)) hg
  have := Acn h.srt he
  have : x.group ≤ y.group := by simpa using c
  omega
structure ChOk (t : Aa) (l : List Ah) : Prop where
 srt : l.Pairwise (fun a b => a.group < b.group)
 has : ∀ x ∈ l,Cd t x.group = true
 own : ∀ x ∈ l,1 ≤ x.own ∧ x.own ≤ 16777216
theorem AaY (w : WfT t) {l : List Ah} (hl : l.length ≤ 1000000) : Ok (Ir t l 1) (fun b => b = true ↔ ChOk t l) := by
 have l2 := w.len2
 unfold Ir
 refine Ok.guard (by omega) ?_
 refine Ok.range (fun pre _ => ChOk t pre) ⟨List.Pairwise.nil,by simp,by simp⟩ ?_ (fun _ h => Ok.ret (by simp [h]))
 intro pre x post s n he hp hn
 have hx : x ∈ l := by rw [he]; simp
 have hJ : ∀ b,(b = true → ¬ ChOk t l) → (b = false → ChOk t (pre ++ [x])) → Ok (Cp n b) (fun b => b = true ↔ ChOk t l) := by
  intro b h1 h2
  unfold Cp
  refine Ok.ite (fun c => Ok.ret ?_) fun c => hn _ (h2 c)
  simp [h1 c]
 have hrest : (∀ y ∈ pre,y.group < x.group) → Cd t x.group = true → Ok (if (decide (x.own < 1)) then ((Cp n) true) else ((Cp n) (decide (x.own > 16777216)))) (fun b => b = true ↔ ChOk t l) := by
  intro h1 h2
  refine Ok.ite (fun c => hJ _ (fun _ h => ?_) (by simp)) fun c1 => hJ _ (fun c h => ?_) (fun c => ⟨?_,Pr hp.has h2,Pr hp.own ?_⟩)
  all_goals simp only [decide_eq_true_eq,decide_eq_false_iff_not] at *
  ·have := h.own x hx; omega
  ·have := h.own x hx; omega
  ·rw [List.pairwise_append]
   exact ⟨hp.srt,by simp,fun a ha b hb => by rw [List.mem_singleton.mp hb]; exact h1 a ha⟩
  ·omega
 unfold Mz
 rw [Fe w,Option.bind_some]
 refine Ok.ite (fun c => hJ _ (fun _ h => ?_) (by simp)) fun c => ?_
 ·have := h.has x hx
  rw [this] at c
  simp at c
 have hg : Cd t x.group = true := by simpa using c
 rcases Ej pre with rfl | ⟨P,y,rfl⟩
 ·rw [if_neg (by simp)]
  exact hrest (by simp) hg
 ·obtain ⟨e1,e2,e3,e4⟩ := Aax he hl
  rw [e1,if_pos rfl,e2,e4]
  refine Ok.guard e3 ?_
  refine Ok.ite (fun c => hJ _ (fun _ h => ?_) (by simp)) fun c => hrest (AaP hp.srt (by simpa using c)) hg
  have := Acn h.srt he
  have : x.group ≤ y.group := by simpa using c
  omega
theorem Mx (w : WfT t) (hl : c.charges.length ≤ 1000000) : Ok (Hy t c) (fun b => b = true ↔ CcOk t c.charges) := by
 have hi : CcOk t c.charges → ChOk t c.charges := fun h => ⟨h.srt,h.has,fun x hx => h.own hx⟩
 unfold Hy
 rw [Kv w,Option.bind_some,if_neg (by simp)]
 refine Ok.bind (AaY w hl) fun b hb => ?_
 unfold Iq
 refine Ok.ite (fun cb => Ok.ret ?_) fun cb => ?_
 ·have : ¬ ChOk t c.charges := fun h => by
   rw [hb.mpr h] at cb
   simp at cb
  simp only [Bool.false_eq_true,false_iff]
  exact fun h => this (hi h)
 ·have ch := hb.mp (by simpa using cb)
  have hlen := AbA ch.srt ch.has
  have l2 := w.len2
  refine Ok.guard (by omega) ?_
  refine Ok.range (fun pre s => s = (pre.map (·.own)).sum ∧ 0 ≤ s ∧ s ≤ 16777216 * (pre.length : Int)) ⟨rfl,by simp,by simp⟩ ?_ ?_
  ·rintro pre x post s n he ⟨hs,h0,h1⟩ hn
   have hx := ch.own x (by rw [he]; simp)
   have : pre.length + 1 ≤ c.charges.length := by rw [he]; simp
   unfold Pg
   rw [Al (by omega) (by omega)]
   refine hn _ ⟨?_,by omega,?_⟩
   ·rw [List.map_append,List.sum_append,← hs]
    simp
   ·simp only [List.length_append,List.length_cons,List.length_nil]
    omega
  ·rintro s ⟨hs,_,_⟩
   refine Ok.ret ?_
   rw [decide_eq_true_eq,hs]
   exact ⟨fun h => ⟨ch.srt,ch.has,fun x hx => (ch.own x hx).1,h⟩,fun h => h.sum⟩
end
theorem Adj {t : Aa} (hm : ∀ x ∈ t.nodes,AaT x) (h : ¬ WfT t) : Kc t = some false := by
 refine Ok.eq ((Zi t hm).mono fun b hb => ?_)
 cases b with
 | false => rfl
 | true => exact absurd (hb.mp rfl) h
theorem iff_f {m : Option Bool} {p : Prop} (h : Ok m (fun b => b = true ↔ p)) (hp : ¬ p) : m = some false := by
 refine Ok.eq (h.mono fun b hb => ?_)
 cases b with
 | false => rfl
 | true => exact absurd (hb.mp rfl) hp
theorem AaQ {m : Option Bool} {p : Prop} (h : Ok m (fun b => b = true ↔ p)) (hp : p) : m = some true := Ok.eq (h.mono fun b hb => hb.mpr hp)
end Go.Dm

/- Plain theory of protections, part 7: the document's effective protections and floors. -/
namespace Go.Dm
def kdP (b : Bool) (x : Protection) : Int := if b then x.low else x.min
theorem Lt {p : List Protection} (hl : p.length ≤ 1000000) (k : Int) (b : Bool) : Hl p k b = some (Jz (kdP b) p k) := by
 unfold Hl
 rw [if_pos (by omega),Yi (p := fun x : Protection => x.group == k) (f := fun x => Ck (kdP b x) 16777216) (z := 0) (fun i x n => by
  unfold Qd kdP
  cases b <;> rfl) rfl]
 rfl
theorem Ack {t : Aa} {p : List Protection} (h : PrOk t p) (b : Bool) : ∀ x ∈ p,0 ≤ kdP b x := by
 intro x hx
 have := h.mn x hx
 have := h.lw x hx
 unfold kdP
 split <;> omega
theorem Ze {t : Aa} (w : WfT t) {c : Ag} (hc : CcOk t c.charges) {p : List Protection} (h : PrOk t p) (k : Int) (b : Bool) : Mg t c p k b = some (clN t c.charges (kdP b) p k) := by
 have := h.len
 have := w.len2
 unfold Mg
 rw [Abf w hc,Option.bind_some,Lt (by omega),Option.bind_some]
 rfl
theorem AdA {a b d : Int} (ha : 0 ≤ a ∧ a ≤ 16777216) (hb : 0 ≤ b ∧ b ≤ 16777216) (hd : 0 < d) : w64 (Int.tdiv (w64 (a * b)) d) = a * b / d := by
 have h1 : 0 ≤ a * b := Int.mul_nonneg ha.1 hb.1
 have h2 : a * b ≤ 16777216 * 16777216 := Int.mul_le_mul ha.2 hb.2 hb.1 (by omega)
 rw [Al (n := a * b) (by omega) (by omega),Int.tdiv_eq_ediv_of_nonneg h1]
 have h3 : 0 ≤ a * b / d := Int.ediv_nonneg h1 (by omega)
 have h4 : a * b / d ≤ a * b := Int.ediv_le_self _ h1
 exact Al (by omega) (by omega)
theorem Aee {t : Aa} (w : WfT t) {c : Ag} (hc : CcOk t c.charges) {p : List Protection} (h : PrOk t p) (b : Bool) {r : Int} : ∀ (n : Nat) (x : Ac),x ∈ t.nodes → r ∈ upT t x.id → x.id.toNat < n → Gm n t c p r x.id b = some (Gf t (clN t c.charges (kdP b) p) r x.id) := by
 intro n
 induction n with
 | zero => intro x _ _ h; omega
 | succ n ih =>
  intro x hx hr hn
  have hb := clN_bd w hc (f := kdP b) (p := p) (Ack h b)
  show Jq (Gm n) t c p r x.id b = _
  unfold Jq Gf
  by_cases e : x.id = r
  ·rw [if_pos (by simpa using e),← e,Pu w hx]
   rfl
  ·rw [if_neg (by simpa using e),find5 w,Option.bind_some,Ze w hc h,Option.bind_some,nodeN_of w hx,Po w hx e]
   by_cases e2 : x.parent = r
   ·rw [if_pos (by simpa using e2)]
    obtain ⟨y,hy,ey⟩ := Xq w x hx r hr
    rw [e2,← ey,Pu w hy,Yp]
   ·rw [if_neg (by simpa using e2)]
    have h1 : x.id ≠ 1 := by
     intro h1
     rw [w.up hx,(AcS w hx h1).1,w.upZero] at hr
     have : r = x.id := by simpa using hr
     omega
    obtain ⟨y,hy,ey⟩ := hasN_iff.mp (Ace w hx h1)
    have hr' : r ∈ upT t y.id := by
     rw [w.up hx] at hr
     rcases List.mem_cons.mp hr with hr | hr
     ·omega
     ·rw [ey]
      exact hr
    have hlt := w.par_lt hx
    have hy1 := w.id_pos hy
    have hrec := ih y hy hr' (by omega)
    rw [ey] at hrec
    have hcons : chN t r x.parent = x.parent :: chN t r y.parent := by
     have := Po w hy (r := r) (by omega)
     rw [ey] at this
     exact this
    have hkl := Yq w x.parent
    have hhas := Acr hy
    rw [ey] at hhas
    rw [hrec,Option.bind_some,Na w,Option.bind_some,hhas,if_pos rfl,hcons,Wh,← hcons]
    simp only
    apply Ok.eq
    refine Ok.guard (by omega) ?_
    have he := effN_bd hb (t := t) r x.parent
    refine Ok.range (fun pre s => s = Bp (clN t c.charges (kdP b) p) pre ∧ 0 ≤ s ∧ s ≤ 16777216 * (pre.length : Int)) ⟨rfl,by simp,by simp⟩ ?_ ?_
    ·rintro pre z post s m hz ⟨hs,s0,s1⟩ hm
     have hzb := hb z
     have : pre.length + 1 ≤ (Bl t x.parent).length := by rw [hz]; simp
     unfold Ol
     rw [Ze w hc h,Option.bind_some,Al (by omega) (by omega)]
     refine hm _ ⟨?_,by omega,?_⟩
     ·rw [Abm,← hs,Cn,AbH,Int.add_zero]
     ·simp only [List.length_append,List.length_cons,List.length_nil]
      omega
    ·rintro s ⟨hs,s0,_⟩
     unfold Oi
     unfold Gf at he ⊢
     rw [← hs]
     by_cases hle : s ≤ Qs (Bl t) (clN t c.charges (kdP b) p) (chN t r x.parent)
     ·rw [if_pos (decide_eq_true hle),if_pos hle]
      exact Ok.ret rfl
     ·rw [if_neg (by rw [decide_eq_false hle]; simp),if_neg hle,if_pos (by omega)]
      refine Ok.ret ?_
      exact AdA (hb x.id) he (by omega)
theorem Th {t : Aa} (w : WfT t) {c : Ag} (hc : CcOk t c.charges) {p : List Protection} (h : PrOk t p) (b : Bool) {r k : Int} (hk : r ∈ upT t k) : Mt t c p r k b = some (Gf t (clN t c.charges (kdP b) p) r k) := by
 obtain ⟨x,hx,rfl⟩ := Dv hk
 have h1 := w.next x hx
 have h2 := w.nextLe
 have h3 := w.id_pos hx
 exact Aee w hc h b Ei x hx hk (by rw [Dh]; omega)
theorem Abb {t : Aa} (w : WfT t) {c : Ag} (hc : CcOk t c.charges) {p : List Protection} (h : PrOk t p) {r : Int} (hr : Cd t r = true) : Ew t c p r = some (effO t c.charges p r,0) := by
 have l2 := w.len2
 have lc := hc.len
 have lp := h.len
 unfold Ew
 rw [AaQ (Mx w (by omega)) hc,Option.bind_some,if_neg (by simp),AaQ (Qr w (by omega)) h,Option.bind_some]
 unfold El
 rw [if_neg (by simp),Fe w,Option.bind_some,hr,if_neg (by simp)]
 apply Ok.eq
 refine Ok.bind (Wk w r) fun l ⟨hl1,hl2⟩ => ?_
 have hll : l.length ≤ t.nodes.length := Wf hl1 (fun x hx => (hl2 x).mp hx)
 refine Ok.bind (AcD (by omega)) fun M ⟨m1,m2,m3⟩ => ?_
 have hM : M = Ue t r := asc_ext m1 (Ady w r) fun x => by rw [m2,hl2,subN_mem]
 subst hM
 refine Ok.guard (by omega) ?_
 refine Ok.range (fun pre s => s = pre.map (fun g => ({ group := g,min := Gf t (clN t c.charges (·.min) p) r g,low := Gf t (clN t c.charges (·.low) p) r g } : Protection))) rfl ?_ ?_
 ·intro pre x post s n he hs hn
  have hx : r ∈ upT t x := subN_mem.mp (by rw [he]; simp)
  have : pre.length + 1 ≤ (Ue t r).length := by rw [he]; simp
  unfold Oq
  rw [Th w hc h false hx,Option.bind_some,Th w hc h true hx,Option.bind_some,if_pos (by rw [hs,List.length_map]; omega)]
  refine hn _ ?_
  rw [hs,List.map_append]
  rfl
 ·intro s hs
  rw [hs]
  exact Ok.ret rfl
theorem up_last {t : Aa} (w : WfT t) : ∀ x ∈ t.nodes,upT t x.id = chN t 1 x.id ++ [1] := by
 refine w.induct ?_
 intro x hx ih
 by_cases h1 : x.id = 1
 ·have hc : chN t 1 x.id = [] := by
   have := Pu w hx
   rw [h1] at this ⊢
   exact this
  rw [hc,w.up hx,(AcS w hx h1).1,w.upZero,h1]
  rfl
 ·obtain ⟨y,hy,ey⟩ := hasN_iff.mp (Ace w hx h1)
  have := ih y hy ey
  rw [ey] at this
  rw [w.up hx,Po w hx h1,this]
  rfl
theorem Zk {t : Aa} (w : WfT t) {p : List Protection} (h : PrOk t p) (b : Bool) {k u : Int} (hk : Cd t k = true) (hu : 0 ≤ u ∧ u ≤ 16777216) : Me t p k u b = some (Uu t (Jz (kdP b) p) k u) := by
 have l2 := w.len2
 have lp := h.len
 have hb := AaL (f := kdP b) (Ack h b)
 unfold Me
 rw [Lt (by omega),Option.bind_some,Vg w,Option.bind_some,ancN_up]
 obtain ⟨x,hx,rfl⟩ := hasN_iff.mp hk
 have hway := up_last w x hx
 have hul := Qm t.nodes.reverse x.id
 have hlen : (upT t x.id).length ≤ 64 := by
  have : (upT t x.id).length ≤ t.nodes.reverse.length := hul
  rw [List.length_reverse] at this
  omega
 generalize hT : (chN t 1 x.id).tail = T
 have hTl : (upT t x.id).length ≤ T.length + 2 ∧ (0 < T.length → (upT t x.id).length = T.length + 2) ∧ ∀ j,j < T.length → (upT t x.id).getD (j + 1) 0 = T.getD j 0 := by
  rw [hway,← hT]
  cases chN t 1 x.id with
  | nil => simp
  | cons a r =>
   refine ⟨by simp,fun _ => by simp,fun j hj => ?_⟩
   simp only [List.tail_cons] at hj ⊢
   simp only [List.cons_append,List.getD_eq_getElem?_getD,List.getElem?_cons_succ]
   rw [List.getElem?_append_left hj]
 have hTm : ∀ g ∈ T,Cd t g = true := by
  intro g hg
  have : g ∈ upT t x.id := by
   rw [hway]
   rw [← hT] at hg
   exact List.mem_append_left _ (List.mem_of_mem_tail hg)
  obtain ⟨y,hy,ey⟩ := Xq w x hx g this
  rw [← ey]
  exact Acr hy
 obtain ⟨t1,t2,t3⟩ := hTl
 generalize upT t x.id = way at hlen t1 t2 t3
 unfold Uu
 rw [hT]
 generalize hgoal : So (Bl t) (Jz (kdP b) p) (Ck u (Jz (kdP b) p x.id)) T = goal
 have hv0 : 0 ≤ Ck u (Jz (kdP b) p x.id) ∧ Ck u (Jz (kdP b) p x.id) ≤ 16777216 := by
  have h1 := hb x.id
  have h2 := Rt hu.1 h1.1
  have h3 := AcR u (Jz (kdP b) p x.id)
  omega
 apply Ok.eq
 refine Ok.while (fun s => ∃ j : Nat,s.2 = (j : Int) ∧ j ≤ T.length ∧ 0 ≤ s.1 ∧ s.1 ≤ 16777216 ∧ So (Bl t) (Jz (kdP b) p) s.1 (T.drop j) = goal) (fun s => 1000 - s.2.toNat) ⟨0,rfl,by omega,hv0.1,hv0.2,hgoal⟩ (by rw [Dh]; omega) ?_
 rintro ⟨v,i⟩ n ⟨j,e,hj,v0,v1,hf⟩ hn
 simp only at e v0 v1 hf
 subst e
 unfold Sz
 simp only
 have hw2 : w64 ((j : Int) + 2) = ((j + 2 : Nat) : Int) := by
  rw [Al (by omega) (by omega)]
  omega
 have hw1 : w64 ((j : Int) + 1) = ((j + 1 : Nat) : Int) := by
  rw [Al (by omega) (by omega)]
  omega
 rw [hw2,hw1]
 refine Ok.ite (fun c => ?_) fun c => ?_
 ·have hjT : j < T.length := by
   have : ((j + 2 : Nat) : Int) < ((way.length : Nat) : Int) := by simpa using c
   omega
  have htn : Int.toNat (((j + 1 : Nat) : Int)) = j + 1 := by omega
  have hwl := t2 (by omega)
  rw [htn,t3 j hjT]
  have hg := hTm (T.getD j 0) (Rq hjT)
  have hkl := Yq w (T.getD j 0)
  have hd : T.drop j = T.getD j 0 :: T.drop (j + 1) := by
   rw [List.drop_eq_getElem_cons hjT,Mh hjT]
  rw [hd] at hf
  generalize T.getD j 0 = g at hg hkl hf
  refine Ok.guard ⟨by omega,by omega⟩ (Ok.guard (by omega) ?_)
  rw [Lt (by omega),Option.bind_some]
  refine Ok.guard ⟨by omega,by omega⟩ (Ok.guard (by omega) ?_)
  rw [Na w,Option.bind_some,hg,if_pos rfl]
  refine Ok.guard (by omega) ?_
  refine Ok.range (fun pre s => s = Bp (Jz (kdP b) p) pre ∧ 0 ≤ s ∧ s ≤ 16777216 * (pre.length : Int)) ⟨rfl,by simp,by simp⟩ ?_ ?_
  ·rintro pre z post s m hz ⟨hs,s0,s1⟩ hm
   have hzb := hb z
   have : pre.length + 1 ≤ (Bl t g).length := by rw [hz]; simp
   unfold Tc
   rw [Lt (by omega),Option.bind_some,Al (by omega) (by omega)]
   refine hm _ ⟨?_,by omega,?_⟩
   ·rw [Abm,← hs,Cn,AbH,Int.add_zero]
   ·simp only [List.length_append,List.length_cons,List.length_nil]
    omega
  ·rintro s ⟨hs,s0,_⟩
   have hgb := hb g
   rw [So,← hs] at hf
   unfold Sx Ma
   simp only
   rw [hw1]
   refine Ok.ite (fun c => ?_) fun c => ?_
   ·have hgt : s > Jz (kdP b) p g := by simpa using c
    rw [if_pos hgt] at hf
    refine Ok.guard (by omega) ?_
    rw [AdA ⟨v0,v1⟩ hgb (by omega)]
    have q0 : 0 ≤ v * Jz (kdP b) p g / s := Int.ediv_nonneg (Int.mul_nonneg v0 hgb.1) s0
    have q1 : v * Jz (kdP b) p g / s ≤ v := by
     apply Int.ediv_le_of_le_mul (by omega)
     exact Int.mul_le_mul_of_nonneg_left (by omega) v0
    exact hn _ ⟨j + 1,rfl,by omega,q0,by omega,hf⟩ (by simp only; omega)
   ·have hng : ¬ s > Jz (kdP b) p g := by simpa using c
    rw [if_neg hng] at hf
    exact hn _ ⟨j + 1,rfl,by omega,v0,v1,hf⟩ (by simp only; omega)
 ·have hjT : j = T.length := by
   have : ¬ ((j + 2 : Nat) : Int) < ((way.length : Nat) : Int) := by simpa using c
   by_cases h0 : 0 < T.length
   ·have := t2 h0
    omega
   ·omega
  subst hjT
  rw [List.drop_length] at hf
  exact Ok.ret hf
theorem AaU (x : Protection) : Qi x x = true := by simp [Qi]
theorem Zl (l : List Protection) (hl : l.length ≤ 1000000) : Kx l l = some true := by
 unfold Kx
 rw [if_neg (by simp),if_pos (by omega)]
 apply Ok.eq
 refine Ok.range (fun _ _ => True) trivial ?_ fun _ _ => Ok.ret rfl
 intro pre x post s n he _ hn
 unfold Pp
 have hi : pre.length < l.length := by
  rw [he]
  simp
 rw [if_pos hi]
 have : l.getD pre.length default = x := by
  rw [he]
  exact Ys
 rw [this,AaU,if_neg (by simp)]
 exact hn () trivial
theorem Sv {t : Aa} (hm : ∀ x ∈ t.nodes,AaT x) {c : Ag} (lc : c.charges.length ≤ 1000) {p : List Protection} (lp : p.length ≤ 1000) (id n : Int) : Jb t c p id n = some true := by
 have fin : ∀ (l : List Protection) (e a b f : Int) (v : Bool),l.length ≤ 1000000 → Cs t c p id = some (l,e) → Ew t c p id = some (l,e) → En t p id n = some (a,b,f) → Gx t p id n = some (a,b,f) →
   Em t p = some v → Gw t p = some v → Jb t c p id n = some true := by
  intro l e a b f v hl h1 h2 h3 h4 h5 h6
  unfold Jb
  rw [h1,Option.bind_some,h2,Option.bind_some,h3,Option.bind_some,h4,Option.bind_some,h5,Option.bind_some,h6,Option.bind_some,if_pos (by simp),Zl l hl,Option.bind_some,if_pos rfl,if_pos (by simp),if_pos (by simp),if_pos (by simp)]
  unfold Gk
  simp
 by_cases w : WfT t
 ·have l2 := w.len2
  by_cases hp : PrOk t p
  ·have v1 := AaQ (Tm w (by omega)) hp
   have v2 := AaQ (Qr w (by omega)) hp
   have hfloor : ∃ a b f,En t p id n = some (a,b,f) ∧ Gx t p id n = some (a,b,f) := by
    cases hk : Cd t id with
    | false =>
     refine ⟨0,0,4,?_,?_⟩
     ·unfold En
      rw [v1,Option.bind_some,if_neg (by simp),findF w,Option.bind_some,hk]
      rfl
     ·unfold Gx
      rw [v2,Option.bind_some,if_neg (by simp),Fe w,Option.bind_some,hk]
      rfl
    | true =>
     by_cases hn : 0 ≤ n ∧ n ≤ 16777216
     ·refine ⟨_,_,_,Acv w hp hk hn,?_⟩
      unfold Gx
      rw [v2,Option.bind_some,if_neg (by simp),Fe w,Option.bind_some,hk,if_neg (by simp),if_neg (by simp; omega),Zk w hp false hk hn,Option.bind_some,Zk w hp true hk hn,Option.bind_some]
      rfl
     ·have hc : (decide (n < 0) || decide (n > 16777216)) = true := by
       simp
       omega
      refine ⟨0,0,3,?_,?_⟩
      ·unfold En
       rw [v1,Option.bind_some,if_neg (by simp),findF w,Option.bind_some,hk,if_neg (by simp),if_pos hc]
      ·unfold Gx
       rw [v2,Option.bind_some,if_neg (by simp),Fe w,Option.bind_some,hk,if_neg (by simp),if_pos hc]
   obtain ⟨a,b,f,f1,f2⟩ := hfloor
   by_cases hc : CcOk t c.charges
   ·cases hk : Cd t id with
    | true =>
     have hlen : (effO t c.charges p id).length ≤ 1000000 := by
      unfold effO
      rw [List.length_map]
      have := subN_len (t := t) id
      omega
     exact fin _ _ _ _ _ _ hlen (Zm w hc hp hk) (Abb w hc hp hk) f1 f2 v1 v2
    | false =>
     refine fin [] 4 _ _ _ _ (by simp) ?_ ?_ f1 f2 v1 v2
     ·unfold Cs Dn
      rw [AaQ (On w (by omega)) hc,Option.bind_some,if_neg (by simp),v1,Option.bind_some,if_neg (by simp),findF w,Option.bind_some,hk]
      rfl
     ·unfold Ew El
      rw [AaQ (Mx w (by omega)) hc,Option.bind_some,if_neg (by simp),v2,Option.bind_some,if_neg (by simp),Fe w,Option.bind_some,hk]
      rfl
   ·refine fin [] 1 _ _ _ _ (by simp) ?_ ?_ f1 f2 v1 v2
    ·unfold Cs Dn
     rw [iff_f (On w (by omega)) hc,Option.bind_some,if_pos (by simp),if_pos rfl]
    ·unfold Ew El
     rw [iff_f (Mx w (by omega)) hc,Option.bind_some,if_pos (by simp),if_pos rfl]
  ·have v1 := iff_f (Tm w (by omega)) hp
   have v2 := iff_f (Qr w (by omega)) hp
   refine fin [] 1 0 0 1 _ (by simp) ?_ ?_ ?_ ?_ v1 v2
   ·unfold Cs Dn
    obtain ⟨b,hb,_⟩ := On (c := c) w (by omega)
    rw [hb,Option.bind_some]
    cases b
    ·rw [if_pos (by simp),if_pos rfl]
    ·rw [if_neg (by simp),v1,Option.bind_some,if_pos (by simp)]
   ·unfold Ew El
    obtain ⟨b,hb,_⟩ := Mx (c := c) w (by omega)
    rw [hb,Option.bind_some]
    cases b
    ·rw [if_pos (by simp),if_pos rfl]
    ·rw [if_neg (by simp),v2,Option.bind_some,if_pos (by simp)]
   ·unfold En
    rw [v1]
    rfl
   ·unfold Gx
    rw [v2]
    rfl
 ·have c1 := Adj hm w
  have c2 := Adx w
  have v1 : Em t p = some false := by
   unfold Em
   rw [c1]
   rfl
  have v2 : Gw t p = some false := by
   unfold Gw
   rw [c2]
   rfl
  refine fin [] 1 0 0 1 false (by simp) ?_ ?_ ?_ ?_ v1 v2
  ·unfold Cs Dn Gh
   rw [c1]
   rfl
  ·unfold Ew El Hy Iq
   rw [c2]
   rfl
  ·unfold En
   rw [v1]
   rfl
  ·unfold Gx
   rw [v2]
   rfl
end Go.Dm

/- The law ProtectExact, on the model. -/
namespace Go.Dm
def okCharge (x : Ah) : Prop := okI x.group ∧ okI x.own ∧ True
def okCounter (c : Ag) : Prop := okL okCharge c.charges ∧ True
def AdB (x : Protection) : Prop := okI x.group ∧ okI x.min ∧ okI x.low ∧ True
theorem AbS (l : List Int) (t : Aa) (ht : okTree t) (c : Ag) (p : List Protection) (id n : Int) : Ok (Ie l t c p id n) (· = true) := by
 have sane : ∀ {f : Bool → Option Bool},f true = some true → Ok (Option.bind Nw f) (· = true) := fun h => Ok.step AdT (Ok.of_eq h rfl)
 unfold Ie Ua
 refine Ok.step rfl ?_
 refine Ok.ite (fun _ => sane rfl) fun cc => ?_
 have hl : l.length ≤ 600 := by
  have : ((l.length : Nat) : Int) ≤ 600 := by simpa using cc
  omega
 refine Ok.step (a := { l := l,atF := 0 }) rfl ?_
 refine Ok.for (fun _ s => Dx s) (dice_roll hl) ?_ ?_
 ·intro j s m _ hd hm
  unfold Ln
  refine Ok.bind (Tree_ok hd 7 (by omega) (by omega)) fun r66 ⟨w,hd⟩ => ?_
  refine Ok.bind (AeH hd w) fun r67 ⟨hc,hd⟩ => ?_
  refine Ok.bind (AcE hd w) fun r68 ⟨hp,hd⟩ => ?_
  have l2 := w.len2
  have lc := hc.len
  have lp := hp.len
  have hJ : ∀ y : Ao × List Protection,Dx y.1 → y.2.length = r68.1.length → Ok (Fw n m r66 r67 y) (· = true) := by
   intro y hd hy
   unfold Fw
   refine Ok.bind (Aea hd _ (by omega)) fun g hd => ?_
   refine Ok.bind (Rg hd (by simp) (by simp)) fun k ⟨hd,_⟩ => ?_
   rw [Sv w.p.names (by omega) (by omega),Option.bind_some,if_neg (by simp)]
   refine Ok.bind (Aea hd _ (by omega)) fun g hd => ?_
   rw [Sv w.p.names (by omega) (by omega),Option.bind_some]
   exact hm _ hd
  refine Ok.ite (fun c2 => ?_) fun _ => hJ _ hd rfl
  have hlen : 1 ≤ r68.1.length := by
   simp only [Bool.and_eq_true,decide_eq_true_eq] at c2
   omega
  refine Ok.bind (Lo hd _ (by omega) (by omega)) fun r71 ⟨hd,a0,a1⟩ => ?_
  refine Ok.guard ⟨a0,a1⟩ (Ok.guard (by omega) ?_)
  refine Ok.bind (Rg hd (by simp) (by simp)) fun k1 ⟨hd,_⟩ => Ok.guard (by omega) ?_
  refine Ok.bind (Rg hd (by simp) (by simp)) fun k2 ⟨hd,_⟩ => Ok.guard (by omega) ?_
  refine Ok.bind (Rg hd (by simp) (by simp)) fun k3 ⟨hd,_⟩ => Ok.guard (by omega) (Ok.guard (by omega) (Ok.guard (by omega) ?_))
  refine hJ _ hd ?_
  simp only [List.length_set]
 ·intro s _
  unfold Lj
  refine Ok.ite (fun _ => Ok.ret rfl) fun c1 => Ok.ite (fun _ => Ok.ret rfl) fun c2 => Ok.ite (fun _ => Ok.ret rfl) fun c3 => ?_
  simp only [decide_eq_false_iff_not] at c1 c2 c3
  rw [Sv (names_of ht) (by omega) (by omega),Option.bind_some,if_pos rfl]
  exact sane rfl
theorem AaV (l : List Int) (t : Aa) (c : Ag) (p : List Protection) (id n : Int) (_ : ∀ n ∈ l,-9223372036854775808 ≤ n ∧ n ≤ 9223372036854775807) (ht : okTree t) (_ : okCounter c) (_ : okL AdB p) (_ : IntKind.i64.min ≤ id) (_ : id ≤ IntKind.i64.max) (_ : IntKind.i64.min ≤ n) (_ : n ≤ IntKind.i64.max) : Ie l t c p id n = some true := (AbS l t ht c p id n).eq
end Go.Dm

/- Models of Go types and functions, printed by a program. -/
namespace Go.Dm
set_option linter.unusedVariables false

end Go.Dm


/- Types of the program. -/
namespace Go.Dm
open Go.Proofs
set_option linter.unusedVariables false
def Tt : Ty := [(3,⟨.int .i64,1,8,[.int .i64 0],false⟩),
  (4,⟨.bool,1,1,[.bool false],false⟩),
  (5,⟨.int .u8,1,1,[.int .u8 0],false⟩),
  (9,⟨.str,1,16,[.string ByteArray.empty],false⟩),
  (22,⟨.slice 3,1,24,[.slice none 0 0],false⟩),
  (23,⟨.slice 51,1,24,[.slice none 0 0],false⟩),
  (25,⟨.struct [(0,23),(1,3)],2,32,[.slice none 0 0,.int .i64 0],false⟩),
  (26,⟨.slice 67,1,24,[.slice none 0 0],false⟩),
  (28,⟨.struct [(0,26)],1,24,[.slice none 0 0],false⟩),
  (29,⟨.slice 39,1,24,[.slice none 0 0],false⟩),
  (39,⟨.struct [(0,3),(1,3),(2,3)],3,24,[.int .i64 0,.int .i64 0,.int .i64 0],true⟩),
  (51,⟨.struct [(0,3),(1,3),(2,9),(3,3),(4,3),(5,3)],6,56,[.int .i64 0,.int .i64 0,.string ByteArray.empty,.int .i64 0,.int .i64 0,.int .i64 0],false⟩),
  (63,⟨.int .i64,1,8,[.int .i64 0],false⟩),
  (67,⟨.struct [(0,3),(1,3)],2,16,[.int .i64 0,.int .i64 0],false⟩),
  (71,⟨.struct [(0,22),(1,3)],2,32,[.slice none 0 0,.int .i64 0],false⟩),
  (95,⟨.map 3 3,1,8,[(.map none)],false⟩),
  (108,⟨.slice 9,1,24,[.slice none 0 0],false⟩),
  (119,⟨.int .u64,1,8,[.int .u64 0],false⟩),
  (131,⟨.int .i64,1,8,[.int .i64 0],false⟩),
  (142,⟨.int .u64,1,8,[.int .u64 0],false⟩),
  (152,⟨.int .u64,1,8,[.int .u64 0],false⟩),
  (158,⟨.slice 5,1,24,[.slice none 0 0],false⟩)]
theorem Tgood : Jl Try.prog Tt := tyGood_of ⟨⟨⟨by kernel_rfl,by kernel_rfl⟩,trivial⟩,⟨⟨by kernel_rfl,by kernel_rfl⟩,trivial⟩,⟨⟨by kernel_rfl,by kernel_rfl⟩,trivial⟩,⟨⟨by kernel_rfl,by kernel_rfl⟩,trivial⟩,⟨⟨by kernel_rfl,by kernel_rfl⟩,trivial⟩,⟨⟨by kernel_rfl,by kernel_rfl⟩,trivial⟩,⟨⟨by kernel_rfl,by kernel_rfl⟩,trivial⟩,⟨⟨by kernel_rfl,by kernel_rfl⟩,trivial⟩,⟨⟨by kernel_rfl,by kernel_rfl⟩,trivial⟩,⟨⟨by kernel_rfl,by kernel_rfl⟩,trivial⟩,⟨⟨by kernel_rfl,by kernel_rfl⟩,⟨by kernel_rfl,by kernel_rfl,by kernel_rfl⟩⟩,⟨⟨by kernel_rfl,by kernel_rfl⟩,trivial⟩,⟨⟨by kernel_rfl,by kernel_rfl⟩,trivial⟩,⟨⟨by kernel_rfl,by kernel_rfl⟩,trivial⟩,⟨⟨by kernel_rfl,by kernel_rfl⟩,trivial⟩,⟨⟨by kernel_rfl,by kernel_rfl⟩,trivial⟩,⟨⟨by kernel_rfl,by kernel_rfl⟩,trivial⟩,⟨⟨by kernel_rfl,by kernel_rfl⟩,trivial⟩,⟨⟨by kernel_rfl,by kernel_rfl⟩,trivial⟩,⟨⟨by kernel_rfl,by kernel_rfl⟩,trivial⟩,⟨⟨by kernel_rfl,by kernel_rfl⟩,trivial⟩,⟨⟨by kernel_rfl,by kernel_rfl⟩,trivial⟩,trivial⟩ (by kernel_rfl) (by kernel_rfl)
theorem mixed : Try.prog.follows .mixedOrders = true := by kernel_rfl
theorem RK {cx : Cx} {σ : St} {Q : Exit → St → Prop} {nt : Nat} (hnt : cx.nt = nt) {ops : Array Oper} {id : Nat} {draw : Bool} {r : List Code} (xs : List Orc) (sl : List (Nat × MV)) (ob : List (Nat × Obj))
    {q : Prop} (hq : q) (hQ : DW Try.prog cx r (Ai sl ob) Q) (h : Rz Try.prog Tt nt ops xs (Cq sl) (Cq ob) draw σ = some ((sl,ob),q) := by kernel_rfl) : DW Try.prog cx (.region id ops draw :: r) σ Q := DW.rk Tgood mixed hnt xs sl ob hq h hQ
theorem RD {cx : Cx} {Q : Exit → St → Prop} {nt : Nat} (hnt : cx.nt = nt) {ops : Array Oper} {id : Nat} {draw : Bool} {r : List Code} {sl0 : List (Nat × MV)} {ob0 : List (Nat × Obj)} (xs : List Orc) (ds : List Nat) (us : List (Nat × MV)) (dk : List Nat) (uo : List (Nat × Obj))
    {q : Prop} (hq : q) (hQ : DW Try.prog cx r (Ai (up ds us sl0) (up dk uo ob0)) Q) (h : Rz Try.prog Tt nt ops xs (Cq (up ds us sl0)) (Cq (up dk uo ob0)) draw (Ai sl0 ob0) = some ((up ds us sl0,up dk uo ob0),q) := by kernel_rfl) : DW Try.prog cx (.region id ops draw :: r) (Ai sl0 ob0) Q := DW.rd Tgood mixed hnt xs ds us dk uo hq hQ h
theorem SO {f : FuncId} {fn : Func} {c : Code} (hf : Try.prog.funcs[f]? = some fn) (hb : fn.body = some c)
    {args : List MV} {outs : List Body} {res : MV} {outs' news : List Body} (hlen : outs'.length = outs.length)
    (sl : List (Nat × MV)) (ob : List (Nat × Obj)) (hd : ∀ cx : Cx,cx.nt = fn.ntmps → DW Try.prog cx [c] (Ai sl ob) (finQ Tt fn.results.toList outs.length res (outs' ++ news)))
    (hname : fn.name ≠ "runtime.NumGoroutine" := by decide) (hle : Nat.ble args.length fn.ntmps = true := by rfl) (hm : Nat.ble outs.length 1000 = true := by rfl)
    (h1 : Vb (upN args.length 0) (upN outs.length 0) ⟨fun t => (args[t]?).getD .any,Bw outs⟩ = sl := by kernel_rfl)
    (h2 : Qq (upN outs.length 0) ⟨fun t => (args[t]?).getD .any,Bw outs⟩ = ob := by kernel_rfl) :
    Spec Try.prog f args outs res outs' news := spec_of Tgood hf hname hb hlen (Nat.le_of_ble_eq_true hle) (Nat.le_of_ble_eq_true hm) h1 h2 fun cx hnt => DW.start (hd cx hnt)
theorem RN {cx : Cx} {σ : St} {Q : Exit → St → Prop} {nt : Nat} (hnt : cx.nt = nt) {ops : Array Oper} {id : Nat} {draw : Bool} {r : List Code} (xs : List Orc) (sl : List (Nat × MV)) (ob : List (Nat × Obj))
    (ps : List (Nat × MV)) (qs : List (Nat × Body)) {q : Prop} (hq : q) (h : Rz Try.prog Tt nt ops xs (Cq sl) (Cq ob) draw σ = some ((Ng ps sl,Lz qs ob),q)) (hs : SP sl ps) (ho : OP ob qs)
    (hQ : DW Try.prog cx r (Ai sl ob) Q) : DW Try.prog cx (.region id ops draw :: r) σ Q := DW.rn Tgood mixed hnt xs sl ob ps qs hq h hs ho hQ
theorem RT {cx : Cx} {σ : St} {nt : Nat} (hnt : cx.nt = nt) {ops : Array Oper} {draw : Bool} {sl : List (Nat × MV)} {ob : List (Nat × Obj)} (xs : List Orc)
    (ps : List (Nat × MV)) {q : Prop} (hq : q) (h : Rz Try.prog Tt nt ops xs (Cq sl) (Cq ob) draw σ = some ((Ng ps sl,ob),q)) (hs : SP sl ps) : RegTo Try.prog cx ops draw σ sl ob := RegTo.rn Tgood mixed hnt xs ps hq h hs
end Go.Dm

