/- Texts of the proof of CpusetAll: the data machine, the models of the Go functions, their contracts. -/
import Derived.Test.YtkmmocjhkaagpaaGreatCpusetAllA0
import Derived.RangeFuncLeaves
import Derived.RangeFuncRecord
import Derived.IntWalk
import Derived.WalkKit
import Derived.ProofKit
import Derived.OpenShut
import Derived.ReadAgain
set_option linter.unusedVariables false
set_option linter.unusedSimpArgs false
/- The data machine, part 11: contracts of functions, and a call by its contract. -/
namespace Go.Dm
def Cb (l:List Body):Bh:=fun k=>(l[k]?).map fun b=>⟨0,b⟩
def FnOK (P:Program) (f:FuncId):Prop:=∃ fn,P.funcs[f]? = some fn∧fn.name ≠ "runtime.NumGoroutine" ∧ fn.body.isSome=true
structure Pre (w:World) (Av:Nat→Prop) (β:Bu) (outs:List Body) (vs:Array Value) (args:List MV):Prop where
 av:∀ b,Av b→b<w.heap.size
 len:vs.size=args.length
 args:∀ (i:Nat) x,args[i]? = some x→RelV β (Cb outs) (As Av β (Cb outs) w) w (vs.getD i undef) x
 ob:∀ (k:Nat) bd,outs[k]? = some bd→ObjRel β (Cb outs) (As Av β (Cb outs) w) w (β k) bd
 blk:∀ (k:Nat) bd b,outs[k]? = some bd→bd.live→(β k).block=some b→b<w.heap.size∧¬ Av b
 inj:∀ (k k':Nat) bd bd' b,outs[k]? = some bd→outs[k']? = some bd'→bd.live→bd'.live→k≠k'→(β k).block=some b→(β k').block≠some b
structure Post (w:World) (Av:Nat→Prop) (β:Bu) (outs:List Body) (w':World) (β':Bu) (v:Value) (res:MV) (outs' news:List Body):Prop where
 kept:Kept (fun b=>∃ (k:Nat) (bd:Body),outs[k]? = some bd∧bd.live∧(β k).block=some b) w w'
 loc:∀ k bd,k<outs.length→outs'[k]? = some bd→bd.live→β' k=β k
 len:outs'.length=outs.length
 res:RelV β' (Cb (outs'++news)) (As Av β' (Cb (outs'++news)) w') w' v res
 ob:∀ (k:Nat) bd,(outs'++news)[k]? = some bd→ObjRel β' (Cb (outs'++news)) (As Av β' (Cb (outs'++news)) w') w' (β' k) bd
 blk:∀ (k:Nat) bd b,(outs'++news)[k]? = some bd→bd.live→(β' k).block=some b→b<w'.heap.size∧(k<outs.length∨w.heap.size≤b∨∃ (j:Nat) (bd0:Body),outs[j]? = some bd0∧bd0.live∧outs'[j]? = some .dead∧(β j).block=some b)
 inj:∀ (k k':Nat) bd bd' b,(outs'++news)[k]? = some bd→(outs'++news)[k']? = some bd'→bd.live→bd'.live→k≠k'→(β' k).block=some b→(β' k').block≠some b
def Spec (P:Program) (f:FuncId) (args:List MV) (outs:List Body) (res:MV) (outs' news:List Body):Prop :=
 FnOK P f∧∀ (w:World) (Av:Nat→Prop) (β:Bu) (vs:Array Value),Pre w Av β outs vs args →
  Calls P f vs w fun e w'=>∃ v β',e = .returned v∧Post w Av β outs w' β' v res outs' news
def Qq (k:Nat):List Nat→Nat→Option Nat
 | [],_=>none
 | j::r,i=>bif Nat.beq k j then some i else Qq k r (i+1)
def toC1 (ob:Bh) (ks:List Nat):MV→Option MV
 | .p x=>some (.p x)
 | .own k g off len=>match Mg ob k g with
  | some (W,_,f)=>match Qq k ks 0 with
   | some i=>some (.own i 0 off len)
   | none=>some (.p (.sl .unk W len (shF off f)))
  | none=>none
 | .ref k g off=>match Ack ob k g,Qq k ks 0 with
  | some _,some i=>some (.ref i 0 off)
  | _,_=>none
 | .fptr cs=>some (.fptr cs)
 | .any=>some .any
 | .mref k g=>match Vx ob k g with
  | some (z,has,f)=>match Qq k ks 0 with
   | some i=>some (.mref i 0)
   | none=>some (.p (.mp z has f))
  | none=>none
 | _=>none
def mapO {α:Type} (f:α→Option α):List α→Option (List α)
 | []=>some []
 | x::r=>match f x,mapO f r with
  | some y,some s=>some (y::s)
  | _,_=>none
def toC (ob:Bh) (ks:List Nat):MV→Option MV
 | .agg cs=>match mapO (toC1 ob ks) cs with
  | some ds=>match pures ds with
   | some ps=>some (.p (.agg ps))
   | none=>some (.agg ds)
  | none=>none
 | .fn f cs=>match mapO (toC1 ob ks) cs with
  | some ds=>match pures ds with
   | some ps=>some (.p (.fn f ps))
   | none=>some (.fn f ds)
  | none=>none
 | x=>toC1 ob ks x
def Zm (ks:List Nat):MV→List Nat
 | .own k _ _ _=>match Qq k ks 0 with
  | some _ => []
  | none => [k]
 | .mref k _=>match Qq k ks 0 with
  | some _ => []
  | none => [k]
 | _ => []
def bor (ks:List Nat):MV→List Nat
 | .agg cs=>cs.flatMap (Zm ks)
 | .fn _ cs=>cs.flatMap (Zm ks)
 | x=>Zm ks x
def dedup : List Nat→List Nat→List Nat
 | [],acc=>acc
 | x::r,acc=>bif elem x acc then dedup r acc else dedup r (acc ++ [x])
theorem dedup_mem (l:List Nat):∀ acc k,k∈dedup l acc↔k∈l∨k∈acc:=by
 induction l with
 | nil=>intro acc k; simp [dedup]
 | cons x r ih =>
  intro acc k
  simp only [dedup]
  cases h:elem x acc with
  | true =>
   have:=(Tg x acc).1 h
   simp only [cond_true,ih,List.mem_cons]
   constructor
   ·rintro (h|h); exact .inl (.inr h); exact .inr h
   ·rintro ((h|h)|h)
    ·subst h; exact .inr this
    ·exact .inl h
    ·exact .inr h
  | false =>
   simp only [cond_false,ih,List.mem_append,List.mem_cons,List.not_mem_nil,or_false]
   constructor
   ·rintro (h|h|h); exact .inl (.inr h); exact .inr h; exact .inl (.inl h)
   ·rintro ((h|h)|h); exact .inr (.inr h); exact .inl h; exact .inr (.inl h)
def toC20 (ob:Bh) (ks:List Nat):MV→Option MV
 | .p x=>some (.p x)
 | .any=>some .any
 | .own k g off len=>match Mg ob k g,Qq k ks 0 with
  | some _,some i=>some (.own i 0 off len)
  | _,_=>none
 | .ref k g off=>match Ack ob k g,Qq k ks 0 with
  | some _,some i=>some (.ref i 0 off)
  | _,_=>none
 | .mref k g=>match Vx ob k g,Qq k ks 0 with
  | some _,some i=>some (.mref i 0)
  | _,_=>none
 | _=>none
def toC2 (ob:Bh) (ks:List Nat):MV→Option MV
 | .fn f cs=>match mapO (toC20 ob ks) cs with
  | some ds=>some (.fn f ds)
  | none=>none
 | x=>toC20 ob ks x
def toB (ob:Bh) (ks:List Nat):Body→Option Body
 | .box cs=>match mapO (toC2 ob ks) cs with
  | some ds=>some (.box ds)
  | none=>none
 | .row W n f=>some (.row W n f)
 | .mp z has f=>some (.mp z has f)
 | .mq _=>none
 | .dead=>some .dead
theorem toB_same {ob:Bh} {ks:List Nat} {b c:Body} (h:toB ob ks b=some c):b.same c:=by
 cases b with
 | box cs =>
  simp only [toB] at h
  split at h <;> simp at h
  subst h
  trivial
 | row W n f=>simp [toB] at h; subst h; exact ⟨rfl,rfl⟩
 | mp z has f=>simp [toB] at h; subst h; trivial
 | mq q=>simp [toB] at h
 | dead=>simp [toB] at h; subst h; trivial
theorem Hy {ob:Bh} {ks:List Nat} {b c:Body} (h:toB ob ks b=some c):b.live↔c.live:=by
 cases b with
 | box cs =>
  simp only [toB] at h
  split at h <;> simp at h
  subst h
  exact Iff.rfl
 | row W n f=>simp [toB] at h; subst h; exact Iff.rfl
 | mp z has f=>simp [toB] at h; subst h; exact Iff.rfl
 | mq q=>simp [toB] at h
 | dead=>simp [toB] at h; subst h; exact Iff.rfl
def outsO (ob:Bh) (kall:List Nat):List Nat→Option (List (Nat×Body))
 | []=>some []
 | k::r=>match ob k,outsO ob kall r with
  | some o,some s=>match toB ob kall o.body with
   | some b=>some ((o.gen,b)::s)
   | none=>none
  | _,_=>none
def Uk (ob:Bh) (ks:List Nat):Option (List (Nat×Body)):=outsO ob ks ks
theorem Ajy (k:Nat):∀ (l:List Nat) (s i:Nat),Qq k l s=some i→∃ j,i=s+j∧l[j]? = some k:=by
 intro l
 induction l with
 | nil=>intro s i h; simp [Qq] at h
 | cons x r ih =>
  intro s i h
  unfold Qq at h
  cases hb:Nat.beq k x with
  | true =>
   simp [hb] at h
   exact ⟨0,by omega,by simp [Nat.eq_of_beq_eq_true hb]⟩
  | false =>
   simp [hb] at h
   obtain ⟨j,h1,h2⟩:=ih _ _ h
   exact ⟨j+1,by omega,by simpa using h2⟩
theorem Agb (k:Nat):∀ (l:List Nat) (s:Nat),Qq k l s=none→k∉l:=by
 intro l
 induction l with
 | nil=>intro s _; simp
 | cons x r ih =>
  intro s h
  unfold Qq at h
  cases hb:Nat.beq k x with
  | true=>simp [hb] at h
  | false =>
   simp [hb] at h
   simp only [List.mem_cons,not_or]
   exact ⟨fun e=>by subst e; rw [Cq] at hb; simp at hb,ih _ h⟩
theorem AjJ {ob:Bh} {kall:List Nat} : ∀ (ks:List Nat) (os:List (Nat×Body)),outsO ob kall ks=some os →
  os.length=ks.length∧∀ (i k:Nat),ks[i]? = some k→∃ g bd,os[i]? = some (g,bd)∧∃ bd0,ob k=some ⟨g,bd0⟩∧toB ob kall bd0=some bd:=by
 intro ks
 induction ks with
 | nil=>intro os h; simp [outsO] at h; subst h; exact ⟨rfl,fun i k h=>by simp at h⟩
 | cons k r ih =>
  intro os h
  unfold outsO at h
  split at h
  ·rename_i o s ho hs
   split at h
   ·rename_i b hb
    simp at h
    subst h
    obtain ⟨h1,h2⟩:=ih s hs
    refine ⟨by simp [h1],fun i k' hk => ?_⟩
    cases i with
    | zero=>simp at hk; subst hk; exact ⟨o.gen,b,rfl,o.body,ho,hb⟩
    | succ i=>exact h2 i k' (by simpa using hk)
   ·simp at h
  ·simp at h
theorem AbL {ob:Bh} (ks:List Nat) (os:List (Nat×Body)) (h:Uk ob ks=some os) :
  os.length=ks.length∧∀ (i k:Nat),ks[i]? = some k→∃ g bd,os[i]? = some (g,bd)∧∃ bd0,ob k=some ⟨g,bd0⟩∧toB ob ks bd0=some bd:=AjJ ks os h
theorem Vn {α:Type} {f:α→Option α} : ∀ (l m:List α),mapO f l=some m→m.length=l.length∧∀ (i:Nat) y,m[i]? = some y→∃ x,l[i]? = some x∧f x=some y:=by
 intro l
 induction l with
 | nil=>intro m h; simp [mapO] at h; subst h; simp
 | cons x r ih =>
  intro m h
  unfold mapO at h
  split at h
  ·rename_i y s h1 h2
   simp at h
   subst h
   obtain ⟨g1,g2⟩:=ih s h2
   refine ⟨by simp [g1],fun i z hz => ?_⟩
   cases i with
   | zero=>simp at hz; subst hz; exact ⟨x,rfl,h1⟩
   | succ i=>exact g2 i z (by simpa using hz)
  ·simp at h
section
variable {P : Program} {cx:Cx} {β:Bu} {σ:St} {a:Act} {w:World}
def Sb (cx:Cx) (β:Bu) (objs:Bh) (ks bs:List Nat) (b:Nat):Prop :=
 cx.Av b∨∃ k o,objs k=some o∧o.body.live∧k∉ks∧k∉bs∧(β k).block=some b
def Bq (β:Bu) (ks:List Nat):Bu:=fun i=>β (ks.getD i 0)
theorem Acz (h:Rel cx β σ a w) {ob:Bh} (hob:∀ k o,ob k=some o→σ.objs k=some o) {ks bs:List Nat} {os:List (Nat×Body)} (hos:Uk ob ks=some os)
  {v:Value} {x y:MV} (rx:RelV β σ.objs (As cx.Av β σ.objs w) w v x) (hy:toC1 ob ks x=some y) (hbs:∀ k∈Zm ks x,k∈bs) :
  RelV (Bq β ks) (Cb (os.map (·.2))) (As (Sb cx β σ.objs ks bs) (Bq β ks) (Cb (os.map (·.2))) w) w v y:=by
 obtain ⟨hlen,hspec⟩:=AbL ks os hos
 have hout:∀ i o,Cb (os.map (·.2)) i=some o→∃ k g bd0,ks[i]? = some k∧ob k=some ⟨g,bd0⟩∧(o.body.live→bd0.live)∧o.gen=0:=by
  intro i o ho
  simp only [Cb,List.getElem?_map] at ho
  cases hi:os[i]? with
  | none=>simp [hi] at ho
  | some p =>
   have hlt:i<ks.length:=by rw [← hlen]; exact (List.getElem?_eq_some_iff.1 hi).1
   obtain ⟨g,bd,h1,bd0,h2,h3⟩:=hspec i ks[i] (List.getElem?_eq_getElem hlt)
   rw [hi] at h1
   injection h1 with h1
   subst h1
   simp [hi] at ho
   subst ho
   exact ⟨ks[i],g,bd0,List.getElem?_eq_getElem hlt,h2,(Hy h3).2,rfl⟩
 have hS:∀ b,As cx.Av β σ.objs w b→As (Sb cx β σ.objs ks bs) (Bq β ks) (Cb (os.map (·.2))) w b:=by
  intro b hb
  refine ⟨hb.1,?_,fun i o ho hl => ?_⟩
  ·rintro (hA|⟨k,o,ho,hl,_,_,hblk⟩)
   ·exact hb.2.1 hA
   ·exact hb.2.2 k o ho hl hblk
  ·obtain ⟨k,g,bd0,hk,ho',hl0,_⟩:=hout i o ho
   have:=hb.2.2 k _ (hob _ _ ho') (hl0 hl)
   simpa [Bq,hk] using this
 have hget:∀ k i,Qq k ks 0=some i→ks[i]? = some k:=by
  intro k i hi
  obtain ⟨j,e,hj⟩:=Ajy k ks 0 i hi
  rw [e,Nat.zero_add]; exact hj
 unfold toC1 at hy
 split at hy
 ·simp at hy; subst hy
  exact .p _ _ (rx.inv_p.mono hS (fun _ _=>rfl))
 ·rename_i k g off len
  obtain ⟨base,c,rfl,hk⟩:=rx.inv_own
  split at hy
  ·rename_i W n f hg
   have ho1:=hob _ _ (Gn hg)
   have hown:=hk.get ho1
   split at hy
   ·rename_i i hi
    simp at hy; subst hy
    have hki:=hget k i hi
    obtain ⟨g',bd,q1,bd0,q2,q3⟩:=hspec i k hki
    rw [Gn hg] at q2
    injection q2 with q2
    injection q2 with e1 e2
    subst e1; subst e2
    simp only [toB,Option.some.injEq] at q3
    subst q3
    refine .own _ _ _ _ _ _ ⟨⟨0,.row W n f⟩,by simp [Cb,q1],Nat.le_refl _,fun _ => ?_⟩
    simpa [Bq,hki] using hown
   ·rename_i hi
    simp at hy; subst hy
    have hknot:=Agb k ks 0 hi
    have hkb:k∈bs:=hbs k (by simp [Zm,hi])
    obtain ⟨hle,hl⟩:=hown
    rcases h.ob k _ ho1 with ⟨hl',hn0⟩|⟨b,o,cap,cur,e',hl',hheap,hcap,hnn,hrow⟩
    ·rw [hl'] at hl
     obtain ⟨hbase,rfl,rfl,rfl⟩:=hl
     rcases hbase with rfl|⟨bb,oo,rfl⟩
     ·exact .p _ _ (.slnil _ _ _ (by simp))
     ·exact .p _ _ (.sl _ _ _ _ _ _ _ (fun _ _=>undef) (by simp) (Nat.le_refl _) (fun e=>by simp at e) (fun i hi=>by omega) (fun i j hi=>by omega) (fun i j hi=>by omega) (fun i j x hi=>by omega))
    ·rw [hl'] at hl
     obtain ⟨b',o',rfl,hcc,hadr⟩:=hl
     by_cases hlen0:len=0
     ·subst hlen0
      exact .p _ _ (.sl _ _ _ _ _ _ _ (fun _ _=>undef) (by simp) (Nat.zero_le _) (fun e=>by simp at e) (fun i hi=>by omega) (fun i j hi=>by omega) (fun i j hi=>by omega) (fun i j x hi=>by omega))
     ·obtain ⟨rfl,rfl⟩:=hadr (by omega)
      have hblk:=h.blk k _ b' ho1 trivial (by rw [hl']; rfl)
      have hSb:As (Sb cx β σ.objs ks bs) (Bq β ks) (Cb (os.map (·.2))) w b':=by
       refine ⟨hblk.1,?_,fun i o ho hlv => ?_⟩
       ·rintro (hA|⟨k',oo,hoo,hlv,hn1,hn2,hb'⟩)
        ·exact hblk.2.1 hA
        ·by_cases he:k'=k
         ·subst he; exact hn2 hkb
         ·exact h.inj k k' _ oo b' ho1 hoo trivial hlv (Ne.symm he) (by rw [hl']; rfl) hb'
       ·obtain ⟨k',g',bd0,hk',ho',hl0,_⟩:=hout i o ho
        have hne:k≠k':=fun e=>hknot (by rw [e]; exact List.mem_of_getElem? hk')
        have:=h.inj k k' _ _ b' ho1 (hob _ _ ho') trivial (hl0 hlv) hne (by rw [hl']; rfl)
        simpa [Bq,hk'] using this
      have hcell:∀ j,w.cell? (at_ b' j)=cur[j]? := fun j=>cell_of_row w b' j cur e' (0,0) hheap
      have hgetc:∀ i j,i<len→j<W→∃ u,cur[o+off*W+(i*W+j)]? = some u∧u.oneCell'=true:=by
       intro i j hi hj
       obtain ⟨q1,q2⟩:=hrow (off+i) (by omega)
       obtain ⟨u,u1,u2,_⟩:=q2 j (f (off+i))[j] (List.getElem?_eq_getElem (by omega))
       exact ⟨u,by rw [← u1]; congr 1; rw [Nat.add_mul]; omega,u2⟩
      refine .p _ _ (.sl _ _ _ _ _ _ _ (fun i j=>cur.getD (o+off*W+(i*W+j)) undef) (by simp) (by omega) (fun _=>hSb) (fun i hi => ?_) (fun i j hi hj => ?_) (fun i j hi hj => ?_) (fun i j x hi hx => ?_))
      ·rw [Wp]; exact (hrow (off+i) (by omega)).1
      ·obtain ⟨u,u1,_⟩:=hgetc i j hi hj
       rw [hcell,Array.getD_eq_getD_getElem?,u1]
       rfl
      ·obtain ⟨u,u1,u2⟩:=hgetc i j hi hj
       rw [Array.getD_eq_getD_getElem?,u1]
       exact u2
      ·rw [Wp] at hx
       obtain ⟨u,u1,u2,u3⟩:=(hrow (off+i) (by omega)).2 j x hx
       have e2:o+(off+i)*W+j=o+off*W+(i*W+j):=by rw [Nat.add_mul]; omega
       rw [← e2,Array.getD_eq_getD_getElem?,u1]
       exact u3.mono hS (fun _ _=>rfl)
  ·simp at hy
 ·rename_i k g off
  obtain ⟨b,rfl,hk⟩:=rx.inv_ref
  split at hy
  ·rename_i cs i hg hi
   simp at hy; subst hy
   have ho1:=hob _ _ (AbY hg)
   have hl:=hk.get ho1
   have hki:=hget k i hi
   obtain ⟨g',bd,q1,_⟩:=hspec i k hki
   refine .ref _ _ _ _ ⟨⟨0,bd⟩,by simp [Cb,q1],Nat.le_refl _,fun _ => ?_⟩
   simpa [Bq,hki] using hl
  ·simp at hy
 ·rename_i cs
  simp at hy; subst hy
  obtain ⟨b,o,c,rfl,h1,h2,h3,h4⟩:=rx.inv_fptr
  exact .fptr _ _ _ (hS _ h1) _ h2 h3 (fun j x hx=>(h4 j x hx).mono hS (fun _ _=>rfl))
 ·simp at hy; subst hy; exact .any _
 ·rename_i k g
  obtain ⟨b,rfl,hk⟩:=rx.inv_mref
  split at hy
  ·rename_i z has f hg
   have ho1:=hob _ _ (Rr hg)
   have hl:=hk.get ho1
   split at hy
   ·rename_i i hi
    simp at hy; subst hy
    have hki:=hget k i hi
    obtain ⟨g',bd,q1,_⟩:=hspec i k hki
    refine .mref _ _ _ ⟨⟨0,bd⟩,by simp [Cb,q1],Nat.le_refl _,fun _ => ?_⟩
    simpa [Bq,hki] using hl
   ·rename_i hi
    simp at hy; subst hy
    have hknot:=Agb k ks 0 hi
    have hkb:k∈bs:=hbs k (by simp [Zm,hi])
    obtain ⟨b1,es,clock,hl1,hh,hm,hz,hr⟩:=h.ob k _ ho1
    rw [hl] at hl1
    injection hl1 with hl1
    subst hl1
    have hblk:=h.blk k _ b ho1 trivial (by rw [hl]; rfl)
    have hSb:As (Sb cx β σ.objs ks bs) (Bq β ks) (Cb (os.map (·.2))) w b:=by
     refine ⟨hblk.1,?_,fun i o ho hlv => ?_⟩
     ·rintro (hA|⟨k',oo,hoo,hlv,hn1,hn2,hb'⟩)
      ·exact hblk.2.1 hA
      ·by_cases he:k'=k
       ·subst he; exact hn2 hkb
       ·exact h.inj k k' _ oo b ho1 hoo trivial hlv (Ne.symm he) (by rw [hl]; rfl) hb'
     ·obtain ⟨k',g',bd0,hk',ho',hl0,_⟩:=hout i o ho
      have hne:k≠k':=fun e=>hknot (by rw [e]; exact List.mem_of_getElem? hk')
      have:=h.inj k k' _ _ b ho1 (hob _ _ ho') trivial (hl0 hlv) hne (by rw [hl]; rfl)
      simpa [Bq,hk'] using this
    exact .p _ _ (.mp _ _ _ _ _ _ hSb hh hm hz (fun i e n he hn=>(hr i e n he hn).mono hS (fun _ _=>rfl)))
  ·simp at hy
 ·simp at hy
theorem Ro (h:Rel cx β σ a w) {ob:Bh} (hob:∀ k o,ob k=some o→σ.objs k=some o) {ks bs:List Nat} {os:List (Nat×Body)} (hos:Uk ob ks=some os)
  {v:Value} {x y:MV} (rx:RelV β σ.objs (As cx.Av β σ.objs w) w v x) (hy:toC20 ob ks x=some y) :
  RelV (Bq β ks) (Cb (os.map (·.2))) (As (Sb cx β σ.objs ks bs) (Bq β ks) (Cb (os.map (·.2))) w) w v y:=by
 have key:(y = .any)∨(toC1 ob ks x=some y∧Zm ks x = []):=by
  unfold toC20 at hy
  split at hy
  ·right; simp at hy; subst hy; exact ⟨rfl,rfl⟩
  ·left; simp at hy; exact hy.symm
  ·split at hy
   ·rename_i k g off len q i hg hi
    obtain ⟨W,n,f⟩:=q
    simp at hy; subst hy
    right
    simp [toC1,Zm,hg,hi]
   ·simp at hy
  ·split at hy
   ·rename_i k g off q i hg hi
    simp at hy; subst hy
    right
    simp [toC1,Zm,hg,hi]
   ·simp at hy
  ·split at hy
   ·rename_i k g q i hg hi
    obtain ⟨z,has,f⟩:=q
    simp at hy; subst hy
    right
    simp [toC1,Zm,hg,hi]
   ·simp at hy
  ·simp at hy
 rcases key with rfl|⟨h1,h2⟩
 ·exact .any _
 ·exact Acz h hob hos rx h1 (fun k hk=>by rw [h2] at hk; simp at hk)
theorem AfU (h:Rel cx β σ a w) {ob:Bh} (hob:∀ k o,ob k=some o→σ.objs k=some o) {ks bs:List Nat} {os:List (Nat×Body)} (hos:Uk ob ks=some os)
  {v:Value} {x y:MV} (rx:RelV β σ.objs (As cx.Av β σ.objs w) w v x) (hy:toC2 ob ks x=some y) :
  RelV (Bq β ks) (Cb (os.map (·.2))) (As (Sb cx β σ.objs ks bs) (Bq β ks) (Cb (os.map (·.2))) w) w v y:=by
 cases rx with
 | fn f cs vs hl hr =>
  simp only [toC2] at hy
  split at hy
  ·rename_i ds hds
   simp only [Option.some.injEq] at hy
   subst hy
   obtain ⟨m1,m2⟩:=Vn cs ds hds
   refine .fn f ds vs (by rw [hl,m1]) fun i y hy => ?_
   obtain ⟨x,hx,hxy⟩:=m2 i y hy
   exact Ro h hob hos (hr i x hx) hxy
  ·simp at hy
 | p v x hx=>exact Ro h hob hos (.p _ _ hx) hy
 | own k g off len base c hk=>exact Ro h hob hos (.own _ _ _ _ _ _ hk) hy
 | ref k g off b hk=>exact Ro h hob hos (.ref _ _ _ _ hk) hy
 | mref k g b hk=>exact Ro h hob hos (.mref _ _ _ hk) hy
 | any v=>exact Ro h hob hos (.any v) hy
 | _=>simp [toC2,toC20] at hy
theorem toB_sound (h:Rel cx β σ a w) {ob:Bh} (hob:∀ k o,ob k=some o→σ.objs k=some o) {ks bs:List Nat} {os:List (Nat×Body)} (hos:Uk ob ks=some os)
  (hS:∀ b,As cx.Av β σ.objs w b→As (Sb cx β σ.objs ks bs) (Bq β ks) (Cb (os.map (·.2))) w b)
  {l:Loc} {b c:Body} (hr:ObjRel β σ.objs (As cx.Av β σ.objs w) w l b) (hb:toB ob ks b=some c) :
  ObjRel (Bq β ks) (Cb (os.map (·.2))) (As (Sb cx β σ.objs ks bs) (Bq β ks) (Cb (os.map (·.2))) w) w l c:=by
 cases b with
 | box cs =>
  simp only [toB] at hb
  split at hb <;> simp at hb
  rename_i ds hds
  subst hb
  obtain ⟨m1,m2⟩:=Vn cs ds hds
  obtain ⟨bl,cur,e,rfl,h1,h2,h3⟩:=hr
  refine ⟨bl,cur,e,rfl,h1,by rw [m1]; exact h2,fun j y hy => ?_⟩
  obtain ⟨x,hx,hxy⟩:=m2 j y hy
  obtain ⟨u,u1,u2,u3⟩:=h3 j x hx
  exact ⟨u,u1,u2,AfU h hob hos u3 hxy⟩
 | row W n f =>
  simp only [toB,Option.some.injEq] at hb
  subst hb
  rcases hr with hr|⟨b,o,cap,cur,e,rfl,h1,h2,h3,h4⟩
  ·exact .inl hr
  ·exact .inr ⟨b,o,cap,cur,e,rfl,h1,h2,h3,fun i hi=>⟨(h4 i hi).1,(h4 i hi).2.mono hS (fun _ _=>rfl)⟩⟩
 | mp z has f =>
  simp only [toB,Option.some.injEq] at hb
  subst hb
  obtain ⟨b,es,clock,rfl,h1,h2,h3,h4⟩:=hr
  exact ⟨b,es,clock,rfl,h1,h2,h3,fun i e n he hn=>(h4 i e n he hn).mono hS (fun _ _=>rfl)⟩
 | mq q=>simp [toB] at hb
 | dead=>simp [toB] at hb; subst hb; trivial
theorem AgT (h:Rel cx β σ a w) {ob:Bh} (hob:∀ k o,ob k=some o→σ.objs k=some o) {ks bs:List Nat} {os:List (Nat×Body)} (hos:Uk ob ks=some os)
  {v:Value} {x y:MV} (rx:RelV β σ.objs (As cx.Av β σ.objs w) w v x) (hy:toC ob ks x=some y) (hbs:∀ k∈bor ks x,k∈bs) :
  RelV (Bq β ks) (Cb (os.map (·.2))) (As (Sb cx β σ.objs ks bs) (Bq β ks) (Cb (os.map (·.2))) w) w v y:=by
 have many:∀ (cs ds:List MV) (vs:Array Value),mapO (toC1 ob ks) cs=some ds→(∀ k∈cs.flatMap (Zm ks),k∈bs) →
   (∀ (i:Nat) x,cs[i]? = some x→RelV β σ.objs (As cx.Av β σ.objs w) w (vs.getD i undef) x) →
   ds.length=cs.length∧∀ (i:Nat) y,ds[i]? = some y→RelV (Bq β ks) (Cb (os.map (·.2))) (As (Sb cx β σ.objs ks bs) (Bq β ks) (Cb (os.map (·.2))) w) w (vs.getD i undef) y:=by
  intro cs ds vs hm hb hr
  obtain ⟨h1,h2⟩:=Vn cs ds hm
  refine ⟨h1,fun i z hz => ?_⟩
  obtain ⟨q,hq,hqz⟩:=h2 i z hz
  exact Acz h hob hos (hr i q hq) hqz (fun k hk=>hb k (List.mem_flatMap.2 ⟨q,List.mem_of_getElem? hq,hk⟩))
 unfold toC at hy
 split at hy
 ·rename_i cs
  cases rx with
  | agg _ vs hl hr h1 =>
   split at hy
   ·rename_i ds hds
    obtain ⟨m1,m2⟩:=many cs ds vs hds (by simpa [bor] using hbs) hr
    have h1':∀ (i:Nat),i<cs.length→(vs.getD i undef).oneCell'=true:=fun i hi=>h1 i cs[i] (List.getElem?_eq_getElem hi)
    split at hy
    ·rename_i ps hps
     simp at hy; subst hy
     have hds':=Lj hps
     refine .p _ _ (.agg _ _ (by rw [hl,← m1,hds']; simp) (fun i q hq => ?_) (fun i q hq => ?_))
     ·exact (m2 i (.p q) (by rw [hds',List.getElem?_map,hq]; rfl)).inv_p
     ·refine h1' i ?_
      have:=(List.getElem?_eq_some_iff.1 hq).1
      rw [← m1,hds']; simpa using this
    ·simp at hy; subst hy
     exact .agg _ _ (by rw [hl,m1]) m2 (fun i q hq=>h1' i (by rw [← m1]; exact (List.getElem?_eq_some_iff.1 hq).1))
   ·simp at hy
 ·rename_i f cs
  cases rx with
  | fn _ _ vs hl hr =>
   split at hy
   ·rename_i ds hds
    obtain ⟨m1,m2⟩:=many cs ds vs hds (by simpa [bor] using hbs) hr
    split at hy
    ·rename_i ps hps
     simp at hy; subst hy
     have hds':=Lj hps
     refine .p _ _ (.fn _ _ _ (by rw [hl,← m1,hds']; simp) (fun i q hq => ?_))
     exact (m2 i (.p q) (by rw [hds',List.getElem?_map,hq]; rfl)).inv_p
    ·simp at hy; subst hy
     exact .fn _ _ _ (by rw [hl,m1]) m2
   ·simp at hy
 ·rename_i hn1 hn2
  refine Acz h hob hos rx hy ?_
  have:bor ks x=Zm ks x:=by
   unfold bor
   cases x <;> simp_all
  rw [← this]
  exact hbs
end
end Go.Dm

/- The data machine, part 12: a call's end, as the caller sees it. -/
namespace Go.Dm
def ren1 (m:List (Nat×Nat)):MV→MV
 | .p x => .p x
 | .own i _ off len=>match m[i]? with
  | some (k,g) => .own k g off len
  | none => .any
 | .ref i _ off=>match m[i]? with
  | some (k,g) => .ref k g off
  | none => .any
 | .eref i _ ix off=>match m[i]? with
  | some (k,g) => .eref k g ix off
  | none => .any
 | .mref i _=>match m[i]? with
  | some (k,g) => .mref k g
  | none => .any
 | .fptr cs => .fptr cs
 | .und => .und
 | _ => .any
def renN (m:List (Nat×Nat)):Nat→MV→MV
 | 0,x=>ren1 m x
 | d+1,.agg cs => .agg (cs.map (renN m d))
 | d+1,.tup cs => .tup (cs.map (renN m d))
 | d+1,.fn f cs => .fn f (cs.map (renN m d))
 | _+1,x=>ren1 m x
def PV.flat : PV→Bool
 | .v _=>true
 | _=>false
def PV.scal2 : PV→Bool
 | .v _=>true
 | .agg cs=>cs.all PV.flat
 | _=>false
def PV.scalar : PV→Bool
 | .v _=>true
 | .agg cs=>cs.all PV.flat
 | .tup cs=>cs.all PV.scal2
 | _=>false
def MV.scalar : MV→Bool
 | .p x=>x.scalar
 | .und=>true
 | _=>false
def MV.flat : MV→Bool
 | .p x=>x.flat
 | _=>false
def Body.flatB : Body→Bool
 | .box cs=>cs.all MV.flat
 | _=>false
theorem AaN {S S':Nat→Prop} {w w':World} {v:Value} {x:PV} (hx:x.flat=true) (h:Rep S w v x):Rep S' w' v x:=by
 cases h with
 | v _ h=>exact .v _ h
 | _=>simp [PV.flat] at hx
theorem AgW {S S':Nat→Prop} {w w':World} {v:Value} {x:PV} (hx:x.scal2=true) (h:Rep S w v x):Rep S' w' v x:=by
 cases h with
 | v _ h=>exact .v _ h
 | agg cs vs hl hr h1 =>
  simp only [PV.scal2,List.all_eq_true] at hx
  exact .agg cs vs hl (fun i y hy=>AaN (hx y (List.mem_of_getElem? hy)) (hr i y hy)) h1
 | _=>simp [PV.scal2] at hx
theorem AfX {S S':Nat→Prop} {w w':World} {v:Value} {x:PV} (hx:x.scalar=true) (h:Rep S w v x):Rep S' w' v x:=by
 cases h with
 | v _ h=>exact .v _ h
 | agg cs vs hl hr h1 =>
  simp only [PV.scalar,List.all_eq_true] at hx
  exact .agg cs vs hl (fun i y hy=>AaN (hx y (List.mem_of_getElem? hy)) (hr i y hy)) h1
 | tup cs vs hl hr =>
  simp only [PV.scalar,List.all_eq_true] at hx
  exact .tup cs vs hl (fun i y hy=>AgW (hx y (List.mem_of_getElem? hy)) (hr i y hy))
 | _=>simp [PV.scalar] at hx
theorem AdU {β' β'':Bu} {objs' objs'':Bh} {S S'':Nat→Prop} {w w':World} {m:List (Nat×Nat)} (hS:∀ b,S b→S'' b) (hw:w'.heap=w.heap)
  (hm:∀ i o,objs' i=some o→o.gen=0∧∀ k g,m[i]? = some (k,g)→∃ o'',objs'' k=some o''∧g≤o''.gen∧(o''.gen=g→β'' k=β' i∧o.body.same o''.body)) :
  ∀ (d:Nat) (v:Value) (x:MV),RelV β' objs' S w v x→RelV β'' objs'' S'' w' v (renN m d x):=by
 have known:∀ (i k g0 g:Nat) (F:Loc→Body→Prop),(∀ l b c,F l b→b.same c→F l c)→m[i]? = some (k,g)→Known β' objs' i g0 F→Known β'' objs'' k g F:=by
  intro i k g0 g F hF hmi hk
  obtain ⟨o,ho,hle,hf⟩:=hk
  obtain ⟨h0,h1⟩:=hm i o ho
  obtain ⟨o'',ho'',hg,hs'⟩:=h1 k g hmi
  refine ⟨o'',ho'',hg,fun he => ?_⟩
  obtain ⟨hb,hs⟩:=hs' he
  rw [hb]
  exact hF _ _ _ (hf (by omega)) hs
 have one:∀ (v:Value) (x:MV),RelV β' objs' S w v x→RelV β'' objs'' S'' w' v (ren1 m x):=by
  intro v x h
  cases h with
  | p _ _ h=>exact .p _ _ (h.mono hS (fun _ _=>by rw [hw]))
  | own i g off len base c h =>
   simp only [ren1]
   split
   ·rename_i k g' hmi
    exact .own _ _ _ _ _ _ (known i k g g' _ (fun _ _ _ h hs=>OwnAt.same h hs) hmi h)
   ·exact .any _
  | ref i g off b h =>
   simp only [ren1]
   split
   ·rename_i k g' hmi
    exact .ref _ _ _ _ (known i k g g' _ (fun _ _ _ h _=>h) hmi h)
   ·exact .any _
  | eref i g ix off b oo h =>
   simp only [ren1]
   split
   ·rename_i k g' hmi
    exact .eref _ _ _ _ _ _ (known i k g g' _ (fun _ _ _ h hs=>ERefAt.same h hs) hmi h)
   ·exact .any _
  | fptr cs b o hs c hc h1 hr =>
   exact .fptr _ _ _ (hS _ hs) c (fun j hj=>by rw [Ahk hw]; exact hc j hj) h1 (fun j x hx=>(hr j x hx).mono hS (fun _ _=>by rw [hw]))
  | mref i g b h =>
   simp only [ren1]
   split
   ·rename_i k g' hmi
    exact .mref _ _ _ (known i k g g' _ (fun _ _ _ h _=>h) hmi h)
   ·exact .any _
  | und=>exact .und
  | _=>exact .any _
 intro d
 induction d with
 | zero=>exact one
 | succ d ih =>
  intro v x h
  cases h with
  | agg cs vs hl hr h1 =>
   refine .agg _ _ (by simpa using hl) (fun i y hy => ?_) (fun i y hy => ?_)
   ·rw [List.getElem?_map] at hy
    cases hq:cs[i]? with
    | none=>simp [hq] at hy
    | some q=>simp [hq] at hy; subst hy; exact ih _ _ (hr i q hq)
   ·rw [List.getElem?_map] at hy
    cases hq:cs[i]? with
    | none=>simp [hq] at hy
    | some q=>exact h1 i q hq
  | tup cs vs hl hr =>
   refine .tup _ _ (by simpa using hl) (fun i y hy => ?_)
   rw [List.getElem?_map] at hy
   cases hq:cs[i]? with
   | none=>simp [hq] at hy
   | some q=>simp [hq] at hy; subst hy; exact ih _ _ (hr i q hq)
  | fn f cs vs hl hr =>
   refine .fn _ _ _ (by simpa using hl) (fun i y hy => ?_)
   rw [List.getElem?_map] at hy
   cases hq:cs[i]? with
   | none=>simp [hq] at hy
   | some q=>simp [hq] at hy; subst hy; exact ih _ _ (hr i q hq)
  | p _ _ h=>exact one _ _ (.p _ _ h)
  | own i g off len base c h=>exact one _ _ (.own _ _ _ _ _ _ h)
  | ref i g off b h=>exact one _ _ (.ref _ _ _ _ h)
  | eref i g ix off b oo h=>exact one _ _ (.eref _ _ _ _ _ _ h)
  | fptr cs b o hs c hc h1 hr=>exact one _ _ (.fptr _ _ _ hs c hc h1 hr)
  | mref i g b h=>exact one _ _ (.mref _ _ _ h)
  | und=>exact one _ _ .und
  | any v=>exact one _ _ (.any v)
def upG (g:Nat):Body→Nat
 | .dead=>g+1
 | _=>g
theorem Aie {g:Nat} {b:Body} (h:b.live):upG g b=g:=by cases b <;> first|rfl|exact h.elim
def Rz : List Nat→List (Nat×Body)→List Body→List (Nat×Obj)
 | k::ks,(g,_)::os,bd::r=>(k,⟨upG g bd,bd⟩)::Rz ks os r
 | _,_,_ => []
def newO (ob:Bh) (dst:Nat):Nat→List Body→List (Nat×Obj)
 | _,[] => []
 | j,bd::r=>(key dst j,⟨Bw (ob (key dst j)),bd⟩)::newO ob dst (j+1) r
def AeD (ob:Bh):List Nat→List (Nat×Obj)
 | [] => []
 | k::r=>(k,⟨Bw (ob k),.dead⟩)::AeD ob r
def AbD : List Nat→List (Nat×Body)→List (Nat×Nat)
 | k::ks,(g,_)::os=>(k,g)::AbD ks os
 | _,_ => []
def newM (ob:Bh) (dst:Nat):Nat→List Body→List (Nat×Nat)
 | _,[] => []
 | j,_::r=>(key dst j,Bw (ob (key dst j)))::newM ob dst (j+1) r
def Aaw : List Nat→Bool
 | []=>true
 | x::r => !(elem x r)&&Aaw r
theorem AcU (l:List Nat):Aaw l=true→l.Nodup:=by
 induction l with
 | nil=>intro _; simp
 | cons x r ih =>
  intro h
  simp only [Aaw,Bool.and_eq_true,Bool.not_eq_true'] at h
  rw [List.nodup_cons]
  refine ⟨fun hm => ?_,ih h.2⟩
  rw [(Tg x r).2 hm] at h
  simp at h
theorem Yp {objs:Bh} : ∀ (wo:List (Nat×Obj)) (k:Nat) (o:Obj),(Ch wo).Nodup→(k,o)∈wo→Dg objs wo k=some o:=by
 intro wo
 induction wo generalizing objs with
 | nil=>intro k o _ h; simp at h
 | cons p r ih =>
  intro k o hn h
  obtain ⟨k',o'⟩:=p
  simp only [Ch,List.nodup_cons] at hn
  simp only [Dg]
  rcases List.mem_cons.1 h with h|h
  ·injection h with e1 e2
   subst e1; subst e2
   rw [Oz r (by rw [← Df]; exact hn.1),Bm]
  ·exact ih k o hn.2 h
theorem flatB_rel {β β':Bu} {objs objs':Bh} {S S':Nat→Prop} {w:World} {l:Loc} {bd:Body} (hf:bd.flatB=true) (h:ObjRel β objs S w l bd):ObjRel β' objs' S' w l bd:=by
 cases bd with
 | box cs =>
  obtain ⟨b,cur,e,h0,h1,h2,h3⟩:=h
  refine ⟨b,cur,e,h0,h1,h2,fun j x hx => ?_⟩
  obtain ⟨u,u1,u2,u3⟩:=h3 j x hx
  refine ⟨u,u1,u2,?_⟩
  simp only [Body.flatB,List.all_eq_true] at hf
  have hx':=hf x (List.mem_of_getElem? hx)
  cases x with
  | p y=>exact .p _ _ (AaN hx' u3.inv_p)
  | _=>simp [MV.flat] at hx'
 | _=>simp [Body.flatB] at hf
def MV.scal1 : MV→Bool
 | .p x=>x.flat
 | .own _ _ _ _=>true
 | _=>false
def MV.scalQ : MV→Bool
 | .p x=>x.scal2
 | .own _ _ _ _=>true
 | .agg cs=>cs.all MV.scal1
 | _=>false
def MV.scalR : MV→Bool
 | .p x=>x.scalar
 | .own _ _ _ _=>true
 | .und=>true
 | .agg cs=>cs.all MV.scal1
 | .tup cs=>cs.all MV.scalQ
 | _=>false
def Body.flatR : Body→Bool
 | .box cs=>cs.all MV.scal1
 | .row _ _ _=>true
 | _=>false
def Acu : List Body→List Prop
 | [] => []
 | .row _ _ f::r=>(∀ i,(f i).all PV.flat=true)::Acu r
 | _::r=>Acu r
theorem AiX {W n:Nat} {f:Nat→List PV} : ∀ {l:List Body},All (Acu l)→Body.row W n f∈l→∀ i,(f i).all PV.flat=true:=by
 intro l
 induction l with
 | nil=>intro _ h; simp at h
 | cons b r ih =>
  intro h hm
  rcases List.mem_cons.1 hm with e|e
  ·subst e; exact h.1
  ·refine ih ?_ e
   cases b <;> first|exact h.2|exact h
theorem Adp {β:Bu} {objs:Bh} {S S':Nat→Prop} {w:World} {v:Value} {x:MV} (hx:x.scal1=true) (h:RelV β objs S w v x):RelV β objs S' w v x:=by
 cases h with
 | p _ _ h=>exact .p _ _ (AaN hx h)
 | own k g off len base c h=>exact .own k g off len base c h
 | _=>simp [MV.scal1] at hx
theorem scalQ_rel {β:Bu} {objs:Bh} {S S':Nat→Prop} {w:World} {v:Value} {x:MV} (hx:x.scalQ=true) (h:RelV β objs S w v x):RelV β objs S' w v x:=by
 cases h with
 | p _ _ h=>exact .p _ _ (AgW hx h)
 | own k g off len base c h=>exact .own k g off len base c h
 | agg cs vs hl hr h1 =>
  simp only [MV.scalQ,List.all_eq_true] at hx
  exact .agg cs vs hl (fun i y hy=>Adp (hx y (List.mem_of_getElem? hy)) (hr i y hy)) h1
 | _=>simp [MV.scalQ] at hx
theorem scalR_rel {β:Bu} {objs:Bh} {S S':Nat→Prop} {w:World} {v:Value} {x:MV} (hx:x.scalR=true) (h:RelV β objs S w v x):RelV β objs S' w v x:=by
 cases h with
 | p _ _ h=>exact .p _ _ (AfX hx h)
 | own k g off len base c h=>exact .own k g off len base c h
 | agg cs vs hl hr h1 =>
  simp only [MV.scalR,List.all_eq_true] at hx
  exact .agg cs vs hl (fun i y hy=>Adp (hx y (List.mem_of_getElem? hy)) (hr i y hy)) h1
 | tup cs vs hl hr =>
  simp only [MV.scalR,List.all_eq_true] at hx
  exact .tup cs vs hl (fun i y hy=>scalQ_rel (hx y (List.mem_of_getElem? hy)) (hr i y hy))
 | und=>exact .und
 | _=>simp [MV.scalR] at hx
theorem flatR_rel {β:Bu} {objs:Bh} {S S':Nat→Prop} {w:World} {l:Loc} {bd:Body} (hf:bd.flatR=true) (hr:∀ W n f,bd = .row W n f→∀ i,(f i).all PV.flat=true) (h:ObjRel β objs S w l bd):ObjRel β objs S' w l bd:=by
 cases bd with
 | box cs =>
  obtain ⟨b,cur,e,h0,h1,h2,h3⟩:=h
  refine ⟨b,cur,e,h0,h1,h2,fun j x hx => ?_⟩
  obtain ⟨u,u1,u2,u3⟩:=h3 j x hx
  simp only [Body.flatR,List.all_eq_true] at hf
  exact ⟨u,u1,u2,Adp (hf x (List.mem_of_getElem? hx)) u3⟩
 | row W n f =>
  rcases h with h|⟨b,o,cap,cur,e,h0,h1,h2,h3,h4⟩
  ·exact .inl h
  ·refine .inr ⟨b,o,cap,cur,e,h0,h1,h2,h3,fun i hi=>⟨(h4 i hi).1,?_⟩⟩
   have hq:=hr W n f rfl i
   rw [List.all_eq_true] at hq
   have:=(h4 i hi).2
   intro j x hx
   obtain ⟨u,u1,u2,u3⟩:=this j x hx
   exact ⟨u,u1,u2,AaN (hq x (List.mem_of_getElem? hx)) u3⟩
 | _=>simp [Body.flatR] at hf
def Mq (m:List (Nat×Nat)):Body→Body
 | .box cs => .box (cs.map (renN m 1))
 | b=>b
theorem renB_live {m:List (Nat×Nat)} {b:Body} : (Mq m b).live↔b.live:=by cases b <;> simp [Mq,Body.live]
theorem upG_ren {g:Nat} {m:List (Nat×Nat)} {b:Body} : upG g (Mq m b)=upG g b:=by cases b <;> rfl
theorem AdD {m:List (Nat×Nat)} {b:Body} : b.same (Mq m b):=by cases b <;> simp [Mq,Body.same]
theorem Body.same_trans {a b c:Body} (h:a.same b) (k:b.same c):a.same c:=by
 cases a <;> cases b <;> cases c <;> simp_all [Body.same]
theorem renB_flat {m:List (Nat×Nat)} {b:Body} (h:b.flatB=true):Mq m b=b:=by
 cases b with
 | box cs =>
  simp only [Body.flatB,List.all_eq_true] at h
  simp only [Mq,Body.box.injEq]
  have:cs.map (renN m 1)=cs.map id:=List.map_congr_left fun x hx=>by
   have:=h x hx
   cases x <;> simp_all [MV.flat,renN,ren1]
  simpa using this
 | _=>rfl
theorem AcZ {β' β'':Bu} {objs' objs'':Bh} {S S'':Nat→Prop} {w:World} {m:List (Nat×Nat)} (hS:∀ b,S b→S'' b)
  (hm:∀ i o,objs' i=some o→o.gen=0∧∀ k g,m[i]? = some (k,g)→∃ o'',objs'' k=some o''∧g≤o''.gen∧(o''.gen=g→β'' k=β' i∧o.body.same o''.body))
  {l:Loc} {bd:Body} (h:ObjRel β' objs' S w l bd):ObjRel β'' objs'' S'' w l (Mq m bd):=by
 cases bd with
 | box cs =>
  obtain ⟨b,cur,e,h0,h1,h2,h3⟩:=h
  refine ⟨b,cur,e,h0,h1,by simpa using h2,fun j x hx => ?_⟩
  rw [List.getElem?_map] at hx
  cases hq:cs[j]? with
  | none=>simp [hq] at hx
  | some q =>
   simp [hq] at hx
   subst hx
   obtain ⟨u,u1,u2,u3⟩:=h3 j q hq
   exact ⟨u,u1,u2,AdU hS rfl hm 1 _ _ u3⟩
 | row W n f =>
  rcases h with h|⟨b,o,cap,cur,e,h0,h1,h2,h3,h4⟩
  ·exact .inl h
  ·exact .inr ⟨b,o,cap,cur,e,h0,h1,h2,h3,fun i hi=>⟨(h4 i hi).1,(h4 i hi).2.mono hS (fun _ _=>rfl)⟩⟩
 | mp z has f =>
  obtain ⟨b,es,clock,h0,h1,h2,h3,h4⟩:=h
  exact ⟨b,es,clock,h0,h1,h2,h3,fun i e n he hn=>(h4 i e n he hn).mono hS (fun _ _=>rfl)⟩
 | mq q=>exact QRel.mono hS (fun _ _=>rfl) (fun _ _=>rfl) h
 | dead=>trivial
def Vo (ob:Bh) (dst:Nat) (ks:List Nat) (xs:List MV) (keep:Bool) (res:MV) (outs' news:List Body):Option (List MV×List Body×Eff) :=
 match mapO (toC ob ks) xs,Uk ob ks with
 | some args,some os =>
  let bs:=dedup (xs.flatMap (bor ks)) []
  let m:=AbD ks os++newM ob dst 0 news
  let wo:=Rz ks os (outs'.map (Mq m))++newO ob dst 0 (news.map (Mq m))++(bif keep then [] else AeD ob bs)
  let old := !keep||bs.isEmpty||(news.isEmpty&&outs'.all Body.flatB&&res.scalar)
  bif Nat.beq outs'.length ks.length&&Aaw (Ch wo)&&bs.all (fun k=>(ob k).isSome)
   && (old||((outs'++news).all Body.flatR&&res.scalR)) then
   some (args,os.map (·.2),renN m 3 res,wo,bif old then [] else Acu (outs'++news))
  else none
 | _,_=>none
theorem backO_mem {ks:List Nat} {os:List (Nat×Body)} {outs':List Body} : ∀ {k o},(k,o)∈Rz ks os outs'→∃ (i:Nat) (g:Nat) (b bd:Body),ks[i]? = some k∧os[i]? = some (g,b)∧outs'[i]? = some bd∧o=⟨upG g bd,bd⟩:=by
 intro k o h
 induction ks generalizing os outs' with
 | nil=>simp [Rz] at h
 | cons k' ks ih =>
  cases os with
  | nil=>simp [Rz] at h
  | cons p os =>
   cases outs' with
   | nil=>simp [Rz] at h
   | cons bd r =>
    obtain ⟨g,b⟩:=p
    simp only [Rz,List.mem_cons] at h
    rcases h with h|h
    ·injection h with e1 e2
     exact ⟨0,g,b,bd,by simp [e1],rfl,rfl,e2⟩
    ·obtain ⟨i,g',b',bd',h1,h2,h3,h4⟩:=ih h
     exact ⟨i+1,g',b',bd',by simpa using h1,by simpa using h2,by simpa using h3,h4⟩
theorem backO_has {ks:List Nat} {os:List (Nat×Body)} {outs':List Body} : ∀ {i k:Nat} {g:Nat} {b bd:Body},ks[i]? = some k→os[i]? = some (g,b)→outs'[i]? = some bd→(k,⟨upG g bd,bd⟩)∈Rz ks os outs':=by
 induction ks generalizing os outs' with
 | nil=>intro i k g b bd h; simp at h
 | cons k' ks ih =>
  intro i k g b bd h1 h2 h3
  cases os with
  | nil=>simp at h2
  | cons p os =>
   cases outs' with
   | nil=>simp at h3
   | cons bd' r =>
    obtain ⟨g',b'⟩:=p
    simp only [Rz,List.mem_cons]
    cases i with
    | zero=>simp at h1 h2 h3; left; simp [h1,h2.1,h3]
    | succ i=>right; exact ih (by simpa using h1) (by simpa using h2) (by simpa using h3)
theorem newO_mem {ob:Bh} {dst:Nat} : ∀ {news:List Body} {s:Nat} {k o},(k,o)∈newO ob dst s news→∃ (j:Nat) (bd:Body),news[j]? = some bd∧k=key dst (s+j)∧o=⟨Bw (ob (key dst (s+j))),bd⟩:=by
 intro news
 induction news with
 | nil=>intro s k o h; simp [newO] at h
 | cons b r ih =>
  intro s k o h
  simp only [newO,List.mem_cons] at h
  rcases h with h|h
  ·injection h with e1 e2
   exact ⟨0,b,rfl,e1,e2⟩
  ·obtain ⟨j,bd,h1,h2,h3⟩:=ih h
   refine ⟨j+1,bd,by simpa using h1,?_,?_⟩
   ·rw [h2,show s+1+j=s+(j+1) by omega]
   ·rw [h3,show s+1+j=s+(j+1) by omega]
theorem Aio {ob:Bh} {dst:Nat} : ∀ {news:List Body} {s j:Nat} {bd:Body},news[j]? = some bd→(key dst (s+j),⟨Bw (ob (key dst (s+j))),bd⟩)∈newO ob dst s news:=by
 intro news
 induction news with
 | nil=>intro s j bd h; simp at h
 | cons b r ih =>
  intro s j bd h
  simp only [newO,List.mem_cons]
  cases j with
  | zero=>simp at h; left; simp [h]
  | succ j =>
   right
   have:=ih (s:=s+1) (j:=j) (bd:=bd) (by simpa using h)
   rwa [show s+1+j=s+(j+1) by omega] at this
theorem deadO_mem {ob:Bh} : ∀ {bs:List Nat} {k o},(k,o)∈AeD ob bs↔k∈bs∧o=⟨Bw (ob k),.dead⟩:=by
 intro bs
 induction bs with
 | nil=>intro k o; simp [AeD]
 | cons x r ih =>
  intro k o
  simp only [AeD,List.mem_cons,ih,Prod.mk.injEq]
  constructor
  ·rintro (⟨rfl,rfl⟩|⟨h1,h2⟩)
   ·exact ⟨.inl rfl,rfl⟩
   ·exact ⟨.inr h1,h2⟩
  ·rintro ⟨rfl|h1,h2⟩
   ·exact .inl ⟨rfl,h2⟩
   ·exact .inr ⟨h1,h2⟩
theorem backM_get {ks:List Nat} : ∀ {os:List (Nat×Body)},os.length=ks.length→(AbD ks os).length=ks.length∧∀ (i k g:Nat),(AbD ks os)[i]? = some (k,g)→ks[i]? = some k∧∃ b,os[i]? = some (g,b):=by
 induction ks with
 | nil=>intro os h; cases os <;> simp [AbD]
 | cons k' ks ih =>
  intro os h
  cases os with
  | nil=>simp at h
  | cons p os =>
   obtain ⟨g',b'⟩:=p
   obtain ⟨h1,h2⟩:=ih (os:=os) (by simpa using h)
   refine ⟨by simp [AbD,h1],fun i k g hi => ?_⟩
   simp only [AbD] at hi
   cases i with
   | zero=>simp at hi; simp [hi.1,hi.2]
   | succ i =>
    obtain ⟨q1,b,q2⟩:=h2 i k g (by simpa using hi)
    exact ⟨by simpa using q1,b,by simpa using q2⟩
theorem newM_get {ob:Bh} {dst:Nat} : ∀ {news:List Body} {s:Nat} {i k g:Nat},(newM ob dst s news)[i]? = some (k,g)→k=key dst (s+i)∧g=Bw (ob (key dst (s+i)))∧i<news.length:=by
 intro news
 induction news with
 | nil=>intro s i k g h; simp [newM] at h
 | cons b r ih =>
  intro s i k g h
  simp only [newM] at h
  cases i with
  | zero=>simp at h; exact ⟨by rw [← h.1]; rfl,by rw [← h.2]; rfl,by simp⟩
  | succ i =>
   obtain ⟨h1,h2,h3⟩:=ih (by simpa using h)
   rw [show s+1+i=s+(i+1) by omega] at h1 h2
   exact ⟨h1,h2,by simp; omega⟩
section
variable {P : Program} {cx:Cx} {β:Bu} {σ:St} {a:Act} {w:World}
theorem Aiv {args:List MV} {outs outs' news:List Body} {res y:MV} {wo:List (Nat×Obj)} {obl:List Prop} {ob:Bh} {ks:List Nat} {xs:List MV} {dst:Nat} {keep:Bool}
  (h:Rel cx β σ a w) (hob:∀ k o,ob k=some o→σ.objs k=some o)
  (hobn:∀ j,j<news.length→ob (key dst j)=σ.objs (key dst j)) (hobb:∀ k,k∈xs.flatMap (bor ks)→ob k=σ.objs k)
  (he:Vo ob dst ks xs keep res outs' news=some (args,outs,y,wo,obl)) (hobl:All obl)
  (hsame:∀ (i:Nat) b b',outs[i]? = some b→outs'[i]? = some b'→b'.live→b.same b')
  (vs:Array Value) (hvs:vs.size=xs.length) (hrel:∀ (i:Nat) x,xs[i]? = some x→RelV β σ.objs (As cx.Av β σ.objs w) w (vs.getD i undef) x) :
  ∃ Av' β0,Pre w Av' β0 outs vs args∧∀ w' v β1,Post w Av' β0 outs w' β1 v res outs' news→∃ β',Rel cx β' ⟨σ.slots,Dg σ.objs wo⟩ a w' ∧
   RelV β' (Dg σ.objs wo) (As cx.Av β' (Dg σ.objs wo) w') w' v y∧∀ b,As cx.Av β σ.objs w b→w'.heap[b]? = w.heap[b]? := by
 unfold Vo at he
 split at he
 case h_2=>simp at he
 rename_i args0 os hargs hos
 generalize hbs:dedup (xs.flatMap (bor ks)) []=bs at he
 simp only at he
 generalize hmdef:AbD ks os++newM ob dst 0 news=m at he
 generalize hwo:Rz ks os (outs'.map (Mq m))++newO ob dst 0 (news.map (Mq m))++(bif keep then [] else AeD ob bs)=wo0 at he
 generalize hold:(!keep||bs.isEmpty||(news.isEmpty&&outs'.all Body.flatB&&res.scalar))=old at he
 cases hb:(Nat.beq outs'.length ks.length&&Aaw (Ch wo0)&&bs.all (fun k=>(ob k).isSome)
   && (old||((outs'++news).all Body.flatR&&res.scalR))) with
 | false=>rw [hb] at he; simp at he
 | true =>
 simp only [hb,cond_true,Option.some.injEq,Prod.mk.injEq] at he
 obtain ⟨rfl,rfl,rfl,rfl,rfl⟩:=he
 simp only [Bool.and_eq_true] at hb
 obtain ⟨⟨⟨c1,c2⟩,c5⟩,c6⟩:=hb
 have e1:=Nat.eq_of_beq_eq_true c1
 have hnd:=AcU _ c2
 rw [List.all_eq_true] at c5
 obtain ⟨hosl,hosg⟩:=AbL ks os hos
 obtain ⟨hal,hag⟩:=Vn xs args0 hargs
 have hbmem:∀ k,k∈bs↔k∈xs.flatMap (bor ks):=by
  intro k; rw [← hbs,dedup_mem]; simp
 have hbsome:∀ k∈bs,∃ o,σ.objs k=some o∧ob k=some o:=by
  intro k hk
  have:=c5 k hk
  cases ho:ob k with
  | none=>simp [ho] at this
  | some o=>exact ⟨o,hob k o ho,rfl⟩
 have hlent:∀ (i:Nat) bd,(os.map (·.2))[i]? = some bd→∃ k g,ks[i]? = some k∧os[i]? = some (g,bd)∧∃ bd0,σ.objs k=some ⟨g,bd0⟩∧toB ob ks bd0=some bd:=by
  intro i bd hi
  rw [List.getElem?_map] at hi
  cases ho:os[i]? with
  | none=>simp [ho] at hi
  | some p =>
   have hlt:i<ks.length:=by rw [← hosl]; exact (List.getElem?_eq_some_iff.1 ho).1
   obtain ⟨g,bd',q1,bd0,q2,q3⟩:=hosg i ks[i] (List.getElem?_eq_getElem hlt)
   rw [ho] at q1
   injection q1 with q1
   subst q1
   simp [ho] at hi
   subst hi
   exact ⟨ks[i],g,List.getElem?_eq_getElem hlt,rfl,bd0,hob _ _ q2,q3⟩
 have hwkeys:Ch (Rz ks os (outs'.map (Mq m)))=ks:=by
  have:∀ (ks:List Nat) (os:List (Nat×Body)) (outs':List Body),os.length=ks.length→outs'.length=ks.length→Ch (Rz ks os outs')=ks:=by
   intro ks
   induction ks with
   | nil=>intro os o' _ _; cases os <;> simp [Rz,Ch]
   | cons k r ih =>
    intro os o' h1 h2
    cases os with
    | nil=>simp at h1
    | cons p os =>
     cases o' with
     | nil=>simp at h2
     | cons bd o'=>obtain ⟨g,b⟩:=p; simp [Rz,Ch,ih os o' (by simpa using h1) (by simpa using h2)]
  exact this ks os (outs'.map (Mq m)) hosl (by simpa using e1)
 have hnodks:ks.Nodup:=by
  rw [← hwo] at hnd
  simp only [Df,List.map_append] at hnd
  rw [← Df,hwkeys,List.append_assoc] at hnd
  exact (List.nodup_append.1 hnd).1
 have hpre:Pre w (Sb cx β σ.objs ks bs) (Bq β ks) (os.map (·.2)) vs args0:=by
  refine ⟨?_,by rw [hvs,hal],?_,?_,?_,?_⟩
  ·rintro b (hA|⟨k,o,ho,hl,_,_,hblk⟩)
   ·exact Nat.lt_of_lt_of_le (h.avlt b hA) h.kept.size
   ·exact (h.blk k o b ho hl hblk).1
  ·intro i x hx
   obtain ⟨q,hq,hqx⟩:=hag i x hx
   exact AgT h hob hos (hrel i q hq) hqx (fun k hk=>(hbmem k).2 (List.mem_flatMap.2 ⟨q,List.mem_of_getElem? hq,hk⟩))
  ·intro i bd hi
   obtain ⟨k,g,hk,_,bd0,ho,hp⟩:=hlent i bd hi
   have hc:Bq β ks i=β k:=by simp [Bq,hk]
   rw [hc]
   refine toB_sound h hob hos (fun b hbS=>⟨hbS.1,?_,fun j o hj hl => ?_⟩) (h.ob k _ ho) hp
   ·rintro (hA|⟨k',o,ho',hl,_,_,hblk⟩)
    ·exact hbS.2.1 hA
    ·exact hbS.2.2 k' o ho' hl hblk
   ·simp only [Cb] at hj
    cases hjj:(os.map (·.2))[j]? with
    | none=>simp [hjj] at hj
    | some bd' =>
     simp only [hjj,Option.map_some,Option.some.injEq] at hj
     subst hj
     obtain ⟨k',g',hk',_,bd0',ho',hp'⟩:=hlent j bd' hjj
     have:Bq β ks j=β k':=by simp [Bq,hk']
     rw [this]
     exact hbS.2.2 k' _ ho' ((Hy hp').2 hl)
  ·intro i bd b hi hl hblk
   obtain ⟨k,g,hk,_,bd0,ho,hp⟩:=hlent i bd hi
   have hc:Bq β ks i=β k:=by simp [Bq,hk]
   rw [hc] at hblk
   have hb1:=h.blk k _ b ho ((Hy hp).2 hl) hblk
   refine ⟨hb1.1,?_⟩
   rintro (hA|⟨k',o,ho',hl',hn1,_,hblk'⟩)
   ·exact hb1.2.1 hA
   ·exact h.inj k k' _ o b ho ho' ((Hy hp).2 hl) hl' (fun e=>hn1 (e▸List.mem_of_getElem? hk)) hblk hblk'
  ·intro i j bd bd' b hi hj hl hl' hne hblk
   obtain ⟨k,g,hk,_,bd0,ho,hp⟩:=hlent i bd hi
   obtain ⟨k',g',hk',_,bd0',ho',hp'⟩:=hlent j bd' hj
   have hc:Bq β ks i=β k:=by simp [Bq,hk]
   have hc':Bq β ks j=β k':=by simp [Bq,hk']
   rw [hc] at hblk
   rw [hc']
   have hkk:k≠k':=by
    intro e
    subst e
    have h1:=(List.getElem?_eq_some_iff.1 hk)
    have h2:=(List.getElem?_eq_some_iff.1 hk')
    obtain ⟨l1,v1⟩:=h1
    obtain ⟨l2,v2⟩:=h2
    have hpw:=List.pairwise_iff_getElem.1 hnodks
    rcases Nat.lt_or_gt_of_ne hne with hlt|hgt
    ·exact hpw i j l1 l2 hlt (v1.trans v2.symm)
    ·exact hpw j i l2 l1 hgt (v2.trans v1.symm)
   exact h.inj k k' _ _ b ho ho' ((Hy hp).2 hl) ((Hy hp').2 hl') hkk hblk
 refine ⟨_,_,hpre,?_⟩
 intro w' v β1 hpost
 have hnl:(os.map (·.2)).length=ks.length:=by simpa using hosl
 have hA:∀ (i k:Nat) g b bd,ks[i]? = some k→os[i]? = some (g,b)→outs'[i]? = some bd→Dg σ.objs wo0 k=some ⟨upG g bd,Mq m bd⟩:=by
  intro i k g b bd h1 h2 h3
  refine Yp wo0 k _ hnd ?_
  rw [← hwo]
  have:=backO_has (outs':=outs'.map (Mq m)) (bd:=Mq m bd) h1 h2 (by rw [List.getElem?_map,h3]; rfl)
  rw [upG_ren] at this
  exact List.mem_append.2 (.inl (List.mem_append.2 (.inl this)))
 have hB:∀ (j:Nat) bd,news[j]? = some bd→Dg σ.objs wo0 (key dst j)=some ⟨Bw (σ.objs (key dst j)),Mq m bd⟩:=by
  intro j bd hj
  refine Yp wo0 _ _ hnd ?_
  rw [← hwo]
  have:=Aio (ob:=ob) (dst:=dst) (s:=0) (news:=news.map (Mq m)) (j:=j) (bd:=Mq m bd) (by rw [List.getElem?_map,hj]; rfl)
  rw [Nat.zero_add,hobn j (List.getElem?_eq_some_iff.1 hj).1] at this
  exact List.mem_append.2 (.inl (List.mem_append.2 (.inr this)))
 have hC:∀ k,keep=false→k∈bs→Dg σ.objs wo0 k=some ⟨Bw (σ.objs k),.dead⟩:=by
  intro k hk hkb
  refine Yp wo0 _ _ hnd ?_
  rw [← hwo]
  refine List.mem_append.2 (.inr ?_)
  simp only [hk,cond_false]
  rw [deadO_mem]
  exact ⟨hkb,by rw [hobb k ((hbmem k).1 hkb)]⟩
 have hcase:∀ k,(∃ (i:Nat) (g:Nat) (b bd:Body),ks[i]? = some k∧os[i]? = some (g,b)∧outs'[i]? = some bd) ∨
   (k∉ks∧∃ (j:Nat) (bd:Body),news[j]? = some bd∧k=key dst j) ∨
   (k∉ks∧(∀ j,j<news.length→k≠key dst j)∧keep=false∧k∈bs) ∨
   (k∉ks∧(∀ j,j<news.length→k≠key dst j)∧(keep=false→k∉bs)∧Dg σ.objs wo0 k=σ.objs k):=by
  intro k
  have hnd2:=hnd
  rw [← hwo] at hnd2
  simp only [Df,List.map_append] at hnd2
  rw [← Df,← Df,← Df,hwkeys] at hnd2
  obtain ⟨hn12,hn3,hdis3⟩:=List.nodup_append.1 hnd2
  obtain ⟨hn1,hn2,hdis2⟩:=List.nodup_append.1 hn12
  by_cases hk:k∈ks
  ·left
   obtain ⟨i,hi,hik⟩:=List.getElem_of_mem hk
   have hki:ks[i]? = some k:=by rw [List.getElem?_eq_getElem hi,hik]
   obtain ⟨g,bd,q1,_⟩:=hosg i k hki
   have hlt:i<outs'.length:=by omega
   exact ⟨i,g,bd,outs'[i],hki,q1,List.getElem?_eq_getElem hlt⟩
  ·right
   by_cases hj:∃ j,j<news.length∧k=key dst j
   ·left
    obtain ⟨j,hj1,hj2⟩:=hj
    exact ⟨hk,j,news[j],List.getElem?_eq_getElem hj1,hj2⟩
   ·right
    have hj':∀ j,j<news.length→k≠key dst j:=fun j h1 h2=>hj ⟨j,h1,h2⟩
    by_cases hkb:keep=false∧k∈bs
    ·exact .inl ⟨hk,hj',hkb.1,hkb.2⟩
    ·refine .inr ⟨hk,hj',fun h1 h2=>hkb ⟨h1,h2⟩,Oz wo0 ?_⟩
     rw [← Df,← hwo]
     simp only [Df,List.map_append,List.mem_append,not_or]
     rw [← Df,← Df,hwkeys]
     refine ⟨⟨hk,fun hm => ?_⟩,fun hm => ?_⟩
     ·rw [Df] at hm
      obtain ⟨p,hp,hpk⟩:=List.mem_map.1 hm
      obtain ⟨k0,o0⟩:=p
      obtain ⟨j,bd,q1,q2,_⟩:=newO_mem hp
      simp at hpk
      subst hpk
      rw [Nat.zero_add] at q2
      exact hj' j (by simpa using (List.getElem?_eq_some_iff.1 q1).1) q2
     ·cases keep with
      | true=>simp at hm
      | false =>
       simp only [cond_false] at hm
       obtain ⟨p,hp,hpk⟩:=List.mem_map.1 hm
       obtain ⟨k0,o0⟩:=p
       simp at hpk
       subst hpk
       exact hkb ⟨rfl,(deadO_mem.1 hp).1⟩
 let β2:Bu:=fun k=>if k∈ks then β k else if 1000+8*dst≤k∧k<1000+8*dst+news.length then β1 (ks.length+(k-(1000+8*dst))) else β k
 have b2A:∀ k,k∈ks→β2 k=β k:=fun k hk=>by simp only [β2,hk,if_true]
 have b2B:∀ j,j<news.length→key dst j∉ks→β2 (key dst j)=β1 (ks.length+j):=by
  intro j hj hk
  simp only [β2,hk,if_false]
  rw [if_pos (by simp only [key]; omega)]
  congr 1
  simp only [key]
  omega
 have b2D:∀ k,k∉ks→(∀ j,j<news.length→k≠key dst j)→β2 k=β k:=by
  intro k hk hj
  simp only [β2,hk,if_false]
  rw [if_neg]
  rintro ⟨h1,h2⟩
  exact hj (k-(1000+8*dst)) (by omega) (by simp only [key]; omega)
 have hloc:∀ (i k:Nat) bd,ks[i]? = some k→outs'[i]? = some bd→bd.live→β1 i=β k:=by
  intro i k bd hk hbd hl
  rw [hpost.loc i bd (by rw [hnl]; exact (List.getElem?_eq_some_iff.1 hk).1) hbd hl]
  simp [Bq,hk]
 have hosm:∀ (i g:Nat) b,os[i]? = some (g,b)→(os.map (·.2))[i]? = some b:=fun i g b h=>by simp [h]
 have hnewblk:∀ (j:Nat) bd b,news[j]? = some bd→bd.live→(β1 (ks.length+j)).block=some b→b<w'.heap.size∧(w.heap.size≤b∨∃ k0 o0 g0,σ.objs k0=some o0∧o0.body.live∧(β k0).block=some b∧Dg σ.objs wo0 k0=some ⟨g0,.dead⟩):=by
  intro j bd b hj hl hb
  have:=hpost.blk (ks.length+j) bd b (by rw [List.getElem?_append_right (by omega)]; rw [show ks.length+j-outs'.length=j by omega]; exact hj) hl hb
  refine ⟨this.1,?_⟩
  rcases this.2 with h1|h1|⟨i,bd0,i1,i2,i3,i4⟩
  ·rw [hnl] at h1; omega
  ·exact .inl h1
  ·right
   obtain ⟨k0,g0,hk0,q1,bd1,q2,q3⟩:=hlent i bd0 i1
   exact ⟨k0,_,_,q2,(Hy q3).2 i2,by simpa [Bq,hk0] using i4,hA i k0 g0 bd0 .dead hk0 q1 i3⟩
 have hg:Grows β β2 σ.objs (Dg σ.objs wo0):=by
  intro k o ho
  rcases hcase k with ⟨i,g,b,bd,h1,h2,h3⟩|⟨hk,j,bd,hj,rfl⟩|⟨hk,hj,hkp,hkb⟩|⟨hk,hj,_,hD⟩
  ·refine ⟨_,hA i k g b bd h1 h2 h3,?_⟩
   obtain ⟨k',g',q1,q2,bd0,q3,q4⟩:=hlent i b (hosm i g b h2)
   rw [h1] at q1
   injection q1 with q1
   subst q1
   rw [h2] at q2
   injection q2 with q2
   injection q2 with q2 _
   subst q2
   rw [ho] at q3
   injection q3 with q3
   subst q3
   by_cases hl:bd.live
   ·exact ⟨by rw [Aie hl]; exact Nat.le_refl _,fun _=>⟨b2A k (List.mem_of_getElem? h1),Body.same_trans (Body.same_trans (toB_same q4) (hsame i b bd (hosm i _ b h2) h3 hl)) AdD⟩⟩
   ·have hd:bd = .dead:=by cases bd <;> first|rfl|exact absurd trivial hl
    subst hd
    exact ⟨Nat.le_succ _,fun e=>by simp [upG] at e⟩
  ·refine ⟨_,hB j bd hj,?_⟩
   rw [ho]
   exact ⟨by simp [Bw],fun e=>by simp [Bw] at e⟩
  ·refine ⟨_,hC k hkp hkb,?_⟩
   rw [ho]
   exact ⟨by simp [Bw],fun e=>by simp [Bw] at e⟩
  ·exact ⟨o,by rw [hD]; exact ho,Nat.le_refl _,fun _=>⟨b2D k hk hj,o.body.same_refl⟩⟩
 have hS:∀ b,As cx.Av β σ.objs w b→As cx.Av β2 (Dg σ.objs wo0) w' b:=by
  intro b hb
  refine ⟨Nat.lt_of_lt_of_le hb.1 hpost.kept.size,hb.2.1,fun k o ho hl => ?_⟩
  rcases hcase k with ⟨i,g,b',bd,h1,h2,h3⟩|⟨hk,j,bd,hj,rfl⟩|⟨hk,hj,hkp,hkb⟩|⟨hk,hj,_,hD⟩
  ·rw [b2A k (List.mem_of_getElem? h1)]
   obtain ⟨k',g',q1,q2,bd0,q3,q4⟩:=hlent i b' (hosm i g b' h2)
   rw [h1] at q1
   injection q1 with q1
   subst q1
   rw [hA i k g b' bd h1 h2 h3] at ho
   injection ho with ho
   subst ho
   have hl:=renB_live.1 hl
   exact hb.2.2 k _ q3 ((Hy q4).2 ((Body.same_live (hsame i b' bd (hosm i g b' h2) h3 hl)).2 hl))
  ·rw [hB j bd hj] at ho
   injection ho with ho
   subst ho
   rw [b2B j (List.getElem?_eq_some_iff.1 hj).1 hk]
   intro e
   rcases (hnewblk j bd b hj (renB_live.1 hl) e).2 with h0|⟨k0,o0,g0,i1,i2,i3,_⟩
   ·have:=hb.1
    omega
   ·exact hb.2.2 k0 o0 i1 i2 i3
  ·rw [hC k hkp hkb] at ho
   injection ho with ho
   subst ho
   exact hl.elim
  ·rw [hD] at ho
   rw [b2D k hk hj]
   exact hb.2.2 k o ho hl
 have houtB:∀ b,(∃ (k:Nat) (bd:Body),(os.map (·.2))[k]? = some bd∧bd.live∧(Bq β ks k).block=some b)→∃ k o,σ.objs k=some o∧o.body.live∧k∈ks∧(β k).block=some b:=by
  rintro b ⟨i,bd,hi,hl,hblk⟩
  obtain ⟨k,g,hk,_,bd0,ho,hp⟩:=hlent i bd hi
  have hc:Bq β ks i=β k:=by simp [Bq,hk]
  rw [hc] at hblk
  exact ⟨k,_,ho,(Hy hp).2 hl,List.mem_of_getElem? hk,hblk⟩
 have hw:∀ b,As cx.Av β σ.objs w b→w'.heap[b]? = w.heap[b]? := by
  intro b hb
  refine hpost.kept.block b hb.1 fun hout => ?_
  obtain ⟨k,o,ho,hl,_,hblk⟩:=houtB b hout
  exact hb.2.2 k o ho hl hblk
 have hS1:(keep=false∨bs = [])→∀ b,As (Sb cx β σ.objs ks bs) β1 (Cb (outs'++news)) w' b→As cx.Av β2 (Dg σ.objs wo0) w' b:=by
  intro hkb b hb
  refine ⟨hb.1,fun hA'=>hb.2.1 (.inl hA'),fun k o ho hl => ?_⟩
  rcases hcase k with ⟨i,g,b',bd,h1,h2,h3⟩|⟨hk,j,bd,hj,rfl⟩|⟨hk,hj,hkp,hkb'⟩|⟨hk,hj,hn,hD⟩
  ·rw [hA i k g b' bd h1 h2 h3] at ho
   injection ho with ho
   subst ho
   rw [b2A k (List.mem_of_getElem? h1),← hloc i k bd h1 h3 (renB_live.1 hl)]
   exact hb.2.2 i ⟨0,bd⟩ (by simp only [Cb]; rw [List.getElem?_append_left (List.getElem?_eq_some_iff.1 h3).1,h3]; rfl) (renB_live.1 hl)
  ·rw [hB j bd hj] at ho
   injection ho with ho
   subst ho
   rw [b2B j (List.getElem?_eq_some_iff.1 hj).1 hk]
   exact hb.2.2 (ks.length+j) ⟨0,bd⟩ (by simp only [Cb]; rw [List.getElem?_append_right (by omega),show ks.length+j-outs'.length=j by omega,hj]; rfl) (renB_live.1 hl)
  ·rw [hC k hkp hkb'] at ho
   injection ho with ho
   subst ho
   exact hl.elim
  ·rw [hD] at ho
   rw [b2D k hk hj]
   intro e
   refine hb.2.1 (.inr ⟨k,o,ho,hl,hk,?_,e⟩)
   rcases hkb with h0|h0
   ·exact hn h0
   ·rw [h0]; simp
 have hkeep:keep=false∨bs = []∨(news = []∧(∀ bd∈outs',bd.flatB=true)∧res.scalar=true)∨((∀ bd∈outs'++news,bd.flatR=true)∧res.scalR=true∧All (Acu (outs'++news))):=by
  cases old with
  | true =>
   simp only [Bool.or_eq_true,Bool.not_eq_true',Bool.and_eq_true,List.isEmpty_iff] at hold
   rcases hold with (h1|h1)|h1
   ·exact .inl h1
   ·exact .inr (.inl h1)
   ·exact .inr (.inr (.inl ⟨h1.1.1,by have:=h1.1.2; rw [List.all_eq_true] at this; exact this,h1.2⟩))
  | false =>
   simp only [Bool.false_or,Bool.and_eq_true,List.all_eq_true] at c6
   exact .inr (.inr (.inr ⟨c6.1,c6.2,hobl⟩))
 have hmm:∀ i o,Cb (outs'++news) i=some o→o.gen=0∧∀ k g,m[i]? = some (k,g)→∃ o'',Dg σ.objs wo0 k=some o''∧g≤o''.gen∧(o''.gen=g→β2 k=β1 i∧o.body.same o''.body):=by
  rw [← hmdef]
  obtain ⟨bl,bg⟩:=backM_get (ks:=ks) (os:=os) hosl
  intro i o ho
  simp only [Cb] at ho
  cases hoo:(outs'++news)[i]? with
  | none=>simp [hoo] at ho
  | some bd =>
   simp only [hoo,Option.map_some,Option.some.injEq] at ho
   subst ho
   refine ⟨rfl,fun k g hm => ?_⟩
   by_cases hi:i<ks.length
   ·rw [List.getElem?_append_left (by omega)] at hm
    obtain ⟨m1,b,m2⟩:=bg i k g hm
    rw [List.getElem?_append_left (by omega)] at hoo
    by_cases hl:bd.live
    ·exact ⟨_,hA i k g b bd m1 m2 hoo,by rw [Aie hl]; exact Nat.le_refl _,fun _=>⟨by rw [b2A k (List.mem_of_getElem? m1),hloc i k bd m1 hoo hl],AdD⟩⟩
    ·have hd:bd = .dead:=by cases bd <;> first|rfl|exact absurd trivial hl
     subst hd
     exact ⟨_,hA i k g b .dead m1 m2 hoo,Nat.le_succ _,fun e=>by simp [upG] at e⟩
   ·rw [List.getElem?_append_right (by omega),bl] at hm
    rw [List.getElem?_append_right (by omega),e1] at hoo
    obtain ⟨m1,m2,m3⟩:=newM_get hm
    rw [Nat.zero_add] at m1 m2
    have hknot:k∉ks:=by
     rcases hcase k with ⟨i',g',b',bd',h1,h2,h3⟩|⟨hk,_⟩|⟨hk,_⟩|⟨hk,_⟩
     ·have hnd2:=hnd
      rw [← hwo] at hnd2
      simp only [Df,List.map_append] at hnd2
      rw [← Df,← Df,← Df,hwkeys] at hnd2
      obtain ⟨hn12,_,_⟩:=List.nodup_append.1 hnd2
      obtain ⟨_,_,hdis2⟩:=List.nodup_append.1 hn12
      intro hk
      refine hdis2 k hk k ?_ rfl
      have:=Aio (ob:=ob) (dst:=dst) (s:=0) (news:=news.map (Mq m)) (j:=i-ks.length) (bd:=Mq m bd) (by rw [List.getElem?_map,hoo]; rfl)
      rw [Nat.zero_add,← m1] at this
      rw [Df]
      exact List.mem_map.2 ⟨_,this,rfl⟩
     ·exact hk
     ·exact hk
     ·exact hk
    refine ⟨⟨g,Mq m bd⟩,?_,Nat.le_refl _,fun _=>⟨?_,AdD⟩⟩
    rotate_left
    ·rw [m1,b2B (i-ks.length) m3 (m1▸hknot)]
     congr 1
     omega
    ·rw [m1,hB (i-ks.length) bd hoo,m2,hobn _ m3]
 have hS1o:∀ (k:Nat) bd,(outs'++news)[k]? = some bd→∀ l,ObjRel β1 (Cb (outs'++news)) (As (Sb cx β σ.objs ks bs) β1 (Cb (outs'++news)) w') w' l bd→ObjRel β2 (Dg σ.objs wo0) (As cx.Av β2 (Dg σ.objs wo0) w') w' l (Mq m bd):=by
  intro k bd hk l hl
  rcases hkeep with h1|h1|⟨h1,h2,_⟩|⟨h1,_,h3⟩
  case inr.inr.inr =>
   have hm':=List.mem_of_getElem? hk
   exact AcZ (fun _ hb=>hb) hmm (flatR_rel (h1 bd hm') (fun W n f e=>AiX h3 (e▸hm')) hl)
  ·exact AcZ (hS1 (.inl h1)) hmm hl
  ·exact AcZ (hS1 (.inr h1)) hmm hl
  ·rw [h1,List.append_nil] at hk
   have hf:=h2 bd (List.mem_of_getElem? hk)
   rw [renB_flat hf]
   exact flatB_rel hf hl
 refine ⟨β2,h.step β2 _ w' hg hS hw ?_ ?_ ?_ ?_ ?_,?_,hw⟩
 ·intro k o ho
  rcases hcase k with ⟨i,g,b',bd,h1,h2,h3⟩|⟨hk,j,bd,hj,rfl⟩|⟨hk,hj,hkp,hkb'⟩|⟨hk,hj,hn,hD⟩
  ·rw [hA i k g b' bd h1 h2 h3] at ho
   injection ho with ho
   subst ho
   by_cases hl:bd.live
   case neg =>
    have hd:bd = .dead:=by cases bd <;> first|rfl|exact absurd trivial hl
    subst hd
    trivial
   rw [b2A k (List.mem_of_getElem? h1),← hloc i k bd h1 h3 hl]
   have hget:(outs'++news)[i]? = some bd:=by rw [List.getElem?_append_left (List.getElem?_eq_some_iff.1 h3).1,h3]
   exact hS1o i bd hget _ (hpost.ob i bd hget)
  ·rw [hB j bd hj] at ho
   injection ho with ho
   subst ho
   rw [b2B j (List.getElem?_eq_some_iff.1 hj).1 hk]
   have hget:(outs'++news)[ks.length+j]? = some bd:=by rw [List.getElem?_append_right (by omega),show ks.length+j-outs'.length=j by omega,hj]
   exact hS1o _ bd hget _ (hpost.ob _ bd hget)
  ·rw [hC k hkp hkb'] at ho
   injection ho with ho
   subst ho
   trivial
  ·rw [hD] at ho
   rw [b2D k hk hj]
   by_cases hl:o.body.live
   ·refine (h.ob k o ho).mono hg hS hw fun b hb => ?_
    refine hpost.kept.block b (h.blk k o b ho hl hb).1 fun hout => ?_
    obtain ⟨k',o',ho',hl',hk',hblk⟩:=houtB b hout
    exact h.inj k k' o o' b ho ho' hl hl' (fun e=>hk (e▸hk')) hb hblk
   ·cases hbd:o.body with
    | dead=>trivial
    | box cs=>simp [hbd,Body.live] at hl
    | row W n f=>simp [hbd,Body.live] at hl
    | mp z has f=>simp [hbd,Body.live] at hl
    | mq q=>simp [hbd,Body.live] at hl
 ·intro k o b ho hl hb
  rcases hcase k with ⟨i,g,b',bd,h1,h2,h3⟩|⟨hk,j,bd,hj,rfl⟩|⟨hk,hj,hkp,hkb'⟩|⟨hk,hj,hn,hD⟩
  ·rw [b2A k (List.mem_of_getElem? h1)] at hb
   obtain ⟨k',g',q1,q2,bd0,q3,q4⟩:=hlent i b' (hosm i g b' h2)
   rw [h1] at q1
   injection q1 with q1
   subst q1
   rw [hA i k g b' bd h1 h2 h3] at ho
   injection ho with ho
   subst ho
   have hl:=renB_live.1 hl
   have:=h.blk k _ b q3 ((Hy q4).2 ((Body.same_live (hsame i b' bd (hosm i g b' h2) h3 hl)).2 hl)) hb
   exact ⟨Nat.lt_of_lt_of_le this.1 hpost.kept.size,this.2⟩
  ·rw [hB j bd hj] at ho
   injection ho with ho
   subst ho
   rw [b2B j (List.getElem?_eq_some_iff.1 hj).1 hk] at hb
   obtain ⟨n1,n2⟩:=hnewblk j bd b hj (renB_live.1 hl) hb
   have hks:=h.kept.size
   rcases n2 with n2|⟨k0,o0,g0,i1,i2,i3,_⟩
   ·exact ⟨n1,fun hA'=>by have:=h.avlt b hA'; omega,.inl (by omega)⟩
   ·exact ⟨n1,(h.blk k0 o0 b i1 i2 i3).2⟩
  ·rw [hC k hkp hkb'] at ho
   injection ho with ho
   subst ho
   exact hl.elim
  ·rw [hD] at ho
   rw [b2D k hk hj] at hb
   have:=h.blk k o b ho hl hb
   exact ⟨Nat.lt_of_lt_of_le this.1 hpost.kept.size,this.2⟩
 ·-- where each object lies: of old,or new
  have place:∀ k o b,Dg σ.objs wo0 k=some o→o.body.live→(β2 k).block=some b →
    (∃ o0,σ.objs k=some o0∧o0.body.live∧(β k).block=some b∧b<w.heap.size) ∨
    (∃ j bd,news[j]? = some bd∧bd.live∧k=key dst j∧(β1 (ks.length+j)).block=some b∧(w.heap.size≤b∨∃ k0 o0 g0,σ.objs k0=some o0∧o0.body.live∧(β k0).block=some b∧Dg σ.objs wo0 k0=some ⟨g0,.dead⟩)):=by
   intro k o b ho hl hb
   rcases hcase k with ⟨i,g,b',bd,h1,h2,h3⟩|⟨hk,j,bd,hj,rfl⟩|⟨hk,hj,hkp,hkb'⟩|⟨hk,hj,hn,hD⟩
   ·rw [b2A k (List.mem_of_getElem? h1)] at hb
    obtain ⟨k',g',q1,q2,bd0,q3,q4⟩:=hlent i b' (hosm i g b' h2)
    rw [h1] at q1
    injection q1 with q1
    subst q1
    rw [hA i k g b' bd h1 h2 h3] at ho
    injection ho with ho
    subst ho
    have hl:=renB_live.1 hl
    have hl0:=(Hy q4).2 ((Body.same_live (hsame i b' bd (hosm i g b' h2) h3 hl)).2 hl)
    exact .inl ⟨_,q3,hl0,hb,(h.blk k _ b q3 hl0 hb).1⟩
   ·rw [hB j bd hj] at ho
    injection ho with ho
    subst ho
    rw [b2B j (List.getElem?_eq_some_iff.1 hj).1 hk] at hb
    exact .inr ⟨j,bd,hj,renB_live.1 hl,rfl,hb,(hnewblk j bd b hj (renB_live.1 hl) hb).2⟩
   ·rw [hC k hkp hkb'] at ho
    injection ho with ho
    subst ho
    exact hl.elim
   ·rw [hD] at ho
    rw [b2D k hk hj] at hb
    exact .inl ⟨o,ho,hl,hb,(h.blk k o b ho hl hb).1⟩
  intro k k' o o' b ho ho' hl hl' hne hb hb'
  rcases place k o b ho hl hb with ⟨q,q1,q2,q3,q4⟩|⟨j,bd,q1,q2,q3,q4,q5⟩
  ·rcases place k' o' b ho' hl' hb' with ⟨r,r1,r2,r3,r4⟩|⟨j',bd',r1,r2,r3,r4,r5⟩
   ·exact h.inj k k' q r b q1 r1 q2 r2 hne q3 r3
   ·rcases r5 with r5|⟨k0,o0,g0,i1,i2,i3,i4⟩
    ·omega
    ·have hk0:k≠k0:=fun e=>by
      subst e
      rw [i4] at ho
      injection ho with ho
      subst ho
      exact hl
     exact h.inj k k0 q o0 b q1 i1 q2 i2 hk0 q3 i3
  ·rcases place k' o' b ho' hl' hb' with ⟨r,r1,r2,r3,r4⟩|⟨j',bd',r1,r2,r3,r4,r5⟩
   ·rcases q5 with q5|⟨k0,o0,g0,i1,i2,i3,i4⟩
    ·omega
    ·have hk0:k'≠k0:=fun e=>by
      subst e
      rw [i4] at ho'
      injection ho' with ho'
      subst ho'
      exact hl'
     exact h.inj k' k0 r o0 b r1 i1 r2 i2 hk0 r3 i3
   ·refine hpost.inj (ks.length+j) (ks.length+j') bd bd' b ?_ ?_ q2 r2 ?_ q4 r4
    ·rw [List.getElem?_append_right (by omega),show ks.length+j-outs'.length=j by omega,q1]
    ·rw [List.getElem?_append_right (by omega),show ks.length+j'-outs'.length=j' by omega,r1]
    ·intro e
     apply hne
     rw [q3,r3]
     congr 1
     omega
 ·have hk:=h.kept
  have hp:=hpost.kept
  refine ⟨hp.os.trans hk.os,hp.tape.trans hk.tape,hp.output.trans hk.output,Nat.le_trans hk.size hp.size,fun b hb hno => ?_⟩
  rw [hp.block b (Nat.lt_of_lt_of_le hb hk.size) fun hout => ?_]
  ·exact hk.block b hb hno
  ·obtain ⟨k',o',ho',hl',hk',hblk⟩:=houtB b hout
   rcases (h.blk k' o' b ho' hl' hblk).2.2 with h1|h1
   ·omega
   ·exact hno h1
 ·intro k o hkm ho hgen
  rcases hcase k with ⟨i,g,b',bd,h1,h2,h3⟩|⟨hk,j,bd,hj,rfl⟩|⟨hk,hj,hkp,hkb'⟩|⟨hk,hj,hn,hD⟩
  ·rw [b2A k (List.mem_of_getElem? h1)]
   rw [hA i k g b' bd h1 h2 h3] at ho
   injection ho with ho
   subst ho
   obtain ⟨k',g',q1,q2,bd0,q3,q4⟩:=hlent i b' (hosm i g b' h2)
   rw [h1] at q1
   injection q1 with q1
   subst q1
   rw [h2] at q2
   injection q2 with q2
   injection q2 with q2 _
   subst q2
   have hg0:g=0:=by
    cases bd <;> simp [upG] at hgen <;> exact hgen
   exact h.oloc k _ hkm q3 hg0
  ·have:=h.mle
   unfold key at hkm
   omega
  ·rw [hC k hkp hkb'] at ho
   injection ho with ho
   subst ho
   obtain ⟨o0,ho0,_⟩:=hbsome k hkb'
   rw [ho0] at hgen
   simp [Bw] at hgen
  ·rw [hD] at ho
   rw [b2D k hk hj]
   exact h.oloc k o hkm ho hgen
 ·-- the result
  have hfull:(keep=false∨bs = [])→RelV β2 (Dg σ.objs wo0) (As cx.Av β2 (Dg σ.objs wo0) w') w' v (renN m 3 res):=by
   intro hkb
   exact AdU (hS1 hkb) rfl hmm 3 v res hpost.res
  rcases hkeep with h1|h1|⟨h1,h2,h3⟩|⟨_,h2,_⟩
  case inr.inr.inr=>exact AdU (fun _ hb=>hb) rfl hmm 3 v res (scalR_rel h2 hpost.res)
  ·exact hfull (.inl h1)
  ·exact hfull (.inr h1)
  ·have hr:=hpost.res
   cases hres:res with
   | p x =>
    rw [hres] at hr h3
    exact .p _ _ (AfX h3 hr.inv_p)
   | und =>
    rw [hres] at hr
    generalize v=v0 at hr
    cases hr
    exact .und
   | _=>rw [hres] at h3; simp [MV.scalar] at h3
theorem Ajk {f:FuncId} {args:List MV} {outs outs' news:List Body} {res y:MV} {wo:List (Nat×Obj)} {obl:List Prop} {ob:Bh} {ks:List Nat} {xs:List MV} {dst:Nat} {keep:Bool}
  (hsp:Spec P f args outs res outs' news) (h:Rel cx β σ a w) (hob:∀ k o,ob k=some o→σ.objs k=some o)
  (hobn:∀ j,j<news.length→ob (key dst j)=σ.objs (key dst j)) (hobb:∀ k,k∈xs.flatMap (bor ks)→ob k=σ.objs k)
  (he:Vo ob dst ks xs keep res outs' news=some (args,outs,y,wo,obl)) (hobl:All obl)
  (hsame:∀ (i:Nat) b b',outs[i]? = some b→outs'[i]? = some b'→b'.live→b.same b')
  (vs:Array Value) (hvs:vs.size=xs.length) (hrel:∀ (i:Nat) x,xs[i]? = some x→RelV β σ.objs (As cx.Av β σ.objs w) w (vs.getD i undef) x) :
  Calls P f vs w fun e w'=>∃ v β',e = .returned v∧Rel cx β' ⟨σ.slots,Dg σ.objs wo⟩ a w' ∧
   RelV β' (Dg σ.objs wo) (As cx.Av β' (Dg σ.objs wo) w') w' v y:=by
 obtain ⟨Av',β0,hpre,hpost⟩:=Aiv (res:=res) (news:=news) h hob hobn hobb he hobl hsame vs hvs hrel
 refine (hsp.2 w _ _ vs hpre).mono ?_
 rintro e w' ⟨v,β1,rfl,hp⟩
 obtain ⟨β',h1,h2,_⟩:=hpost w' v β1 hp
 exact ⟨v,β',rfl,h1,h2⟩
end
end Go.Dm

/- The data machine, part 13: a region's run as a function; code; functions. -/
namespace Go.Dm
inductive Orc where
 | no
 | pk (b:Bool)
 | skip
 | asR (y:MV) (n:Nat) (f:Nat→List PV)
 | asM (z:PV) (has:Int→Bool) (f:Int→PV)
 | ky (n:Int)
 | frz (n:Nat) (f:Nat→List PV)
 | mv
 | call (f:Nat) (ks:List Nat) (keep:Bool) (res:MV) (outs' news:List Body) (sm:List Nat)
def Orc.isSkip : Orc→Bool
 | .skip=>true
 | _=>false
def Orc.bit : Orc→Bool
 | .pk b=>b
 | _=>true
def Acs (gs:List (Option Nat)) (g:Option (Nat×Bool)) (sk:Bool) (σ:St):Option (List Nat×List Prop) :=
 match g with
 | none=>bif sk then none else some ([],[])
 | some (j,want)=>match gs[j]? with
  | some (some t)=>match σ.slots t with
   | .p (.v (.bool b))=>some ([t],[b=(bif sk then !want else want)])
   | .und=>bif sk then some ([t],[]) else none
   | _=>none
  | _=>none
def AeG (dst:Nat):Nat→Nat→List Nat
 | 0,_ => []
 | n+1,j=>key dst j::AeG dst n (j+1)
def sameD (b:Body):Body→Prop
 | .dead=>True
 | .box cs=>b.same (.box cs)
 | .row W n f=>b.same (.row W n f)
 | .mp z has f=>b.same (.mp z has f)
 | .mq q=>b.same (.mq q)
theorem sameD.get {b c:Body} (h:sameD b c) (hl:c.live):b.same c:=by cases c <;> first|exact h|exact hl.elim
def Aez : List Body→List Body→List Prop
 | b::r,c::s=>sameD b c::Aez r s
 | _,_ => []
def fnOf : MV→Option (Nat×List MV)
 | .p (.fn f caps)=>some (f,caps.map .p)
 | .fn f caps=>some (f,caps)
 | _=>none
def Yg (sm:List Nat):List (Nat×Obj)→List (Nat×Obj)
 | [] => []
 | (k,o)::r=>bif elem k sm then Yg sm r else (k,o)::Yg sm r
def AeF (sm:List Nat) (ob:Bh):List (Nat×Obj)→List Prop
 | [] => []
 | (k,o)::r=>bif elem k sm then (ob k=some o)::AeF sm ob r else AeF sm ob r
theorem dropK_mem {sm:List Nat} : ∀ {l:List (Nat×Obj)} {k:Nat} {o:Obj},(k,o)∈Yg sm l↔(k,o)∈l∧k∉sm
 | [],k,o=>by simp [Yg]
 | (i,q)::r,k,o=>by
  simp only [Yg]
  cases hb:elem i sm with
  | true =>
   have hi:=(Tg i sm).1 hb
   simp only [cond_true,dropK_mem,List.mem_cons,Prod.mk.injEq]
   constructor
   ·rintro ⟨h1,h2⟩; exact ⟨.inr h1,h2⟩
   ·rintro ⟨⟨rfl,rfl⟩|h1,h2⟩
    ·exact absurd hi h2
    ·exact ⟨h1,h2⟩
  | false =>
   have hi:i∉sm:=fun h=>by rw [(Tg i sm).2 h] at hb; simp at hb
   simp only [cond_false,List.mem_cons,dropK_mem,Prod.mk.injEq]
   constructor
   ·rintro (⟨rfl,rfl⟩|⟨h1,h2⟩)
    ·exact ⟨.inl ⟨rfl,rfl⟩,hi⟩
    ·exact ⟨.inr h1,h2⟩
   ·rintro ⟨⟨rfl,rfl⟩|h1,h2⟩
    ·exact .inl ⟨rfl,rfl⟩
    ·exact .inr ⟨h1,h2⟩
theorem dropK_sub {sm:List Nat} : ∀ {l:List (Nat×Obj)},(Yg sm l).Sublist l
 | []=>List.Sublist.slnil
 | (i,q)::r=>by
  simp only [Yg]
  cases elem i sm with
  | true=>exact .cons _ dropK_sub
  | false=>exact .cons_cons _ dropK_sub
theorem AdI {sm:List Nat} {ob:Bh} : ∀ {l:List (Nat×Obj)} {k:Nat} {o:Obj},All (AeF sm ob l)→(k,o)∈l→k∈sm→ob k=some o
 | [],k,o,_,h,_=>by simp at h
 | (i,q)::r,k,o,ha,h,hk=>by
  simp only [AeF] at ha
  cases hb:elem i sm with
  | true =>
   simp only [hb,cond_true,All] at ha
   rcases List.mem_cons.1 h with e|h
   ·injection e with e1 e2
    subst e1; subst e2
    exact ha.1
   ·exact AdI ha.2 h hk
  | false =>
   simp only [hb,cond_false] at ha
   rcases List.mem_cons.1 h with e|h
   ·injection e with e1 e2
    subst e1
    rw [(Tg k sm).2 hk] at hb
    simp at hb
   ·exact AdI ha h hk
theorem Ajn {sm:List Nat} {ob objs:Bh} {wo:List (Nat×Obj)} (hn:(Ch wo).Nodup) (hob:∀ k o,ob k=some o→objs k=some o) (h:All (AeF sm ob wo)):Dg objs (Yg sm wo)=Dg objs wo:=by
 funext k
 have hn2:(Ch (Yg sm wo)).Nodup:=by
  rw [Df] at hn ⊢
  exact hn.sublist (dropK_sub.map _)
 by_cases hk:k∈Ch wo
 ·rw [Df] at hk
  obtain ⟨p,hp,rfl⟩:=List.mem_map.1 hk
  obtain ⟨k,o⟩:=p
  rw [Yp wo k o hn hp]
  by_cases hs:k∈sm
  ·rw [Oz]
   ·exact hob _ _ (AdI h hp hs)
   ·intro hm
    obtain ⟨p,hp',e⟩:=List.mem_map.1 hm
    obtain ⟨k',o'⟩:=p
    simp only at e
    subst e
    exact (dropK_mem.1 hp').2 hs
  ·exact Yp _ k o hn2 (dropK_mem.2 ⟨hp,hs⟩)
 ·rw [Df] at hk
  rw [Oz wo hk,Oz _ (fun hm=>hk ((dropK_sub.map _).subset hm))]
theorem Ahr {ob:Bh} {dst:Nat} {ks:List Nat} {xs:List MV} {keep:Bool} {res:MV} {outs' news:List Body} {a:List MV} {b:List Body} {y:MV} {wo:List (Nat×Obj)} {obl:List Prop}
  (h:Vo ob dst ks xs keep res outs' news=some (a,b,y,wo,obl)):(Ch wo).Nodup:=by
 unfold Vo at h
 split at h
 ·rename_i args os h1 h2
  simp only at h
  rw [Bool.cond_eq_ite] at h
  split at h
  ·rename_i hb
   simp only [Option.some.injEq,Prod.mk.injEq] at h
   obtain ⟨_,_,_,rfl,_⟩:=h
   simp only [Bool.and_eq_true] at hb
   exact AcU _ hb.1.1.2
  ·simp at h
 ·simp at h
def dcall (P:Program) (op:Op) (dst:Nat) (f:Nat) (ks:List Nat) (keep:Bool) (res:MV) (outs' news:List Body) (sm:List Nat) (σ:St):Option (List Nat×Eff) :=
 match op with
 | .call ⟨.value fop,args,_⟩ =>
  match fnOf (ev σ fop) with
  | some (f',caps) =>
   bif Nat.beq f' f then
    let xs:=args.toList.map (ev σ)++caps
    let ro:=ks++xs.flatMap (bor ks)++AeG dst news.length 0
    match Vo (only ro σ.objs) dst ks xs keep res outs' news with
    | some (args',outs,y,wo,ob)=>some (ro,y,Yg sm wo,Spec P f args' outs res outs' news::(Aez outs outs'++(AeF sm (only ro σ.objs) wo++ob)))
    | none=>none
   else none
  | none=>none
 | _=>none
def dstep (P:Program) (T:Ty) (nt:Nat) (gs:List (Option Nat)) (o:Oper) (x:Orc) (σ:St):Option (Rec×List Prop) :=
 match Acs gs o.guard x.isSkip σ with
 | none=>none
 | some (gt,gobl) =>
  bif (match o.dst with|some t=>Nat.blt t nt|none=>true)&&Ts o.op then
   match x with
   | .skip=>some (⟨gt,[],o.dst.toList.map fun t=>(t,MV.und),[]⟩,gobl)
   | .call f ks keep res outs' news sm =>
    match dcall P o.op (o.dst.getD 0) f ks keep res outs' news sm σ with
    | some (ro,y,wo,obl)=>some (⟨gt++Tq o.op,ro,o.dst.toList.map fun t=>(t,y),wo⟩,gobl++obl)
    | none=>none
   | .asR y' n' f' =>
    match Cw T o.op (o.dst.getD 0) true (only (Rs o.op (o.dst.getD 0) (o.op.operands.toList.map (ev σ))) σ.objs) (o.op.operands.toList.map (ev σ)) with
    | some (y,[(k,⟨g,.row W n f⟩)],obl)=>some (⟨gt++Tq o.op,Rs o.op (o.dst.getD 0) (o.op.operands.toList.map (ev σ)),o.dst.toList.map fun t=>(t,y'),[(k,⟨g,.row W n' f'⟩)]⟩,gobl++(obl ++ [y=y',n=n'∧∀ i,i<n→f i=f' i]))
    | _=>none
   | .asM z' has' f' =>
    match Cw T o.op (o.dst.getD 0) true (only (Rs o.op (o.dst.getD 0) (o.op.operands.toList.map (ev σ))) σ.objs) (o.op.operands.toList.map (ev σ)) with
    | some (y,[(k,⟨g,.mp z has f⟩)],obl)=>some (⟨gt++Tq o.op,Rs o.op (o.dst.getD 0) (o.op.operands.toList.map (ev σ)),o.dst.toList.map fun t=>(t,y),[(k,⟨g,.mp z' has' f'⟩)]⟩,gobl++(obl ++ [Acy z has f z' has' f']))
    | _=>none
   | .frz n' f' =>
    match Cw T o.op (o.dst.getD 0) true (only (Rs o.op (o.dst.getD 0) (o.op.operands.toList.map (ev σ))) σ.objs) (o.op.operands.toList.map (ev σ)),o.dst with
    | some (.own k' g' 0 len,[(k,⟨g,.row W n f⟩)],obl),some t=>bif Nat.beq k' k&&Nat.beq g' g&&Nat.beq len n then
     some (⟨gt++Tq o.op,Rs o.op (o.dst.getD 0) (o.op.operands.toList.map (ev σ)),[(t,.p (.sl .unk W n' f'))],[(k,⟨g+1,.dead⟩)]⟩,gobl++(obl ++ [n=n'∧∀ i,i<n→f i=f' i])) else none
    | _,_=>none
   | .mv =>
    match Cw T o.op (o.dst.getD 0) true (only (Rs o.op (o.dst.getD 0) (o.op.operands.toList.map (ev σ))) σ.objs) (o.op.operands.toList.map (ev σ)),o.dst with
    | some (.own k' g' 0 len,[(k,⟨g,.row W n f⟩)],obl),some t=>bif Nat.beq k' k&&Nat.beq g' g && !Nat.beq (key t 0) k then
     some (⟨gt++Tq o.op,key t 0::Rs o.op (o.dst.getD 0) (o.op.operands.toList.map (ev σ)),[(t,.own (key t 0) (Bw (σ.objs (key t 0))) 0 len)],[(k,⟨g+1,.dead⟩),(key t 0,⟨Bw (σ.objs (key t 0)),.row W n f⟩)]⟩,gobl++(obl ++ [len=n])) else none
    | _,_=>none
   | .ky n =>
    match o.op,o.op.operands.toList.map (ev σ) with
    | .entryStore _ _ _ _,[x,s,v]=>match Zl n (only x.keys σ.objs) x s v with
     | some (y,wo,obl)=>some (⟨gt++Tq o.op,x.keys,o.dst.toList.map fun t=>(t,y),wo⟩,gobl++obl)
     | none=>none
    | _,_=>none
   | x =>
    match Cw T o.op (o.dst.getD 0) x.bit (only (Rs o.op (o.dst.getD 0) (o.op.operands.toList.map (ev σ))) σ.objs) (o.op.operands.toList.map (ev σ)) with
    | some (y,wo,obl)=>some (⟨gt++Tq o.op,Rs o.op (o.dst.getD 0) (o.op.operands.toList.map (ev σ)),o.dst.toList.map fun t=>(t,y),wo⟩,gobl++obl)
    | none=>none
  else none
def drun (P:Program) (T:Ty) (nt:Nat) (gs:List (Option Nat)):List Oper→List Orc→St→Option (List Rec×List Prop×St)
 | [],[],σ=>some ([],[],σ)
 | o::os,x::xs,σ=>match dstep P T nt gs o x σ with
  | some (r,obl)=>match drun P T nt gs os xs (Hr σ r) with
   | some (rs,obls,σ')=>some (r::rs,obl++obls,σ')
   | none=>none
  | none=>none
 | _,_,_=>none
theorem All_append {l m:List Prop} : All (l++m)↔All l∧All m:=by
 induction l with
 | nil=>simp [All]
 | cons q r ih=>simp [All,ih,and_assoc]
theorem AgS : ∀ (l m:List Body),All (Aez l m)→∀ (i:Nat) b c,l[i]? = some b→m[i]? = some c→c.live→b.same c:=by
 intro l
 induction l with
 | nil=>intro m _ i b c h; simp at h
 | cons x r ih =>
  intro m h i b c hb hc hl
  cases m with
  | nil=>simp at hc
  | cons y s =>
   simp only [Aez,All] at h
   cases i with
   | zero=>simp at hb hc; subst hb; subst hc; exact h.1.get hl
   | succ i=>exact ih s h.2 i b c (by simpa using hb) (by simpa using hc) hl
theorem Ajd (dst:Nat):∀ (n s j:Nat),j<n→key dst (s+j)∈AeG dst n s:=by
 intro n
 induction n with
 | zero=>intro s j h; omega
 | succ n ih =>
  intro s j h
  simp only [AeG,List.mem_cons]
  cases j with
  | zero=>left; rfl
  | succ j =>
   right
   have:=ih (s+1) j (by omega)
   rwa [show s+1+j=s+(j+1) by omega] at this
theorem AiM {P:Program} {op:Op} {dst f:Nat} {ks:List Nat} {keep:Bool} {res:MV} {outs' news:List Body} {sm:List Nat} {σ τ:St} {ro:List Nat} {e:Eff}
  (h:dcall P op dst f ks keep res outs' news sm σ=some (ro,e)) (hs:∀ t∈Tq op,τ.slots t=σ.slots t) (ho:∀ k∈ro,τ.objs k=σ.objs k) :
  dcall P op dst f ks keep res outs' news sm τ=some (ro,e):=by
 have hev:∀ x∈op.operands.toList,ev τ x=ev σ x:=by
  intro x hx
  cases x with
  | tmp t=>exact hs t (List.mem_filterMap.2 ⟨.tmp t,hx,rfl⟩)
  | _=>rfl
 unfold dcall at h ⊢
 split at h
 ·rename_i fop args ats
  have h1:ev τ fop=ev σ fop:=hev fop (by simp [Op.operands,Call.operands])
  have h2:args.toList.map (ev τ)=args.toList.map (ev σ):=List.map_congr_left fun x hx=>hev x (by simp [Op.operands,Call.operands]; right; simpa using hx)
  rw [h1,h2]
  split at h
  ·rename_i f' caps hf
   cases hb:Nat.beq f' f with
   | false=>simp [hb] at h
   | true =>
    simp only [hb,cond_true] at h
    split at h
    ·rename_i args' outs y wo obl0 hc
     simp only [Option.some.injEq,Prod.mk.injEq] at h
     obtain ⟨rfl,rfl⟩:=h
     simp only [hf,hb,cond_true]
     rw [Qk ho,hc]
    ·simp at h
  ·simp at h
 ·simp at h
section
variable {P : Program} {T:Ty} {nt:Nat}
theorem Afi {op:Op} (h:Ts op=true):∀ x∈op.operands.toList,Be x=true:=by
 simp only [Ts,Bool.and_eq_true,List.all_eq_true] at h
 exact h.2
theorem Qr {op:Op} (h:Ts op=true):Ach op=false:=by
 simp only [Ts,Bool.and_eq_true] at h
 cases hb:Ach op with
 | false=>rfl
 | true=>rw [hb] at h; simp at h
theorem dcall_wp {cx:Cx} {β:Bu} {σ:St} {a:Act} {w:World} {o:Oper} (hc:Ts o.op=true) (h:Rel cx β σ a w) (hd:∀ t,o.dst=some t→t<cx.nt)
  {f:Nat} {ks:List Nat} {keep:Bool} {res:MV} {outs' news:List Body} {sm:List Nat} {ro:List Nat} {y:MV} {wo:List (Nat×Obj)} {obl:List Prop}
  (he:dcall P o.op (o.dst.getD 0) f ks keep res outs' news sm σ=some (ro,y,wo,obl)) (ho:All obl) (Q:Exit→Act→World→Prop) :
  o.wp P a w (fun a' w'=>∃ β',Rel cx β' (Hr σ ⟨[],[],o.dst.toList.map fun t=>(t,y),wo⟩) a' w') Q:=by
 have hall:=Afi hc
 unfold dcall at he
 split at he
 case h_2=>simp at he
 rename_i fop args ats hop
 split at he
 case h_2=>simp at he
 rename_i f' caps hf
 cases hb:Nat.beq f' f with
 | false=>simp [hb] at he
 | true =>
 have ef:=Nat.eq_of_beq_eq_true hb
 subst ef
 simp only [hb,cond_true] at he
 split at he
 case h_2=>simp at he
 rename_i args' outs y0 wo0 obl0 hce
 simp only [Option.some.injEq,Prod.mk.injEq] at he
 obtain ⟨rfl,rfl,rfl,rfl⟩:=he
 simp only [All,All_append] at ho
 obtain ⟨hsp,hsame,hkeepS,hobl0⟩:=ho
 have hops:∀ x∈args,Be x=true:=fun x hx=>hall x (by rw [hop]; simp [Op.operands,Call.operands,hx])
 have rf:=Br h fop (hall fop (by rw [hop]; simp [Op.operands,Call.operands]))
 obtain ⟨cvs,hfv,hcl,hcr⟩:∃ cvs:Array Value,a.eval fop = .func (.func f') #[] cvs∧cvs.size=caps.length ∧
   ∀ (i:Nat) x,caps[i]? = some x→RelV β σ.objs (As cx.Av β σ.objs w) w (cvs.getD i undef) x:=by
  unfold fnOf at hf
  split at hf
  ·rename_i g cs hev
   simp only [Option.some.injEq,Prod.mk.injEq] at hf
   obtain ⟨rfl,rfl⟩:=hf
   rw [hev] at rf
   have rp:=rf.inv_p
   generalize a.eval fop=v at rp
   cases rp with
   | fn _ _ vs hl hr =>
    refine ⟨vs,rfl,by simpa using hl,fun i x hx => ?_⟩
    rw [List.getElem?_map] at hx
    cases hq:cs[i]? with
    | none=>simp [hq] at hx
    | some q=>simp [hq] at hx; subst hx; exact .p _ _ (hr i q hq)
  ·rename_i g cs hev
   simp only [Option.some.injEq,Prod.mk.injEq] at hf
   obtain ⟨rfl,rfl⟩:=hf
   rw [hev] at rf
   generalize a.eval fop=v at rf
   cases rf with
   | fn _ _ vs hl hr=>exact ⟨vs,rfl,hl,hr⟩
  ·simp at hf
 have hcalls:=Ajk hsp h (fun k o=>Ek) (fun j hj=>Qy (by
   refine List.mem_append.2 (.inr ?_)
   have:=Ajd (o.dst.getD 0) news.length 0 j hj
   rwa [Nat.zero_add] at this)) (fun k hk=>Qy (List.mem_append.2 (.inl (List.mem_append.2 (.inr hk))))) hce hobl0 (AgS _ _ hsame)
  (args.map a.eval++cvs) (by simp [hcl]) (fun i x hx=>by
   by_cases hi:i<args.size
   ·rw [List.getElem?_append_left (by simpa using hi),List.getElem?_map] at hx
    have hai:args.toList[i]? = some args[i]:=by simp [hi]
    rw [hai] at hx
    simp at hx
    subst hx
    have e1:(args.map a.eval++cvs).getD i undef=a.eval args[i]:=by
     rw [Array.getD_eq_getD_getElem?,Array.getElem?_append_left (by simpa using hi)]
     simp [hi]
    rw [e1]
    exact Br h _ (hops _ (by simp))
   ·rw [List.getElem?_append_right (by simp; omega)] at hx
    have e1:(args.map a.eval++cvs).getD i undef=cvs.getD (i-args.size) undef:=by
     rw [Array.getD_eq_getD_getElem?,Array.getElem?_append_right (by simp; omega),Array.getD_eq_getD_getElem?]
     simp
    rw [e1]
    exact hcr _ x (by simpa using hx))
 obtain ⟨fn,hfn,hname,hbody⟩:=hsp.1
 have hrun:(execOp a.eval o).run P w = .ok (.enter f' (args.map a.eval++cvs)) w:=by
  unfold execOp
  rw [hop]
  simp [resolve,Deferred.ofValue,hfv,invoke,callFunc,hfn,hname]
  intro hn
  rw [hn] at hbody
  simp at hbody
 unfold Oper.wp
 rw [hrun]
 simp only [Oper.upon]
 refine hcalls.mono ?_
 rintro e w' ⟨v,β',rfl,hrel,hv⟩
 have hdrop:=Ajn (objs:=σ.objs) (Ahr hce) (fun _ _=>Ek) hkeepS
 rw [← hdrop] at hrel hv
 exact ⟨β',putO hrel o.dst hd v _ hv⟩
theorem Mx {ops:Array Oper} {o:Oper} {i:Nat} (hi:ops[i]? = some o) {cx:Cx} {β:Bu} {σ:St} {a:Act} {w:World} (h:Rel cx β σ a w)
  {sk:Bool} {gt:List Nat} {gobl:List Prop} (hg:Acs (ops.toList.map (·.dst)) o.guard sk σ=some (gt,gobl)) (ho:All gobl) :
  Region.wanted o (yielded ops a.tmps) = !sk:=by
 unfold Acs at hg
 unfold Region.wanted
 split at hg
 ·rename_i hgd
  cases sk with
  | true=>simp at hg
  | false=>simp [hgd]
 ·rename_i j want hgd
  rw [hgd]
  split at hg
  ·rename_i t hgs
   have hdst:(ops[j]?).bind (·.dst)=some t:=by
    rw [List.getElem?_map] at hgs
    cases hq:ops.toList[j]? with
    | none=>simp [hq] at hgs
    | some q =>
     simp [hq] at hgs
     have:ops[j]? = some q:=by simpa using hq
     simp [this,hgs]
   have hslot:=h.sl t
   split at hg
   ·rename_i b hsl
    simp only [Option.some.injEq,Prod.mk.injEq] at hg
    obtain ⟨rfl,rfl⟩:=hg
    simp only [All,and_true] at ho
    rw [hsl] at hslot
    obtain ⟨e,_⟩:=hslot.inv_v
    have:a.tmps[t]? = some (.bool b):=by
     rw [Array.getD_eq_getD_getElem?] at e
     cases hq:a.tmps[t]? with
     | none=>simp [hq,undef] at e
     | some q=>simp [hq] at e; rw [e]
    simp only [yielded,hdst,Option.bind_some,this]
    subst ho
    cases sk <;> cases want <;> rfl
   ·rename_i hsl
    cases sk with
    | false=>simp at hg
    | true =>
     rw [hsl] at hslot
     have hund:a.tmps.getD t undef=undef:=by
      generalize a.tmps.getD t undef=v at hslot
      cases hslot
      rfl
     simp only [yielded,hdst,Option.bind_some]
     rw [Array.getD_eq_getD_getElem?] at hund
     cases hq:a.tmps[t]? with
     | none=>rfl
     | some q =>
      simp [hq] at hund
      subst hund
      rfl
   ·simp at hg
  ·simp at hg
theorem La {gs:List (Option Nat)} {g:Option (Nat×Bool)} {sk:Bool} {σ τ:St} {gt:List Nat} {gobl:List Prop} (h:Acs gs g sk σ=some (gt,gobl))
  (hs:∀ t∈gt,τ.slots t=σ.slots t):Acs gs g sk τ=some (gt,gobl):=by
 unfold Acs at h ⊢
 split at h
 ·exact h
 ·rename_i j want
  split at h
  ·rename_i t hgs
   try simp only [hgs]
   split at h
   ·rename_i b hsl
    simp only [Option.some.injEq,Prod.mk.injEq] at h
    obtain ⟨rfl,rfl⟩:=h
    rw [hs t (by simp),hsl]
   ·rename_i hsl
    cases sk with
    | false=>simp at h
    | true =>
     simp only [cond_true,Option.some.injEq,Prod.mk.injEq] at h
     obtain ⟨rfl,rfl⟩:=h
     rw [hs t (by simp),hsl]
     rfl
   ·simp at h
  ·simp at h
theorem Rel.bodyAs {cx:Cx} {β:Bu} {σ:St} {a:Act} {w:World} (h:Rel cx β σ a w) {k g:Nat} {b0 b1:Body} (ho:σ.objs k=some ⟨g,b0⟩) (hs:b0.same b1) (hlv:b0.live↔b1.live)
  (hr:∀ β objs S l,ObjRel β objs S w l b0→ObjRel β objs S w l b1):Rel cx β ⟨σ.slots,Bp σ.objs k ⟨g,b1⟩⟩ a w:=by
 have hcase:∀ j o',Bp σ.objs k ⟨g,b1⟩ j=some o'→(j=k∧o'=⟨g,b1⟩)∨(j≠k∧σ.objs j=some o'):=by
  intro j o' hj
  by_cases e:j=k
  ·subst e; rw [Bm] at hj; injection hj with hj; exact .inl ⟨rfl,hj.symm⟩
  ·rw [Cj _ _ e] at hj; exact .inr ⟨e,hj⟩
 have hold:∀ j o',Bp σ.objs k ⟨g,b1⟩ j=some o'→∃ o,σ.objs j=some o∧o.gen=o'.gen∧(o.body.live↔o'.body.live):=by
  intro j o' hj
  rcases hcase j o' hj with ⟨rfl,rfl⟩|⟨_,hj⟩
  ·exact ⟨_,ho,rfl,hlv⟩
  ·exact ⟨_,hj,rfl,Iff.rfl⟩
 have hg:Grows β β σ.objs (Bp σ.objs k ⟨g,b1⟩):=by
  intro j o hj
  by_cases e:j=k
  ·subst e
   rw [ho] at hj; injection hj with hj; subst hj
   exact ⟨_,Bm _ _ _,Nat.le_refl _,fun _=>⟨rfl,hs⟩⟩
  ·exact ⟨o,by rw [Cj _ _ e]; exact hj,Nat.le_refl _,fun _=>⟨rfl,Body.same_refl _⟩⟩
 have hS:∀ b,As cx.Av β σ.objs w b→As cx.Av β (Bp σ.objs k ⟨g,b1⟩) w b:=by
  intro b hb
  refine ⟨hb.1,hb.2.1,fun j o' hj hl => ?_⟩
  obtain ⟨o,q1,_,q3⟩:=hold j o' hj
  exact hb.2.2 j o q1 (q3.2 hl)
 refine ⟨h.nd,h.sz,fun t=>(h.sl t).mono hg hS (fun _ _=>rfl),fun j o' hj => ?_,fun j o' b hj hl hb => ?_,fun j j' o o' b hj hj' hl hl' hne hb => ?_,h.kept,h.avo,h.avlt,h.mle,fun j o' hjm hj hgen => ?_⟩
 ·rcases hcase j o' hj with ⟨rfl,rfl⟩|⟨_,hj⟩
  ·exact hr _ _ _ _ ((h.ob j _ ho).mono hg hS (fun _ _=>rfl) (fun _ _=>rfl))
  ·exact (h.ob j o' hj).mono hg hS (fun _ _=>rfl) (fun _ _=>rfl)
 ·obtain ⟨o,q1,_,q3⟩:=hold j o' hj
  exact h.blk j o b q1 (q3.2 hl) hb
 ·obtain ⟨p,q1,_,q3⟩:=hold j o hj
  obtain ⟨p',r1,_,r3⟩:=hold j' o' hj'
  exact h.inj j j' p p' b q1 r1 (q3.2 hl) (r3.2 hl') hne hb
 ·obtain ⟨o,q1,q2,_⟩:=hold j o' hj
  exact h.oloc j o hjm q1 (by rw [q2]; exact hgen)
theorem Rel.rowAs {cx:Cx} {β:Bu} {σ:St} {a:Act} {w:World} (h:Rel cx β σ a w) {k g W n:Nat} {f f':Nat→List PV} (ho:σ.objs k=some ⟨g,.row W n f⟩) (hf:∀ i,i<n→f i=f' i) :
  Rel cx β ⟨σ.slots,Bp σ.objs k ⟨g,.row W n f'⟩⟩ a w:=by
 refine h.bodyAs (b1 := .row W n f') ho ⟨rfl,rfl⟩ Iff.rfl fun β objs S l q => ?_
 rcases q with q|⟨b,o,cap,cur,e,q0,q1,q2,q3,q4⟩
 ·exact .inl q
 ·refine .inr ⟨b,o,cap,cur,e,q0,q1,q2,q3,fun i hi => ?_⟩
  rw [← hf i hi]
  exact q4 i hi
theorem Rel.mapAs {cx:Cx} {β:Bu} {σ:St} {a:Act} {w:World} (h:Rel cx β σ a w) {k g:Nat} {z z':PV} {has has':Int→Bool} {f f':Int→PV} (ho:σ.objs k=some ⟨g,.mp z has f⟩) (hf:Acy z has f z' has' f') :
  Rel cx β ⟨σ.slots,Bp σ.objs k ⟨g,.mp z' has' f'⟩⟩ a w:=by
 refine h.bodyAs (b1 := .mp z' has' f') ho trivial Iff.rfl fun β objs S l q => ?_
 obtain ⟨h1,h2,h3⟩:=hf
 subst h1
 obtain ⟨b,es,clock,q0,q1,q2,q3,q4⟩:=q
 exact ⟨b,es,clock,q0,q1,q2,h3 q3,fun i e n he hn=>h2 n _ _ _ (q4 i e n he hn)⟩
theorem Rel.frzRow {cx:Cx} {β:Bu} {σ:St} {a:Act} {w:World} (h:Rel cx β σ a w) {t k g W n:Nat} {f:Nat→List PV} (ho:σ.objs k=some ⟨g,.row W n f⟩) (ht:σ.slots t = .own k g 0 n) :
  Rel cx β ⟨Bs σ.slots t (.p (.sl .unk W n f)),Bp σ.objs k ⟨g+1,.dead⟩⟩ a w:=by
 have hg:Grows β β σ.objs (Bp σ.objs k ⟨g+1,.dead⟩):=by
  intro j o hj
  by_cases e:j=k
  ·subst e
   rw [ho] at hj; injection hj with hj; subst hj
   exact ⟨_,Bm _ _ _,Nat.le_succ _,fun e=>absurd e (by simp)⟩
  ·exact ⟨o,by rw [Cj _ _ e]; exact hj,Nat.le_refl _,fun _=>⟨rfl,Body.same_refl _⟩⟩
 have hold:∀ j o',Bp σ.objs k ⟨g+1,.dead⟩ j=some o'→o'.body.live→j≠k∧σ.objs j=some o':=by
  intro j o' hj hl
  by_cases e:j=k
  ·subst e; rw [Bm] at hj; injection hj with hj; subst hj; exact absurd hl (by simp [Body.live])
  ·rw [Cj _ _ e] at hj; exact ⟨e,hj⟩
 have hS:∀ b,As cx.Av β σ.objs w b→As cx.Av β (Bp σ.objs k ⟨g+1,.dead⟩) w b:=fun b hb=>⟨hb.1,hb.2.1,fun j o' hj hl=>hb.2.2 j o' (hold j o' hj hl).2 hl⟩
 have hSk:∀ b,(β k).block=some b→As cx.Av β (Bp σ.objs k ⟨g+1,.dead⟩) w b:=by
  intro b hb
  have hblk:=h.blk k _ b ho trivial hb
  exact ⟨hblk.1,hblk.2.1,fun j o' hj hl=>h.inj k j _ o' b ho (hold j o' hj hl).2 trivial hl (Ne.symm (hold j o' hj hl).1) hb⟩
 refine ⟨h.nd,h.sz,fun t' => ?_,fun j o' hj => ?_,fun j o' b hj hl hb => ?_,fun j j' o o' b hj hj' hl hl' hne hb => ?_,h.kept,h.avo,h.avlt,h.mle,fun j o' hjm hj hgen => ?_⟩
 ·show RelV β _ _ w _ (Bs σ.slots t (.p (.sl .unk W n f)) t')
  by_cases htt:t'=t
  ·subst htt
   have hr:=h.sl t'
   rw [ht] at hr
   simp only [Bs,Cq,cond_true]
   generalize a.tmps.getD t' undef=v at hr
   cases hr with
   | own _ _ _ _ base c hk =>
    have hown:=hk.get ho
    obtain ⟨hle,hl⟩:=hown
    refine .p _ _ ?_
    rcases h.ob k _ ho with ⟨hl',hn0⟩|⟨b,o,cap,cur,e',hl',hheap,hcap,hnn,hrow⟩
    ·rw [hl'] at hl
     obtain ⟨hbase,rfl,_,rfl⟩:=hl
     rcases hbase with rfl|⟨bb,oo,rfl⟩
     ·exact .slnil _ _ _ (by simp)
     ·exact .sl _ _ _ _ _ _ _ (fun _ _=>undef) (by simp) (Nat.le_refl _) (fun e=>by simp at e) (fun i hi=>by omega) (fun i j hi=>by omega) (fun i j hi=>by omega) (fun i j x hi=>by omega)
    ·rw [hl'] at hl
     obtain ⟨b',o',rfl,hcc,hadr⟩:=hl
     by_cases hlen0:n=0
     ·subst hlen0
      exact .sl _ _ _ _ _ _ _ (fun _ _=>undef) (by simp) (Nat.zero_le _) (fun e=>by simp at e) (fun i hi=>by omega) (fun i j hi=>by omega) (fun i j hi=>by omega) (fun i j x hi=>by omega)
     ·obtain ⟨rfl,rfl⟩:=hadr (by omega)
      have hSb:=hSk b' (by rw [hl']; rfl)
      have hcell:∀ j,w.cell? (at_ b' j)=cur[j]? := fun j=>cell_of_row w b' j cur e' (0,0) hheap
      have hgetc:∀ i j,i<n→j<W→∃ u,cur[o+0*W+(i*W+j)]? = some u∧u.oneCell'=true:=by
       intro i j hi hj
       obtain ⟨q1,q2⟩:=hrow i (by omega)
       obtain ⟨u,u1,u2,_⟩:=q2 j (f i)[j] (List.getElem?_eq_getElem (by omega))
       exact ⟨u,by rw [← u1]; congr 1; omega,u2⟩
      refine .sl _ _ _ _ _ _ _ (fun i j=>cur.getD (o+0*W+(i*W+j)) undef) (by simp) (by omega) (fun _=>hSb) (fun i hi=>(hrow i hi).1) (fun i j hi hj => ?_) (fun i j hi hj => ?_) (fun i j x hi hx => ?_)
      ·obtain ⟨u,u1,_⟩:=hgetc i j hi hj
       rw [hcell,Array.getD_eq_getD_getElem?,u1]
       rfl
      ·obtain ⟨u,u1,u2⟩:=hgetc i j hi hj
       rw [Array.getD_eq_getD_getElem?,u1]
       exact u2
      ·obtain ⟨q1,q2⟩:=hrow i hi
       obtain ⟨u,u1,u2,u3⟩:=q2 j x hx
       have e2:cur[o+0*W+(i*W+j)]? = some u:=by rw [← u1]; congr 1; omega
       rw [Array.getD_eq_getD_getElem?,e2]
       exact u3.mono hS (fun _ _=>rfl)
  ·simp only [Bs,Mh htt,cond_false]
   exact (h.sl t').mono hg hS (fun _ _=>rfl)
 ·by_cases e:j=k
  ·have hj:Bp σ.objs k ⟨g+1,.dead⟩ j=some o':=hj
   subst e; rw [Bm] at hj; injection hj with hj; subst hj; trivial
  ·have hj:Bp σ.objs k ⟨g+1,.dead⟩ j=some o':=hj
   rw [Cj _ _ e] at hj
   exact (h.ob j o' hj).mono hg hS (fun _ _=>rfl) (fun _ _=>rfl)
 ·exact h.blk j o' b (hold j o' hj hl).2 hl hb
 ·exact h.inj j j' o o' b (hold j o hj hl).2 (hold j' o' hj' hl').2 hl hl' hne hb
 ·by_cases e:j=k
  ·have hj:Bp σ.objs k ⟨g+1,.dead⟩ j=some o':=hj
   subst e; rw [Bm] at hj; injection hj with hj; subst hj; simp at hgen
  ·have hj:Bp σ.objs k ⟨g+1,.dead⟩ j=some o':=hj
   rw [Cj _ _ e] at hj
   exact h.oloc j o' hjm hj hgen
theorem Yl (objs:Bh) (k:Nat) (o o':Obj):Bp (Bp objs k o) k o'=Bp objs k o':=by
 funext j
 by_cases e:j=k
 ·subst e; rw [Bm,Bm]
 ·rw [Cj _ _ e,Cj _ _ e,Cj _ _ e]
theorem Rel.moveRow {cx:Cx} {β:Bu} {σ:St} {a:Act} {w:World} (h:Rel cx β σ a w) {t k g W n kd:Nat} {f:Nat→List PV} (ho:σ.objs k=some ⟨g,.row W n f⟩) (ht:σ.slots t = .own k g 0 n) (hne:kd≠k) (hkd:1000≤kd) :
  Rel cx (Ia β kd (β k)) ⟨Bs σ.slots t (.own kd (Bw (σ.objs kd)) 0 n),Bp (Bp σ.objs k ⟨g+1,.dead⟩) kd ⟨Bw (σ.objs kd),.row W n f⟩⟩ a w:=by
 have hcase:∀ j o',Bp (Bp σ.objs k ⟨g+1,.dead⟩) kd ⟨Bw (σ.objs kd),.row W n f⟩ j=some o'→(j=kd∧o'=⟨Bw (σ.objs kd),.row W n f⟩)∨(j≠kd∧j=k∧o'=⟨g+1,.dead⟩)∨(j≠kd∧j≠k∧σ.objs j=some o'):=by
  intro j o' hj
  by_cases e:j=kd
  ·subst e; rw [Bm] at hj; injection hj with hj; exact .inl ⟨rfl,hj.symm⟩
  ·rw [Cj _ _ e] at hj
   by_cases e2:j=k
   ·subst e2; rw [Bm] at hj; injection hj with hj; exact .inr (.inl ⟨e,rfl,hj.symm⟩)
   ·rw [Cj _ _ e2] at hj; exact .inr (.inr ⟨e,e2,hj⟩)
 have hg:Grows β (Ia β kd (β k)) σ.objs (Bp (Bp σ.objs k ⟨g+1,.dead⟩) kd ⟨Bw (σ.objs kd),.row W n f⟩):=by
  intro j o hj
  by_cases e:j=kd
  ·subst e
   rw [hj]
   exact ⟨_,Bm _ _ _,by simp [Bw],fun e=>by simp [Bw] at e⟩
  ·by_cases e2:j=k
   ·subst e2
    rw [ho] at hj; injection hj with hj; subst hj
    exact ⟨⟨g+1,.dead⟩,by rw [Cj _ _ e,Bm],Nat.le_succ _,fun e=>absurd e (by simp)⟩
   ·exact ⟨o,by rw [Cj _ _ e,Cj _ _ e2]; exact hj,Nat.le_refl _,fun _=>⟨by rw [Kf _ _ e],Body.same_refl _⟩⟩
 have hlive:∀ j o',Bp (Bp σ.objs k ⟨g+1,.dead⟩) kd ⟨Bw (σ.objs kd),.row W n f⟩ j=some o'→o'.body.live→∃ i o,σ.objs i=some o∧o.body.live∧Ia β kd (β k) j=β i∧((j=kd∧i=k)∨(j≠kd∧j≠k∧i=j)):=by
  intro j o' hj hl
  rcases hcase j o' hj with ⟨rfl,rfl⟩|⟨_,rfl,rfl⟩|⟨e1,e2,hj'⟩
  ·exact ⟨k,_,ho,trivial,Ep _ _ _,.inl ⟨rfl,rfl⟩⟩
  ·exact hl.elim
  ·exact ⟨j,o',hj',hl,Kf _ _ e1,.inr ⟨e1,e2,rfl⟩⟩
 have hS:∀ b,As cx.Av β σ.objs w b→As cx.Av (Ia β kd (β k)) (Bp (Bp σ.objs k ⟨g+1,.dead⟩) kd ⟨Bw (σ.objs kd),.row W n f⟩) w b:=by
  intro b hb
  refine ⟨hb.1,hb.2.1,fun j o' hj hl => ?_⟩
  obtain ⟨i,o,q1,q2,q3,_⟩:=hlive j o' hj hl
  rw [q3]
  exact hb.2.2 i o q1 q2
 refine ⟨h.nd,h.sz,fun t' => ?_,fun j o' hj => ?_,fun j o' b hj hl hb => ?_,fun j j' o o' b hj hj' hl hl' hne' hb => ?_,h.kept,h.avo,h.avlt,h.mle,fun j o' hjm hj hgen => ?_⟩
 ·show RelV _ _ _ w _ (Bs σ.slots t (.own kd (Bw (σ.objs kd)) 0 n) t')
  by_cases htt:t'=t
  ·subst htt
   have hr:=h.sl t'
   rw [ht] at hr
   simp only [Bs,Cq,cond_true]
   generalize a.tmps.getD t' undef=v at hr
   cases hr with
   | own _ _ _ _ base c hk =>
    have hown:=hk.get ho
    exact .own _ _ _ _ _ _ ⟨_,Bm _ _ _,Nat.le_refl _,fun _=>by rw [Ep]; exact hown⟩
  ·simp only [Bs,Mh htt,cond_false]
   exact (h.sl t').mono hg hS (fun _ _=>rfl)
 ·rcases hcase j o' hj with ⟨rfl,rfl⟩|⟨_,rfl,rfl⟩|⟨e1,e2,hj'⟩
  ·rw [Ep]
   exact (h.ob k _ ho).mono hg hS (fun _ _=>rfl) (fun _ _=>rfl)
  ·trivial
  ·rw [Kf _ _ e1]
   exact (h.ob j o' hj').mono hg hS (fun _ _=>rfl) (fun _ _=>rfl)
 ·obtain ⟨i,o,q1,q2,q3,_⟩:=hlive j o' hj hl
  rw [q3] at hb
  exact h.blk i o b q1 q2 hb
 ·obtain ⟨i,p,q1,q2,q3,q4⟩:=hlive j o hj hl
  obtain ⟨i',p',r1,r2,r3,r4⟩:=hlive j' o' hj' hl'
  rw [q3] at hb
  rw [r3]
  refine h.inj i i' p p' b q1 r1 q2 r2 ?_ hb
  rcases q4 with ⟨rfl,rfl⟩|⟨a1,a2,rfl⟩ <;> rcases r4 with ⟨rfl,rfl⟩|⟨b1,b2,rfl⟩
  ·exact absurd rfl hne'
  ·exact Ne.symm b2
  ·exact a2
  ·exact hne'
 ·rcases hcase j o' hj with ⟨rfl,rfl⟩|⟨_,rfl,rfl⟩|⟨e1,e2,hj'⟩
  ·have:=h.mle; omega
  ·simp at hgen
  ·rw [Kf _ _ e1]
   exact h.oloc j o' hjm hj' hgen
theorem Ait (hT:Kk P T) {ops:Array Oper} {i:Nat} {o:Oper} (hi:ops[i]? = some o) {x:Orc} {σ:St} {r:Rec} {obl:List Prop}
  (h:dstep P T nt (ops.toList.map (·.dst)) o x σ=some (r,obl)) (ho:All obl):OpOK P nt ops i r σ:=by
 intro cx β τ a w Q hnt hrel hrs hro
 unfold dstep at h
 split at h
 case h_1=>simp at h
 rename_i gt gobl hg
 cases hb:((match o.dst with|some t=>Nat.blt t nt|none=>true)&&Ts o.op) with
 | false=>simp [hb] at h
 | true =>
 simp only [hb,cond_true] at h
 simp only [Bool.and_eq_true] at hb
 obtain ⟨hb1,hb2⟩:=hb
 have hd:∀ t,o.dst=some t→t<cx.nt:=by
  intro t ht
  rw [ht] at hb1
  simp only at hb1
  rw [hnt]
  exact Nat.le_of_ble_eq_true hb1
 have hdst:∀ t,o.dst=some t→t=o.dst.getD 0:=fun t ht=>by simp [ht]
 unfold wpOpIn
 rw [hi]
 simp only
 split at h
 ·-- skipped
  simp only [Option.some.injEq,Prod.mk.injEq] at h
  obtain ⟨rfl,rfl⟩:=h
  have hg':=La hg hrs
  have hw:=Mx hi hrel hg' ho
  simp only [Orc.isSkip,Bool.not_true] at hw
  rw [if_neg (by simp [hw])]
  exact ⟨fun _ _=>trivial,β,putO hrel o.dst hd undef .und .und⟩
 ·rename_i f ks keep res outs' news sm
  split at h
  case h_2=>simp at h
  rename_i ro y wo obl1 hc
  simp only [Option.some.injEq,Prod.mk.injEq] at h
  obtain ⟨rfl,rfl⟩:=h
  rw [All_append] at ho
  have hg':=La hg (fun t ht=>hrs t (List.mem_append.2 (.inl ht)))
  have hw:=Mx hi hrel hg' ho.1
  simp only [Orc.isSkip,Bool.not_false] at hw
  rw [if_pos hw]
  refine Rl (Qr hb2) ?_
  have hc':=AiM hc (fun t ht=>hrs t (List.mem_append.2 (.inr ht))) hro
  exact dcall_wp hb2 hrel hd hc' ho.2 Q
 ·rename_i y' n' f'
  split at h
  case h_2=>simp at h
  rename_i y k g W n f obl1 hc
  simp only [Option.some.injEq,Prod.mk.injEq] at h
  obtain ⟨rfl,rfl⟩:=h
  rw [All_append,All_append] at ho
  obtain ⟨ho1,ho2,ho3,⟨ho4,ho5⟩,_⟩:=ho
  subst ho3
  subst ho4
  have hg':=La hg (fun t ht=>hrs t (List.mem_append.2 (.inl ht)))
  have hw:=Mx hi hrel hg' ho1
  simp only [Orc.isSkip,Bool.not_false] at hw
  rw [if_pos hw]
  refine Rl (Qr hb2) ?_
  have hev:=Xq (op:=o.op) (σ:=σ) (τ:=τ) (fun t ht=>hrs t (List.mem_append.2 (.inr ht)))
  refine Oper.wp_mono ?_ (Aee hT hb2 hdst true hrel hd (y:=y) (wo := [(k,⟨g,.row W n f⟩)]) (obl:=obl1) (by
   rw [hev,Qk (objs':=σ.objs) hro]
   exact hc) ho2 Q)
  ·rintro a' w' ⟨β',hr⟩
   have hobj:(Hr τ ⟨[],[],o.dst.toList.map fun t=>(t,y),[(k,⟨g,.row W n f⟩)]⟩).objs k=some ⟨g,.row W n f⟩:=Bm _ _ _
   have:=hr.rowAs hobj ho5
   refine ⟨β',?_⟩
   have e:Bp (Hr τ ⟨[],[],o.dst.toList.map fun t=>(t,y),[(k,⟨g,.row W n f⟩)]⟩).objs k ⟨g,.row W n f'⟩=Bp τ.objs k ⟨g,.row W n f'⟩:=Yl _ _ _ _
   rw [e] at this
   exact this
 ·rename_i z' has' f'
  split at h
  case h_2=>simp at h
  rename_i y k g z has f obl1 hc
  simp only [Option.some.injEq,Prod.mk.injEq] at h
  obtain ⟨rfl,rfl⟩:=h
  rw [All_append,All_append] at ho
  obtain ⟨ho1,ho2,ho3,_⟩:=ho
  have hg':=La hg (fun t ht=>hrs t (List.mem_append.2 (.inl ht)))
  have hw:=Mx hi hrel hg' ho1
  simp only [Orc.isSkip,Bool.not_false] at hw
  rw [if_pos hw]
  refine Rl (Qr hb2) ?_
  have hev:=Xq (op:=o.op) (σ:=σ) (τ:=τ) (fun t ht=>hrs t (List.mem_append.2 (.inr ht)))
  refine Oper.wp_mono ?_ (Aee hT hb2 hdst true hrel hd (y:=y) (wo := [(k,⟨g,.mp z has f⟩)]) (obl:=obl1) (by
   rw [hev,Qk (objs':=σ.objs) hro]
   exact hc) ho2 Q)
  ·rintro a' w' ⟨β',hr⟩
   have hobj:(Hr τ ⟨[],[],o.dst.toList.map fun t=>(t,y),[(k,⟨g,.mp z has f⟩)]⟩).objs k=some ⟨g,.mp z has f⟩:=Bm _ _ _
   have:=hr.mapAs hobj ho3
   refine ⟨β',?_⟩
   have e:Bp (Hr τ ⟨[],[],o.dst.toList.map fun t=>(t,y),[(k,⟨g,.mp z has f⟩)]⟩).objs k ⟨g,.mp z' has' f'⟩=Bp τ.objs k ⟨g,.mp z' has' f'⟩:=Yl _ _ _ _
   rw [e] at this
   exact this
 ·rename_i n' f'
  split at h
  case h_2=>simp at h
  rename_i od k' g' len k g W n f obl1 t hc hot
  cases hbb:(Nat.beq k' k&&Nat.beq g' g&&Nat.beq len n) with
  | false=>simp [hbb] at h
  | true =>
  simp only [hbb,cond_true,Option.some.injEq,Prod.mk.injEq] at h
  obtain ⟨rfl,rfl⟩:=h
  simp only [Bool.and_eq_true] at hbb
  obtain ⟨⟨e1,e2⟩,e3⟩:=hbb
  have e1:=Nat.eq_of_beq_eq_true e1
  have e2:=Nat.eq_of_beq_eq_true e2
  have e3:=Nat.eq_of_beq_eq_true e3
  subst e1; subst e2; subst e3
  rw [All_append,All_append] at ho
  obtain ⟨ho1,ho2,⟨ho3,ho4⟩,_⟩:=ho
  subst ho3
  have hg':=La hg (fun t ht=>hrs t (List.mem_append.2 (.inl ht)))
  have hw:=Mx hi hrel hg' ho1
  simp only [Orc.isSkip,Bool.not_false] at hw
  rw [if_pos hw]
  refine Rl (Qr hb2) ?_
  have hev:=Xq (op:=o.op) (σ:=σ) (τ:=τ) (fun t ht=>hrs t (List.mem_append.2 (.inr ht)))
  refine Oper.wp_mono ?_ (Aee hT hb2 hdst true hrel hd (y := .own k' g' 0 len) (wo := [(k',⟨g',.row W len f⟩)]) (obl:=obl1) (by
   rw [hev,Qk (objs':=σ.objs) hro]
   exact hc) ho2 Q)
  ·rintro a' w' ⟨β',hr⟩
   rw [hot] at hr
   have hobj:(Hr τ ⟨[],[],[(t,.own k' g' 0 len)],[(k',⟨g',.row W len f⟩)]⟩).objs k'=some ⟨g',.row W len f⟩:=Bm _ _ _
   have hsl:(Hr τ ⟨[],[],[(t,.own k' g' 0 len)],[(k',⟨g',.row W len f⟩)]⟩).slots t = .own k' g' 0 len:=by simp [Hr,Sc,Bs,Cq]
   have hr2:Rel cx β' (Hr τ ⟨[],[],[(t,.own k' g' 0 len)],[(k',⟨g',.row W len f⟩)]⟩) a' w':=hr
   have hr3:=hr2.rowAs hobj ho4
   have hfr:=Rel.frzRow (t:=t) hr3 (Bm _ _ _) hsl
   refine ⟨β',?_⟩
   have e4:Bp (Bp (Hr τ ⟨[],[],[(t,.own k' g' 0 len)],[(k',⟨g',.row W len f⟩)]⟩).objs k' ⟨g',.row W len f'⟩) k' ⟨g'+1,.dead⟩=Bp τ.objs k' ⟨g'+1,.dead⟩:=by rw [Yl]; exact Yl _ _ _ _
   have e5:Bs (Hr τ ⟨[],[],[(t,.own k' g' 0 len)],[(k',⟨g',.row W len f⟩)]⟩).slots t (.p (.sl .unk W len f'))=Bs τ.slots t (.p (.sl .unk W len f')):=by
    funext j
    simp only [Hr,Sc,Bs]
    cases Nat.beq j t <;> rfl
   rw [e4,e5] at hfr
   exact hfr
 ·split at h
  case h_2=>simp at h
  rename_i od k' g' len k g W n f obl1 t hc hot
  cases hbb:(Nat.beq k' k&&Nat.beq g' g && !Nat.beq (key t 0) k) with
  | false=>simp [hbb] at h
  | true =>
  simp only [hbb,cond_true,Option.some.injEq,Prod.mk.injEq] at h
  obtain ⟨rfl,rfl⟩:=h
  simp only [Bool.and_eq_true,Bool.not_eq_true'] at hbb
  obtain ⟨⟨e1,e2⟩,e4⟩:=hbb
  have e1:=Nat.eq_of_beq_eq_true e1
  have e2:=Nat.eq_of_beq_eq_true e2
  rw [All_append,All_append] at ho
  have e3:=ho.2.2.1
  subst e1; subst e2; subst e3
  have hne:key t 0≠k':=fun e=>by rw [e,Nat.beq_refl] at e4; simp at e4
  have hg':=La hg (fun t ht=>hrs t (List.mem_append.2 (.inl ht)))
  have hw:=Mx hi hrel hg' ho.1
  simp only [Orc.isSkip,Bool.not_false] at hw
  rw [if_pos hw]
  refine Rl (Qr hb2) ?_
  have hev:=Xq (op:=o.op) (σ:=σ) (τ:=τ) (fun t ht=>hrs t (List.mem_append.2 (.inr ht)))
  refine Oper.wp_mono ?_ (Aee hT hb2 hdst true hrel hd (y := .own k' g' 0 len) (wo := [(k',⟨g',.row W len f⟩)]) (obl:=obl1) (by
   rw [hev,Qk (objs':=σ.objs) (fun k hk=>hro k (List.mem_cons_of_mem _ hk))]
   exact hc) ho.2.1 Q)
  ·rintro a' w' ⟨β',hr⟩
   rw [hot] at hr
   have hobj:(Hr τ ⟨[],[],[(t,.own k' g' 0 len)],[(k',⟨g',.row W len f⟩)]⟩).objs k'=some ⟨g',.row W len f⟩:=Bm _ _ _
   have hsl:(Hr τ ⟨[],[],[(t,.own k' g' 0 len)],[(k',⟨g',.row W len f⟩)]⟩).slots t = .own k' g' 0 len:=by simp [Hr,Sc,Bs,Cq]
   have hr2:Rel cx β' (Hr τ ⟨[],[],[(t,.own k' g' 0 len)],[(k',⟨g',.row W len f⟩)]⟩) a' w':=hr
   have hm:=hr2.moveRow (t:=t) hobj hsl hne (by simp only [key]; omega)
   refine ⟨Ia β' (key t 0) (β' k'),?_⟩
   have e6:(Hr τ ⟨[],[],[(t,.own k' g' 0 len)],[(k',⟨g',.row W len f⟩)]⟩).objs (key t 0)=σ.objs (key t 0):=by
    have:=hro (key t 0) (by simp)
    rw [← this]
    exact Cj _ _ hne
   rw [e6] at hm
   have e7:Bp (Hr τ ⟨[],[],[(t,.own k' g' 0 len)],[(k',⟨g',.row W len f⟩)]⟩).objs k' ⟨g'+1,.dead⟩=Bp τ.objs k' ⟨g'+1,.dead⟩:=Yl _ _ _ _
   rw [e7] at hm
   have e5:Bs (Hr τ ⟨[],[],[(t,.own k' g' 0 len)],[(k',⟨g',.row W len f⟩)]⟩).slots t (.own (key t 0) (Bw (σ.objs (key t 0))) 0 len)=Bs τ.slots t (.own (key t 0) (Bw (σ.objs (key t 0))) 0 len):=by
    funext j
    simp only [Hr,Sc,Bs]
    cases Nat.beq j t <;> rfl
   rw [e5] at hm
   exact hm
 ·rename_i n
  split at h
  case h_2=>simp at h
  rename_i t1 q1 q2 q3 x s v hop hev0
  split at h
  case h_2=>simp at h
  rename_i y wo obl1 hc
  simp only [Option.some.injEq,Prod.mk.injEq] at h
  obtain ⟨rfl,rfl⟩:=h
  rw [All_append] at ho
  have hg':=La hg (fun t ht=>hrs t (List.mem_append.2 (.inl ht)))
  have hw:=Mx hi hrel hg' ho.1
  simp only [Orc.isSkip,Bool.not_false] at hw
  rw [if_pos hw]
  refine Rl (Qr hb2) ?_
  have hev:=Xq (op:=o.op) (σ:=σ) (τ:=τ) (fun t ht=>hrs t (List.mem_append.2 (.inr ht)))
  obtain ⟨od,op,ot,opos,oafter,oguard⟩:=o
  simp only at hop hev hev0 hb2 hdst hd hi ⊢
  subst hop
  simp only [Op.operands,List.map_cons,List.map_nil,List.cons.injEq,and_true] at hev hev0
  obtain ⟨e1,e2,e3⟩:=hev
  obtain ⟨e4,e5,e6⟩:=hev0
  have hall:∀ x∈(Op.operands (.entryStore t1 q1 q2 q3)).toList,Be x=true:=Afi hb2
  obtain ⟨w',β',hr,hrel2,rfl⟩:=Agz (P:=P) (t:=t1) hrel (hall q1 (by simp [Op.operands])) (hall q2 (by simp [Op.operands])) (hall q3 (by simp [Op.operands])) (ob:=only x.keys τ.objs) (fun k o=>Ek)
   (by rw [e1,e2,e3,e4,e5,e6,Qk (objs':=σ.objs) hro]; exact hc) ho.2
  unfold Oper.wp
  simp only [execOp,Sem.run_bind,hr,Result.andThen_ok,Sem.run_pure,Oper.upon]
  exact ⟨β',putO hrel2 od hd undef .und .und⟩
 ·rename_i hn1 hn2 hn3 hn4 hn5 hn6 hn7
  split at h
  case h_2=>simp at h
  rename_i y wo obl1 hc
  simp only [Option.some.injEq,Prod.mk.injEq] at h
  obtain ⟨rfl,rfl⟩:=h
  rw [All_append] at ho
  have hg':=La hg (fun t ht=>hrs t (List.mem_append.2 (.inl ht)))
  have hw:=Mx hi hrel hg' ho.1
  have hsk:x.isSkip=false:=by
   cases x with
   | skip=>exact absurd rfl hn1
   | _=>rfl
  rw [hsk] at hw
  simp only [Bool.not_false] at hw
  rw [if_pos hw]
  refine Rl (Qr hb2) ?_
  have hev:=Xq (op:=o.op) (σ:=σ) (τ:=τ) (fun t ht=>hrs t (List.mem_append.2 (.inr ht)))
  refine Aee hT hb2 hdst x.bit hrel hd (y:=y) (wo:=wo) (obl:=obl1) ?_ ho.2 Q
  rw [hev,Qk (objs':=σ.objs) hro]
  exact hc
theorem Ahd {gs:List (Option Nat)} : ∀ (os:List Oper) (xs:List Orc) (σ:St) (recs:List Rec) (obl:List Prop) (σ':St),drun P T nt gs os xs σ=some (recs,obl,σ')→All obl →
  recs.length=os.length∧(∀ (i:Nat) o r,os[i]? = some o→recs[i]? = some r→∃ x obl',dstep P T nt gs o x (Dw σ (fun j=>recs.getD j ⟨[],[],[],[]⟩) (fun _=>true) i)=some (r,obl')∧All obl') ∧
  σ'=Dw σ (fun j=>recs.getD j ⟨[],[],[],[]⟩) (fun _=>true) os.length:=by
 intro os
 induction os with
 | nil =>
  intro xs σ recs obl σ' h ho
  cases xs with
  | nil =>
   simp [drun] at h
   obtain ⟨rfl,rfl,rfl⟩:=h
   exact ⟨rfl,fun i o r h=>by simp at h,rfl⟩
  | cons x xs=>simp [drun] at h
 | cons o os ih =>
  intro xs σ recs obl σ' h ho
  cases xs with
  | nil=>simp [drun] at h
  | cons x xs =>
   simp only [drun] at h
   split at h
   case h_2=>simp at h
   rename_i r obl1 hs
   split at h
   case h_2=>simp at h
   rename_i rs obls σ1 hr
   simp only [Option.some.injEq,Prod.mk.injEq] at h
   obtain ⟨rfl,rfl,rfl⟩:=h
   rw [All_append] at ho
   obtain ⟨h1,h2,h3⟩:=ih xs (Hr σ r) rs obls σ1 hr ho.2
   have hshift:∀ i,Dw σ (fun j=>(r::rs).getD j ⟨[],[],[],[]⟩) (fun _=>true) (i+1)=Dw (Hr σ r) (fun j=>rs.getD j ⟨[],[],[],[]⟩) (fun _=>true) i:=by
    intro i
    induction i with
    | zero=>simp [Dw]
    | succ i ihh =>
     rw [Dw,ihh]
     simp [Dw]
   refine ⟨by simp [h1],fun i o' r' ho' hr' => ?_,?_⟩
   ·cases i with
    | zero =>
     simp at ho' hr'
     subst ho'; subst hr'
     exact ⟨x,obl1,by simpa [Dw] using hs,ho.1⟩
    | succ i =>
     rw [hshift i]
     exact h2 i o' r' (by simpa using ho') (by simpa using hr')
   ·rw [h3,List.length_cons,hshift]
theorem AiS (hT:Kk P T) {ops:Array Oper} {id:Nat} {xs:List Orc} {σ σ':St} {recs:List Rec} {obl:List Prop}
  (h:drun P T nt (ops.toList.map (·.dst)) ops.toList xs σ=some (recs,obl,σ')) (ho:All obl) {cx:Cx} (hnt:cx.nt=nt) {β:Bu} {a:Act} {w:World}
  (hrel:Rel cx β σ a w) {Q:Exit→Act→World→Prop} (hQ:∀ β a w,Rel cx β σ' a w→Q .normal a w):(Code.region id ops false).wpIn (fen cx.rd) 0 P Q a w:=by
 obtain ⟨h1,h2,h3⟩:=Ahd _ _ _ _ _ _ h ho
 have hops:∀ i,i<ops.size→OpOK P nt ops i (recs.getD i ⟨[],[],[],[]⟩) (Dw σ (fun j=>recs.getD j ⟨[],[],[],[]⟩) (fun _=>true) i):=by
  intro i hi
  have hlt:i<recs.length:=by rw [h1]; simpa using hi
  obtain ⟨x,obl',q1,q2⟩:=h2 i ops[i] recs[i] (by simp [hi]) (List.getElem?_eq_getElem hlt)
  have:=Ait hT (ops:=ops) (i:=i) (Array.getElem?_eq_getElem hi) q1 q2
  simpa [List.getElem?_eq_getElem hlt] using this
 refine wpIn_region ?_
 have key:∀ (n i:Nat) (β:Bu) (a:Act) (w:World),n+i=ops.size→Rel cx β (Dw σ (fun j=>recs.getD j ⟨[],[],[],[]⟩) (fun _=>true) i) a w →
   wpOpsIn (fen cx.rd) 0 P ops Q (List.range' i n) a w:=by
  intro n
  induction n with
  | zero =>
   intro i β a w hi hr
   have:i=ops.toList.length:=by simpa using hi
   subst this
   simp only [List.range'_zero,wpOpsIn]
   exact hQ β a w (by rw [h3]; exact hr)
  | succ n ih =>
   intro i β a w hi hr
   rw [List.range'_succ,wpOpsIn_cons]
   refine wpOpIn_mono ?_ (hops i (by omega) cx β _ a w Q hnt hr (fun _ _=>rfl) (fun _ _=>rfl))
   rintro a' w' ⟨β',hr'⟩
   exact ih (i+1) β' a' w' (by omega) (by simpa [Dw] using hr')
 have:=key ops.size 0 β a w (by omega) hrel
 rwa [← List.range_eq_range'] at this
def backs : List (List Nat)→Nat→Bool
 | [],_=>true
 | ps::r,i=>ps.all (fun p=>Nat.blt p i)&&backs r (i+1)
theorem Ajq : ∀ (l:List (List Nat)) (s:Nat),backs l s=true→∀ (j:Nat) ps,l[j]? = some ps→∀ p∈ps,p<s+j:=by
 intro l
 induction l with
 | nil=>intro s _ j ps h; simp at h
 | cons q r ih =>
  intro s h j ps hj p hp
  simp only [backs,Bool.and_eq_true,List.all_eq_true] at h
  cases j with
  | zero=>simp at hj; subst hj; exact Nat.le_of_ble_eq_true (h.1 p hp)
  | succ j =>
   have:=ih (s+1) h.2 j ps (by simpa using hj) p hp
   omega
theorem AiU (hT:Kk P T) (hm:P.follows .mixedOrders=true) {ops:Array Oper} {id:Nat} {xs:List Orc} {σ σ':St} {recs:List Rec} {obl:List Prop}
  (h:drun P T nt (ops.toList.map (·.dst)) ops.toList xs σ=some (recs,obl,σ')) (ho:All obl)
  (hind:indep [] recs (masks (ops.toList.map Nf) [])=true) (hbk:backs (ops.toList.map Nf) 0=true)
  {cx:Cx} (hnt:cx.nt=nt) {β:Bu} {a:Act} {w:World}
  (hrel:Rel cx β σ a w) {Q:Exit→Act→World→Prop} (hQ:∀ β a w,Rel cx β σ' a w→Q .normal a w):(Code.region id ops true).wpIn (fen cx.rd) 0 P Q a w:=by
 obtain ⟨h1,h2,h3⟩:=Ahd _ _ _ _ _ _ h ho
 have hops:∀ i,i<ops.size→OpOK P nt ops i (recs.getD i ⟨[],[],[],[]⟩) (Dw σ (fun j=>recs.getD j ⟨[],[],[],[]⟩) (fun _=>true) i):=by
  intro i hi
  have hlt:i<recs.length:=by rw [h1]; simpa using hi
  obtain ⟨x,obl',q1,q2⟩:=h2 i ops[i] recs[i] (by simp [hi]) (List.getElem?_eq_getElem hlt)
  have:=Ait hT (ops:=ops) (i:=i) (Array.getElem?_eq_getElem hi) q1 q2
  simpa [List.getElem?_eq_getElem hlt] using this
 have hpr:∀ (j:Nat) ps,(ops.toList.map Nf)[j]? = some ps→Nc ops j=ps:=by
  intro j ps hj
  rw [List.getElem?_map] at hj
  cases hq:ops.toList[j]? with
  | none=>simp [hq] at hj
  | some q =>
   simp [hq] at hj
   have:ops[j]? = some q:=by simpa using hq
   simp [Nc,this,hj]
 have hpr':∀ j,j<ops.size→(ops.toList.map Nf)[j]? = some (Nc ops j):=by
  intro j hj
  simp [Nc,hj]
 refine wpIn_region_any hm ?_
 refine wpAny_run (nt:=nt) hnt σ (fun j=>recs.getD j ⟨[],[],[],[]⟩) hops ?_ ?_ ?_ ops.size _ β a _ (by simp) ?_ ?_ ?_
 ·intro i j hij hj
  have hjl:j<recs.length:=by rw [h1]; simpa using hj
  have hil:i<recs.length:=by omega
  have hml:=indep_len _ _ _ hind
  obtain ⟨m,hm⟩:∃ m,(masks (ops.toList.map Nf) [])[j]? = some m:=⟨_,List.getElem?_eq_getElem (by omega)⟩
  rcases Aju recs [] _ hind i j recs[j] recs[i] m (by simpa using hij) (by simp [hil]) (List.getElem?_eq_getElem hjl) hm with hb|hb
  ·left
   exact Ajl (Nc ops) (ops.toList.map Nf) [] (fun j ps hj=>by simpa using hpr j ps hj) (fun j i m hj=>by simp at hj) j i m hm hb
  ·right
   simpa [hil,hjl] using hb
 ·intro j hj p hp
  have:=Ajq _ 0 hbk j (Nc ops j) (hpr' j hj) p hp
  omega
 ·intro β a w hr
  exact hQ β a w (by rw [h3]; simpa using hr)
 ·simp [cnt]
  exact Nat.le_trans (List.countP_le_length) (by simp)
 ·intro j hj
  exfalso
  rw [Array.getD_eq_getD_getElem?] at hj
  by_cases hjs:j<ops.size
  ·simp [hjs] at hj
  ·simp [hjs] at hj
 ·have:Dw σ (fun j=>recs.getD j ⟨[],[],[],[]⟩) (fun i=>(Array.replicate ops.size false).getD i false) ops.size=σ:=by
   have:∀ n,Dw σ (fun j=>recs.getD j ⟨[],[],[],[]⟩) (fun i=>(Array.replicate ops.size false).getD i false) n=σ:=by
    intro n
    induction n with
    | zero=>rfl
    | succ n ih =>
     simp only [Dw]
     rw [if_neg,ih]
     rw [Array.getD_eq_getD_getElem?]
     by_cases hjs:n<ops.size
     ·simp [hjs]
     ·simp [hjs]
   exact this _
  rw [this]
  exact hrel.drew
end
end Go.Dm

/- The data machine, part 14: forgetting; code; from a body to a contract. -/
namespace Go.Dm
def Af (sl:List (Nat×MV)) (ob:List (Nat×Obj)):St:=⟨fun t=>(assoc sl t).getD .any,assoc ob⟩
def fix1 (cur:Nat→Option Nat):MV→MV
 | .own k g off len=>match cur k with
  | some g0=>bif Nat.beq g0 g then .own k 0 off len else .any
  | none => .any
 | .ref k g off=>match cur k with
  | some g0=>bif Nat.beq g0 g then .ref k 0 off else .any
  | none => .any
 | .eref k g i off=>match cur k with
  | some g0=>bif Nat.beq g0 g then .eref k 0 i off else .any
  | none => .any
 | .mref k g=>match cur k with
  | some g0=>bif Nat.beq g0 g then .mref k 0 else .any
  | none => .any
 | .p x => .p x
 | .fptr cs => .fptr cs
 | .und => .und
 | _ => .any
def fixN (cur:Nat→Option Nat):Nat→MV→MV
 | 0,x=>fix1 cur x
 | d+1,.agg cs => .agg (cs.map (fixN cur d))
 | d+1,.tup cs => .tup (cs.map (fixN cur d))
 | d+1,.fn f cs => .fn f (cs.map (fixN cur d))
 | _+1,x=>fix1 cur x
def fixB (cur:Nat→Option Nat):Body→Body
 | .box cs => .box (cs.map (fixN cur 1))
 | b=>b
def Abi (cur:Nat→Option Nat) (objs:Bh):List Nat→List (Nat×Obj)
 | [] => []
 | k::r=>match cur k,objs k with
  | some _,some o=>(k,⟨0,fixB cur o.body⟩)::Abi cur objs r
  | _,_=>Abi cur objs r
def Abk (lk:List Nat) (objs:Bh):Nat→Option Nat:=fun k =>
 bif elem k lk then (match objs k with
  | some o=>bif Nat.ble 1000 k||Nat.beq o.gen 0 then some o.gen else none
  | none=>none) else none
def pickS (cur:Nat→Option Nat) (slots:Nat→MV):List Nat→List (Nat×MV)
 | [] => []
 | t::r=>(t,fixN cur 2 (slots t))::pickS cur slots r
def Sg (ls lk:List Nat) (σ:St):List (Nat×MV):=pickS (Abk lk σ.objs) σ.slots ls
def Pu (lk:List Nat) (σ:St):List (Nat×Obj):=Abi (Abk lk σ.objs) σ.objs lk
theorem fixB_same (cur:Nat→Option Nat) (b:Body):b.same (fixB cur b):=by cases b <;> simp [fixB,Body.same]
theorem Abs (cur:Nat→Option Nat) (b:Body):(fixB cur b).live↔b.live:=by cases b <;> simp [fixB,Body.live]
theorem Yv {α:Type} {l:List (Nat×α)} {k:Nat} {x:α} (h:assoc l k=some x):(k,x)∈l:=by
 induction l with
 | nil=>simp [assoc] at h
 | cons p r ih =>
  obtain ⟨j,y⟩:=p
  simp only [assoc] at h
  cases hb:Nat.beq k j with
  | true =>
   simp [hb] at h
   subst h
   rw [Nat.eq_of_beq_eq_true hb]
   simp
  | false =>
   simp [hb] at h
   exact List.mem_cons_of_mem _ (ih h)
theorem normO_mem {cur:Nat→Option Nat} {objs:Bh} {lk:List Nat} {k:Nat} {o':Obj} (h:(k,o')∈Abi cur objs lk) :
  ∃ g o,cur k=some g∧objs k=some o∧o'=⟨0,fixB cur o.body⟩:=by
 induction lk with
 | nil=>simp [Abi] at h
 | cons j r ih =>
  simp only [Abi] at h
  split at h
  ·rename_i g o h1 h2
   rcases List.mem_cons.1 h with h|h
   ·injection h with e1 e2
    subst e1
    exact ⟨g,o,h1,h2,e2⟩
   ·exact ih h
  ·exact ih h
theorem normO_has {cur:Nat→Option Nat} {objs:Bh} {lk:List Nat} {k g:Nat} {o:Obj} (hk:k∈lk) (h1:cur k=some g) (h2:objs k=some o) :
  assoc (Abi cur objs lk) k=some ⟨0,fixB cur o.body⟩:=by
 induction lk with
 | nil=>simp at hk
 | cons j r ih =>
  simp only [Abi]
  by_cases hj:k=j
  ·subst hj
   simp only [h1,h2,assoc,Cq,cond_true]
  ·have hr:k∈r:=by simpa [hj] using hk
   split
   ·simp only [assoc,Mh hj,cond_false]
    exact ih hr
   ·exact ih hr
theorem AcQ {lk:List Nat} {objs:Bh} {k g:Nat} (h:Abk lk objs k=some g):k∈lk∧∃ o,objs k=some o∧o.gen=g∧(1000≤k∨o.gen=0):=by
 unfold Abk at h
 cases he:elem k lk with
 | false=>simp [he] at h
 | true =>
  simp only [he,cond_true] at h
  refine ⟨(Tg k lk).1 he,?_⟩
  split at h
  ·rename_i o ho
   cases hb:(Nat.ble 1000 k||Nat.beq o.gen 0) with
   | false=>simp [hb] at h
   | true =>
    simp [hb] at h
    refine ⟨o,ho,h,?_⟩
    rcases (Bool.or_eq_true _ _).mp hb with h1|h1
    ·exact .inl (Nat.le_of_ble_eq_true h1)
    ·exact .inr (Nat.eq_of_beq_eq_true h1)
  ·simp at h
theorem Ahj {β:Bu} {objs objs':Bh} {S S':Nat→Prop} {w:World} {cur:Nat→Option Nat} (hS:∀ b,S b→S' b)
  (hm:∀ k g,cur k=some g→∃ o o',objs k=some o∧o.gen=g∧objs' k=some o'∧o'.gen=0∧o.body.same o'.body) :
  ∀ (d:Nat) (v:Value) (x:MV),RelV β objs S w v x→RelV β objs' S' w v (fixN cur d x):=by
 have known:∀ (k g:Nat) (F:Loc→Body→Prop),(∀ l b c,F l b→b.same c→F l c)→cur k=some g→Known β objs k g F→Known β objs' k 0 F:=by
  intro k g F hF hc hk
  obtain ⟨o,ho,hle,hf⟩:=hk
  obtain ⟨o1,o',h1,h2,h3,h4,h5⟩:=hm k g hc
  rw [ho] at h1
  injection h1 with h1
  subst h1
  exact ⟨o',h3,by omega,fun _=>hF _ _ _ (hf h2) h5⟩
 have one:∀ (v:Value) (x:MV),RelV β objs S w v x→RelV β objs' S' w v (fix1 cur x):=by
  intro v x h
  cases h with
  | p _ _ h=>exact .p _ _ (h.mono hS (fun _ _=>rfl))
  | own k g off len base c h =>
   simp only [fix1]
   split
   ·rename_i g0 hc
    cases hb:Nat.beq g0 g with
    | false=>exact .any _
    | true =>
     have:=Nat.eq_of_beq_eq_true hb
     subst this
     exact .own _ _ _ _ _ _ (known k g0 _ (fun _ _ _ h hs=>OwnAt.same h hs) hc h)
   ·exact .any _
  | ref k g off b h =>
   simp only [fix1]
   split
   ·rename_i g0 hc
    cases hb:Nat.beq g0 g with
    | false=>exact .any _
    | true =>
     have:=Nat.eq_of_beq_eq_true hb
     subst this
     exact .ref _ _ _ _ (known k g0 _ (fun _ _ _ h _=>h) hc h)
   ·exact .any _
  | eref k g i off b oo h =>
   simp only [fix1]
   split
   ·rename_i g0 hc
    cases hb:Nat.beq g0 g with
    | false=>exact .any _
    | true =>
     have:=Nat.eq_of_beq_eq_true hb
     subst this
     exact .eref _ _ _ _ _ _ (known k g0 _ (fun _ _ _ h hs=>ERefAt.same h hs) hc h)
   ·exact .any _
  | fptr cs b o hs c hc h1 hr=>exact .fptr _ _ _ (hS _ hs) c hc h1 (fun j x hx=>(hr j x hx).mono hS (fun _ _=>rfl))
  | mref k g b h =>
   simp only [fix1]
   split
   ·rename_i g0 hc
    cases hb:Nat.beq g0 g with
    | false=>exact .any _
    | true =>
     have:=Nat.eq_of_beq_eq_true hb
     subst this
     exact .mref _ _ _ (known k g0 _ (fun _ _ _ h _=>h) hc h)
   ·exact .any _
  | und=>exact .und
  | _=>exact .any _
 intro d
 induction d with
 | zero=>exact one
 | succ d ih =>
  intro v x h
  cases h with
  | agg cs vs hl hr h1 =>
   refine .agg _ _ (by simpa using hl) (fun i y hy => ?_) (fun i y hy => ?_)
   ·rw [List.getElem?_map] at hy
    cases hq:cs[i]? with
    | none=>simp [hq] at hy
    | some q=>simp [hq] at hy; subst hy; exact ih _ _ (hr i q hq)
   ·rw [List.getElem?_map] at hy
    cases hq:cs[i]? with
    | none=>simp [hq] at hy
    | some q=>exact h1 i q hq
  | tup cs vs hl hr =>
   refine .tup _ _ (by simpa using hl) (fun i y hy => ?_)
   rw [List.getElem?_map] at hy
   cases hq:cs[i]? with
   | none=>simp [hq] at hy
   | some q=>simp [hq] at hy; subst hy; exact ih _ _ (hr i q hq)
  | fn f cs vs hl hr =>
   refine .fn _ _ _ (by simpa using hl) (fun i y hy => ?_)
   rw [List.getElem?_map] at hy
   cases hq:cs[i]? with
   | none=>simp [hq] at hy
   | some q=>simp [hq] at hy; subst hy; exact ih _ _ (hr i q hq)
  | p _ _ h=>exact one _ _ (.p _ _ h)
  | own i g off len base c h=>exact one _ _ (.own _ _ _ _ _ _ h)
  | ref i g off b h=>exact one _ _ (.ref _ _ _ _ h)
  | eref i g ix off b oo h=>exact one _ _ (.eref _ _ _ _ _ _ h)
  | fptr cs b o hs c hc h1 hr=>exact one _ _ (.fptr _ _ _ hs c hc h1 hr)
  | mref i g b h=>exact one _ _ (.mref _ _ _ h)
  | und=>exact one _ _ .und
  | any v=>exact one _ _ (.any v)
theorem pickS_get {cur:Nat→Option Nat} {slots:Nat→MV} {ls:List Nat} {t:Nat} : assoc (pickS cur slots ls) t=some (fixN cur 2 (slots t))∨assoc (pickS cur slots ls) t=none:=by
 induction ls with
 | nil=>exact .inr rfl
 | cons j r ih =>
  simp only [pickS,assoc]
  cases hb:Nat.beq t j with
  | true=>rw [Nat.eq_of_beq_eq_true hb]; exact .inl rfl
  | false=>exact ih
section
variable {P : Program} {T:Ty} {cx:Cx} {β:Bu} {σ:St} {a:Act} {w:World}
theorem Rel.norm (h:Rel cx β σ a w) (ls lk:List Nat):Rel cx β (Af (Sg ls lk σ) (Pu lk σ)) a w:=by
 have hob:∀ k o',assoc (Pu lk σ) k=some o'→∃ o,σ.objs k=some o∧Abk lk σ.objs k=some o.gen∧o'=⟨0,fixB (Abk lk σ.objs) o.body⟩:=by
  intro k o' ho
  obtain ⟨g,o,h1,h2,h3⟩:=normO_mem (Yv ho)
  obtain ⟨_,o1,q1,q2,_⟩:=AcQ h1
  rw [h2] at q1
  injection q1 with q1
  subst q1
  exact ⟨o,h2,by rw [h1,q2],h3⟩
 have hS:∀ b,As cx.Av β σ.objs w b→As cx.Av β (assoc (Pu lk σ)) w b:=by
  intro b hb
  refine ⟨hb.1,hb.2.1,fun k o' ho hl => ?_⟩
  obtain ⟨o,h1,h2,rfl⟩:=hob k o' ho
  exact hb.2.2 k o h1 ((Abs _ _).1 hl)
 have hm:∀ k g,Abk lk σ.objs k=some g→∃ o o',σ.objs k=some o∧o.gen=g∧assoc (Pu lk σ) k=some o'∧o'.gen=0∧o.body.same o'.body:=by
  intro k g hc
  obtain ⟨hk,o,h1,h2,_⟩:=AcQ hc
  exact ⟨o,_,h1,h2,normO_has hk hc h1,rfl,fixB_same _ _⟩
 refine ⟨h.nd,h.sz,fun t => ?_,fun k o' ho => ?_,fun k o' b ho hl hb => ?_,fun k k' o o' b ho ho' hl hl' hne hb => ?_,h.kept,h.avo,h.avlt,h.mle,fun k o' hk ho hg => ?_⟩
 ·simp only [Af,Sg]
  rcases pickS_get (cur:=Abk lk σ.objs) (slots:=σ.slots) (ls:=ls) (t:=t) with e|e
  ·rw [e]; exact Ahj hS hm 2 _ _ (h.sl t)
  ·rw [e]; exact .any _
 ·obtain ⟨o,h1,h2,rfl⟩:=hob k o' ho
  have:=h.ob k o h1
  cases hbd:o.body with
  | dead=>trivial
  | mq q=>rw [hbd] at this; exact QRel.mono hS (fun _ _=>rfl) (fun _ _=>rfl) this
  | row W n f =>
   rw [hbd] at this
   rcases this with q|⟨b,oo,cap,cur,e,rfl',q1,q2,q3,q4⟩
   ·exact .inl q
   ·exact .inr ⟨b,oo,cap,cur,e,rfl',q1,q2,q3,fun i hi=>⟨(q4 i hi).1,(q4 i hi).2.mono hS (fun _ _=>rfl)⟩⟩
  | mp z has f =>
   rw [hbd] at this
   obtain ⟨b,es,clock,q0,q1,q2,q3,q4⟩:=this
   exact ⟨b,es,clock,q0,q1,q2,q3,fun i e n he hn=>(q4 i e n he hn).mono hS (fun _ _=>rfl)⟩
  | box cs =>
   rw [hbd] at this
   obtain ⟨b,cur,e,q0,q1,q2,q3⟩:=this
   refine ⟨b,cur,e,q0,q1,by simpa [fixB] using q2,fun j x hx => ?_⟩
   rw [List.getElem?_map] at hx
   cases hq:cs[j]? with
   | none=>simp [hq] at hx
   | some q =>
    simp [hq] at hx
    subst hx
    obtain ⟨u,u1,u2,u3⟩:=q3 j q hq
    exact ⟨u,u1,u2,Ahj hS hm 1 _ _ u3⟩
 ·obtain ⟨o,h1,h2,rfl⟩:=hob k o' ho
  exact h.blk k o b h1 ((Abs _ _).1 hl) hb
 ·obtain ⟨q,h1,h2,rfl⟩:=hob k o ho
  obtain ⟨r,g1,g2,rfl⟩:=hob k' o' ho'
  exact h.inj k k' q r b h1 g1 ((Abs _ _).1 hl) ((Abs _ _).1 hl') hne hb
 ·obtain ⟨o,h1,h2,rfl⟩:=hob k o' ho
  obtain ⟨_,o1,q1,q2,q3⟩:=AcQ h2
  rw [h1] at q1
  injection q1 with q1
  subst q1
  refine h.oloc k o hk h1 ?_
  rcases q3 with q3|q3
  ·have:=h.mle; omega
  ·exact q3
def DWP (P:Program) (cx:Cx) (c:Code) (σ:St) (Q:Exit→St→Prop):Prop :=
 ∀ β a w,Rel cx β σ a w→c.wpIn (fen cx.rd) 0 P (fun e a' w'=>∃ β' σ',Q e σ'∧Rel cx β' σ' a' w') a w
variable {Q : Exit→St→Prop}
def thenQ (P:Program) (cx:Cx) (c:Code) (Q:Exit→St→Prop):Exit→St→Prop
 | .normal,σ=>DWP P cx c σ Q
 | e,σ=>Q e σ
theorem DWP.seq {x y:Code} (h:DWP P cx x σ (thenQ P cx y Q)):DWP P cx (.seq x y) σ Q:=by
 intro β a w hr
 refine wpIn_seq (wpIn_mono (h β a w hr) ?_)
 rintro e a' w' ⟨β',σ',q,r⟩
 cases e with
 | normal=>exact q β' a' w' r
 | _=>exact ⟨β',σ',q,r⟩
theorem DWP.skip (h:Q .normal σ):DWP P cx .skip σ Q:=fun β a w hr=>wpIn_skip ⟨β,σ,h,hr⟩
theorem DWP.ret (h:Q .ret σ):DWP P cx .ret σ Q:=fun β a w hr=>wpIn_ret ⟨β,σ,h,hr⟩
theorem DWP.exit {id:Nat} (h:Q (.exit id) σ):DWP P cx (.exit id) σ Q:=fun β a w hr=>wpIn_exit ⟨β,σ,h,hr⟩
theorem DWP.cond {c:Operand} {x y:Code} {b:Bool} (hk:Be c=true) (hc:ev σ c = .p (.v (.bool b))) (h1:b=true→DWP P cx x σ Q) (h2:b=false→DWP P cx y σ Q) :
  DWP P cx (.cond c x y) σ Q:=by
 intro β a w hr
 have:=Br hr c hk
 rw [hc] at this
 exact wpIn_cond_split this.inv_v.1 (fun e=>h1 e β a w hr) (fun e=>h2 e β a w hr)
def Up (id:Nat) (Q:Exit→St→Prop):Exit→St→Prop
 | .exit id',σ=>if id'=id then Q .normal σ else Q (.exit id') σ
 | e,σ=>Q e σ
theorem DWP.block {id:Nat} {c:Code} (h:DWP P cx c σ (Up id Q)):DWP P cx (.block id c) σ Q:=by
 intro β a w hr
 refine wpIn_block (wpIn_mono (h β a w hr) ?_)
 rintro e a' w' ⟨β',σ',q,r⟩
 cases e with
 | exit id' =>
  simp only [Up] at q
  simp only [Exit.inBlock]
  split
  ·rename_i e; rw [if_pos e] at q; exact ⟨β',σ',q,r⟩
  ·rename_i e; rw [if_neg e] at q; exact ⟨β',σ',q,r⟩
 | _=>exact ⟨β',σ',q,r⟩
theorem Ux {rd:Option Nat} {ι:Type} {R:Exit→Act→World→Prop} {c:Code} (I:ι→Act→World→Prop) (μ:ι→Nat) (i:ι) (h₀ : I i a w)
  (round:∀ i a w,I i a w→c.wpIn (fen rd) 0 P (Exit.then (fun a' w'=>∃ j,I j a' w'∧μ j<μ i) R) a w):(Code.loop c).wpIn (fen rd) 0 P R a w:=by
 intro b k cs hro hb hr
 have key:∀ n i a w,μ i=n→I i a w →
   ∃ e a' w',R e a' w'∧ArrivesIn (Machine.fenced P (fen rd)) P (lone (b.atR a (.code c :: .inLoop c::k)) cs w) b k cs e a' w':=by
  intro n
  induction n using Nat.strongRecOn with
  | _ n ih =>
   intro i a w hn hI
   obtain ⟨e,a₁,w₁,hq,harr⟩:=round i a w hI b (.inLoop c::k) cs hro hb hr
   cases e with
   | normal =>
    obtain ⟨j,hI₁,hlt⟩:=hq
    obtain ⟨e₂,a₂,w₂,hq₂,harr₂⟩:=ih (μ j) (hn▸hlt) j a₁ w₁ rfl hI₁
    exact ⟨e₂,a₂,w₂,hq₂,.of_steps (StepsIn.trans harr (.one (fenced_calm hb hr rfl) stepR_inLoop)) harr₂⟩
   | exit id=>exact ⟨_,a₁,w₁,hq,.pass (x := .inLoop c) rfl (fun _ _ => .inl (by simp)) harr⟩
   | goto l=>exact ⟨_,a₁,w₁,hq,.pass (x := .inLoop c) rfl (fun _ _ => .inl (by simp)) harr⟩
   | ret=>exact ⟨_,a₁,w₁,hq,.pass (x := .inLoop c) rfl (fun _ _ => .inl (by simp)) harr⟩
   | panic ch=>exact ⟨_,a₁,w₁,hq,.pass (x := .inLoop c) rfl (fun _ _ => .inl (by simp)) harr⟩
   | outgrown=>exact ⟨_,a₁,w₁,hq,.pass (x := .inLoop c) rfl (fun _ _ => .inl (by simp)) harr⟩
 obtain ⟨e,a',w',hq,harr⟩:=key _ i a w rfl h₀
 exact ⟨e,a',w',hq,.of_steps (.one (fenced_calm hb hr rfl) stepR_loop) harr⟩
def dreg (P:Program) (T:Ty) (nt:Nat) (ops:Array Oper) (xs:List Orc) (ls lk:List Nat) (draw:Bool) (σ:St):Option (List (Nat×MV)×List (Nat×Obj)×List Prop) :=
 match drun P T nt (ops.toList.map (·.dst)) ops.toList xs σ with
 | some (recs,obl,σ') =>
  bif !draw||(indep [] recs (masks (ops.toList.map Nf) [])&&backs (ops.toList.map Nf) 0) then some (Sg ls lk σ',Pu lk σ',obl) else none
 | none=>none
theorem DWP.region (hT:Kk P T) (hm:P.follows .mixedOrders=true) {ops:Array Oper} {id:Nat} {draw:Bool} {xs:List Orc} {ls lk:List Nat} {sl:List (Nat×MV)} {ob:List (Nat×Obj)} {obl:List Prop}
  (h:dreg P T cx.nt ops xs ls lk draw σ=some (sl,ob,obl)) (ho:All obl) (hQ:Q .normal (Af sl ob)):DWP P cx (.region id ops draw) σ Q:=by
 unfold dreg at h
 split at h
 case h_2=>simp at h
 rename_i recs obl' σ' hd
 cases hb:(!draw||(indep [] recs (masks (ops.toList.map Nf) [])&&backs (ops.toList.map Nf) 0)) with
 | false=>simp [hb] at h
 | true =>
 simp only [hb,cond_true,Option.some.injEq,Prod.mk.injEq] at h
 obtain ⟨rfl,rfl,rfl⟩:=h
 intro β a w hr
 have hfin:∀ β a w,Rel cx β σ' a w→∃ β' σ'',Q .normal σ''∧Rel cx β' σ'' a w:=fun β a w hr=>⟨β,_,hQ,hr.norm ls lk⟩
 cases draw with
 | false=>exact AiS hT hd ho rfl hr hfin
 | true =>
  simp only [Bool.not_true,Bool.false_or,Bool.and_eq_true] at hb
  exact AiU hT hm hd ho hb.1 hb.2 rfl hr hfin
end
end Go.Dm

/- The data machine: worlds where blocks that nobody reads have turned; marks on the way out. -/
namespace Go.Dm
structure Same (S:Nat→Prop) (w w':World):Prop where
 cell:∀ b o v,S b→w.cell? (at_ b o)=some v→w'.cell? (at_ b o)=some v
 map:∀ b es c,S b→w.heap[b]? = some (.map es c)→w'.heap[b]? = some (.map es c)
theorem Rep.move {S S':Nat→Prop} {w w':World} (hS:∀ b,S b→S' b) (hw:Same S w w') {v:Value} {x:PV} (h:Rep S w v x):Rep S' w' v x:=by
 induction h with
 | v x h=>exact .v x h
 | slnil fl W f h=>exact .slnil fl W f h
 | sl fl W n cap b o f c hfl hcap hs hlen hc h1 hr ih =>
  exact .sl fl W n cap b o f c hfl hcap (fun hn=>hS _ (hs hn)) hlen (fun i j hi hj=>hw.cell _ _ _ (hs (by omega)) (hc i j hi hj)) h1 ih
 | fn f caps vs hl hr ih=>exact .fn f caps vs hl ih
 | agg cs vs hl hr h1 ih=>exact .agg cs vs hl ih h1
 | tup cs vs hl hr ih=>exact .tup cs vs hl ih
 | mp z has f b clock es hs hh hk hz hr ih=>exact .mp z has f b clock es (hS _ hs) (hw.map _ _ _ hs hh) hk hz ih
theorem RelV.move {β:Bu} {objs:Bh} {S S':Nat→Prop} {w w':World} (hS:∀ b,S b→S' b) (hw:Same S w w') {v:Value} {x:MV} (h:RelV β objs S w v x):RelV β objs S' w' v x:=by
 induction h with
 | p v x h=>exact .p v x (h.move hS hw)
 | own k g off len base c h=>exact .own k g off len base c h
 | ref k g off b h=>exact .ref k g off b h
 | eref k g i off b oo h=>exact .eref k g i off b oo h
 | fptr cs b o hs c hc h1 hr=>exact .fptr cs b o (hS _ hs) c (fun j hj=>hw.cell _ _ _ hs (hc j hj)) h1 (fun j x hx=>(hr j x hx).move hS hw)
 | agg cs vs hl hr h1 ih=>exact .agg cs vs hl ih h1
 | tup cs vs hl hr ih=>exact .tup cs vs hl ih
 | fn f caps vs hl hr ih=>exact .fn f caps vs hl ih
 | mref k g b h=>exact .mref k g b h
 | und=>exact .und
 | any v=>exact .any v
theorem ObjRel.move {β:Bu} {objs:Bh} {S S':Nat→Prop} {w w':World} (hS:∀ b,S b→S' b) (hw:Same S w w') {l:Loc} {bd:Body} (hl:bd.live)
  (hb:∀ b,l.block=some b→w'.heap[b]? = w.heap[b]?) (h:ObjRel β objs S w l bd):ObjRel β objs S' w' l bd:=by
 cases bd with
 | box cs =>
  obtain ⟨b,cur,e,rfl,h1,h2,h3⟩:=h
  refine ⟨b,cur,e,rfl,by rw [hb b rfl,h1],h2,fun j x hx => ?_⟩
  obtain ⟨u,g1,g2,g3⟩:=h3 j x hx
  exact ⟨u,g1,g2,g3.move hS hw⟩
 | row W n f =>
  rcases h with h|⟨b,o,cap,cur,e,rfl,h1,h2,h3,h4⟩
  ·exact .inl h
  ·refine .inr ⟨b,o,cap,cur,e,rfl,by rw [hb b rfl,h1],h2,h3,fun i hi=>⟨(h4 i hi).1,fun j x hx => ?_⟩⟩
   obtain ⟨u,g1,g2,g3⟩:=(h4 i hi).2 j x hx
   exact ⟨u,g1,g2,g3.move hS hw⟩
 | mp z has f =>
  obtain ⟨b,es,clock,rfl,h1,h2,h3,h4⟩:=h
  exact ⟨b,es,clock,rfl,by rw [hb b rfl,h1],h2,h3,fun i e n he hn=>(h4 i e n he hn).move hS hw⟩
 | mq q =>
  cases q with
  | clk z has f born clock =>
   obtain ⟨b,es,rfl,h1,h2,h3,h4,h5⟩:=h
   exact ⟨b,es,rfl,by rw [hb b rfl,h1],h2,h3,fun i e n he hn=>(h4 i e n he hn).move hS hw,h5⟩
  | it f rem cur =>
   obtain ⟨b,bm,es,clock,since,seen,c0,has,rfl,h1,h2,h3,h4,h5,h6,h7,h8,h9⟩:=h
   exact ⟨b,bm,es,clock,since,seen,c0,has,rfl,by rw [hb b rfl,h1],hS _ h2,hw.map _ _ _ h2 h3,h4,h5,h6,fun i e n he hn=>(h7 i e n he hn).move hS hw,h8,h9⟩
 | dead=>trivial
structure Shut (n0:Nat) (w w':World):Prop where
 os:w'.os=w.os
 tape:w'.tape=w.tape
 output:w'.output=w.output
 size:w'.heap.size=w.heap.size
 block:∀ b,(b<n0∨w.heap[b]? ≠ some (.deferred (some [])))→w'.heap[b]? = w.heap[b]?
theorem Shut.refl (n0:Nat) (w:World):Shut n0 w w:=⟨rfl,rfl,rfl,rfl,fun _ _=>rfl⟩
theorem Shut.trans {n0:Nat} {a b c:World} (h:Shut n0 a b) (k:Shut n0 b c):Shut n0 a c :=
 ⟨k.os.trans h.os,k.tape.trans h.tape,k.output.trans h.output,k.size.trans h.size,fun i hi=>by
  have e:=h.block i hi
  rw [k.block i (by rcases hi with hi|hi; exact .inl hi; exact .inr (by rw [e]; exact hi)),e]⟩
theorem Shut.put {n0:Nat} {w:World} {D:Nat} (h0:n0≤D) (h1:w.heap[D]? = some (.deferred (some []))) (o:Go.Obj):Shut n0 w (w.putObj D o):=by
 refine ⟨rfl,rfl,rfl,by simp [World.putObj],fun b hb => ?_⟩
 by_cases h:b=D
 ·subst h
  rcases hb with hb|hb
  ·omega
  ·exact absurd h1 hb
 ·exact World.putObj_heap_other h
theorem Rel.shut {cx:Cx} {β:Bu} {σ:St} {a:Act} {w w':World} (h:Rel cx β σ a w) (hs:Shut cx.w0.heap.size w w'):Rel cx β σ { a with defers := [] } w':=by
 have hS:∀ b,As cx.Av β σ.objs w b→As cx.Av β σ.objs w' b:=fun b hb=>⟨by rw [hs.size]; exact hb.1,hb.2.1,hb.2.2⟩
 have hsame:Same (As cx.Av β σ.objs w) w w':=by
  refine ⟨fun b o v _ hc => ?_,fun b es c _ hm => ?_⟩
  ·rw [World.cell?_of_block (hs.block b (.inr fun e=>by simp [World.cell?,at_,e] at hc))]
   exact hc
  ·rw [hs.block b (.inr fun e=>by rw [e] at hm; simp at hm)]
   exact hm
 have hlive:∀ k o b,σ.objs k=some o→o.body.live→(β k).block=some b→w'.heap[b]? = w.heap[b]? := by
  intro k o b ho hl hb
  by_cases h0:b<cx.w0.heap.size
  ·exact hs.block b (.inl h0)
  ·refine hs.block b (.inr fun e => ?_)
   have:=h.mark_safe (Nat.le_of_not_lt h0) e (fun _ _ _ e=>by simp at e) (fun _ _ e=>by simp at e) (fun _ _ _ _ e=>by simp at e)
   exact this.2.2 k o ho hl hb
 refine ⟨Marked.nil,h.sz,fun t=>(h.sl t).move hS hsame,fun k o ho => ?_,fun k o b ho hl hb => ?_,h.inj,?_,h.avo,h.avlt,h.mle,h.oloc⟩
 ·by_cases hl:o.body.live
  ·exact (h.ob k o ho).move hS hsame hl fun b hb=>hlive k o b ho hl hb
  ·cases hbd:o.body with
   | dead=>trivial
   | box cs=>simp [hbd,Body.live] at hl
   | row W n f=>simp [hbd,Body.live] at hl
   | mp z has f=>simp [hbd,Body.live] at hl
   | mq q=>simp [hbd,Body.live] at hl
 ·have:=h.blk k o b ho hl hb
  exact ⟨by rw [hs.size]; exact this.1,this.2⟩
 ·have hk:=h.kept
  refine ⟨hs.os.trans hk.os,hs.tape.trans hk.tape,hs.output.trans hk.output,by rw [hs.size]; exact hk.size,fun b hb hno => ?_⟩
  rw [hs.block b (.inl hb)]
  exact hk.block b hb hno
theorem Ahw {F:Fence} {n:Nat} {P:Program} {fn:Func} {tmps:Array Value} {R:Ending→World→Prop} {w0:World} : ∀ (ds:List Deferred) (w:World),Marked w0 ds w →
  (∀ w',Shut w0.heap.size w w'→∃ v,(results fn tmps).run P w' = .ok v w'∧R (.returned v) w')→LeavesInM F n P fn tmps R ds .returning w:=by
 intro ds
 induction ds with
 | nil=>intro w _ h; exact h w (Shut.refl _ _)
 | cons d ds ih =>
  intro w hm h
  obtain ⟨D,hd,h0,h1⟩:=hm.mark d (by simp)
  have hnd:=hm.nodup
  rw [List.nodup_cons] at hnd
  refine ⟨by simp,.inl ⟨D,w.putObj D (.deferred none),by rw [hd],run_takeDeferred h1,ih _ ⟨hnd.2,fun d' hd' => ?_⟩ fun w' hw'=>h w' ((Shut.put h0 h1 _).trans hw')⟩⟩
  obtain ⟨D',e',g0,g1⟩:=hm.mark d' (by simp [hd'])
  refine ⟨D',e',g0,?_⟩
  have hne:D≠D':=fun e=>hnd.1 (by rw [hd,e,← e']; exact hd')
  rw [World.putObj_heap_other (Ne.symm hne)]
  exact g1
theorem fen_wpIn {r:Option Nat} {n m:Nat} {P:Program} {c:Code} {Q:Exit→Act→World→Prop} {a:Act} {w:World} (h:c.wpIn (fen r) n P Q a w):c.wpIn (fen r) m P Q a w :=
 fun b k cs hro hb _=>h b k cs hro hb (Aic r _)
end Go.Dm

/- The data machine, part 15: from a body to a contract; weaker readings. -/
namespace Go.Dm
def toR (ob:Bh) (ks:List Nat):MV→Option MV
 | .tup cs=>match mapO (toC ob ks) cs with
  | some ds=>match pures ds with
   | some ps=>some (.p (.tup ps))
   | none=>some (.tup ds)
  | none=>none
 | x=>toC ob ks x
def rv (T:Ty) (σ:St):ResultVar→Option MV
 | .tmp t=>some (σ.slots t)
 | .cell t ty=>match Aap T ty σ.objs (σ.slots t) with
  | some (y,_,[])=>some y
  | _=>none
def rvs (T:Ty) (σ:St):List ResultVar→Option (List MV)
 | []=>some []
 | r::rs=>match rv T σ r,rvs T σ rs with
  | some y,some ys=>some (y::ys)
  | _,_=>none
def one : List MV→MV
 | [x]=>x
 | l => .tup l
def upN : Nat→Nat→List Nat
 | 0,_ => []
 | n+1,i=>i::upN n (i+1)
def Qx : Nat→List (Nat×Body)→Bool
 | 0,_=>true
 | _+1,[]=>false
 | n+1,(g,.dead)::r=>Qx n r
 | n+1,(g,_)::r=>Nat.beq g 0&&Qx n r
def Abr (m:Nat) (ob:Bh):Bh:=fun k=>match ob k with
 | some o=>some o
 | none=>bif Nat.blt k m then some ⟨1,.dead⟩ else none
def fin0 (T:Ty) (results:List ResultVar) (m:Nat) (ex:List Nat) (σ:St):Option (MV×List Body) :=
 match rvs T σ results with
 | some ys=>match toR σ.objs (upN m 0++ex) (one ys),Uk σ.objs (upN m 0++ex) with
  | some res,some os=>bif Qx m os&&Aaw (upN m 0++ex)&&ex.all (fun k=>Nat.ble 1000 k)&&Nat.ble m 1000 then some (res,os.map (·.2)) else none
  | _,_=>none
 | none=>none
def fin (T:Ty) (results:List ResultVar) (m:Nat) (ex:List Nat) (σ:St):Option (MV×List Body):=fin0 T results m ex ⟨σ.slots,Abr m σ.objs⟩
def finQ (T:Ty) (results:List ResultVar) (m:Nat) (res:MV) (bs:List Body):Exit→St→Prop
 | .ret,σ=>∃ ex,fin T results m ex σ=some (res,bs)
 | .normal,σ=>∃ ex,fin T results m ex σ=some (res,bs)
 | _,_=>False
theorem upN_get (n:Nat):∀ (s i:Nat),i<n→(upN n s)[i]? = some (s+i):=by
 induction n with
 | zero=>intro s i h; omega
 | succ n ih =>
  intro s i h
  cases i with
  | zero=>simp [upN]
  | succ i =>
   simp only [upN,List.getElem?_cons_succ]
   rw [ih (s+1) i (by omega)]
   congr 1
   omega
theorem Xd (n:Nat):∀ s,(upN n s).length=n:=by
 induction n with
 | zero=>intro s; rfl
 | succ n ih=>intro s; simp [upN,ih]
theorem Aik : ∀ (n:Nat) (l:List (Nat×Body)),Qx n l=true→∀ i g b,i<n→l[i]? = some (g,b)→b.live→g=0:=by
 intro n
 induction n with
 | zero=>intro l _ i g b h; omega
 | succ n ih =>
  intro l h i g b hi hl hv
  cases l with
  | nil=>simp [Qx] at h
  | cons p r =>
   obtain ⟨g',b'⟩:=p
   cases i with
   | zero =>
    simp at hl
    obtain ⟨rfl,rfl⟩:=hl
    cases b' with
    | dead=>exact hv.elim
    | _=>simp only [Qx,Bool.and_eq_true] at h; exact Nat.eq_of_beq_eq_true h.1
   | succ i =>
    have h2:Qx n r=true:=by
     cases b' with
     | dead=>exact h
     | _=>simp only [Qx,Bool.and_eq_true] at h; exact h.2
    exact ih r h2 i g b (by omega) (by simpa using hl) hv
def Aet (tmps:Array Value):ResultVar→Sem Value
 | .tmp t=>pure (tmps.getD t undef)
 | .cell q t=>do loadVar t (← asAddr (tmps.getD q undef))
theorem Ajr (fn:Func) (tmps:Array Value):results fn tmps=(do
  let vs ← fn.results.mapM (Aet tmps)
  pure (if h:vs.size=1 then vs[0] else .tuple vs)):=by
 unfold results
 have:(Aet tmps)=(fun
  | .tmp t=>pure (tmps.getD t undef)
  | .cell a t=>do loadVar t (← asAddr (tmps.getD a undef))):=by
  funext r
  cases r <;> rfl
 rw [this]
 rfl
section
variable {P : Program} {T:Ty}
theorem run_rv (hT:Kk P T) {cx:Cx} {β:Bu} {σ:St} {a:Act} {w:World} (h:Rel cx β σ a w) {r:ResultVar} {y:MV} (hr:rv T σ r=some y) :
  ∃ v,(Aet a.tmps r).run P w = .ok v w∧RelV β σ.objs (As cx.Av β σ.objs w) w v y:=by
 cases r with
 | tmp t =>
  simp [rv] at hr
  subst hr
  exact ⟨_,rfl,h.sl t⟩
 | cell q t =>
  simp only [rv] at hr
  split at hr
  ·rename_i y' wo he
   simp at hr
   subst hr
   obtain ⟨v,h1,h2,_⟩:=Agh (P:=P) (ob:=σ.objs) (ox := .tmp q) hT.ok h rfl (fun _ _ h=>h) he trivial
   have hptr:∃ p,a.tmps.getD q undef = .pointer (some p):=by
    have hs:=h.sl q
    unfold Aap at he
    split at he
    ·simp at he
    ·split at he
     ·rename_i k g off hp
      have hp':σ.slots q = .ref k g off:=hp
      rw [hp'] at hs
      obtain ⟨b,hv,_⟩:=hs.inv_ref
      exact ⟨_,hv⟩
     ·rename_i k g ix off hp
      have hp':σ.slots q = .eref k g ix off:=hp
      rw [hp'] at hs
      obtain ⟨b,oo,hv,_⟩:=hs.inv_eref
      exact ⟨_,hv⟩
     ·rename_i cs hp
      have hp':σ.slots q = .fptr cs:=hp
      rw [hp'] at hs
      obtain ⟨b,o,c,hv,_⟩:=hs.inv_fptr
      exact ⟨_,hv⟩
     ·simp at he
   obtain ⟨p,hp⟩:=hptr
   refine ⟨v,?_,h2⟩
   have h1':(Instr.loadAt t (a.tmps.getD q undef)).run P w = .ok v w:=h1
   simp only [Aet]
   rw [hp] at h1' ⊢
   simpa [Instr.loadAt,Instr.sureAddr,asAddr] using h1'
  ·simp at hr
theorem run_rvs (hT:Kk P T) {cx:Cx} {β:Bu} {σ:St} {a:Act} {w:World} (h:Rel cx β σ a w):∀ (rs:List ResultVar) (ys:List MV),rvs T σ rs=some ys →
  ∃ vs:List Value,(rs.mapM (m:=Sem) (Aet a.tmps)).run P w = .ok vs w∧vs.length=ys.length ∧
   ∀ (i:Nat) v y,vs[i]? = some v→ys[i]? = some y→RelV β σ.objs (As cx.Av β σ.objs w) w v y:=by
 intro rs
 induction rs with
 | nil=>intro ys hr; simp [rvs] at hr; subst hr; exact ⟨[],by simp,rfl,fun i v y h=>by simp at h⟩
 | cons r rs ih =>
  intro ys hr
  simp only [rvs] at hr
  split at hr
  ·rename_i y ys' h1 h2
   simp at hr
   subst hr
   obtain ⟨v,hv,hrel⟩:=run_rv hT h h1
   obtain ⟨vs,hvs,hl,hrels⟩:=ih ys' h2
   refine ⟨v::vs,?_,by simp [hl],fun i u z hu hz => ?_⟩
   ·rw [List.mapM_cons,Sem.run_bind,hv]
    simp [hvs]
   ·cases i with
    | zero=>simp at hu hz; subst hu; subst hz; exact hrel
    | succ i=>exact hrels i u z (by simpa using hu) (by simpa using hz)
  ·simp at hr
theorem AiJ (hT:Kk P T) {cx:Cx} {β:Bu} {σ:St} {a:Act} {w:World} (h:Rel cx β σ a w) {fn:Func} {ys:List MV} (hr:rvs T σ fn.results.toList=some ys) :
  ∃ v,(results fn a.tmps).run P w = .ok v w∧RelV β σ.objs (As cx.Av β σ.objs w) w v (Dm.one ys):=by
 obtain ⟨vs,h1,h2,h3⟩:=run_rvs hT h _ _ hr
 refine ⟨if hh:vs.toArray.size=1 then vs.toArray[0] else .tuple vs.toArray,?_,?_⟩
 ·rw [Ajr,Sem.run_bind]
  have:(fn.results.mapM (m:=Sem) (Aet a.tmps)).run P w = .ok vs.toArray w:=by
   rw [Array.mapM_eq_mapM_toList]
   simp [h1]
  rw [this]
  rfl
 ·by_cases hv:vs.length=1
  ·obtain ⟨u,rfl⟩:∃ u,vs = [u]:=by
    match vs,hv with
    | [u],_=>exact ⟨u,rfl⟩
   obtain ⟨z,rfl⟩:∃ z,ys = [z]:=by
    match ys,h2 with
    | [z],_=>exact ⟨z,rfl⟩
   exact h3 0 u z rfl rfl
  ·rw [dif_neg (by simpa using hv)]
   have:Dm.one ys = .tup ys:=by
    match ys,h2,hv with
    | [],_,_=>rfl
    | [z],h2,hv=>exact absurd h2 hv
    | _::_::_,_,_=>rfl
   rw [this]
   refine .tup _ _ (by simpa using h2) (fun i y hy => ?_)
   have hlt:i<vs.length:=by rw [h2]; exact (List.getElem?_eq_some_iff.1 hy).1
   have:=h3 i vs[i] y (List.getElem?_eq_getElem hlt) hy
   simpa [Array.getD_eq_getD_getElem?,hlt] using this
theorem toR_sound {cx:Cx} {β:Bu} {σ:St} {a:Act} {w:World} (h:Rel cx β σ a w) {ks:List Nat} {os:List (Nat×Body)} (hos:Uk σ.objs ks=some os)
  {v:Value} {x y:MV} (rx:RelV β σ.objs (As cx.Av β σ.objs w) w v x) (hy:toR σ.objs ks x=some y) :
  RelV (Bq β ks) (Cb (os.map (·.2))) (As cx.Av (Bq β ks) (Cb (os.map (·.2))) w) w v y:=by
 have weak:∀ (bs:List Nat) (v:Value) (z:MV),RelV (Bq β ks) (Cb (os.map (·.2))) (As (Sb cx β σ.objs ks bs) (Bq β ks) (Cb (os.map (·.2))) w) w v z →
   RelV (Bq β ks) (Cb (os.map (·.2))) (As cx.Av (Bq β ks) (Cb (os.map (·.2))) w) w v z:=by
  intro bs v z hz
  refine hz.mono (Grows.refl _ _) (fun b hb=>⟨hb.1,fun hA=>hb.2.1 (.inl hA),hb.2.2⟩) (fun _ _=>rfl)
 have single:∀ (v:Value) (x y:MV),RelV β σ.objs (As cx.Av β σ.objs w) w v x→toC σ.objs ks x=some y →
   RelV (Bq β ks) (Cb (os.map (·.2))) (As cx.Av (Bq β ks) (Cb (os.map (·.2))) w) w v y:=fun v x y rx hy =>
  weak (bor ks x) v y (AgT h (fun _ _ h=>h) hos rx hy (fun k hk=>hk))
 unfold toR at hy
 split at hy
 ·rename_i cs
  cases rx with
  | tup _ vs hl hr =>
   split at hy
   ·rename_i ds hds
    obtain ⟨m1,m2⟩:=Vn cs ds hds
    have hall:∀ (i:Nat) z,ds[i]? = some z→RelV (Bq β ks) (Cb (os.map (·.2))) (As cx.Av (Bq β ks) (Cb (os.map (·.2))) w) w (vs.getD i undef) z:=by
     intro i z hz
     obtain ⟨q,hq,hqz⟩:=m2 i z hz
     exact single _ _ _ (hr i q hq) hqz
    split at hy
    ·rename_i ps hps
     simp at hy; subst hy
     have hds':=Lj hps
     refine .p _ _ (.tup _ _ (by rw [hl,← m1,hds']; simp) (fun i q hq => ?_))
     exact (hall i (.p q) (by rw [hds',List.getElem?_map,hq]; rfl)).inv_p
    ·simp at hy; subst hy
     exact .tup _ _ (by rw [hl,m1]) hall
   ·simp at hy
 ·exact single _ _ _ rx hy
theorem toR_body {cx:Cx} {β:Bu} {σ:St} {a:Act} {w:World} (h:Rel cx β σ a w) {ks:List Nat} {os:List (Nat×Body)} {bs:List Body} (hos:Uk σ.objs ks=some os) (hbs:os.map (·.2)=bs)
  (hS:∀ b,As cx.Av β σ.objs w b→As cx.Av (Bq β ks) (Cb bs) w b)
  {l:Loc} {b c:Body} (hr:ObjRel β σ.objs (As cx.Av β σ.objs w) w l b) (hb:toB σ.objs ks b=some c):ObjRel (Bq β ks) (Cb bs) (As cx.Av (Bq β ks) (Cb bs) w) w l c:=by
 subst hbs
 cases b with
 | box cs =>
  simp only [toB] at hb
  split at hb <;> simp at hb
  rename_i ds hds
  subst hb
  obtain ⟨m1,m2⟩:=Vn cs ds hds
  obtain ⟨bl,cur,e,rfl,h1,h2,h3⟩:=hr
  refine ⟨bl,cur,e,rfl,h1,by rw [m1]; exact h2,fun j y hy => ?_⟩
  obtain ⟨x,hx,hxy⟩:=m2 j y hy
  obtain ⟨u,u1,u2,u3⟩:=h3 j x hx
  refine ⟨u,u1,u2,?_⟩
  exact (AfU (bs := []) h (fun _ _ h=>h) hos u3 hxy).mono (Grows.refl _ _) (fun b hb=>⟨hb.1,fun hA=>hb.2.1 (.inl hA),hb.2.2⟩) (fun _ _=>rfl)
 | row W n f =>
  simp only [toB,Option.some.injEq] at hb
  subst hb
  rcases hr with hr|⟨b,o,cap,cur,e,rfl,h1,h2,h3,h4⟩
  ·exact .inl hr
  ·exact .inr ⟨b,o,cap,cur,e,rfl,h1,h2,h3,fun i hi=>⟨(h4 i hi).1,(h4 i hi).2.mono hS (fun _ _=>rfl)⟩⟩
 | mp z has f =>
  simp only [toB,Option.some.injEq] at hb
  subst hb
  obtain ⟨b,es,clock,rfl,h1,h2,h3,h4⟩:=hr
  exact ⟨b,es,clock,rfl,h1,h2,h3,fun i e n he hn=>(h4 i e n he hn).mono hS (fun _ _=>rfl)⟩
 | mq q=>simp [toB] at hb
 | dead=>simp [toB] at hb; subst hb; trivial
def cxOf (w:World) (Av:Nat→Prop) (β:Bu) (outs:List Body) (nt:Nat) (rd:Option Nat):Cx :=
 { w0:=w,Av:=Av,out:=fun b=>∃ (k:Nat) (bd:Body),outs[k]? = some bd∧bd.live∧(β k).block=some b,nt:=nt,m:=outs.length,β0:=β,rd:=rd }
theorem Aiz {w:World} {Av:Nat→Prop} {β:Bu} {vs:Array Value} {args:List MV} {outs:List Body} {nt:Nat} (rd:Option Nat) (hle:args.length≤nt) (hm:outs.length≤1000) (hpre:Pre w Av β outs vs args) :
  Rel (cxOf w Av β outs nt rd) β ⟨fun t=>(args[t]?).getD .any,Cb outs⟩ { tmps:=vs++Array.replicate (nt-vs.size) undef,defers := [] } w:=by
 have hobjs:∀ k o,Cb outs k=some o→∃ bd,outs[k]? = some bd∧o=⟨0,bd⟩:=by
  intro k o ho
  simp only [Cb] at ho
  cases hq:outs[k]? with
  | none=>simp [hq] at ho
  | some bd=>simp [hq] at ho; exact ⟨bd,rfl,ho.symm⟩
 refine ⟨Marked.nil,?_,fun t => ?_,fun k o ho => ?_,fun k o b ho hl hbk => ?_,fun k k' o o' b ho ho' hl hl' hne hbk => ?_,Kept.refl _ _,fun b hA hout => ?_,hpre.av,hm,fun k o hk ho hg=>rfl⟩
 ·have:=hpre.len
  show (vs++Array.replicate (nt-vs.size) undef).size=nt
  simp
  omega
 ·show RelV β (Cb outs) (As Av β (Cb outs) w) w ((vs++Array.replicate (nt-vs.size) undef).getD t undef) ((args[t]?).getD .any)
  by_cases ht:t<args.length
  ·have:args[t]? = some args[t]:=List.getElem?_eq_getElem ht
   rw [this]
   have hr:=hpre.args t _ this
   have hlt:t<vs.size:=by rw [hpre.len]; exact ht
   have e1:(vs++Array.replicate (nt-vs.size) undef).getD t undef=vs.getD t undef:=by
    rw [Array.getD_eq_getD_getElem?,Array.getElem?_append_left hlt,Array.getD_eq_getD_getElem?]
   simp only [Option.getD_some]
   rw [e1]
   exact hr
  ·rw [List.getElem?_eq_none (by omega)]
   exact .any _
 ·obtain ⟨bd,h3,rfl⟩:=hobjs k o ho
  exact hpre.ob k bd h3
 ·obtain ⟨bd,h3,rfl⟩:=hobjs k o ho
  have:=hpre.blk k bd b h3 hl hbk
  exact ⟨this.1,this.2,.inr ⟨k,bd,h3,hl,hbk⟩⟩
 ·obtain ⟨bd,h3,rfl⟩:=hobjs k o ho
  obtain ⟨bd',h4,rfl⟩:=hobjs k' o' ho'
  exact hpre.inj k k' bd bd' b h3 h4 hl hl' hne hbk
 ·obtain ⟨k,bd,h3,h4,h5⟩:=hout
  exact (hpre.blk k bd b h3 h4 h5).2 hA
theorem Rel.fill {cx:Cx} {β:Bu} {σ:St} {a:Act} {w:World} (h:Rel cx β σ a w) (m:Nat):Rel cx β ⟨σ.slots,Abr m σ.objs⟩ a w:=by
 have hg:Grows β β σ.objs (Abr m σ.objs):=fun k o ho=>⟨o,by simp [Abr,ho],Nat.le_refl _,fun _=>⟨rfl,o.body.same_refl⟩⟩
 have hback:∀ k o,Abr m σ.objs k=some o→σ.objs k=some o∨o=⟨1,.dead⟩:=by
  intro k o ho
  simp only [Abr] at ho
  cases hk:σ.objs k with
  | some q=>rw [hk] at ho; exact .inl ho
  | none =>
   rw [hk] at ho
   cases hb:Nat.blt k m with
   | true=>simp [hb] at ho; exact .inr ho.symm
   | false=>simp [hb] at ho
 have hS:∀ b,As cx.Av β σ.objs w b→As cx.Av β (Abr m σ.objs) w b:=by
  intro b hb
  refine ⟨hb.1,hb.2.1,fun k o ho hl => ?_⟩
  rcases hback k o ho with e|rfl
  ·exact hb.2.2 k o e hl
  ·exact hl.elim
 refine ⟨h.nd,h.sz,fun t=>(h.sl t).mono hg hS (fun _ _=>rfl),fun k o ho => ?_,fun k o b ho hl hb => ?_,fun k k' o o' b ho ho' hl hl' hne hb => ?_,h.kept,h.avo,h.avlt,h.mle,fun k o hk ho hgen => ?_⟩
 ·rcases hback k o ho with e|rfl
  ·exact (h.ob k o e).mono hg hS (fun _ _=>rfl) (fun _ _=>rfl)
  ·trivial
 ·rcases hback k o ho with e|rfl
  ·exact h.blk k o b e hl hb
  ·exact hl.elim
 ·rcases hback k o ho with e|rfl
  ·rcases hback k' o' ho' with e'|rfl
   ·exact h.inj k k' o o' b e e' hl hl' hne hb
   ·exact hl'.elim
  ·exact hl.elim
 ·rcases hback k o ho with e|rfl
  ·exact h.oloc k o hk e hgen
  ·simp at hgen
theorem Aif (hT:Kk P T) {w:World} {Av:Nat→Prop} {β:Bu} {outs outs' news:List Body} {res:MV} {nt:Nat} {rd:Option Nat} {fn:Func} {rs:List ResultVar} (hrs:rs=fn.results.toList) (hlen:outs'.length=outs.length)
  {β':Bu} {σ0:St} {a':Act} {w':World} (hr0:Rel (cxOf w Av β outs nt rd) β' σ0 a' w') {ex:List Nat} (hfin:fin T rs outs.length ex σ0=some (res,outs'++news)) :
  ∃ v,(results fn a'.tmps).run P w' = .ok v w'∧∃ β'',Post w Av β outs w' β'' v res outs' news:=by
 have hr:=hr0.fill outs.length
 unfold fin at hfin
 generalize (⟨σ0.slots,Abr outs.length σ0.objs⟩:St)=σ' at hr hfin
 unfold fin0 at hfin
 split at hfin
 case h_2=>simp at hfin
 rename_i ys hys
 split at hfin
 case h_2=>simp at hfin
 rename_i res0 os hres hos
 cases hbb:(Qx outs.length os&&Aaw (upN outs.length 0++ex)&&ex.all (fun k=>Nat.ble 1000 k)&&Nat.ble outs.length 1000) with
 | false=>simp only [hbb,cond_false] at hfin; simp at hfin
 | true =>
 simp only [hbb,cond_true,Option.some.injEq,Prod.mk.injEq] at hfin
 obtain ⟨rfl,hbodies⟩:=hfin
 simp only [Bool.and_eq_true] at hbb
 obtain ⟨⟨⟨z1,z2⟩,z3⟩,z4⟩:=hbb
 have hnd:=AcU _ z2
 have hm1000:outs.length≤1000:=Nat.le_of_ble_eq_true z4
 rw [List.all_eq_true] at z3
 subst hrs
 obtain ⟨v,hv1,hv2⟩:=AiJ hT hr hys
 have hv3:=toR_sound hr hos hv2 hres
 rw [hbodies] at hv3
 obtain ⟨hosl,hosg⟩:=AbL _ os hos
 refine ⟨v,hv1,Bq β' (upN outs.length 0++ex),?_⟩
 have hlk:(upN outs.length 0++ex).length=outs.length+ex.length:=by simp [Xd]
 have hobj:∀ (i:Nat) bd,(outs'++news)[i]? = some bd→∃ k g,(upN outs.length 0++ex)[i]? = some k∧(∃ bd0,σ'.objs k=some ⟨g,bd0⟩∧toB σ'.objs (upN outs.length 0++ex) bd0=some bd)∧Bq β' (upN outs.length 0++ex) i=β' k∧(i<outs.length→k=i∧(bd.live→g=0))∧(outs.length≤i→1000≤k):=by
  intro i bd hi
  rw [← hbodies,List.getElem?_map] at hi
  cases ho:os[i]? with
  | none=>simp [ho] at hi
  | some p =>
   have hlt:i<(upN outs.length 0++ex).length:=by rw [← hosl]; exact (List.getElem?_eq_some_iff.1 ho).1
   obtain ⟨g,bd',q1,bd0,q2,q3⟩:=hosg i _ (List.getElem?_eq_getElem hlt)
   rw [ho] at q1
   injection q1 with q1
   subst q1
   simp [ho] at hi
   subst hi
   refine ⟨_,g,List.getElem?_eq_getElem hlt,⟨bd0,q2,q3⟩,?_,fun hi' => ?_,fun hi' => ?_⟩
   ·unfold Bq
    rw [List.getD_eq_getElem?_getD,List.getElem?_eq_getElem hlt]
    rfl
   ·refine ⟨?_,fun hl=>Aik _ _ z1 i g bd' hi' ho hl⟩
    have e2:(upN outs.length 0++ex)[i]? = some i:=by
     rw [List.getElem?_append_left (by rw [Xd]; exact hi'),upN_get _ _ _ hi',Nat.zero_add]
    rw [List.getElem?_eq_getElem hlt] at e2
    injection e2 with e2
   ·have e2:(upN outs.length 0++ex)[i]? = ex[i-outs.length]? := by
     rw [List.getElem?_append_right (by rw [Xd]; exact hi'),Xd]
    rw [List.getElem?_eq_getElem hlt] at e2
    exact Nat.le_of_ble_eq_true (z3 _ (List.mem_of_getElem? e2.symm))
 have hinjk:∀ (i j k:Nat),(upN outs.length 0++ex)[i]? = some k→(upN outs.length 0++ex)[j]? = some k→i=j:=by
  intro i j k hi hj
  obtain ⟨l1,v1⟩:=List.getElem?_eq_some_iff.1 hi
  obtain ⟨l2,v2⟩:=List.getElem?_eq_some_iff.1 hj
  have hpw:=List.pairwise_iff_getElem.1 hnd
  rcases Nat.lt_trichotomy i j with hlt|heq|hgt
  ·exact absurd (v1.trans v2.symm) (hpw i j l1 l2 hlt)
  ·exact heq
  ·exact absurd (v2.trans v1.symm) (hpw j i l2 l1 hgt)
 have hSafe:∀ b,As Av β' σ'.objs w' b→As Av (Bq β' (upN outs.length 0++ex)) (Cb (outs'++news)) w' b:=by
  intro b hbS
  refine ⟨hbS.1,hbS.2.1,fun i o ho hl => ?_⟩
  simp only [Cb] at ho
  cases hq:(outs'++news)[i]? with
  | none=>simp [hq] at ho
  | some bd =>
   simp only [hq,Option.map_some,Option.some.injEq] at ho
   subst ho
   obtain ⟨k,g,_,⟨bd0,q2,q3⟩,q4,_⟩:=hobj i bd hq
   rw [q4]
   exact hbS.2.2 k _ q2 ((Hy q3).2 hl)
 refine ⟨hr.kept,fun k bd hk hbd hl => ?_,hlen,hv3,fun i bd hi => ?_,fun i bd b hi hl hbk => ?_,fun i j bd bd' b hi hj hl hl' hne hbk => ?_⟩
 ·obtain ⟨k',g,q1,⟨bd0,q2,q3⟩,q4,q5,_⟩:=hobj k bd (by rw [List.getElem?_append_left (by omega),hbd])
  obtain ⟨rfl,q6⟩:=q5 hk
  have:=q6 hl
  subst this
  rw [q4]
  exact hr.oloc k' _ hk q2 rfl
 ·obtain ⟨k,g,q1,⟨bd0,q2,q3⟩,q4,_⟩:=hobj i bd hi
  rw [q4]
  exact toR_body hr hos hbodies hSafe (hr.ob k _ q2) q3
 ·obtain ⟨k,g,q1,⟨bd0,q2,q3⟩,q4,q5,q6⟩:=hobj i bd hi
  rw [q4] at hbk
  have hB:=hr.blk k _ b q2 ((Hy q3).2 hl) hbk
  refine ⟨hB.1,?_⟩
  by_cases hi':i<outs.length
  ·exact .inl hi'
  ·right
   rcases hB.2.2 with h3|⟨k0,bd0,h3,h4,h5⟩
   ·exact .inl h3
   ·have hk0:k0<outs.length:=(List.getElem?_eq_some_iff.1 h3).1
    have hklt:k0<(outs'++news).length:=by simp; omega
    obtain ⟨k',g',r1,⟨bd0',r2,r3⟩,r4,r5,_⟩:=hobj k0 (outs'++news)[k0] (List.getElem?_eq_getElem hklt)
    obtain ⟨rfl,r6⟩:=r5 hk0
    have hkk:(outs'++news)[k']? = some (outs'++news)[k']:=List.getElem?_eq_getElem hklt
    generalize (outs'++news)[k']=bk at hkk r3 r6
    by_cases hlv:bk.live
    case neg =>
     have hd:bk = .dead:=by cases bk <;> first|rfl|exact absurd trivial hlv
     subst hd
     rw [List.getElem?_append_left (by omega)] at hkk
     exact .inr ⟨k',bd0,h3,h4,hkk,h5⟩
    exfalso
    have:=r6 hlv
    subst this
    have hol:=hr.oloc k' _ hk0 r2 rfl
    refine hr.inj k k' _ _ b q2 r2 ((Hy q3).2 hl) ((Hy r3).2 hlv) (fun e => ?_) hbk (by rw [hol]; exact h5)
    have:=q6 (by omega)
    omega
 ·obtain ⟨k,g,q1,⟨bd0,q2,q3⟩,q4,_⟩:=hobj i bd hi
  obtain ⟨k',g',r1,⟨bd0',r2,r3⟩,r4,_⟩:=hobj j bd' hj
  rw [q4] at hbk
  rw [r4]
  refine hr.inj k k' _ _ b q2 r2 ((Hy q3).2 hl) ((Hy r3).2 hl') (fun e=>hne ?_) hbk
  subst e
  exact hinjk i j k q1 r1
theorem Ahl (hT:Kk P T) {f:FuncId} {fn:Func} {c:Code} (hf:P.funcs[f]? = some fn) (hname:fn.name ≠ "runtime.NumGoroutine") (hb:fn.body=some c)
  {args:List MV} {outs:List Body} {res:MV} {outs' news:List Body} (hlen:outs'.length=outs.length)
  {sl:List (Nat×MV)} {ob:List (Nat×Obj)} (hle:args.length≤fn.ntmps) (hm:outs.length≤1000)
  (h1:Sg (upN args.length 0) (upN outs.length 0) ⟨fun t=>(args[t]?).getD .any,Cb outs⟩=sl)
  (h2:Pu (upN outs.length 0) ⟨fun t=>(args[t]?).getD .any,Cb outs⟩=ob)
  (hd:∀ cx:Cx,cx.nt=fn.ntmps→cx.rd=none→DWP P cx c (Af sl ob) (finQ T fn.results.toList outs.length res (outs'++news))) :
  Spec P f args outs res outs' news:=by
 refine ⟨⟨fn,hf,hname,by rw [hb]; rfl⟩,fun w Av β vs hpre => ?_⟩
 refine (callsIn_wide (n:=1)).1 (callsIn_of_wp_marks hf hb trivial ?_ rfl)
 have hrel:=Aiz (nt:=fn.ntmps) none hle hm hpre
 have hrel':=hrel.norm (upN args.length 0) (upN outs.length 0)
 rw [h1,h2] at hrel'
 refine wpIn_mono (fen_wpIn (r:=none) (m:=1) (hd (cxOf w Av β outs fn.ntmps none) rfl rfl β _ w hrel')) ?_
 rintro e a' w' ⟨β',σ',hq,hr⟩
 have done:(∃ ex,fin T fn.results.toList outs.length ex σ'=some (res,outs'++news))→LeavesInM Fence.wide 1 P fn a'.tmps (fun e w'=>∃ v' β'',e = .returned v'∧Post w Av β outs w' β'' v' res outs' news) a'.defers .returning w':=by
  rintro ⟨ex,hfin⟩
  refine Ahw (w0:=w) _ _ hr.nd fun w2 hw2 => ?_
  obtain ⟨v,h1,β'',h2⟩:=Aif hT rfl hlen (hr.shut hw2) hfin
  exact ⟨v,h1,v,β'',rfl,h2⟩
 cases e with
 | ret=>exact done hq
 | normal=>exact done hq
 | _=>exact hq.elim
def BSpec (P:Program) (nt:Nat) (body:Code) (args:List MV) (outs outs':List Body):Prop :=
 ∀ (l:Nat) (w:World) (Av:Nat→Prop) (β:Bu) (vs:Array Value),vs.size=nt→Pre w Av β outs vs args →
  body.wpIn (fen (some l)) 0 P (fun e _ w'=>e = .normal∧∃ v β',Post w Av β outs w' β' v (.p (.tup [])) outs' []) { tmps:=vs,defers := [] } w
def bfin (T:Ty) (m:Nat) (outs':List Body):Exit→St→Prop
 | .normal,σ=>∃ ex,fin T [] m ex σ=some (.p (.tup []),outs' ++ [])
 | _,_=>False
theorem bspec_of (hT:Kk P T) {nt:Nat} {body:Code} {args:List MV} {outs outs':List Body} (hlen:outs'.length=outs.length) {sl:List (Nat×MV)} {ob:List (Nat×Obj)} (hle:args.length=nt) (hm:outs.length≤1000)
  (h1:Sg (Ch sl) (upN outs.length 0) ⟨fun t=>(args[t]?).getD .any,Cb outs⟩=sl)
  (h2:Pu (upN outs.length 0) ⟨fun t=>(args[t]?).getD .any,Cb outs⟩=ob)
  (hd:∀ cx:Cx,cx.nt=nt→DWP P cx body (Af sl ob) (bfin T outs.length outs')):BSpec P nt body args outs outs':=by
 intro l w Av β vs hvs hpre
 have hrel:=Aiz (nt:=nt) (some l) (by omega) hm hpre
 have hrel':=hrel.norm (Ch sl) (upN outs.length 0)
 rw [h1,h2,show nt-vs.size=0 by omega,show vs++Array.replicate 0 undef=vs by simp] at hrel'
 refine wpIn_mono (hd (cxOf w Av β outs nt (some l)) rfl β _ w hrel') ?_
 rintro e a' w' ⟨β',σ',hq,hr⟩
 cases e with
 | normal =>
  obtain ⟨ex,hfin⟩:=hq
  obtain ⟨v,_,β'',hp⟩:=Aif hT (fn := { (default:Func) with results := #[] }) (rs := []) rfl hlen hr hfin
  exact ⟨rfl,v,β'',hp⟩
 | _=>exact hq.elim
theorem spec_of (hT:Kk P T) {f:FuncId} {fn:Func} {c:Code} (hf:P.funcs[f]? = some fn) (hname:fn.name ≠ "runtime.NumGoroutine") (hb:fn.body=some c)
  {args:List MV} {outs:List Body} {res:MV} {outs' news:List Body} (hlen:outs'.length=outs.length)
  {sl:List (Nat×MV)} {ob:List (Nat×Obj)} (hle:args.length≤fn.ntmps) (hm:outs.length≤1000)
  (h1:Sg (upN args.length 0) (upN outs.length 0) ⟨fun t=>(args[t]?).getD .any,Cb outs⟩=sl)
  (h2:Pu (upN outs.length 0) ⟨fun t=>(args[t]?).getD .any,Cb outs⟩=ob)
  (hd:∀ cx:Cx,cx.nt=fn.ntmps→DWP P cx c (Af sl ob) (finQ T fn.results.toList outs.length res (outs'++news))) :
  Spec P f args outs res outs' news:=Ahl hT hf hname hb hlen hle hm h1 h2 fun cx hn _=>hd cx hn
end
end Go.Dm

/- The data machine, part 16: weaker readings; rules in the form that the generated proofs use. -/
namespace Go.Dm
def MLe (x y:MV):Prop:=∀ β objs S w v,RelV β objs S w v x→RelV β objs S w v y
theorem PLe.rfl {x:PV} : PLe x x:=fun _ _ _ h=>h
theorem MLe.rfl {x:MV} : MLe x x:=fun _ _ _ _ _ h=>h
theorem MLe.of_eq {x y:MV} (h:x=y):MLe x y:=h▸MLe.rfl
theorem MLe.p {x y:PV} (h:PLe x y):MLe (.p x) (.p y):=fun _ _ _ _ _ q => .p _ _ (h _ _ _ q.inv_p)
theorem PLe.sl {fl fl':Fl} {W n n':Nat} {f g:Nat→List PV} (hfl:fl' = .unk∨fl'=fl) (hn:n=n') (h:∀ i,i<n→f i=g i):PLe (.sl fl W n f) (.sl fl' W n' g):=by
 subst hn
 intro S w v q
 cases q with
 | slnil _ _ _ h1=>exact .slnil _ _ _ (by rcases hfl with rfl|rfl; simp; exact h1)
 | sl _ _ _ cap b o _ c h1 h2 h3 h4 h5 h6 h7 =>
  refine .sl _ _ _ cap b o _ c ?_ h2 h3 (fun i hi=>by rw [← h i hi]; exact h4 i hi) h5 h6 (fun i j x hi hx=>h7 i j x hi (by rw [h i hi]; exact hx))
  rcases hfl with rfl|rfl
  ·exact ⟨by simp,by simp⟩
  ·exact h1
theorem PLe.empty {fl fl':Fl} {W W':Nat} {f g:Nat→List PV} (hfl:fl' = .unk∨fl'=fl):PLe (.sl fl W 0 f) (.sl fl' W' 0 g):=by
 intro S w v q
 cases q with
 | slnil _ _ _ h1=>exact .slnil _ _ _ (by rcases hfl with rfl|rfl; simp; exact h1)
 | sl _ _ _ cap b o _ c h1 h2 h3 h4 h5 h6 h7 =>
  refine .sl _ _ _ cap b o _ c ?_ h2 (fun e=>absurd (Eq.refl 0) e) (fun i hi=>by omega) (fun i j hi=>by omega) (fun i j hi=>by omega) (fun i j x hi=>by omega)
  rcases hfl with rfl|rfl
  ·exact ⟨by simp,by simp⟩
  ·exact h1
inductive MLes : List MV→List MV→Prop where
 | nil:MLes [] []
 | cons {x y:MV} {l m:List MV} (h:MLe x y) (t:MLes l m):MLes (x::l) (y::m)
theorem MLes.get {l m:List MV} (h:MLes l m):l.length=m.length∧∀ (i:Nat) y,m[i]? = some y→∃ x,l[i]? = some x∧MLe x y:=by
 induction h with
 | nil=>exact ⟨rfl,fun i y h=>by simp at h⟩
 | cons h t ih =>
  refine ⟨by simp [ih.1],fun i y hy => ?_⟩
  cases i with
  | zero=>simp at hy; subst hy; exact ⟨_,rfl,h⟩
  | succ i=>exact ih.2 i y (by simpa using hy)
inductive BLe : Body→Body→Prop where
 | rfl {b:Body} : BLe b b
 | box {l m:List MV} (h:MLes l m):BLe (.box l) (.box m)
 | row {W n n':Nat} {f g:Nat→List PV} (hn:n=n') (h:∀ i,i<n→f i=g i):BLe (.row W n f) (.row W n' g)
 | mp {z z':PV} {has has':Int→Bool} {f f':Int→PV} (h:Acy z has f z' has' f'):BLe (.mp z has f) (.mp z' has' f')
 | clk {z z':PV} {has has':Int→Bool} {f f':Int→PV} {born:Int→Nat} {clock:Nat} (h:Acy z has f z' has' f'):BLe (.mq (.clk z has f born clock)) (.mp z' has' f')
 | it {f:Int→PV} {rem:Int→Bool} {cur:Option Int} : BLe (.mq (.it f rem cur)) (.mq (.it f rem none))
theorem BLe.same {b c:Body} (h:BLe b c):b.same c:=by
 cases h with
 | rfl=>exact b.same_refl
 | box=>trivial
 | row hn=>exact ⟨Eq.refl _,hn⟩
 | mp=>trivial
 | clk=>trivial
 | it=>trivial
theorem BLe.rel {b c:Body} (h:BLe b c) {β:Bu} {objs:Bh} {S:Nat→Prop} {w:World} {l:Loc} (q:ObjRel β objs S w l b):ObjRel β objs S w l c:=by
 cases h with
 | rfl=>exact q
 | box hm =>
  obtain ⟨h1,h2⟩:=hm.get
  obtain ⟨b,cur,e,q0,q1,q2,q3⟩:=q
  refine ⟨b,cur,e,q0,q1,by rw [q2,h1],fun j y hy => ?_⟩
  obtain ⟨x,hx,hxy⟩:=h2 j y hy
  obtain ⟨u,u1,u2,u3⟩:=q3 j x hx
  exact ⟨u,u1,u2,hxy _ _ _ _ _ u3⟩
 | row hn hf =>
  subst hn
  rcases q with q|⟨b,o,cap,cur,e,q0,q1,q2,q3,q4⟩
  ·exact .inl q
  ·refine .inr ⟨b,o,cap,cur,e,q0,q1,q2,q3,fun i hi => ?_⟩
   rw [← hf i hi]
   exact q4 i hi
 | mp hm =>
  obtain ⟨h1,h2,h3⟩:=hm
  subst h1
  obtain ⟨b,es,clock,q0,q1,q2,q3,q4⟩:=q
  exact ⟨b,es,clock,q0,q1,q2,h3 q3,fun i e n he hn=>h2 n _ _ _ (q4 i e n he hn)⟩
 | clk hm =>
  obtain ⟨h1,h2,h3⟩:=hm
  subst h1
  obtain ⟨b,es,q0,q1,q2,q3,q4,_⟩:=q
  exact ⟨b,es,_,q0,q1,q2,h3 q3,fun i e n he hn=>h2 n _ _ _ (q4 i e n he hn)⟩
 | it =>
  obtain ⟨b,bm,es,clock,since,seen,c0,has,q0,q1,q2,q3,q4,q5,q6,q7,q8,_⟩:=q
  exact ⟨b,bm,es,clock,since,seen,c0,has,q0,q1,q2,q3,q4,q5,q6,q7,q8,fun n hn=>by simp at hn⟩
section
variable {P : Program} {T:Ty} {cx:Cx} {β:Bu} {σ:St} {a:Act} {w:World} {Q:Exit→St→Prop}
theorem Rel.leF {sl sl':List (Nat×MV)} {ob ob':List (Nat×Obj)} (hs:∀ t,MLe ((assoc sl t).getD .any) ((assoc sl' t).getD .any))
  (ho:∀ t,(assoc ob t=none∧assoc ob' t=none)∨∃ g b c,assoc ob t=some ⟨g,b⟩∧assoc ob' t=some ⟨g,c⟩∧BLe b c) (h:Rel cx β (Af sl ob) a w):Rel cx β (Af sl' ob') a w:=by
 have back:∀ k o',assoc ob' k=some o'→∃ b,assoc ob k=some ⟨o'.gen,b⟩∧BLe b o'.body:=by
  intro k o' hk
  rcases ho k with ⟨_,h2⟩|⟨g,b,c,h1,h2,h3⟩
  ·rw [hk] at h2; simp at h2
  ·rw [hk] at h2
   injection h2 with h2
   subst h2
   exact ⟨b,h1,h3⟩
 have hg:Grows β β (assoc ob) (assoc ob'):=by
  intro k o hk
  rcases ho k with ⟨h1,_⟩|⟨g,b,c,h1,h2,h3⟩
  ·rw [hk] at h1; simp at h1
  ·rw [hk] at h1
   injection h1 with h1
   subst h1
   exact ⟨_,h2,Nat.le_refl _,fun _=>⟨rfl,h3.same⟩⟩
 have hS:∀ b,As cx.Av β (assoc ob) w b→As cx.Av β (assoc ob') w b:=by
  intro b hb
  refine ⟨hb.1,hb.2.1,fun k o' hk hl => ?_⟩
  obtain ⟨bd,h1,h2⟩:=back k o' hk
  exact hb.2.2 k _ h1 ((Body.same_live h2.same).2 hl)
 refine ⟨h.nd,h.sz,fun t => ?_,fun k o' hk => ?_,fun k o' b hk hl hb => ?_,fun k k' o o' b hk hk' hl hl' hne hb => ?_,h.kept,h.avo,h.avlt,h.mle,fun k o' hkm hk hgen => ?_⟩
 ·exact hs t _ _ _ _ _ ((h.sl t).mono hg hS (fun _ _=>rfl))
 ·obtain ⟨bd,h1,h2⟩:=back k o' hk
  exact h2.rel ((h.ob k _ h1).mono hg hS (fun _ _=>rfl) (fun _ _=>rfl))
 ·obtain ⟨bd,h1,h2⟩:=back k o' hk
  exact h.blk k _ b h1 ((Body.same_live h2.same).2 hl) hb
 ·obtain ⟨bd,h1,h2⟩:=back k o hk
  obtain ⟨bd',h1',h2'⟩:=back k' o' hk'
  exact h.inj k k' _ _ b h1 h1' ((Body.same_live h2.same).2 hl) ((Body.same_live h2'.same).2 hl') hne hb
 ·obtain ⟨bd,h1,h2⟩:=back k o' hk
  exact h.oloc k _ hkm h1 hgen
def KQ (P:Program) (cx:Cx):List Code→(Exit→St→Prop)→Exit→St→Prop
 | [],Q=>Q
 | c::r,Q=>thenQ P cx c (KQ P cx r Q)
def DW (P:Program) (cx:Cx) (cs:List Code) (σ:St) (Q:Exit→St→Prop):Prop:=KQ P cx cs Q .normal σ
theorem DW.start {c:Code} (h:DW P cx [c] σ Q):DWP P cx c σ Q:=h
theorem DW.seq {x y:Code} {r:List Code} (h:DW P cx (x::y::r) σ Q):DW P cx (.seq x y::r) σ Q:=DWP.seq (P:=P) (cx:=cx) (Q:=KQ P cx r Q) h
theorem DW.skip {r:List Code} (h:DW P cx r σ Q):DW P cx (.skip::r) σ Q:=DWP.skip (Q:=KQ P cx r Q) h
theorem KQ_ret {r:List Code} (h:Q .ret σ):KQ P cx r Q .ret σ:=by
 induction r with
 | nil=>exact h
 | cons c r ih=>exact ih
theorem Ba {r:List Code} {id:Nat} (h:Q (.exit id) σ):KQ P cx r Q (.exit id) σ:=by
 induction r with
 | nil=>exact h
 | cons c r ih=>exact ih
theorem DW.ret {r:List Code} (h:Q .ret σ):DW P cx (.ret::r) σ Q:=DWP.ret (Q:=KQ P cx r Q) (KQ_ret h)
theorem DW.exit {r:List Code} {id:Nat} (h:Q (.exit id) σ):DW P cx (.exit id::r) σ Q:=DWP.exit (Q:=KQ P cx r Q) (Ba h)
theorem DW.cond {c:Operand} {x y:Code} {r:List Code} (b:Bool) (hk:Be c=true) (hc:ev σ c = .p (.v (.bool b))) (h1:b=true→DW P cx (x::r) σ Q) (h2:b=false→DW P cx (y::r) σ Q) :
  DW P cx (.cond c x y::r) σ Q:=DWP.cond (Q:=KQ P cx r Q) hk hc h1 h2
theorem DW.block {id:Nat} {c:Code} {r:List Code} (h:DW P cx [c] σ (Up id (KQ P cx r Q))):DW P cx (.block id c::r) σ Q:=DWP.block (Q:=KQ P cx r Q) h
theorem DW.done (h:Q .normal σ):DW P cx [] σ Q:=h
theorem Ai {id:Nat} (h:Q .normal σ):Up id Q (.exit id) σ:=by simp [Up,h]
theorem Pv {id id':Nat} (hne:id'≠id) (h:Q (.exit id') σ):Up id Q (.exit id') σ:=by simp [Up,hne,h]
theorem retOK {results:List ResultVar} {m:Nat} {res:MV} {bs bs':List Body} (ex:List Nat) (res':MV) (h:fin T results m ex σ=some (res',bs')) (e:res'=res) (e2:bs'=bs):finQ T results m res bs .ret σ:=by
 subst e; subst e2; exact ⟨ex,h⟩
theorem endOK {results:List ResultVar} {m:Nat} {res:MV} {bs bs':List Body} (ex:List Nat) (res':MV) (h:fin T results m ex σ=some (res',bs')) (e:res'=res) (e2:bs'=bs):finQ T results m res bs .normal σ:=by
 subst e; subst e2; exact ⟨ex,h⟩
def eqIf (P:Program) (t:Nat):Bool→Prop
 | true=>AfI P t
 | false=>True
def AllT (P:Program):Ty→Prop
 | []=>True
 | (t,i)::r=>(TyFact P t i∧eqIf P t i.eq)∧AllT P r
theorem tyGood_of {T:Ty} (h:AllT P T) (h1:T.all (fun p=>p.2.zero.all fun c=>c.oneCell')=true)
  (h2:T.all (fun p=>match p.2.kd with | .struct fs=>fs.all (fun q=>(Dm.assoc T q.2).isSome)|_=>true)=true):Kk P T:=by
 have hall:∀ (T:Ty),AllT P T→∀ p∈T,TyFact P p.1 p.2∧eqIf P p.1 p.2.eq:=by
  intro T
  induction T with
  | nil=>intro _ p hp; simp at hp
  | cons q r ih =>
   intro h p hp
   obtain ⟨t,i⟩:=q
   rcases List.mem_cons.1 hp with rfl|hp
   ·exact h.1
   ·exact ih h.2 p hp
 rw [List.all_eq_true] at h1 h2
 refine ⟨fun t i ht=>(hall T h _ (Yv ht)).1,fun t i ht=>h1 _ (Yv ht),fun t fs s b z q ht => ?_,fun t i ht he => ?_⟩
 ·have:=h2 _ (Yv ht)
  exact this
 ·have:=(hall T h _ (Yv ht)).2
  simp only [he,eqIf] at this
  exact this
end
abbrev vi (n:Int):PV := .v (.int .i64 n)
abbrev vb (b:Bool):PV := .v (.bool b)
abbrev vs (s:ByteArray):PV := .v (.string s)
def elems {α:Type} (enc:α→List PV) (d:α) (L:List α):Nat→List PV:=fun i=>enc (L.getD i d)
def Ly {α:Type} (W:Nat) (enc:α→List PV) (d:α) (L:List α):PV := .sl .unk W L.length (elems enc d L)
def Hj {α:Type} (W:Nat) (enc:α→List PV) (d:α) (L:List α):Body := .row W L.length (elems enc d L)
end Go.Dm

/- The data machine, part 17: joins, restarts, small facts on numbers, plain elements. -/
namespace Go.Dm
section
variable {P : Program} {T:Ty} {cx:Cx} {σ:St} {Q:Exit→St→Prop}
def RegTo (P:Program) (cx:Cx) (ops:Array Oper) (draw:Bool) (σ:St) (sl2:List (Nat×MV)) (ob2:List (Nat×Obj)):Prop :=
 ∀ (id:Nat) (r:List Code) (Q:Exit→St→Prop),DW P cx r (Af sl2 ob2) Q→DW P cx (.region id ops draw::r) σ Q
theorem DW.regJ {ops:Array Oper} {id:Nat} {draw:Bool} {r:List Code} {sl2:List (Nat×MV)} {ob2:List (Nat×Obj)} (h:RegTo P cx ops draw σ sl2 ob2) (hQ:DW P cx r (Af sl2 ob2) Q) :
  DW P cx (.region id ops draw::r) σ Q:=h id r Q hQ
end
theorem Abn {n:Int} (h1 : -9223372036854775808≤n) (h2:n≤9223372036854775807):IntKind.i64.wrap n=n:=by
 exact IntWalk.i64_in n ⟨h1,h2⟩
def Au (n:Int):List PV := [vi n]
def encS (s:ByteArray):List PV := [vs s]
end Go.Dm

/- The data machine, part 18: loops as functions; slices that are nil, taken over as owned rows of no elements. -/
namespace Go.Dm
section
variable {α σ R:Type}
def Bo (body:Nat→α→σ→(σ→R)→R) (done:σ→R):List α→Nat→σ→R
 | [],_,s=>done s
 | x::r,k,s=>body k x s (fun s'=>Bo body done r (k+1) s')
end
inductive Ad1 (k:Nat):MV→MV→Prop where
 | rfl (x:MV):Ad1 k x x
 | nil (W:Nat) (f:Nat→List PV):Ad1 k (.p (.sl .nil W 0 f)) (.own k 0 0 0)
inductive AdL (k:Nat):List MV→List MV→Prop where
 | rfl (l:List MV):AdL k l l
 | cons {x y:MV} {r s:List MV} (h:Ad1 k x y) (t:AdL k r s):AdL k (x::r) (y::s)
inductive Ad (k:Nat):MV→MV→Prop where
 | one {x y:MV} (h:Ad1 k x y):Ad k x y
 | agg {r s:List MV} (h:AdL k r s):Ad k (.agg r) (.agg s)
inductive AdS (k:Nat):List (Nat×MV)→List (Nat×MV)→Prop where
 | rfl (l:List (Nat×MV)):AdS k l l
 | cons {t:Nat} {x y:MV} {r s:List (Nat×MV)} (h:Ad k x y) (q:AdS k r s):AdS k ((t,x)::r) ((t,y)::s)
inductive AdO (k:Nat):List (Nat×Obj)→List (Nat×Obj)→Prop where
 | rfl (l:List (Nat×Obj)):AdO k l l
 | keep {j:Nat} {o:Obj} {r s:List (Nat×Obj)} (q:AdO k r s):AdO k ((j,o)::r) ((j,o)::s)
 | box {j g:Nat} {cs ds:List MV} {r s:List (Nat×Obj)} (h:AdL k cs ds) (q:AdO k r s):AdO k ((j,⟨g,.box cs⟩)::r) ((j,⟨g,.box ds⟩)::s)
theorem AdL.get {k:Nat} {l m:List MV} (h:AdL k l m):l.length=m.length∧∀ (i:Nat) y,m[i]? = some y→∃ x,l[i]? = some x∧Ad1 k x y:=by
 induction h with
 | rfl l=>exact ⟨Eq.refl _,fun i y hy=>⟨y,hy,.rfl y⟩⟩
 | cons h t ih =>
  refine ⟨by simp [ih.1],fun i y hy => ?_⟩
  cases i with
  | zero=>simp at hy; subst hy; exact ⟨_,Eq.refl _,h⟩
  | succ i=>exact ih.2 i y (by simpa using hy)
theorem AdS.get {k:Nat} {l m:List (Nat×MV)} (h:AdS k l m) (t:Nat):Ad k ((assoc l t).getD .any) ((assoc m t).getD .any):=by
 induction h with
 | rfl l=>exact .one (.rfl _)
 | @cons t' x y r s h q ih =>
  simp only [assoc]
  cases Nat.beq t t' with
  | true=>exact h
  | false=>exact ih
theorem AdO.get {k:Nat} {l m:List (Nat×Obj)} (h:AdO k l m) (j:Nat):(assoc l j=none∧assoc m j=none)∨(∃ o,assoc l j=some o∧assoc m j=some o) ∨
  ∃ g cs ds,assoc l j=some ⟨g,.box cs⟩∧assoc m j=some ⟨g,.box ds⟩∧AdL k cs ds:=by
 induction h with
 | rfl l =>
  cases hq:assoc l j with
  | none=>exact .inl ⟨Eq.refl _,Eq.refl _⟩
  | some o=>exact .inr (.inl ⟨o,Eq.refl _,Eq.refl _⟩)
 | @keep i o r s q ih =>
  simp only [assoc]
  cases Nat.beq j i with
  | true=>exact .inr (.inl ⟨_,Eq.refl _,Eq.refl _⟩)
  | false=>exact ih
 | @box i g cs ds r s h q ih =>
  simp only [assoc]
  cases Nat.beq j i with
  | true=>exact .inr (.inr ⟨_,_,_,Eq.refl _,Eq.refl _,h⟩)
  | false=>exact ih
section
variable {P : Program} {T:Ty} {cx:Cx} {β:Bu} {σ:St} {a:Act} {w:World} {Q:Exit→St→Prop}
theorem Ad1.sound {k:Nat} {x y:MV} (h:Ad1 k x y) {objs:Bh} {S:Nat→Prop} {v:Value} (hl:β k = .nilrow) {W:Nat} {f:Nat→List PV} (ho:objs k=some ⟨0,.row W 0 f⟩) (hr:RelV β objs S w v x):RelV β objs S w v y:=by
 cases h with
 | rfl=>exact hr
 | nil W' f' =>
  have hp:=hr.inv_p
  generalize hx:PV.sl .nil W' 0 f'=px at hp
  cases hp with
  | slnil=>exact .own k 0 0 0 none 0 ⟨_,ho,Nat.le_refl _,fun _=>by simp [OwnAt,hl]⟩
  | sl fl _ n cap b o _ c hfl=>injection hx with h1; exact absurd h1.symm hfl.1
  | _=>simp at hx
theorem Ad.sound {k:Nat} {x y:MV} (h:Ad k x y) {objs:Bh} {S:Nat→Prop} {v:Value} (hl:β k = .nilrow) {W:Nat} {f:Nat→List PV} (ho:objs k=some ⟨0,.row W 0 f⟩) (hr:RelV β objs S w v x):RelV β objs S w v y:=by
 cases h with
 | one h=>exact h.sound hl ho hr
 | agg h =>
  obtain ⟨hlen,hget⟩:=h.get
  cases hr with
  | agg _ vs hs hr h1 =>
   refine .agg _ vs (by rw [hs,hlen]) (fun i y hy => ?_) (fun i y hy => ?_)
   ·obtain ⟨x,hx,hxy⟩:=hget i y hy
    exact hxy.sound hl ho (hr i x hx)
   ·obtain ⟨x,hx,hxy⟩:=hget i y hy
    exact h1 i x hx
theorem Rel.adopt {k W:Nat} {f:Nat→List PV} {sl sl':List (Nat×MV)} {ob ob':List (Nat×Obj)} (hk:1000≤k) (hn:assoc ob k=none) (hs:AdS k sl sl') (ho:AdO k ob ob')
  (h:Rel cx β (Af sl ob) a w):Rel cx (Ia β k .nilrow) (Af sl' ((k,⟨0,.row W 0 f⟩)::ob')) a w:=by
 have hm:=h.mle
 have h1:=h.upd1 k ⟨0,.row W 0 f⟩ .nilrow w (fun o hoo=>by rw [show (Af sl ob).objs k=assoc ob k from rfl,hn] at hoo; simp at hoo)
  (fun b _ hb=>by simp [Loc.block] at hb) (fun b _ hb=>by simp [Loc.block] at hb) (fun _ _ _=>rfl) (Nat.le_refl _) rfl rfl rfl (fun hkm=>by omega) (.inl ⟨rfl,rfl⟩)
 have hloc:Ia β k .nilrow k = .nilrow:=Ep _ _ _
 have hcase:∀ j,(Bp (assoc ob) k ⟨0,.row W 0 f⟩ j=none∧assoc ((k,⟨0,.row W 0 f⟩)::ob') j=none) ∨
   (∃ o,Bp (assoc ob) k ⟨0,.row W 0 f⟩ j=some o∧assoc ((k,⟨0,.row W 0 f⟩)::ob') j=some o) ∨
   ∃ g cs ds,Bp (assoc ob) k ⟨0,.row W 0 f⟩ j=some ⟨g,.box cs⟩∧assoc ((k,⟨0,.row W 0 f⟩)::ob') j=some ⟨g,.box ds⟩∧AdL k cs ds:=by
  intro j
  by_cases hj:j=k
  ·subst hj
   exact .inr (.inl ⟨_,Bm _ _ _,by simp [assoc,Cq]⟩)
  ·rw [Cj _ _ hj,show assoc ((k,⟨0,.row W 0 f⟩)::ob') j=assoc ob' j by simp [assoc,Mh hj]]
   exact ho.get j
 have hback:∀ j o',assoc ((k,⟨0,.row W 0 f⟩)::ob') j=some o'→∃ o,Bp (assoc ob) k ⟨0,.row W 0 f⟩ j=some o∧o.gen=o'.gen∧(o.body.live↔o'.body.live) ∧
   (o=o'∨∃ g cs ds,o=⟨g,.box cs⟩∧o'=⟨g,.box ds⟩∧AdL k cs ds):=by
  intro j o' hj
  rcases hcase j with ⟨_,q⟩|⟨o,q1,q2⟩|⟨g,cs,ds,q1,q2,q3⟩
  ·rw [q] at hj; simp at hj
  ·rw [q2] at hj; injection hj with hj; subst hj
   exact ⟨o,q1,rfl,Iff.rfl,.inl rfl⟩
  ·rw [q2] at hj; injection hj with hj; subst hj
   exact ⟨_,q1,rfl,Iff.rfl,.inr ⟨g,cs,ds,rfl,rfl,q3⟩⟩
 have hgrow:Grows (Ia β k .nilrow) (Ia β k .nilrow) (Bp (assoc ob) k ⟨0,.row W 0 f⟩) (assoc ((k,⟨0,.row W 0 f⟩)::ob')):=by
  intro j o hj
  rcases hcase j with ⟨q,_⟩|⟨o1,q1,q2⟩|⟨g,cs,ds,q1,q2,q3⟩
  ·rw [q] at hj; simp at hj
  ·rw [q1] at hj; injection hj with hj; subst hj
   exact ⟨_,q2,Nat.le_refl _,fun _=>⟨rfl,Body.same_refl _⟩⟩
  ·rw [q1] at hj; injection hj with hj; subst hj
   exact ⟨_,q2,Nat.le_refl _,fun _=>⟨rfl,trivial⟩⟩
 have hS:∀ b,As cx.Av (Ia β k .nilrow) (Bp (assoc ob) k ⟨0,.row W 0 f⟩) w b→As cx.Av (Ia β k .nilrow) (assoc ((k,⟨0,.row W 0 f⟩)::ob')) w b:=by
  intro b hb
  refine ⟨hb.1,hb.2.1,fun j o' hj hlive => ?_⟩
  obtain ⟨o,q1,_,q3,_⟩:=hback j o' hj
  exact hb.2.2 j o q1 (q3.2 hlive)
 have hnew:assoc ((k,(⟨0,.row W 0 f⟩:Obj))::ob') k=some ⟨0,.row W 0 f⟩:=by simp [assoc,Cq]
 refine ⟨h1.nd,h1.sz,fun t => ?_,fun j o' hj => ?_,fun j o' b hj hlive hb => ?_,fun j j' o o' b hj hj' hl hl' hne hb => ?_,h1.kept,h1.avo,h1.avlt,h1.mle,fun j o' hjm hj hg => ?_⟩
 ·have:=(h1.sl t).mono hgrow hS (fun _ _=>rfl)
  exact (hs.get t).sound hloc hnew this
 ·obtain ⟨o,q1,_,_,q4⟩:=hback j o' hj
  have hob:=(h1.ob j o q1).mono hgrow hS (fun _ _=>rfl) (fun _ _=>rfl)
  rcases q4 with rfl|⟨g,cs,ds,rfl,rfl,hA⟩
  ·exact hob
  ·obtain ⟨b,cur,e,p1,p2,p3,p4⟩:=hob
   obtain ⟨hlen,hget⟩:=hA.get
   refine ⟨b,cur,e,p1,p2,by rw [p3,hlen],fun i y hy => ?_⟩
   obtain ⟨x,hx,hxy⟩:=hget i y hy
   obtain ⟨u,u1,u2,u3⟩:=p4 i x hx
   exact ⟨u,u1,u2,hxy.sound hloc hnew u3⟩
 ·obtain ⟨o,q1,_,q3,_⟩:=hback j o' hj
  exact h1.blk j o b q1 (q3.2 hlive) hb
 ·obtain ⟨p,q1,_,q3,_⟩:=hback j o hj
  obtain ⟨p',r1,_,r3,_⟩:=hback j' o' hj'
  exact h1.inj j j' p p' b q1 r1 (q3.2 hl) (r3.2 hl') hne hb
 ·obtain ⟨o,q1,q2,_,_⟩:=hback j o' hj
  exact h1.oloc j o hjm q1 (by rw [q2]; exact hg)
end
end Go.Dm

/- The data machine, part 19: parts of slices, arguments read with other words, maps as plain functions. -/
namespace Go.Dm
section
variable {α : Type} {W:Nat} {enc:α→List PV} {d:α}
end
section
variable {P : Program} {f:FuncId} {outs outs' news:List Body} {res:MV}
theorem Spec.args {xs bs:List MV} (h:Spec P f bs outs res outs' news) (hle:MLes xs bs):Spec P f xs outs res outs' news:=by
 obtain ⟨h1,h2⟩:=hle.get
 refine ⟨h.1,fun w Av β vs hp=>h.2 w Av β vs ⟨hp.av,by rw [hp.len,h1],fun i x hx => ?_,hp.ob,hp.blk,hp.inj⟩⟩
 obtain ⟨y,hy,hle⟩:=h2 i x hx
 exact hle _ _ _ _ _ (hp.args i y hy)
theorem Spec.unk {W n:Nat} {g:Nat→List PV} {r:List MV} (h1:n=0→Spec P f (.p (.sl .nil W 0 g)::r) outs res outs' news) (h2:Spec P f (.p (.sl .nn W n g)::r) outs res outs' news) :
  Spec P f (.p (.sl .unk W n g)::r) outs res outs' news:=by
 refine ⟨h2.1,fun w Av β vs hp => ?_⟩
 have h0:=hp.args 0 _ rfl
 have hrest:∀ x:PV,Rep (As Av β (Cb outs) w) w (vs.getD 0 undef) x→Pre w Av β outs vs (.p x::r):=fun x hx =>
  ⟨hp.av,hp.len,fun i y hy=>by
   cases i with
   | zero=>simp at hy; subst hy; exact .p _ _ hx
   | succ i=>exact hp.args (i+1) y (by simpa using hy),hp.ob,hp.blk,hp.inj⟩
 have hr:=h0.inv_p
 generalize hv:vs.getD 0 undef=v at hr
 cases hr with
 | slnil _ _ _ _=>exact (h1 rfl).2 w Av β vs (hrest _ (by rw [hv]; exact .slnil _ _ _ (by simp)))
 | sl _ _ _ cap b o _ c q1 q2 q3 q4 q5 q6 q7=>exact h2.2 w Av β vs (hrest _ (by rw [hv]; exact .sl _ _ _ cap b o _ c ⟨by simp,by simp⟩ q2 q3 q4 q5 q6 q7))
end
structure IMap (α:Type) where
 has:Int→Bool
 get:Int→α
def IMap.empty {α:Type} (d:α):IMap α:=⟨fun _=>false,fun _=>d⟩
def IMap.set {α:Type} (m:IMap α) (n:Int) (v:α):IMap α:=⟨Bg m.has n true,Bg m.get n v⟩
def Ce {α:Type} (enc:α→PV) (z:PV) (m:IMap α):Body := .mp z m.has (fun n=>enc (m.get n))
theorem Acc {α:Type} (m:IMap α) (n j:Int) (v:α):(m.set n v).get j=if j=n then v else m.get j:=rfl
end Go.Dm

/- The data machine, part 20: models that may give none; what a state may be read as; joins; loops; rows that are frozen or cut short. -/
namespace Go.Dm
section
variable {α σ R:Type}
theorem bind_open {x:Option α} {k:α→Option R} {r:R} (h:x.bind k=some r):∃ a,x=some a∧k a=some r:=by
 cases x with
 | none=>simp at h
 | some a=>exact ⟨a,rfl,h⟩
theorem Oc {p:Prop} [Decidable p] {x:Option R} {r:R} (h:(if p then x else none)=some r):p∧x=some r:=by
 by_cases hp:p
 ·rw [if_pos hp] at h; exact ⟨hp,h⟩
 ·rw [if_neg hp] at h; simp at h
theorem Az {b:Bool} {x y:Option R} {r:R} (hb:b=true) (h:(if b=true then x else y)=some r):x=some r:=by
 rw [if_pos hb] at h; exact h
theorem Ay {b:Bool} {x y:Option R} {r:R} (hb:b=false) (h:(if b=true then x else y)=some r):y=some r:=by
 rw [if_neg (by simp [hb])] at h; exact h
def Fh : Nat:=1099511627776
def whileO (body:σ→(σ→Option R)→Option R):Nat→σ→Option R
 | 0,_=>none
 | m+1,s=>body s (whileO body m)
def forO (body:Int→σ→(σ→Option R)→Option R) (done:σ→Option R):Nat→Int→σ→Option R
 | 0,_,s=>done s
 | m+1,i,s=>body i s (forO body done m (i+1))
end
section
variable {P : Program} {T:Ty} {cx:Cx} {β:Bu} {σ:St} {a:Act} {w:World} {Q:Exit→St→Prop}
def Conv (cx:Cx) (σ τ:St):Prop:=∀ β a w,Rel cx β σ a w→∃ β',Rel cx β' τ a w
theorem Conv.refl : Conv cx σ σ:=fun β _ _ h=>⟨β,h⟩
theorem Conv.trans {τ υ:St} (h:Conv cx σ τ) (k:Conv cx τ υ):Conv cx σ υ:=fun β a w r=>by
 obtain ⟨β',r'⟩:=h β a w r
 exact k β' a w r'
theorem DW.conv {c:Code} {r:List Code} {τ:St} (h:Conv cx σ τ) (k:DW P cx (c::r) τ Q):DW P cx (c::r) σ Q:=fun β a w hr=>by
 obtain ⟨β',r'⟩:=h β a w hr
 exact k β' a w r'
theorem Conv.adopt (k W:Nat) (f:Nat→List PV) {sl sl':List (Nat×MV)} {ob ob':List (Nat×Obj)} (hk:Nat.ble 1000 k=true) (hn:assoc ob k=none) (hs:AdS k sl sl') (ho:AdO k ob ob') :
  Conv cx (Af sl ob) (Af sl' ((k,⟨0,.row W 0 f⟩)::ob')):=fun _ _ _ hr=>⟨_,hr.adopt (Nat.le_of_ble_eq_true hk) hn hs ho⟩
def Tw {ι:Type} (cx:Cx) (J:ι→St) (m:ι→Prop) (Q:Exit→St→Prop):Exit→St→Prop
 | .normal,σ=>∃ i,m i∧Conv cx σ (J i)
 | e,σ=>Q e σ
theorem DWP.join {ι:Type} {c:Code} (J:ι→St) (m:ι→Prop) (hj:∀ i,m i→Q .normal (J i)) (h:DWP P cx c σ (Tw cx J m Q)):DWP P cx c σ Q:=by
 intro β a w hr
 refine wpIn_mono (h β a w hr) ?_
 rintro e a' w' ⟨β',σ',q,r⟩
 cases e with
 | normal =>
  obtain ⟨i,h1,h2⟩:=q
  obtain ⟨β'',r'⟩:=h2 β' a' w' r
  exact ⟨β'',_,hj i h1,r'⟩
 | _=>exact ⟨β',σ',q,r⟩
theorem DW.join {ι:Type} {c:Code} {r:List Code} (J:ι→St) (m:ι→Prop) (hj:∀ i,m i→DW P cx r (J i) Q) (h:DW P cx [c] σ (Tw cx J m (KQ P cx r Q))):DW P cx (c::r) σ Q :=
 DWP.join (Q:=KQ P cx r Q) J m hj h
theorem DW.whileO {S R:Type} {c:Code} {r:List Code} (I:S→St) {B:S→(S→Option R)→Option R} {n:Nat} {s0:S} {res:R} (hm:Dm.whileO B n s0=some res) (h0:Conv cx σ (I s0))
  (round:∀ s N,B s N=some res→DW P cx [c] (I s) (Tw cx I (fun s'=>N s'=some res) (KQ P cx r Q))):DW P cx (.loop c::r) σ Q:=by
 intro β a w hr
 obtain ⟨β',hr'⟩:=h0 β a w hr
 refine Ux (ι:=S×Nat) (fun i a w=>Dm.whileO B i.2 i.1=some res∧∃ β,Rel cx β (I i.1) a w) (fun i=>i.2) (s0,n) ⟨hm,β',hr'⟩ ?_
 rintro ⟨s,m⟩ a w ⟨hm,β,hr⟩
 cases m with
 | zero=>simp [Dm.whileO] at hm
 | succ m =>
  refine wpIn_mono (round s (Dm.whileO B m) hm β a w hr) ?_
  rintro e a' w' ⟨β',σ',q,r⟩
  cases e with
  | normal =>
   obtain ⟨s',h1,h2⟩:=q
   obtain ⟨β'',r'⟩:=h2 β' a' w' r
   exact ⟨(s',m),⟨h1,β'',r'⟩,Nat.lt_succ_self m⟩
  | _=>exact ⟨β',σ',q,r⟩
theorem DW.rangeO {α S R:Type} {c:Code} {r:List Code} (I:Nat→S→St) {B:Nat→α→S→(S→Option R)→Option R} {D:S→Option R} {L:List α} (d:α) {s0:S} {res:R} (hm:Bo B D L 0 s0=some res)
  (h0:Conv cx σ (I 0 s0))
  (round:∀ k s N,k≤L.length→(k<L.length→B k (L.getD k d) s N=some res)→(¬ k<L.length→D s=some res)→DW P cx [c] (I k s) (Tw cx (fun s=>I (k+1) s) (fun s'=>k<L.length∧N s'=some res) (KQ P cx r Q))) :
  DW P cx (.loop c::r) σ Q:=by
 intro β a w hr
 obtain ⟨β',hr'⟩:=h0 β a w hr
 refine Ux (ι:=Nat×S) (fun i a w=>i.1≤L.length∧Bo B D (L.drop i.1) i.1 i.2=some res∧∃ β,Rel cx β (I i.1 i.2) a w) (fun i=>L.length-i.1) (0,s0) ⟨Nat.zero_le _,hm,β',hr'⟩ ?_
 rintro ⟨k,s⟩ a w ⟨hk,hm,β,hr⟩
 refine wpIn_mono (round k s (fun s'=>Bo B D (L.drop (k+1)) (k+1) s') hk (fun hlt => ?_) (fun hge => ?_) β a w hr) ?_
 ·have hm':Bo B D (L.drop k) k s=some res:=hm
  rw [List.drop_eq_getElem_cons hlt] at hm'
  have e:L.getD k d=L[k]:=by simp [hlt]
  rw [e]
  exact hm'
 ·have hm':Bo B D (L.drop k) k s=some res:=hm
  rw [List.drop_eq_nil_of_le (by omega)] at hm'
  exact hm'
 ·rintro e a' w' ⟨β',σ',q,r⟩
  cases e with
  | normal =>
   obtain ⟨s',⟨h1,h2⟩,h3⟩:=q
   obtain ⟨β'',r'⟩:=h3 β' a' w' r
   exact ⟨(k+1,s'),⟨h1,h2,β'',r'⟩,by simp only; omega⟩
  | _=>exact ⟨β',σ',q,r⟩
theorem DW.forO {S R:Type} {c:Code} {r:List Code} (I:Int→S→St) {B:Int→S→(S→Option R)→Option R} {D:S→Option R} {lo hi:Int} {s0:S} {res:R} (hm:Dm.forO B D (hi-lo).toNat lo s0=some res)
  (h0:Conv cx σ (I lo s0))
  (round:∀ k s N,lo≤k→(k<hi→B k s N=some res)→(¬ k<hi→D s=some res)→DW P cx [c] (I k s) (Tw cx (fun s=>I (k+1) s) (fun s'=>k<hi∧N s'=some res) (KQ P cx r Q))) :
  DW P cx (.loop c::r) σ Q:=by
 intro β a w hr
 obtain ⟨β',hr'⟩:=h0 β a w hr
 refine Ux (ι:=Int×S) (fun i a w=>lo≤i.1∧Dm.forO B D (hi-i.1).toNat i.1 i.2=some res∧∃ β,Rel cx β (I i.1 i.2) a w) (fun i=>(hi-i.1).toNat) (lo,s0) ⟨Int.le_refl _,hm,β',hr'⟩ ?_
 rintro ⟨k,s⟩ a w ⟨hk,hm,β,hr⟩
 have hm':Dm.forO B D (hi-k).toNat k s=some res:=hm
 refine wpIn_mono (round k s (fun s'=>Dm.forO B D (hi-(k+1)).toNat (k+1) s') hk (fun hlt => ?_) (fun hge => ?_) β a w hr) ?_
 ·rw [show (hi-k).toNat=(hi-(k+1)).toNat+1 by omega] at hm'
  exact hm'
 ·rw [show (hi-k).toNat=0 by omega] at hm'
  exact hm'
 ·rintro e a' w' ⟨β',σ',q,r⟩
  cases e with
  | normal =>
   obtain ⟨s',⟨h1,h2⟩,h3⟩:=q
   obtain ⟨β'',r'⟩:=h3 β' a' w' r
   have hk':lo≤k:=hk
   exact ⟨(k+1,s'),⟨by simp only; omega,h2,β'',r'⟩,by simp only; omega⟩
  | _=>exact ⟨β',σ',q,r⟩
end
def frz1 (ob:Bh) (k:Nat):MV→MV
 | .own j g off len=>bif Nat.beq j k then (match Mg ob k g with
  | some (W,_,f) => .p (.sl .unk W len (shF off f))
  | none => .any) else .own j g off len
 | .mref j g=>bif Nat.beq j k then (match Vx ob k g with
  | some (z,has,f) => .p (.mp z has f)
  | none => .any) else .mref j g
 | .ref j g off=>bif Nat.beq j k then .any else .ref j g off
 | .eref j g i off=>bif Nat.beq j k then .any else .eref j g i off
 | .p x => .p x
 | .fptr cs => .fptr cs
 | .und => .und
 | _ => .any
def frzN (ob:Bh) (k:Nat):Nat→MV→MV
 | 0,x=>frz1 ob k x
 | d+1,.agg cs => .agg (cs.map (frzN ob k d))
 | d+1,.tup cs => .tup (cs.map (frzN ob k d))
 | d+1,.fn f cs => .fn f (cs.map (frzN ob k d))
 | _+1,x=>frz1 ob k x
def frzB (ob:Bh) (k:Nat):Body→Body
 | .box cs => .box (cs.map (frzN ob k 1))
 | b=>b
def frzS (ob:Bh) (k:Nat):List (Nat×MV)→List (Nat×MV)
 | [] => []
 | (t,x)::r=>(t,frzN ob k 2 x)::frzS ob k r
def Sr (ob:Bh) (k:Nat):List (Nat×Obj)→List (Nat×Obj)
 | [] => []
 | (j,o)::r=>bif Nat.beq j k then Sr ob k r else (j,⟨o.gen,frzB ob k o.body⟩)::Sr ob k r
theorem frzB_same (ob:Bh) (k:Nat) (b:Body):b.same (frzB ob k b):=by cases b <;> simp [frzB,Body.same]
theorem Ys (ob:Bh) (k:Nat) (b:Body):(frzB ob k b).live↔b.live:=by cases b <;> simp [frzB,Body.live]
theorem frzS_get (ob:Bh) (k:Nat) (sl:List (Nat×MV)) (t:Nat):(assoc (frzS ob k sl) t).getD .any=frzN ob k 2 ((assoc sl t).getD .any):=by
 induction sl with
 | nil=>rfl
 | cons p r ih =>
  obtain ⟨j,x⟩:=p
  simp only [frzS,assoc]
  cases Nat.beq t j with
  | true=>rfl
  | false=>exact ih
theorem AhT (ob:Bh) (k:Nat) (l:List (Nat×Obj)) (j:Nat):(j=k∧assoc (Sr ob k l) j=none)∨(j≠k∧assoc (Sr ob k l) j=(assoc l j).map fun o=>⟨o.gen,frzB ob k o.body⟩):=by
 induction l with
 | nil=>by_cases h:j=k <;> simp [Sr,assoc,h]
 | cons p r ih =>
  obtain ⟨i,o⟩:=p
  simp only [Sr]
  cases hik:Nat.beq i k with
  | true =>
   have e:=Nat.eq_of_beq_eq_true hik
   subst e
   simp only [cond_true]
   rcases ih with ih|⟨h1,h2⟩
   ·exact .inl ih
   ·refine .inr ⟨h1,?_⟩
    simp only [assoc]
    rw [Mh h1]
    exact h2
  | false =>
   simp only [cond_false,assoc]
   have hne:i≠k:=fun e=>by rw [e,Cq] at hik; simp at hik
   cases hji:Nat.beq j i with
   | true =>
    have e:=Nat.eq_of_beq_eq_true hji
    subst e
    exact .inr ⟨hne,rfl⟩
   | false=>simpa using ih
section
variable {P : Program} {T:Ty} {cx:Cx} {β:Bu} {σ:St} {a:Act} {w:World} {Q:Exit→St→Prop}
theorem frz_sound {objs objs':Bh} {S S':Nat→Prop} {k:Nat} (hS:∀ b,S b→S' b)
  (hother:∀ j o,j≠k→objs j=some o→∃ o',objs' j=some o'∧o'.gen=o.gen∧o.body.same o'.body)
  (hrow:∀ g W n f off len base c,objs k=some ⟨g,.row W n f⟩→OwnAt (β k) (.row W n f) off len base c→Rep S' w (.slice base len c) (.sl .unk W len (shF off f)))
  (hmap:∀ g z has f b,objs k=some ⟨g,.mp z has f⟩→β k = .box b→Rep S' w (.map (some b)) (.mp z has f)) :
  ∀ (d:Nat) (v:Value) (x:MV),RelV β objs S w v x→RelV β objs' S' w v (frzN objs k d x):=by
 have known:∀ (j g:Nat) (F:Loc→Body→Prop),(∀ l b c,F l b→b.same c→F l c)→j≠k→Known β objs j g F→Known β objs' j g F:=by
  intro j g F hF hj hk
  obtain ⟨o,ho,hle,hf⟩:=hk
  obtain ⟨o',h1,h2,h3⟩:=hother j o hj ho
  exact ⟨o',h1,by omega,fun e=>hF _ _ _ (hf (by omega)) h3⟩
 have hne:∀ j,Nat.beq j k=false→j≠k:=fun j hb e=>by rw [e,Cq] at hb; simp at hb
 have one:∀ (v:Value) (x:MV),RelV β objs S w v x→RelV β objs' S' w v (frz1 objs k x):=by
  intro v x h
  cases h with
  | p _ _ h=>exact .p _ _ (h.mono hS (fun _ _=>rfl))
  | own j g off len base c h =>
   simp only [frz1]
   cases hb:Nat.beq j k with
   | false=>exact .own _ _ _ _ _ _ (known j g _ (fun _ _ _ h hs=>OwnAt.same h hs) (hne j hb) h)
   | true =>
    have e:=Nat.eq_of_beq_eq_true hb
    subst e
    simp only [cond_true]
    split
    ·rename_i W n f hg
     have ho:=Gn hg
     obtain ⟨o,ho',hle,hf⟩:=h
     rw [ho] at ho'
     injection ho' with ho'
     subst ho'
     exact .p _ _ (hrow _ _ _ _ _ _ _ _ ho (hf rfl))
    ·exact .any _
  | ref j g off b h =>
   simp only [frz1]
   cases hb:Nat.beq j k with
   | true=>exact .any _
   | false=>exact .ref _ _ _ _ (known j g _ (fun _ _ _ h _=>h) (hne j hb) h)
  | eref j g i off b oo h =>
   simp only [frz1]
   cases hb:Nat.beq j k with
   | true=>exact .any _
   | false=>exact .eref _ _ _ _ _ _ (known j g _ (fun _ _ _ h hs=>ERefAt.same h hs) (hne j hb) h)
  | fptr cs b o hs c hc h1 hr=>exact .fptr _ _ _ (hS _ hs) c hc h1 (fun j x hx=>(hr j x hx).mono hS (fun _ _=>rfl))
  | mref j g b h =>
   simp only [frz1]
   cases hb:Nat.beq j k with
   | false=>exact .mref _ _ _ (known j g _ (fun _ _ _ h _=>h) (hne j hb) h)
   | true =>
    have e:=Nat.eq_of_beq_eq_true hb
    subst e
    simp only [cond_true]
    split
    ·rename_i z has f hg
     have ho:=Rr hg
     obtain ⟨o,ho',hle,hf⟩:=h
     rw [ho] at ho'
     injection ho' with ho'
     subst ho'
     exact .p _ _ (hmap _ _ _ _ _ ho (hf rfl))
    ·exact .any _
  | und=>exact .und
  | _=>exact .any _
 intro d
 induction d with
 | zero=>exact one
 | succ d ih =>
  intro v x h
  cases h with
  | agg cs vs hl hr h1 =>
   refine .agg _ _ (by simpa using hl) (fun i y hy => ?_) (fun i y hy => ?_)
   ·rw [List.getElem?_map] at hy
    cases hq:cs[i]? with
    | none=>simp [hq] at hy
    | some q=>simp [hq] at hy; subst hy; exact ih _ _ (hr i q hq)
   ·rw [List.getElem?_map] at hy
    cases hq:cs[i]? with
    | none=>simp [hq] at hy
    | some q=>exact h1 i q hq
  | tup cs vs hl hr =>
   refine .tup _ _ (by simpa using hl) (fun i y hy => ?_)
   rw [List.getElem?_map] at hy
   cases hq:cs[i]? with
   | none=>simp [hq] at hy
   | some q=>simp [hq] at hy; subst hy; exact ih _ _ (hr i q hq)
  | fn f cs vs hl hr =>
   refine .fn _ _ _ (by simpa using hl) (fun i y hy => ?_)
   rw [List.getElem?_map] at hy
   cases hq:cs[i]? with
   | none=>simp [hq] at hy
   | some q=>simp [hq] at hy; subst hy; exact ih _ _ (hr i q hq)
  | p _ _ h=>exact one _ _ (.p _ _ h)
  | own i g off len base c h=>exact one _ _ (.own _ _ _ _ _ _ h)
  | ref i g off b h=>exact one _ _ (.ref _ _ _ _ h)
  | eref i g ix off b oo h=>exact one _ _ (.eref _ _ _ _ _ _ h)
  | fptr cs b o hs c hc h1 hr=>exact one _ _ (.fptr _ _ _ hs c hc h1 hr)
  | mref i g b h=>exact one _ _ (.mref _ _ _ h)
  | und=>exact one _ _ .und
  | any v=>exact one _ _ (.any v)
theorem Rel.freeze (k:Nat) {sl:List (Nat×MV)} {ob:List (Nat×Obj)} (h:Rel cx β (Af sl ob) a w):Rel cx β (Af (frzS (assoc ob) k sl) (Sr (assoc ob) k ob)) a w:=by
 have hob:∀ j o',assoc (Sr (assoc ob) k ob) j=some o'→j≠k∧∃ o,assoc ob j=some o∧o'=⟨o.gen,frzB (assoc ob) k o.body⟩:=by
  intro j o' hj
  rcases AhT (assoc ob) k ob j with ⟨_,h2⟩|⟨h1,h2⟩
  ·rw [h2] at hj; simp at hj
  ·rw [h2] at hj
   cases hq:assoc ob j with
   | none=>simp [hq] at hj
   | some o=>simp [hq] at hj; exact ⟨h1,o,rfl,hj.symm⟩
 have hother:∀ j o,j≠k→assoc ob j=some o→∃ o',assoc (Sr (assoc ob) k ob) j=some o'∧o'.gen=o.gen∧o.body.same o'.body:=by
  intro j o hj ho
  rcases AhT (assoc ob) k ob j with ⟨h1,_⟩|⟨_,h2⟩
  ·exact absurd h1 hj
  ·exact ⟨⟨o.gen,frzB (assoc ob) k o.body⟩,by rw [h2,ho]; rfl,rfl,frzB_same _ _ _⟩
 have hS:∀ b,As cx.Av β (assoc ob) w b→As cx.Av β (assoc (Sr (assoc ob) k ob)) w b:=by
  intro b hb
  refine ⟨hb.1,hb.2.1,fun j o' hj hlive => ?_⟩
  obtain ⟨_,o,q1,rfl⟩:=hob j o' hj
  exact hb.2.2 j o q1 ((Ys _ _ _).1 hlive)
 have hSk:∀ o b,assoc ob k=some o→o.body.live→(β k).block=some b→As cx.Av β (assoc (Sr (assoc ob) k ob)) w b:=by
  intro o b ho hl hb
  have hblk:=h.blk k o b ho hl hb
  refine ⟨hblk.1,hblk.2.1,fun j o' hj hlive => ?_⟩
  obtain ⟨hjk,q,q1,rfl⟩:=hob j o' hj
  exact h.inj k j o q b ho q1 hl ((Ys _ _ _).1 hlive) (Ne.symm hjk) hb
 have hrow:∀ g W n f off len base c,assoc ob k=some ⟨g,.row W n f⟩→OwnAt (β k) (.row W n f) off len base c→Rep (As cx.Av β (assoc (Sr (assoc ob) k ob)) w) w (.slice base len c) (.sl .unk W len (shF off f)):=by
  intro g W n f off len base c ho1 hown
  obtain ⟨hle,hl⟩:=hown
  rcases h.ob k _ ho1 with ⟨hl',hn0⟩|⟨b,o,cap,cur,e',hl',hheap,hcap,hnn,hrow⟩
  ·rw [hl'] at hl
   obtain ⟨hbase,rfl,rfl,rfl⟩:=hl
   rcases hbase with rfl|⟨bb,oo,rfl⟩
   ·exact .slnil _ _ _ (by simp)
   ·exact .sl _ _ _ _ _ _ _ (fun _ _=>undef) (by simp) (Nat.le_refl _) (fun e=>by simp at e) (fun i hi=>by omega) (fun i j hi=>by omega) (fun i j hi=>by omega) (fun i j x hi=>by omega)
  ·rw [hl'] at hl
   obtain ⟨b',o',rfl,hcc,hadr⟩:=hl
   by_cases hlen0:len=0
   ·subst hlen0
    exact .sl _ _ _ _ _ _ _ (fun _ _=>undef) (by simp) (Nat.zero_le _) (fun e=>by simp at e) (fun i hi=>by omega) (fun i j hi=>by omega) (fun i j hi=>by omega) (fun i j x hi=>by omega)
   ·obtain ⟨rfl,rfl⟩:=hadr (by omega)
    have hSb:=hSk _ b' ho1 trivial (by rw [hl']; rfl)
    have hcell:∀ j,w.cell? (at_ b' j)=cur[j]? := fun j=>cell_of_row w b' j cur e' (0,0) hheap
    have hgetc:∀ i j,i<len→j<W→∃ u,cur[o+off*W+(i*W+j)]? = some u∧u.oneCell'=true:=by
     intro i j hi hj
     obtain ⟨q1,q2⟩:=hrow (off+i) (by omega)
     obtain ⟨u,u1,u2,_⟩:=q2 j (f (off+i))[j] (List.getElem?_eq_getElem (by omega))
     exact ⟨u,by rw [← u1]; congr 1; rw [Nat.add_mul]; omega,u2⟩
    refine .sl _ _ _ _ _ _ _ (fun i j=>cur.getD (o+off*W+(i*W+j)) undef) (by simp) (by omega) (fun _=>hSb) (fun i hi => ?_) (fun i j hi hj => ?_) (fun i j hi hj => ?_) (fun i j x hi hx => ?_)
    ·rw [Wp]; exact (hrow (off+i) (by omega)).1
    ·obtain ⟨u,u1,_⟩:=hgetc i j hi hj
     rw [hcell,Array.getD_eq_getD_getElem?,u1]
     rfl
    ·obtain ⟨u,u1,u2⟩:=hgetc i j hi hj
     rw [Array.getD_eq_getD_getElem?,u1]
     exact u2
    ·rw [Wp] at hx
     obtain ⟨u,u1,u2,u3⟩:=(hrow (off+i) (by omega)).2 j x hx
     have e2:o+(off+i)*W+j=o+off*W+(i*W+j):=by rw [Nat.add_mul]; omega
     rw [← e2,Array.getD_eq_getD_getElem?,u1]
     exact u3.mono hS (fun _ _=>rfl)
 have hmap:∀ g z has f b,assoc ob k=some ⟨g,.mp z has f⟩→β k = .box b→Rep (As cx.Av β (assoc (Sr (assoc ob) k ob)) w) w (.map (some b)) (.mp z has f):=by
  intro g z has f b ho1 hl
  obtain ⟨b1,es,clock,hl1,hh,hm,hz,hr⟩:=h.ob k _ ho1
  rw [hl] at hl1
  injection hl1 with hl1
  subst hl1
  exact .mp _ _ _ _ _ _ (hSk _ b ho1 trivial (by rw [hl]; rfl)) hh hm hz (fun i e n he hn=>(hr i e n he hn).mono hS (fun _ _=>rfl))
 have snd:=frz_sound (β:=β) (w:=w) (objs:=assoc ob) (objs':=assoc (Sr (assoc ob) k ob)) (k:=k) hS hother hrow hmap
 refine ⟨h.nd,h.sz,fun t => ?_,fun j o' ho => ?_,fun j o' b ho hl hb => ?_,fun j j' o o' b ho ho' hl hl' hne hb => ?_,h.kept,h.avo,h.avlt,h.mle,fun j o' hj ho hg => ?_⟩
 ·show RelV β (assoc (Sr (assoc ob) k ob)) _ w _ ((assoc (frzS (assoc ob) k sl) t).getD .any)
  rw [frzS_get]
  exact snd 2 _ _ (h.sl t)
 ·obtain ⟨hjk,o,h1,rfl⟩:=hob j o' ho
  have:=h.ob j o h1
  cases hbd:o.body with
  | dead=>trivial
  | mq q=>rw [hbd] at this; exact QRel.mono hS (fun _ _=>rfl) (fun _ _=>rfl) this
  | row W n f =>
   rw [hbd] at this
   rcases this with q|⟨b,oo,cap,cur,e,rfl',q1,q2,q3,q4⟩
   ·exact .inl q
   ·exact .inr ⟨b,oo,cap,cur,e,rfl',q1,q2,q3,fun i hi=>⟨(q4 i hi).1,(q4 i hi).2.mono hS (fun _ _=>rfl)⟩⟩
  | mp z has f =>
   rw [hbd] at this
   obtain ⟨b,es,clock,q0,q1,q2,q3,q4⟩:=this
   exact ⟨b,es,clock,q0,q1,q2,q3,fun i e n he hn=>(q4 i e n he hn).mono hS (fun _ _=>rfl)⟩
  | box cs =>
   rw [hbd] at this
   obtain ⟨b,cur,e,q0,q1,q2,q3⟩:=this
   refine ⟨b,cur,e,q0,q1,by simpa [frzB] using q2,fun i x hx => ?_⟩
   rw [List.getElem?_map] at hx
   cases hq:cs[i]? with
   | none=>simp [hq] at hx
   | some q =>
    simp [hq] at hx
    subst hx
    obtain ⟨u,u1,u2,u3⟩:=q3 i q hq
    exact ⟨u,u1,u2,snd 1 _ _ u3⟩
 ·obtain ⟨_,o,h1,rfl⟩:=hob j o' ho
  exact h.blk j o b h1 ((Ys _ _ _).1 hl) hb
 ·obtain ⟨_,q,h1,rfl⟩:=hob j o ho
  obtain ⟨_,r,g1,rfl⟩:=hob j' o' ho'
  exact h.inj j j' q r b h1 g1 ((Ys _ _ _).1 hl) ((Ys _ _ _).1 hl') hne hb
 ·obtain ⟨_,o,h1,rfl⟩:=hob j o' ho
  exact h.oloc j o hj h1 hg
theorem Conv.freeze (k:Nat) {sl:List (Nat×MV)} {ob:List (Nat×Obj)} : Conv cx (Af sl ob) (Af (frzS (assoc ob) k sl) (Sr (assoc ob) k ob)):=fun _ _ _ hr=>⟨_,hr.freeze k⟩
def AfP : List Nat→List (Nat×MV)×List (Nat×Obj)→List (Nat×MV)×List (Nat×Obj)
 | [],s=>s
 | k::r,(sl,ob)=>AfP r (frzS (assoc ob) k sl,Sr (assoc ob) k ob)
theorem Conv.freezes (ks:List Nat):∀ {sl sl':List (Nat×MV)} {ob ob':List (Nat×Obj)},AfP ks (sl,ob)=(sl',ob')→Conv cx (Af sl ob) (Af sl' ob'):=by
 induction ks with
 | nil =>
  intro sl sl' ob ob' h
  simp only [AfP,Prod.mk.injEq] at h
  obtain ⟨rfl,rfl⟩:=h
  exact .refl
 | cons k r ih =>
  intro sl sl' ob ob' h
  exact (Conv.freeze k).trans (ih h)
end
end Go.Dm

/- The data machine, part 21: rows of typed elements, words for numbers, the end of a region. -/
namespace Go.Dm
abbrev w64 (n:Int):Int:=IntKind.i64.wrap n
def kand (k:IntKind) (a b:Int):Int:=k.wrap ((BitVec.ofInt k.bits a &&& BitVec.ofInt k.bits b).toNat)
def kxor (k:IntKind) (a b:Int):Int:=k.wrap ((BitVec.ofInt k.bits a ^^^ BitVec.ofInt k.bits b).toNat)
def Xu (k:IntKind) (a b:Int):Int:=k.wrap ((BitVec.ofInt k.bits a &&& ~~~(BitVec.ofInt k.bits b)).toNat)
def kshl (k:IntKind) (a b:Int):Int:=k.wrap (a*2 ^ (min b.toNat k.bits))
def kshr (k:IntKind) (a b:Int):Int:=a.fdiv (2 ^ (min b.toNat k.bits))
def Fi (a b:ByteArray):Bool:=a.toList==b.toList
theorem Bt {k n:Nat} (h:k<n) (hn:n≤9223372036854775807):IntKind.i64.wrap ((k:Int)+1)=((k+1:Nat):Int):=by
 rw [Abn (by omega) (by omega)]
 omega
theorem Rm {i hi:Int} {lo:Int} (hlo : -9223372036854775808≤lo) (h0:lo≤i) (h:i<hi) (hh:hi≤9223372036854775807):IntKind.i64.wrap (i+1)=i+1 :=
 Abn (by omega) (by omega)
section
variable {α : Type} {W:Nat} {enc:α→List PV} {d:α}
structure RowIs (enc:α→List PV) (d:α) (n:Nat) (f:Nat→List PV) (L:List α):Prop where
 len:n=L.length
 get:∀ i,i<n→f i=enc (L.getD i d)
theorem RowIs.elems {L:List α} : RowIs enc d L.length (elems enc d L) L:=⟨rfl,fun _ _=>rfl⟩
theorem RowIs.cat {n m:Nat} {f g:Nat→List PV} {L M:List α} (h:RowIs enc d n f L) (k:RowIs enc d m g M):RowIs enc d (n+m) (De n f g) (L++M):=by
 refine ⟨by simp [h.len,k.len],fun i hi => ?_⟩
 have e1:=h.len
 by_cases hlt:i<n
 ·have hb:Nat.blt i n=true:=Nat.ble_eq_true_of_le hlt
  simp only [De,hb,cond_true]
  rw [h.get i hlt]
  simp [List.getD_eq_getElem?_getD,List.getElem?_append_left (show i<L.length by omega)]
 ·have hb:Nat.blt i n=false:=by
   cases hb:Nat.blt i n with
   | false=>rfl
   | true=>exact absurd (Nat.le_of_ble_eq_true hb) hlt
  simp only [De,hb,cond_false]
  rw [k.get (i-n) (by omega)]
  simp [List.getD_eq_getElem?_getD,List.getElem?_append_right (show L.length≤i by omega),e1]
theorem RowIs.upd {n i:Nat} {f:Nat→List PV} {L:List α} {c:List PV} (h:RowIs enc d n f L) (x:α) (hc:c=enc x):RowIs enc d n (Bs f i c) (L.set i x):=by
 subst hc
 have e1:=h.len
 refine ⟨by simp [h.len],fun j hj => ?_⟩
 by_cases hji:j=i
 ·subst hji
  simp [Bs,Cq,List.getD_eq_getElem?_getD,show j<L.length by omega]
 ·simp only [Bs,Mh hji,cond_false]
  rw [h.get j hj]
  simp [List.getD_eq_getElem?_getD,List.getElem?_set_ne (Ne.symm hji)]
theorem shF_val (off:Nat) (f:Nat→List PV) (i:Nat):shF off f i=f (off+i):=by
 unfold shF
 cases h:Nat.beq off 0 with
 | true=>have:=Nat.eq_of_beq_eq_true h; subst this; simp
 | false=>rfl
theorem RowIs.sub {n off len:Nat} {f:Nat→List PV} {L:List α} (h:RowIs enc d n f L) (hle:off+len≤n):RowIs enc d len (shF off f) ((L.drop off).take len):=by
 have e1:=h.len
 refine ⟨by simp; omega,fun i hi => ?_⟩
 rw [shF_val,h.get (off+i) (by omega)]
 simp [List.getD_eq_getElem?_getD,List.getElem?_take,hi]
theorem RowIs.take {n len:Nat} {f:Nat→List PV} {L:List α} (h:RowIs enc d n f L) (hle:len≤n):RowIs enc d len f (L.take len):=by
 have e1:=h.len
 refine ⟨by simp; omega,fun i hi => ?_⟩
 rw [h.get i (by omega)]
 simp [List.getD_eq_getElem?_getD,List.getElem?_take,hi]
theorem RowIs.nil {f:Nat→List PV} : RowIs enc d 0 f []:=⟨rfl,fun i hi=>absurd hi (Nat.not_lt_zero i)⟩
theorem RowIs.lit {n:Nat} {f:Nat→List PV} (L:List α) (hn:n=L.length) (h:∀ i,i<n→f i=enc (L.getD i d)):RowIs enc d n f L:=⟨hn,h⟩
def Jr (L:List α) (a n:Nat) (x:α):List α:=L.take a++(List.replicate n x++L.drop (a+n))
def Oe (L:List α) (a n:Nat) (M:List α):List α:=L.take a++(M.take n++L.drop (a+n))
theorem inR_true {a b j:Nat} (h1:a≤j) (h2:j<b):inR a b j=true:=by
 simp [inR,Nat.ble_eq_true_of_le h1,Nat.blt,Nat.ble_eq_true_of_le h2]
theorem inR_false {a b j:Nat} (h:¬ (a≤j∧j<b)):inR a b j=false:=by
 cases hb:inR a b j with
 | false=>rfl
 | true =>
  simp only [inR,Bool.and_eq_true] at hb
  exact absurd ⟨Nat.le_of_ble_eq_true hb.1,Nat.le_of_ble_eq_true hb.2⟩ h
theorem RowIs.over {n a m:Nat} {f g:Nat→List PV} {L M:List α} {q:Nat} (h:RowIs enc d n f L) (k:RowIs enc d q g M) (hm:m≤q) (hle:a+m≤n):RowIs enc d n (Kw f a m g) (Oe L a m M):=by
 have e1:=h.len
 have e2:=k.len
 refine ⟨by simp [Oe]; omega,fun i hi => ?_⟩
 by_cases hin:a≤i∧i<a+m
 ·simp only [Kw,inR_true hin.1 hin.2,cond_true]
  rw [k.get (i-a) (by omega)]
  unfold Oe
  simp only [List.getD_eq_getElem?_getD]
  rw [List.getElem?_append_right (by simp; omega),List.getElem?_append_left (by simp; omega),List.getElem?_take]
  simp [show min a L.length=a by omega,show i-a<m by omega]
 ·simp only [Kw,inR_false hin,cond_false]
  rw [h.get i hi]
  unfold Oe
  simp only [List.getD_eq_getElem?_getD]
  by_cases hlt:i<a
  ·rw [List.getElem?_append_left (by simp; omega),List.getElem?_take]
   simp [hlt]
  ·rw [List.getElem?_append_right (by simp; omega),List.getElem?_append_right (by simp; omega),List.getElem?_drop]
   congr 2
   simp
   congr 1
   omega
theorem RowIs.fill {n a m:Nat} {f:Nat→List PV} {L:List α} {zs:List PV} (h:RowIs enc d n f L) (x:α) (hz:zs=enc x) (hle:a+m≤n):RowIs enc d n (Kw f a m (fun _=>zs)) (Jr L a m x):=by
 subst hz
 have k:RowIs enc d m (fun _=>enc x) (List.replicate m x):=⟨by simp,fun i hi=>by simp [List.getD_eq_getElem?_getD,hi]⟩
 have:=h.over k (Nat.le_refl m) hle
 refine ⟨?_,?_⟩
 ·have:=this.len
  simp [Oe,Jr] at this ⊢
  omega
 ·intro i hi
  rw [this.get i hi]
  simp [Oe,Jr]
theorem BLe.typed {n:Nat} {f:Nat→List PV} {L:List α} (h:RowIs enc d n f L):BLe (.row W n f) (Hj W enc d L) := .row h.len h.get
theorem PLe.typed {fl:Fl} {n:Nat} {f:Nat→List PV} {L:List α} (h:RowIs enc d n f L):PLe (.sl fl W n f) (Ly W enc d L) := .sl (.inl (Eq.refl _)) h.len h.get
theorem MLe.typed {fl:Fl} {n:Nat} {f:Nat→List PV} {L:List α} (h:RowIs enc d n f L):MLe (.p (.sl fl W n f)) (.p (Ly W enc d L)) := .p (PLe.typed h)
theorem PLe.nilL {W':Nat} {fl:Fl} {f:Nat→List PV} : PLe (.sl fl W' 0 f) (Ly W enc d ([]:List α)) := .empty (.inl (Eq.refl _))
theorem MLe.nilL {W':Nat} {fl:Fl} {f:Nat→List PV} : MLe (.p (.sl fl W' 0 f)) (.p (Ly W enc d ([]:List α))) := .p PLe.nilL
theorem MLe.ownLen {k g off n:Nat} {L:List α} {f:Nat→List PV} (h:RowIs enc d n f L):MLe (.own k g off n) (.own k g off L.length) := .of_eq (by rw [h.len])
end
section
variable {P : Program} {T:Ty} {cx:Cx} {σ:St} {Q:Exit→St→Prop}
end
end Go.Dm

/- The data machine, part 22: more words for the printed proofs. -/
namespace Go.Dm
abbrev vk (k:IntKind) (n:Int):PV := .v (.int k n)
def encK (k:IntKind) (n:Int):List PV := [vk k n]
def Eg {α:Type} (W:Nat) (enc:α→List PV) (d:α) (L:List α):List PV := [Ly W enc d L]
def bs (l:List UInt8):ByteArray:=ByteArray.mk l.toArray
def Jx (s:ByteArray):List Int:=(List.range s.size).map fun i=>((Bx s i:Nat):Int)
theorem Rk (s:ByteArray):(Jx s).length=s.size:=by simp [Jx]
theorem RowIs.bytes {s:ByteArray} : RowIs (encK .u8) 0 s.size (Acr s) (Jx s):=by
 refine ⟨(Rk s).symm,fun i hi => ?_⟩
 simp [Acr,encK,Jx,List.getD_eq_getElem?_getD,hi]
theorem RowIs.asP {α:Type} {enc:α→List PV} {d:α} {n:Nat} {f:Nat→List PV} {L:List α} (h:RowIs enc d n f L):n=L.length∧∀ i,i<n→f i=(Dm.elems enc d L) i:=⟨h.len,h.get⟩
theorem RowIs.updR {α:Type} {enc:α→List PV} {d:α} {n j off:Nat} {f:Nat→List PV} {L:List α} {ps:List PV} (h:RowIs enc d n f L) (hj:j<n) (x:α) (hc:setRange (enc (L.getD j d)) off ps=enc x) :
  RowIs enc d n (Bs f j (setRange (f j) off ps)) (L.set j x):=by
 have e:=h.get j hj
 rw [e]
 exact h.upd x hc
theorem AeH (a b:Nat):Hn a b≤a∧Hn a b≤b:=by
 unfold Hn
 cases h:Nat.ble a b with
 | true=>have:=Nat.le_of_ble_eq_true h; simp; omega
 | false =>
  have:¬ a≤b:=fun hle=>by rw [Nat.ble_eq_true_of_le hle] at h; simp at h
  simp; omega
section
variable {P : Program} {T:Ty} {cx:Cx} {σ:St} {Q:Exit→St→Prop}
theorem joinDone {ι:Type} {J:ι→St} {m:ι→Prop} (i:ι) (h1:m i) (h2:Conv cx σ (J i)):DW P cx [] σ (Tw cx J m Q):=⟨i,h1,h2⟩
theorem AdN {ι:Type} {J:ι→St} {m:ι→Prop} (i:ι) (h1:m i) (h2:Conv cx σ (J i)):KQ P cx [] (Tw cx J m Q) .normal σ:=⟨i,h1,h2⟩
theorem blockDone {ι:Type} {J:ι→St} {m:ι→Prop} {id:Nat} (i:ι) (h1:m i) (h2:Conv cx σ (J i)):DW P cx [] σ (Up id (KQ P cx [] (Tw cx J m Q))):=⟨i,h1,h2⟩
theorem Ao {ι:Type} {J:ι→St} {m:ι→Prop} {id:Nat} (h:Q (.exit id) σ):Tw cx J m Q (.exit id) σ:=h
end
abbrev slI (L:List Int):PV:=Ly 1 Au 0 L
abbrev roI (L:List Int):Body:=Hj 1 Au 0 L
abbrev elI (L:List Int):Nat→List PV:=elems Au 0 L
abbrev pm (l:List PV):List MV:=l.map .p
abbrev bx (cs:List MV):Obj:=⟨0,.box cs⟩
abbrev ob0 (b:Body):Obj:=⟨0,b⟩
abbrev pI (n:Int):MV := .p (vi n)
abbrev pB (b:Bool):MV := .p (vb b)
abbrev pS (s:ByteArray):MV := .p (vs s)
abbrev ow (k n:Nat):MV := .own k 0 0 n
abbrev rr (k:Nat):MV := .ref k 0 0
abbrev pT : Orc := .pk true
abbrev pF : Orc := .pk false
def sk : Nat→List Orc→List Orc
 | 0,l=>l
 | n+1,l => .skip::sk n l
theorem tt : true=true:=rfl
theorem ff : false=false:=rfl
theorem bt (b:Bool):b=true∨b=false:=by cases b <;> simp
abbrev an2 {p q:Prop} (h:p) (k:q):p∧p∧q:=⟨h,h,k⟩
abbrev an3 {p q:Prop} (h:p) (k:q):p∧p∧p∧q:=⟨h,h,h,k⟩
abbrev an4 {p q:Prop} (h:p) (k:q):p∧p∧p∧p∧q:=⟨h,h,h,h,k⟩
abbrev an5 {p q:Prop} (h:p) (k:q):p∧p∧p∧p∧p∧q:=⟨h,h,h,h,h,k⟩
abbrev an6 {p q:Prop} (h:p) (k:q):p∧p∧p∧p∧p∧p∧q:=⟨h,h,h,h,h,h,k⟩
abbrev an {p q:Prop} (h:p) (k:q):p∧q:=⟨h,k⟩
theorem nn0 (k:Nat):(0:Int)≤((k:Nat):Int):=Int.natCast_nonneg k
theorem ltc {k n:Nat} (h:k<n):((k:Nat):Int)<((n:Nat):Int):=Int.ofNat_lt.2 h
def nn : Nat→List Orc→List Orc
 | 0,l=>l
 | n+1,l => .no::nn n l
def Ss (ps:List (Nat×MV)):List (Nat×MV)→List (Nat×MV)
 | [] => []
 | (t,x)::r=>(t,(assoc ps t).getD x)::Ss ps r
def Rd (qs:List (Nat×Body)):List (Nat×Obj)→List (Nat×Obj)
 | [] => []
 | (k,o)::r=>(k,⟨o.gen,(assoc qs k).getD o.body⟩)::Rd qs r
inductive SP (sl:List (Nat×MV)):List (Nat×MV)→Prop where
 | nil:SP sl []
 | cons {t:Nat} {x y:MV} {ps:List (Nat×MV)} (e:assoc sl t=some y) (h:MLe x y) (r:SP sl ps):SP sl ((t,x)::ps)
inductive OP (ob:List (Nat×Obj)):List (Nat×Body)→Prop where
 | nil:OP ob []
 | cons {t g:Nat} {x y:Body} {ps:List (Nat×Body)} (e:assoc ob t=some ⟨g,y⟩) (h:BLe x y) (r:OP ob ps):OP ob ((t,x)::ps)
theorem Ajt (ps sl:List (Nat×MV)) (t:Nat):assoc (Ss ps sl) t=(assoc sl t).map fun x=>(assoc ps t).getD x:=by
 induction sl with
 | nil=>rfl
 | cons p r ih =>
  obtain ⟨k,x⟩:=p
  simp only [Ss,assoc]
  cases hb:Nat.beq t k with
  | true=>have:=Nat.eq_of_beq_eq_true hb; subst this; rfl
  | false=>exact ih
theorem AjB (qs:List (Nat×Body)) (ob:List (Nat×Obj)) (t:Nat):assoc (Rd qs ob) t=(assoc ob t).map fun o=>⟨o.gen,(assoc qs t).getD o.body⟩:=by
 induction ob with
 | nil=>rfl
 | cons p r ih =>
  obtain ⟨k,x⟩:=p
  simp only [Rd,assoc]
  cases hb:Nat.beq t k with
  | true=>have:=Nat.eq_of_beq_eq_true hb; subst this; rfl
  | false=>exact ih
theorem SP.get {sl ps:List (Nat×MV)} (h:SP sl ps) {t:Nat} {x:MV} (hx:assoc ps t=some x):∃ y,assoc sl t=some y∧MLe x y:=by
 induction h with
 | nil=>simp [assoc] at hx
 | @cons k x' y ps e h r ih =>
  simp only [assoc] at hx
  cases hb:Nat.beq t k with
  | true =>
   have:=Nat.eq_of_beq_eq_true hb
   subst this
   simp only [hb,cond_true,Option.some.injEq] at hx
   subst hx
   exact ⟨y,e,h⟩
  | false =>
   simp only [hb,cond_false] at hx
   exact ih hx
theorem OP.get {ob:List (Nat×Obj)} {ps:List (Nat×Body)} (h:OP ob ps) {t:Nat} {x:Body} (hx:assoc ps t=some x):∃ g y,assoc ob t=some ⟨g,y⟩∧BLe x y:=by
 induction h with
 | nil=>simp [assoc] at hx
 | @cons k g x' y ps e h r ih =>
  simp only [assoc] at hx
  cases hb:Nat.beq t k with
  | true =>
   have:=Nat.eq_of_beq_eq_true hb
   subst this
   simp only [hb,cond_true,Option.some.injEq] at hx
   subst hx
   exact ⟨g,y,e,h⟩
  | false =>
   simp only [hb,cond_false] at hx
   exact ih hx
theorem SP.le {sl ps:List (Nat×MV)} (h:SP sl ps) (t:Nat):MLe ((assoc (Ss ps sl) t).getD .any) ((assoc sl t).getD .any):=by
 rw [Ajt]
 cases hs:assoc sl t with
 | none=>exact .rfl
 | some y =>
  cases hp:assoc ps t with
  | none=>exact .rfl
  | some x =>
   obtain ⟨z,hz,hle⟩:=h.get hp
   rw [hs] at hz
   injection hz with hz
   subst hz
   exact hle
theorem OP.le {ob:List (Nat×Obj)} {ps:List (Nat×Body)} (h:OP ob ps) (t:Nat):(assoc (Rd ps ob) t=none∧assoc ob t=none)∨∃ g b c,assoc (Rd ps ob) t=some ⟨g,b⟩∧assoc ob t=some ⟨g,c⟩∧BLe b c:=by
 rw [AjB]
 cases hs:assoc ob t with
 | none=>exact .inl ⟨rfl,rfl⟩
 | some o =>
  right
  cases hp:assoc ps t with
  | none=>exact ⟨o.gen,o.body,o.body,rfl,rfl,.rfl⟩
  | some x =>
   obtain ⟨g,z,hz,hle⟩:=h.get hp
   rw [hs] at hz
   injection hz with hz
   subst hz
   exact ⟨g,x,z,rfl,rfl,hle⟩
section
variable {P : Program} {T:Ty} {cx:Cx} {σ:St} {Q:Exit→St→Prop}
theorem Conv.tp {sl:List (Nat×MV)} {ob:List (Nat×Obj)} (ps:List (Nat×MV)) (qs:List (Nat×Body)) (h:(Sg (Ch sl) (Ch ob) σ,Pu (Ch ob) σ)=(Ss ps sl,Rd qs ob)) (hs:SP sl ps) (ho:OP ob qs) :
  Conv cx σ (Af sl ob):=fun β a w r=>by
 have h1:=congrArg Prod.fst h
 have h2:=congrArg Prod.snd h
 simp only at h1 h2
 have:=r.norm (Ch sl) (Ch ob)
 rw [h1,h2] at this
 exact ⟨β,this.leF hs.le ho.le⟩
def Ye (P:Program) (T:Ty) (nt:Nat) (ops:Array Oper) (xs:List Orc) (ls lk:List Nat) (draw:Bool) (σ:St):Option ((List (Nat×MV)×List (Nat×Obj))×Prop) :=
 match dreg P T nt ops xs ls lk draw σ with
 | some (sl,ob,obl)=>some ((sl,ob),All obl)
 | none=>none
theorem DW.rn {nt:Nat} (hT:Kk P T) (hm:P.follows .mixedOrders=true) (hnt:cx.nt=nt) {ops:Array Oper} {id:Nat} {draw:Bool} {r:List Code} (xs:List Orc) (sl:List (Nat×MV)) (ob:List (Nat×Obj))
  (ps:List (Nat×MV)) (qs:List (Nat×Body)) {q:Prop} (hq:q) (h:Ye P T nt ops xs (Ch sl) (Ch ob) draw σ=some ((Ss ps sl,Rd qs ob),q)) (hs:SP sl ps) (ho:OP ob qs)
  (hQ:DW P cx r (Af sl ob) Q):DW P cx (.region id ops draw::r) σ Q:=by
 unfold Ye at h
 split at h
 case h_2=>simp at h
 rename_i sl' ob' obl hd
 simp only [Option.some.injEq,Prod.mk.injEq] at h
 obtain ⟨⟨rfl,rfl⟩,rfl⟩:=h
 subst hnt
 intro β a w hr
 have:=DWP.region (id:=id) (Q:=fun e σ'=>e = .normal∧σ'=Af (Ss ps sl) (Rd qs ob)) hT hm hd hq ⟨rfl,rfl⟩ β a w hr
 refine wpIn_mono this ?_
 rintro e a' w' ⟨β',σ',⟨rfl,rfl⟩,r'⟩
 exact ⟨β',_,hQ,r'.leF hs.le ho.le⟩
theorem DW.rk {nt:Nat} (hT:Kk P T) (hm:P.follows .mixedOrders=true) (hnt:cx.nt=nt) {ops:Array Oper} {id:Nat} {draw:Bool} {r:List Code} (xs:List Orc) (sl:List (Nat×MV)) (ob:List (Nat×Obj))
  {q:Prop} (hq:q) (h:Ye P T nt ops xs (Ch sl) (Ch ob) draw σ=some ((sl,ob),q)) (hQ:DW P cx r (Af sl ob) Q):DW P cx (.region id ops draw::r) σ Q:=by
 unfold Ye at h
 split at h
 case h_2=>simp at h
 rename_i sl' ob' obl hd
 simp only [Option.some.injEq,Prod.mk.injEq] at h
 obtain ⟨⟨rfl,rfl⟩,rfl⟩:=h
 subst hnt
 intro β a w hr
 exact DWP.region (id:=id) (Q:=KQ P cx r Q) hT hm hd hq hQ β a w hr
theorem RegTo.rn {nt:Nat} (hT:Kk P T) (hm:P.follows .mixedOrders=true) (hnt:cx.nt=nt) {ops:Array Oper} {draw:Bool} {sl:List (Nat×MV)} {ob:List (Nat×Obj)} (xs:List Orc)
  (ps:List (Nat×MV)) {q:Prop} (hq:q) (h:Ye P T nt ops xs (Ch sl) (Ch ob) draw σ=some ((Ss ps sl,ob),q)) (hs:SP sl ps):RegTo P cx ops draw σ sl ob :=
 fun id r Q hQ=>DW.rn (id:=id) hT hm hnt xs sl ob ps [] hq (by
  have:∀ (l:List (Nat×Obj)),Rd [] l=l:=by
   intro l
   induction l with
   | nil=>rfl
   | cons p r ih=>obtain ⟨k,o⟩:=p; simp [Rd,ih,assoc]
  rw [this]
  exact h) hs .nil hQ
end
end Go.Dm

/- The data machine, part 23: from a contract to a law's statement. -/
namespace Go.Dm
open Go.ChangeShapes Go.WideShapes Go.ChangeAt Go.RowKit
theorem Kept.sameAt {W W':World} (h:Kept (fun _=>False) W W') {p:MemPlace} (hp:p.block<W.heap.size):W.sameAt W' p:=by
 cases p with
 | cell b off=>exact World.cell?_of_block (h.block b hp id)
 | map b=>exact h.block b hp id
theorem Kept.but {W W':World} (h:Kept (fun _=>False) W W') (may:MemPlace→Prop):W.keptBut W' may:=by
 refine ⟨h.os,h.output,fun i hi => ?_⟩
 have:=h.block i hi id
 rw [this]
 cases W.heap[i]? with
 | none=>rfl
 | some o=>cases o <;> simp
section
variable {H : Type} {enc:TypeId×Value→H} {P:Program}
theorem AdF {W W':World} (h:Kept (fun _=>False) W W') {base:Nat} {sp:Nat→Bool} {held:Bool} : ∀ {ts:List TypeId} {vs:List Value} {ds:List (DataW H)} {ps:List MemPlace},
  DataW.TrodAll enc P W base sp held ts vs ds ps→DataW.TrodAll enc P W' base sp held ts vs ds ps
 | [],_,_,_,hh=>by
  obtain ⟨rfl,rfl,rfl⟩:=trodAll_nil hh
  exact trodAll_mk0
 | t::ts,vs,ds,ps,hh=>by
  have hlt:=hh.lt
  obtain ⟨v,vs1,d,ds1,a,b,rfl,rfl,rfl,h1,h2⟩:=trodAll_cons hh
  obtain ⟨n,hn⟩:=h1
  exact ⟨a,b,⟨n,DataW.trod_carry n _ _ _ hn (fun p hp=>h.sameAt (hlt p (List.mem_append_left _ hp)))⟩,AdF h h2,rfl⟩
theorem law_post {f:Func} {s:ChangeSpec} {apart fresh handsOn again:Bool} {W W':World} {args:Array Value} {ds gs:List (DataW H)} {before:List MemPlace} {tb:TypeId}
  (K:Kids P (· < P.types.size)) (full:∀ t e,t<P.types.size→P.underlying t=some (.slice e)→0<P.cellsOf e) (hts:∀ t∈f.params.toList,t<P.types.size)
  (hv:s.vars = []) (hrt:f.resultTypes = #[tb]) (htb:P.underlying tb=some .bool)
  (hW:DataW.Whole enc P f.params.toList s.vars apart W args.toList ds gs before)
  (hfn:s.fn H ds = { results := [.lit (.bool true)],args:=ds })
  (hk:Kept (fun _=>False) W W'):s.post enc P f apart fresh handsOn again W args (.bool true) W':=by
 have hW':=hW
 obtain ⟨p,q,hA,hV,rfl,hz,hn⟩:=hW
 rw [hv] at hV
 obtain ⟨rfl,rfl⟩:=trodVars_none hV
 have hlt:=hA.lt
 have hres:∀ (b:Nat) (sp:Nat→Bool) (hd:Bool),DataW.TrodAll enc P W' b sp hd f.resultTypes.toList ((Value.bool true).resultList f.resultTypes.size) (s.fn H (ds ++ [])).results []:=by
  intro b sp hd
  rw [List.append_nil,hfn,hrt]
  exact trodAll_cons_mk (shut_bool htb _) trodAll_mk0
 have hargs:∀ sp:Nat→Bool,(∀ x∈p,sp x.block=true)→DataW.TrodAll enc P W' 0 sp true f.params.toList args.toList (s.fn H (ds ++ [])).args p:=by
  intro sp hsp
  rw [List.append_nil,hfn]
  exact DataW.TrodAll.respare K full hts (AdF hk hA) hsp
 have hvars:∀ sp:Nat→Bool,DataW.TrodVars enc P W' sp s.vars (s.fn H (ds ++ [])).vars []:=by
  intro sp
  rw [List.append_nil,hfn,hv]
  rfl
 refine ⟨ds,[],p ++ [],[],p,[],hW',hres _ _ _,hargs _ (fun x hx=>by simpa using hlt x hx),hvars _,hk.but _,fun _=>⟨?_,?_⟩⟩
 ·intro j t r h1 h2
  rw [hrt] at h1 h2
  exact ok_one (f:=f) hrt rfl (okWide_bool_mk htb true) j t r (by rw [hrt]; exact h1) (by rw [hrt]; exact h2)
 ·refine ⟨_,_,([]++p) ++ [],⟨[]++p,[],trodAll_append (hargs _ (fun _ _=>rfl)) (hres _ _ _),hvars _,rfl,?_,?_⟩,?_⟩
  ·intro b off hp
   have hp':MemPlace.cell b off∈p:=by simpa using hp
   have hb:=hlt _ hp'
   have:=hz b off (by simpa using hp')
   rw [← this]
   exact World.frozen?_of_block (hk.block b hb id)
  ·intro ha
   have:=hn ha
   simpa using this
  ·intro x hx _
   simpa using hx
theorem arg_int {r:Reach} {b0 base:Nat} {sp:Nat→Bool} {held:Bool} {W:World} {t:TypeId} {k:IntKind} {v:Value} {d:DataW H} {ps:List MemPlace} (ht:P.underlying t=some (.int k)) (hval:Value.okWide P W r b0 t v)
  (hd:DataW.Trod enc P W base sp held t v d ps):∃ n,k.min≤n∧n≤k.max∧∀ (β:Bu) (objs:Bh) (S:Nat→Prop),RelV β objs S W v (.p (vk k n)):=by
 obtain ⟨n,rfl,rfl,rfl,hwf⟩:=open_int ht hval hd
 simp only [Lit.wf,Bool.and_eq_true,decide_eq_true_eq] at hwf
 exact ⟨n,hwf.1,hwf.2,fun _ _ _ => .p _ _ (.v _ rfl)⟩
theorem Aiq {r:Reach} {b0 base:Nat} {held:Bool} {W:World} {t e:TypeId} {v:Value} {d:DataW H} {ps:List MemPlace} (ht:P.underlying t=some (.slice e)) (he:P.underlying e=some (.int .i64)) (hc:P.cellsOf e=1)
  (hval:Value.okWide P W r b0 t v) (hd:DataW.Trod enc P W base (fun _=>true) held t v d ps) :
  ∃ L:List Int,(∀ n∈L,-9223372036854775808≤n∧n≤9223372036854775807)∧∀ (β:Bu) (objs:Bh) (S:Nat→Prop),(∀ p∈ps,S p.block)→RelV β objs S W v (.p (Ly 1 Au 0 L)):=by
 obtain ⟨fuel,hf⟩:=hd
 have hok:Cell.okWide P W r b0 t v:=by simpa [Value.okWide,ht] using hval
 have hcells:∀ (b:Option Addr) (n c:Nat),v.cells.toList = [.slice b n c]→v = .slice b n c:=by
  intro b n c hvc
  cases v <;> simp [Value.cells,Cell.okWide,Cell.ok,ht] at hvc hok ⊢
  exact hvc
 rcases open_ints ht he hc hf with ⟨h1,h2⟩|⟨a,len,cap,zs,h1,hb,hle,hmax,hlen,hx,hcell,hwf⟩
 ·have:=hcells _ _ _ h1
  subst this
  exact ⟨[],by simp,fun β objs S hS => .p _ _ (.slnil _ _ _ (by simp))⟩
 ·have:=hcells _ _ _ h1
  subst this
  have hps:ps=MemPlace.row a zs.length:=by injection hx
  have hzl:zs.length=cap:=by simpa using hlen
  refine ⟨zs.take len,fun n hn => ?_,fun β objs S hS => .p _ _ ?_⟩
  ·have:=hwf n (List.mem_of_mem_take hn)
   simpa [Lit.wf,IntKind.min,IntKind.max,IntKind.signed,IntKind.bits] using this
  ·have hspot:a.spot=none:=by
    simp only [Cell.okWide,Cell.ok,ht] at hok
    exact hok.2.2.2.1
   obtain ⟨b,off,spot⟩:=a
   simp only at hspot
   subst hspot
   have hl2:(zs.take len).length=len:=by simp; omega
   unfold Ly
   rw [hl2]
   refine .sl _ _ _ cap b off _ (fun i _ => .int .i64 (zs.getD i 0)) (by simp) hle (fun hn => ?_) (fun i hi=>rfl) (fun i j hi hj => ?_) (fun i j hi hj=>rfl) (fun i j x hi hx => ?_)
   ·have:MemPlace.cell b off∈ps:=by
     rw [hps]
     exact MemPlace.mem_row.2 ⟨0,by omega,by simp⟩
    exact hS _ this
   ·obtain rfl:j=0:=by omega
    have:=hcell i (by omega)
    rw [add_plain] at this
    simpa [at_] using this
   ·have hxx:x=vi ((zs.take len).getD i 0):=by
     cases j with
     | zero=>simpa [elems,Au] using hx.symm
     | succ j=>simp [elems,Au] at hx
    subst hxx
    have e:(zs.take len).getD i 0=zs.getD i 0:=by simp [List.getD_eq_getElem?_getD,List.getElem?_take,hi]
    rw [e]
    exact .v _ rfl
theorem Spec.law {f:FuncId} {args:List MV} {vs:Array Value} {W:World} (h:Spec P f args [] (.p (vb true)) [] []) (hlen:vs.size=args.length)
  (hrel:∀ (β:Bu) (objs:Bh) (i:Nat) x,args[i]? = some x→RelV β objs (fun b=>b<W.heap.size) W (vs.getD i undef) x) :
  Calls P f vs W fun e W'=>e = .returned (.bool true)∧Kept (fun _=>False) W W':=by
 refine (h.2 W (fun _=>False) (fun _ => .nilrow) vs ⟨fun b hb=>hb.elim,hlen,fun i x hx => ?_,fun k bd hk=>by simp at hk,fun k bd b hk=>by simp at hk,fun k k' bd bd' b hk=>by simp at hk⟩).mono ?_
 ·refine (hrel _ (Cb []) i x hx).mono (Grows.refl _ _) (fun b hb=>⟨hb,id,fun k o ho=>by simp [Cb] at ho⟩) (fun _ _=>rfl)
 ·rintro e w' ⟨v,β',rfl,hp⟩
  have:=hp.res.inv_v.1
  subst this
  exact ⟨rfl,hp.kept.os,hp.kept.tape,hp.kept.output,hp.kept.size,fun k hk _=>hp.kept.block k hk (by rintro ⟨j,bd,hj,_⟩; simp at hj)⟩
end
end Go.Dm

/- The data machine, part 24: states by their changes; shorter words for the printed proofs. -/
namespace Go.Dm
def memN : List Nat→Nat→Bool
 | [],_=>false
 | a::r,k=>bif Nat.beq a k then true else memN r k
def delK {α:Type} (ds:List Nat):List (Nat×α)→List (Nat×α)
 | [] => []
 | (k,x)::r=>bif memN ds k then delK ds r else (k,x)::delK ds r
def insK {α:Type} (k:Nat) (x:α):List (Nat×α)→List (Nat×α)
 | [] => [(k,x)]
 | (t,y)::r=>bif Nat.beq k t then (k,x)::r else bif Nat.ble k t then (k,x)::(t,y)::r else (t,y)::insK k x r
def insA {α:Type} : List (Nat×α)→List (Nat×α)→List (Nat×α)
 | [],l=>l
 | (k,x)::r,l=>insK k x (insA r l)
def up {α:Type} (ds:List Nat) (us l:List (Nat×α)):List (Nat×α):=insA us (delK ds l)
theorem Ajo {α:Type} (k:Nat) (x:α) (l:List (Nat×α)) (j:Nat):assoc (insK k x l) j=assoc ((k,x)::l) j:=by
 induction l with
 | nil=>rfl
 | cons p r ih =>
  obtain ⟨t,y⟩:=p
  rw [insK]
  cases hb:Nat.beq k t with
  | true =>
   have:=Nat.eq_of_beq_eq_true hb
   subst this
   simp only [cond_true,assoc]
   cases Nat.beq j k <;> rfl
  | false =>
   simp only [cond_false]
   cases Nat.ble k t with
   | true=>rfl
   | false =>
    simp only [cond_false,assoc] at ih ⊢
    rw [ih]
    cases h1:Nat.beq j t with
    | true =>
     have:=Nat.eq_of_beq_eq_true h1
     subst this
     cases h2:Nat.beq j k with
     | true =>
      have:=Nat.eq_of_beq_eq_true h2
      subst this
      rw [h1] at hb
      cases hb
     | false=>rfl
    | false=>rfl
theorem Aas {α:Type} (enc:α→PV) (z:PV) (m:IMap α) (n:Int) (v:α) {x:PV} (hx:PLe x (enc v)):Acy z (Bg m.has n true) (Bg (fun j=>enc (m.get j)) n x) z (m.set n v).has (fun j=>enc ((m.set n v).get j)):=by
 refine ⟨rfl,fun j => ?_,fun hz j hj => ?_⟩
 ·simp only [Bg,IMap.set]
  split
  ·exact hx
  ·exact .rfl
 ·have h1:=hz j hj
  simp only [IMap.set,Bg] at h1 hj ⊢
  split at hj
  ·simp at hj
  ·rename_i hne
   rw [if_neg hne] at h1 ⊢
   exact h1
def IMap.del {α:Type} (m:IMap α) (n:Int) (d:α):IMap α:=⟨Bg m.has n false,Bg m.get n d⟩
theorem mdel_le {α:Type} (enc:α→PV) (z:PV) (m:IMap α) (n:Int) (d:α) (hx:z=enc d):Acy z (Bg m.has n false) (Bg (fun j=>enc (m.get j)) n z) z (m.del n d).has (fun j=>enc ((m.del n d).get j)):=by
 subst hx
 have e:Bg (fun j=>enc (m.get j)) n (enc d)=fun j=>enc ((m.del n d).get j):=by
  funext j
  simp only [Bg,IMap.del]
  split <;> rfl
 rw [← e]
 exact ⟨rfl,fun j => .rfl,fun hz j hj=>hz j hj⟩
theorem mnew_le {α:Type} (enc:α→PV) (z:PV) (d:α) (hx:PLe z (enc d)):Acy z (fun _=>false) (fun _=>z) (enc d) (IMap.empty d).has (fun j=>enc ((IMap.empty d).get j)) :=
 ⟨rfl,fun _=>hx,fun _ _ _=>rfl⟩
theorem updI_at {α:Type} (f:Int→α) (n:Int) (x:α):Bg f n x n=x:=by simp [Bg]
theorem updI_nat (f:Int→Nat) (n:Int) (x:Nat):((x:Nat):Int)=((Bg f n x n:Nat):Int):=by simp [Bg]
inductive AdP where
 | s (t:Nat)
 | a (t j:Nat)
 | o (q j:Nat)
def adNil (k:Nat):MV→Option MV
 | .p (.sl .nil _ n _)=>bif Nat.beq n 0 then some (.own k 0 0 0) else none
 | _=>none
def AaZ (k:Nat):Nat→List MV→Option (List MV)
 | _,[]=>none
 | 0,x::r=>match adNil k x with
  | some y=>some (y::r)
  | none=>none
 | j+1,x::r=>match AaZ k j r with
  | some s=>some (x::s)
  | none=>none
def adMV (k:Nat):Option Nat→MV→Option MV
 | none,x=>adNil k x
 | some j,.agg cs=>(AaZ k j cs).map .agg
 | _,_=>none
def adObj (k j:Nat):Obj→Option Obj
 | ⟨g,.box cs⟩=>(AaZ k j cs).map fun ds=>⟨g,.box ds⟩
 | _=>none
def Aco (k t:Nat) (j:Option Nat):List (Nat×MV)→Option (List (Nat×MV))
 | []=>none
 | (q,x)::r=>bif Nat.beq q t then (adMV k j x).map fun y=>(q,y)::r else (Aco k t j r).map fun s=>(q,x)::s
def adBox (k q j:Nat):List (Nat×Obj)→Option (List (Nat×Obj))
 | []=>none
 | (i,o)::r=>bif Nat.beq i q then (adObj k j o).map fun p=>(i,p)::r else (adBox k q j r).map fun s=>(i,o)::s
def adOne (k:Nat) (sl:List (Nat×MV)) (ob:List (Nat×Obj)):AdP→Option (List (Nat×MV)×List (Nat×Obj))
 | .s t=>(Aco k t none sl).map fun s=>(s,ob)
 | .a t j=>(Aco k t (some j) sl).map fun s=>(s,ob)
 | .o q j=>(adBox k q j ob).map fun b=>(sl,b)
def adAll : List (AdP×Nat×Nat×(Nat→List PV))→List (Nat×MV)→List (Nat×Obj)→Option (List (Nat×MV)×List (Nat×Obj))
 | [],sl,ob=>some (sl,ob)
 | (p,k,W,f)::r,sl,ob=>bif Nat.ble 1000 k&&(assoc ob k).isNone then (adOne k sl ob p).bind fun q=>adAll r q.1 (insK k ⟨0,.row W 0 f⟩ q.2) else none
theorem AhS {k:Nat} {x y:MV} (h:adNil k x=some y):Ad1 k x y:=by
 unfold adNil at h
 split at h
 ·rename_i W n f
  cases hb:Nat.beq n 0 with
  | true =>
   rw [hb] at h
   have:=Nat.eq_of_beq_eq_true hb
   subst this
   simp only [cond_true,Option.some.injEq] at h
   subst h
   exact .nil _ _
  | false=>rw [hb] at h; simp at h
 ·simp at h
theorem AdC {k:Nat} : ∀ {j:Nat} {l m:List MV},AaZ k j l=some m→AdL k l m
 | _,[],_,h=>by simp [AaZ] at h
 | 0,x::r,m,h=>by
  rw [AaZ] at h
  split at h
  ·rename_i y hy
   simp only [Option.some.injEq] at h
   subst h
   exact .cons (AhS hy) (.rfl _)
  ·simp at h
 | j+1,x::r,m,h=>by
  rw [AaZ] at h
  split at h
  ·rename_i s hs
   simp only [Option.some.injEq] at h
   subst h
   exact .cons (.rfl _) (AdC hs)
  ·simp at h
theorem adMV_ok {k:Nat} {j:Option Nat} {x y:MV} (h:adMV k j x=some y):Ad k x y:=by
 unfold adMV at h
 split at h
 ·exact .one (AhS h)
 ·obtain ⟨ds,hd,rfl⟩:=Option.map_eq_some_iff.mp h
  exact .agg (AdC hd)
 ·simp at h
theorem Adr {k t:Nat} {j:Option Nat} : ∀ {l m:List (Nat×MV)},Aco k t j l=some m→AdS k l m
 | [],_,h=>by simp [Aco] at h
 | (q,x)::r,m,h=>by
  rw [Aco] at h
  cases hb:Nat.beq q t with
  | true =>
   rw [hb,cond_true] at h
   obtain ⟨y,hy,rfl⟩:=Option.map_eq_some_iff.mp h
   exact .cons (adMV_ok hy) (.rfl _)
  | false =>
   rw [hb,cond_false] at h
   obtain ⟨s,hs,rfl⟩:=Option.map_eq_some_iff.mp h
   exact .cons (.one (.rfl _)) (Adr hs)
theorem AhX {k q j:Nat} : ∀ {l m:List (Nat×Obj)},adBox k q j l=some m→AdO k l m
 | [],_,h=>by simp [adBox] at h
 | (i,o)::r,m,h=>by
  rw [adBox] at h
  cases hb:Nat.beq i q with
  | true =>
   rw [hb,cond_true] at h
   obtain ⟨p,hp,rfl⟩:=Option.map_eq_some_iff.mp h
   unfold adObj at hp
   split at hp
   ·obtain ⟨ds,hd,rfl⟩:=Option.map_eq_some_iff.mp hp
    exact .box (AdC hd) (.rfl _)
   ·simp at hp
  | false =>
   rw [hb,cond_false] at h
   obtain ⟨s,hs,rfl⟩:=Option.map_eq_some_iff.mp h
   exact .keep (AhX hs)
theorem mkSt_ins (sl:List (Nat×MV)) (k:Nat) (o:Obj) (ob:List (Nat×Obj)):Af sl (insK k o ob)=Af sl ((k,o)::ob):=by
 unfold Af
 congr 1
 funext j
 exact Ajo k o ob j
theorem Conv.adsAll {cx:Cx} : ∀ (acts:List (AdP×Nat×Nat×(Nat→List PV))) {sl sl':List (Nat×MV)} {ob ob':List (Nat×Obj)},adAll acts sl ob=some (sl',ob')→Conv cx (Af sl ob) (Af sl' ob')
 | [],sl,sl',ob,ob',h=>by
  simp only [adAll,Option.some.injEq,Prod.mk.injEq] at h
  obtain ⟨rfl,rfl⟩:=h
  exact .refl
 | (p,k,W,f)::r,sl,sl',ob,ob',h=>by
  rw [adAll] at h
  cases hk:(Nat.ble 1000 k&&(assoc ob k).isNone) with
  | false=>rw [hk] at h; simp at h
  | true =>
   rw [hk,cond_true] at h
   obtain ⟨q,hq,h⟩:=Option.bind_eq_some_iff.mp h
   rw [Bool.and_eq_true,Option.isNone_iff_eq_none] at hk
   have a:Conv cx (Af sl ob) (Af q.1 (insK k ⟨0,.row W 0 f⟩ q.2)):=by
    rw [mkSt_ins]
    unfold adOne at hq
    split at hq
    ·obtain ⟨s,hs,rfl⟩:=Option.map_eq_some_iff.mp hq
     exact Conv.adopt k W f hk.1 hk.2 (Adr hs) (AdO.rfl ob)
    ·obtain ⟨s,hs,rfl⟩:=Option.map_eq_some_iff.mp hq
     exact Conv.adopt k W f hk.1 hk.2 (Adr hs) (AdO.rfl ob)
    ·obtain ⟨b,hb,rfl⟩:=Option.map_eq_some_iff.mp hq
     exact Conv.adopt k W f hk.1 hk.2 (AdS.rfl sl) (AhX hb)
   exact a.trans (Conv.adsAll r h)
theorem Conv.ads {cx:Cx} (acts:List (AdP×Nat×Nat×(Nat→List PV))) {sl sl':List (Nat×MV)} {ob ob':List (Nat×Obj)} (h:adAll acts sl ob=some (sl',ob'):=by kernel_rfl):Conv cx (Af sl ob) (Af sl' ob'):=Conv.adsAll acts h
theorem Conv.frz {cx:Cx} (ks:List Nat) {sl sl':List (Nat×MV)} {ob ob':List (Nat×Obj)} (h:AfP ks (sl,ob)=(sl',ob'):=by kernel_rfl):Conv cx (Af sl ob) (Af sl' ob'):=Conv.freezes ks h
section
variable {P : Program} {T:Ty} {cx:Cx} {σ:St} {Q:Exit→St→Prop} {R:Type}
theorem DW.rd {nt:Nat} (hT:Kk P T) (hm:P.follows .mixedOrders=true) (hnt:cx.nt=nt) {ops:Array Oper} {id:Nat} {draw:Bool} {r:List Code} {sl0:List (Nat×MV)} {ob0:List (Nat×Obj)} (xs:List Orc) (ds:List Nat) (us:List (Nat×MV)) (dk:List Nat) (uo:List (Nat×Obj))
  {q:Prop} (hq:q) (hQ:DW P cx r (Af (up ds us sl0) (up dk uo ob0)) Q) (h:Ye P T nt ops xs (Ch (up ds us sl0)) (Ch (up dk uo ob0)) draw (Af sl0 ob0)=some ((up ds us sl0,up dk uo ob0),q)):DW P cx (.region id ops draw::r) (Af sl0 ob0) Q :=
 DW.rk hT hm hnt xs _ _ hq h hQ
theorem DW.cv {c:Code} {r:List Code} {sl0:List (Nat×MV)} {ob0:List (Nat×Obj)} (ds:List Nat) (us:List (Nat×MV)) (dk:List Nat) (uo:List (Nat×Obj)) (h:Conv cx (Af sl0 ob0) (Af (up ds us sl0) (up dk uo ob0))) (k:DW P cx (c::r) (Af (up ds us sl0) (up dk uo ob0)) Q):DW P cx (c::r) (Af sl0 ob0) Q:=DW.conv h k
theorem Conv.eqK {sl0 sl:List (Nat×MV)} {ob0 ob:List (Nat×Obj)} (h:(sl0,ob0)=(sl,ob):=by kernel_rfl):Conv cx (Af sl0 ob0) (Af sl ob):=by
 obtain ⟨rfl,rfl⟩:=Prod.mk.inj h
 exact .refl
theorem Conv.t0 {sl:List (Nat×MV)} {ob:List (Nat×Obj)} (h:(Sg (Ch sl) (Ch ob) σ,Pu (Ch ob) σ)=(Ss [] sl,Rd [] ob):=by kernel_rfl):Conv cx σ (Af sl ob):=Conv.tp [] [] h .nil .nil
theorem Ar {c:Operand} {x y:Code} {r:List Code} {b:Bool} {X Y:Option R} {res:R} (hm:(if b=true then X else Y)=some res) (h1:b=true→X=some res→DW P cx (x::r) σ Q) (h2:b=false→Y=some res→DW P cx (y::r) σ Q)
  (hk:Be c=true:=by kernel_rfl) (hc:ev σ c = .p (.v (.bool b)):=by kernel_rfl):DW P cx (.cond c x y::r) σ Q :=
 DW.cond b hk hc (fun e=>h1 e (Az e hm)) (fun e=>h2 e (Ay e hm))
theorem Cv {c:Operand} {x y:Code} {r:List Code} (b:Bool) (h1:b=true→DW P cx (x::r) σ Q) (h2:b=false→DW P cx (y::r) σ Q)
  (hk:Be c=true:=by kernel_rfl) (hc:ev σ c = .p (.v (.bool b)):=by kernel_rfl):DW P cx (.cond c x y::r) σ Q:=DW.cond b hk hc h1 h2
theorem condT {c:Operand} {x y:Code} {r:List Code} {b:Bool} (hb:b=true) (h1:DW P cx (x::r) σ Q)
  (hk:Be c=true:=by kernel_rfl) (hc:ev σ c = .p (.v (.bool b)):=by kernel_rfl):DW P cx (.cond c x y::r) σ Q:=DW.cond b hk hc (fun _=>h1) (fun e=>by rw [hb] at e; cases e)
theorem AeC {c:Operand} {x y:Code} {r:List Code} {b:Bool} (hb:b=false) (h1:DW P cx (y::r) σ Q)
  (hk:Be c=true:=by kernel_rfl) (hc:ev σ c = .p (.v (.bool b)):=by kernel_rfl):DW P cx (.cond c x y::r) σ Q:=DW.cond b hk hc (fun e=>by rw [hb] at e; cases e) (fun _=>h1)
theorem An {results:List ResultVar} {m:Nat} {res:MV} {bs:List Body} (bs':List Body) (ex:List Nat) (res':MV) (h:fin T results m ex σ=some (res',bs'):=by kernel_rfl) (e:res'=res:=by rfl) (e2:bs'=bs:=by rfl):finQ T results m res bs .ret σ:=retOK ex res' h e e2
theorem endK {results:List ResultVar} {m:Nat} {res:MV} {bs:List Body} (bs':List Body) (ex:List Nat) (res':MV) (h:fin T results m ex σ=some (res',bs'):=by kernel_rfl) (e:res'=res:=by rfl) (e2:bs'=bs:=by rfl):finQ T results m res bs .normal σ:=endOK ex res' h e e2
theorem Sq {x y:Code} {r:List Code} (h:DW P cx (x::y::r) σ Q):DW P cx (.seq x y::r) σ Q:=DW.seq h
theorem Sk {r:List Code} (h:DW P cx r σ Q):DW P cx (.skip::r) σ Q:=DW.skip h
theorem Bk {id:Nat} {c:Code} {r:List Code} (h:DW P cx [c] σ (Up id (KQ P cx r Q))):DW P cx (.block id c::r) σ Q:=DW.block h
theorem Jn {ι:Type} {c:Code} {r:List Code} (J:ι→St) (m:ι→Prop) (hj:∀ i,m i→DW P cx r (J i) Q) (h:DW P cx [c] σ (Tw cx J m (KQ P cx r Q))):DW P cx (c::r) σ Q:=DW.join J m hj h
theorem jD {ι:Type} {J:ι→St} {m:ι→Prop} (i:ι) (h1:m i) (h2:Conv cx σ (J i)):DW P cx [] σ (Tw cx J m Q):=joinDone i h1 h2
theorem bD {ι:Type} {J:ι→St} {m:ι→Prop} {id:Nat} (i:ι) (h1:m i) (h2:Conv cx σ (J i)):DW P cx [] σ (Up id (KQ P cx [] (Tw cx J m Q))):=blockDone i h1 h2
theorem tv : True:=trivial
theorem sj {a b:R} (h:some a=some b):a=b:=Option.some.inj h
theorem bo {α:Type} {x:Option α} {k:α→Option R} {r:R} (h:x.bind k=some r):∃ a,x=some a∧k a=some r:=bind_open h
theorem go1 {p:Prop} [Decidable p] {x:Option R} {r:R} (h:(if p then x else none)=some r):p∧x=some r:=Oc h
theorem go2 {p q:Prop} [Decidable p] [Decidable q] {x:Option R} {r:R} (h:(if p then if q then x else none else none)=some r):p∧q∧x=some r:=⟨(Oc h).1,Oc (Oc h).2⟩
theorem go3 {p q s:Prop} [Decidable p] [Decidable q] [Decidable s] {x:Option R} {r:R} (h:(if p then if q then if s then x else none else none else none)=some r):p∧q∧s∧x=some r:=⟨(Oc h).1,go2 (Oc h).2⟩
theorem go4 {p q s t:Prop} [Decidable p] [Decidable q] [Decidable s] [Decidable t] {x:Option R} {r:R} (h:(if p then if q then if s then if t then x else none else none else none else none)=some r):p∧q∧s∧t∧x=some r:=⟨(Oc h).1,go3 (Oc h).2⟩
end
end Go.Dm

/- The data machine, part 25: arguments of struct type, and slices of structs, as they were handed in. -/
namespace Go.Dm
open Go.ChangeShapes Go.WideShapes Go.ChangeAt Go.RowKit
section
variable {P : Program} {fl:Bool} {α β:Type} {t:TypeId} {n:Nat} {en:α→List PV} {good:α→Prop}
variable {H : Type} {enc:TypeId×Value→H}
end
end Go.Dm
