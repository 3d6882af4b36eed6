/- Texts of the proof of TopIsolated: the data machine, the models of the Go functions, their contracts. -/
import Derived.Test.YtlgpejehffhplaaGreatDoorTopIsolatedA0
import Derived.RangeFuncLeaves
import Derived.RangeFuncRecord
import Derived.IntWalk
import Derived.WalkKit
import Derived.ProofKit
import Derived.OpenShut
import Derived.ReadAgain
set_option linter.unusedVariables false
set_option linter.unusedSimpArgs false
namespace Go.Dm
def Bu(l:List Body):Ay:=fun k=>(l[k]?).map fun b=>⟨0,b⟩
def FnOK(P:Program)(f:FuncId):Prop:=∃fn,P.funcs[f]?=some fn/\fn.name ≠ "runtime.NumGoroutine" /\ fn.body.isSome=true
structure Pre(P:Program)(w:World)(Av:Nat->Prop)(U:Bs)(outs:List Body)(vs:Array Value)(args:List MV):Prop where
 gl:GlOK P (fun b=>∃(k:Nat) (bd:Body),outs[k]?=some bd/\bd.live/\(U k).block=some b) w
 av:∀b,Av b->b<w.heap.size
 len:vs.size=args.length
 args:∀(i:Nat) x,args[i]?=some x->RelV U (Bu outs) (Ap Av U (Bu outs) w) w (vs.getD i undef) x
 ob:∀(k:Nat) bd,outs[k]?=some bd->ObjRel U (Bu outs) (Ap Av U (Bu outs) w) w (U k) bd
 blk:∀(k:Nat) bd b,outs[k]?=some bd->bd.live->(U k).block=some b->b<w.heap.size/\¬ Av b
 inj:∀(k k':Nat) bd bd' b,outs[k]?=some bd->outs[k']?=some bd'->bd.live->bd'.live->k≠k'->(U k).block=some b->(U k').block≠some b
structure Post(w:World)(Av:Nat->Prop)(U:Bs)(outs:List Body)(w':World)(β':Bs)(v:Value)(res:MV)(outs' news:List Body):Prop where
 kept:Kept (fun b=>∃(k:Nat) (bd:Body),outs[k]?=some bd/\bd.live/\(U k).block=some b) w w'
 loc:∀k bd,k<outs.length->outs'[k]?=some bd->bd.live->β' k=U k
 len:outs'.length=outs.length
 res:RelV β' (Bu (outs'++news)) (Ap Av β' (Bu (outs'++news)) w') w' v res
 ob:∀(k:Nat) bd,(outs'++news)[k]?=some bd->ObjRel β' (Bu (outs'++news)) (Ap Av β' (Bu (outs'++news)) w') w' (β' k) bd
 blk:∀(k:Nat) bd b,(outs'++news)[k]?=some bd->bd.live->(β' k).block=some b->b<w'.heap.size/\(k<outs.length\/w.heap.size<=b\/∃(j:Nat) (bd0:Body),outs[j]?=some bd0/\bd0.live/\outs'[j]?=some .dead/\(U j).block=some b)
 inj:∀(k k':Nat) bd bd' b,(outs'++news)[k]?=some bd->(outs'++news)[k']?=some bd'->bd.live->bd'.live->k≠k'->(β' k).block=some b->(β' k').block≠some b
def Spec(P:Program)(f:FuncId)(args:List MV)(b:List Body)(res:MV)(outs' news:List Body):Prop:=
 FnOK P f/\∀(w:World) (Av:Nat->Prop) (U:Bs) (vs:Array Value),Pre P w Av U b vs args ->
  Calls P f vs w fun e w'=>∃v g,e=.returned v/\Post w Av U b w' g v res outs' news
def Ls(k:Nat):List Nat->Nat->Option Nat
 |[],_=>none
 |j::r,i=>bif Nat.beq k j then some i else Ls k r (i+1)
def Aby(ob:Ay)(ks:List Nat):MV->Option MV
 | .p x=>some (.p x)
 | .own k g off len=>match Ka ob k g with
  |some (W,_,f)=>match Ls k ks 0 with
   |some i=>some (.own i 0 off len)
   |none=>some (.p (.sl .unk W len (shF off f)))
  |none=>none
 | .ref k g off=>match Ace ob k g,Ls k ks 0 with
  |some _,some i=>some (.ref i 0 off)
  |some cs,none=>bif Nat.beq off 0 then(match pures cs with
   |some b=>some (.fptr b)
   |none=>none)else none
  |none,_=>none
 | .fptr cs=>some (.fptr cs)
 | .any=>some .any
 | .mref k g=>match Om ob k g with
  |some (z,has,f)=>match Ls k ks 0 with
   |some i=>some (.mref i 0)
   |none=>some (.p (.mp z has f))
  |none=>none
 |_=>none
def Yn{V:Type}(f:V->Option V):List V->Option (List V)
 |[]=>some []
 |x::r=>match f x,Yn f r with
  |some y,some s=>some (y::s)
  |_,_=>none
def toC(ob:Ay)(ks:List Nat):MV->Option MV
 | .agg cs=>match Yn (Aby ob ks) cs with
  |some b=>match pures b with
   |some g=>some (.p (.agg g))
   |none=>some (.agg b)
  |none=>none
 | .fn f cs=>match Yn (Aby ob ks) cs with
  |some b=>match pures b with
   |some g=>bif Nat.blt f BND then some (.p (.fn f g))else some (.fn f b)
   |none=>some (.fn f b)
  |none=>none
 |x=>Aby ob ks x
def Ye(ks:List Nat):MV->List Nat
 | .own k _ _ _=>match Ls k ks 0 with
  |some _=>[]
  |none=>[k]
 | .mref k _=>match Ls k ks 0 with
  |some _=>[]
  |none=>[k]
 | .ref k _ _=>match Ls k ks 0 with
  |some _=>[]
  |none=>[k]
 |_=>[]
def bor(ks:List Nat):MV->List Nat
 | .agg cs=>cs.flatMap (Ye ks)
 | .fn _ cs=>cs.flatMap (Ye ks)
 |x=>Ye ks x
def dedup:List Nat->List Nat->List Nat
 |[],acc=>acc
 |x::r,acc=>bif elem x acc then dedup r acc else dedup r (acc++[x])
theorem dedup_mem(l:List Nat):∀b k,k∈dedup l b↔k∈l\/k∈b:=by
 induction l with
 |nil=>intro b k;simp[dedup]
 |cons x r f=>
  intro b k;simp only[dedup]
  cases h:elem x b with
  |true=>
   have:=(Vh x b).1 h;simp only[cond_true,f,C0];constructor
   ·rintro(h|h);exact .inl (.inr h);exact .inr h
   ·rintro((h|h)|h)
    ·subst h;exact .inr this
    ·exact .inl h
    ·exact .inr h
  |false=>
   simp only[cond_false,f,B1,C0,O4,or_false];constructor
   ·rintro(h|h|h);exact .inl (.inr h);exact .inr h;exact .inl (.inl h)
   ·rintro((h|h)|h);exact .inr (.inr h);exact .inl h;exact .inr (.inl h)
def Zm(ob:Ay)(ks:List Nat):MV->Option MV
 | .p x=>some (.p x)
 | .any=>some .any
 | .own k g off len=>match Ka ob k g,Ls k ks 0 with
  |some _,some i=>some (.own i 0 off len)
  |_,_=>none
 | .ref k g off=>match Ace ob k g,Ls k ks 0 with
  |some _,some i=>some (.ref i 0 off)
  |_,_=>none
 | .mref k g=>match Om ob k g,Ls k ks 0 with
  |some _,some i=>some (.mref i 0)
  |_,_=>none
 |_=>none
def toC2(ob:Ay)(ks:List Nat):MV->Option MV
 | .fn f cs=>match Yn (Zm ob ks) cs with
  |some b=>some (.fn f b)
  |none=>none
 |x=>Zm ob ks x
def toB(ob:Ay)(ks:List Nat):Body->Option Body
 | .box cs=>match Yn (toC2 ob ks) cs with
  |some b=>some (.box b)
  |none=>none
 | .row W n f=>some (.row W n f)
 | .mp z has f=>some (.mp z has f)
 | .mq _=>none
 | .dead=>some .dead
theorem toB_same{ob:Ay}{ks:List Nat}{b c:Body}(h:toB ob ks b=some c):b.same c:=by
 cases b with
 |box cs=>
  simp only[toB]at h;split at h<;>simp at h;subst h
  trivial
 |row W n f=>simp[toB]at h;subst h;exact⟨rfl,rfl⟩
 |mp z has f=>simp[toB]at h;subst h;trivial
 |mq q=>simp[toB]at h
 |dead=>simp[toB]at h;subst h;trivial
theorem Gy{ob:Ay}{ks:List Nat}{b c:Body}(h:toB ob ks b=some c):b.live↔c.live:=by
 cases b with
 |box cs=>
  simp only[toB]at h;split at h<;>simp at h;subst h
  exact Iff.rfl
 |row W n f=>simp[toB]at h;subst h;exact Iff.rfl
 |mp z has f=>simp[toB]at h;subst h;exact Iff.rfl
 |mq q=>simp[toB]at h
 |dead=>simp[toB]at h;subst h;exact Iff.rfl
def AhD(ob:Ay)(f:List Nat):List Nat->Option (List (Nat×Body))
 |[]=>some []
 |k::r=>match ob k,AhD ob f r with
  |some o,some s=>match toB ob f o.body with
   |some b=>some ((o.gen,b)::s)
   |none=>none
  |_,_=>none
def Tj(ob:Ay)(ks:List Nat):Option (List (Nat×Body)):=AhD ob ks ks
theorem AwC(k:Nat):∀(l:List Nat) (s i:Nat),Ls k l s=some i->∃j,i=s+j/\l[j]?=some k:=by
 intro l
 induction l with
 |nil=>intro s i h;simp[Ls]at h
 |cons x r f=>
  intro s i h;unfold Ls at h
  cases b:Nat.beq k x with
  |true=>
   simp[b]at h
   exact⟨0,by omega,by simp[A3 b]⟩
  |false=>
   simp[b]at h;obtain⟨j,m,g⟩:=f _ _ h;exact⟨j+1,by omega,by simpa using g⟩
theorem AkF(k:Nat):∀(l:List Nat) (s:Nat),Ls k l s=none->k∉l:=by
 intro l
 induction l with
 |nil=>intro s _;simp
 |cons x r f=>
  intro s h;unfold Ls at h
  cases b:Nat.beq k x with
  |true=>simp[b]at h
  |false=>
   simp[b]at h;simp only[C0,not_or];exact⟨fun e=>by subst e;rw[Cr]at b;simp at b,f _ h⟩
theorem AwN{ob:Ay}{f:List Nat}:∀(ks:List Nat) (os:List (Nat×Body)),AhD ob f ks=some os ->
  os.length=ks.length/\∀(i k:Nat),ks[i]?=some k->∃g bd,os[i]?=some (g,bd)/\∃j,ob k=some ⟨g,j⟩/\toB ob f j=some bd:=by
 intro ks
 induction ks with
 |nil=>intro os h;simp[AhD]at h;subst h;exact⟨rfl,fun i k h=>by simp at h⟩
 |cons k r u=>
  intro os h;unfold AhD at h;split at h
  ·rename_i o s m q;split at h
   ·rename_i b t;simp at h;subst h;obtain⟨v,n⟩:=u s q;refine⟨by simp[v],fun i x l=>?_⟩
    cases i with
    |zero=>simp at l;subst l;exact⟨o.gen,b,rfl,o.body,m,t⟩
    |succ i=>exact n i x (by simpa using l)
   ·simp at h
  ·simp at h
theorem AiV{ob:Ay}(ks:List Nat)(os:List (Nat×Body))(h:Tj ob ks=some os):
  os.length=ks.length/\∀(i k:Nat),ks[i]?=some k->∃g bd,os[i]?=some (g,bd)/\∃b,ob k=some ⟨g,b⟩/\toB ob ks b=some bd:=AwN ks os h
theorem AbB{V:Type}{f:V->Option V}:∀(l m:List V),Yn f l=some m->m.length=l.length/\∀(i:Nat) y,m[i]?=some y->∃x,l[i]?=some x/\f x=some y:=by
 intro l
 induction l with
 |nil=>intro m h;simp[Yn]at h;subst h;simp
 |cons x r k=>
  intro m h;unfold Yn at h;split at h
  ·rename_i y s o n;simp at h;subst h;obtain⟨j,g⟩:=k s n;refine⟨by simp[j],fun i z b=>?_⟩
   cases i with
   |zero=>simp at b;subst b;exact⟨x,rfl,o⟩
   |succ i=>exact g i z (by simpa using b)
  ·simp at h
section
variable {P:Program} {cx:Cx P} {U:Bs} {O:St} {a:Act} {w:World}
def Uw(cx:Cx P)(U:Bs)(objs:Ay)(ks bs:List Nat)(b:Nat):Prop:=
 cx.Av b\/∃k o,objs k=some o/\o.body.live/\k∉ks/\k∉bs/\(U k).block=some b
def Bn(U:Bs)(ks:List Nat):Bs:=fun i=>U (ks.getD i 0)
theorem Alg(h:Rel cx U O a w){ob:Ay}(H:∀k o,ob k=some o->O.objs k=some o){ks bs:List Nat}{os:List (Nat×Body)}(hos:Tj ob ks=some os)
  {v:Value} {x y:MV} (rx:RelV U O.objs (Ap cx.Av U O.objs w) w v x) (m:Aby ob ks x=some y) (hbs:∀k∈Ye ks x,k∈bs):
  RelV (Bn U ks) (Bu (os.map (·.2))) (Ap (Uw cx U O.objs ks bs) (Bn U ks) (Bu (os.map (·.2))) w) w v y:=by
 obtain⟨hlen,A⟩:=AiV ks os hos
 have M:∀i o,Bu (os.map (·.2)) i=some o->∃k g C,ks[i]?=some k/\ob k=some ⟨g,C⟩/\(o.body.live->C.live)/\o.gen=0:=by
  intro i o L;simp only[Bu,A7]at L
  cases hi:os[i]? with
  |none=>simp[hi]at L
  |some p=>
   have hlt:i<ks.length:=by rw[<-hlen];exact(A9.1 hi).1
   obtain⟨g,bd,h1,C,h2,h3⟩:=A i ks[i] (B0 hlt);rw[hi]at h1;injection h1 with h1
   subst h1;simp[hi]at L;subst L;exact⟨ks[i],g,C,B0 hlt,h2,(Gy h3).2,rfl⟩
 have hS:∀b,Ap cx.Av U O.objs w b->Ap (Uw cx U O.objs ks bs) (Bn U ks) (Bu (os.map (·.2))) w b:=by
  intro b hb;refine⟨hb.1,?_,fun i o L t=>?_⟩
  ·rintro(hA|⟨k,o,L,t,_,_,q⟩)
   ·exact hb.2.1 hA
   ·exact hb.2.2 k o L t q
  ·obtain⟨k,g,C,hk,K,I,_⟩:=M i o L;have:=hb.2.2 k _ (H _ _ K) (I t);simpa[Bn,hk]using this
 have T:∀k i,Ls k ks 0=some i->ks[i]?=some k:=by
  intro k i hi;obtain⟨j,e,hj⟩:=AwC k ks 0 i hi;rw[e,D5];exact hj
 unfold Aby at m;split at m
 ·simp at m;subst m;exact .p _ _ (rx.inv_p.mono hS (fun _ _=>rfl))
 ·rename_i k g off len;obtain⟨base,c,rfl,hk⟩:=rx.inv_own;split at m
  ·rename_i W n f hg;have l:=H _ _ (Gc hg);have hown:=hk.get l;split at m
   ·rename_i i hi;simp at m;subst m;have G:=T k i hi;obtain⟨g',bd,q1,C,q2,q3⟩:=A i k G;rw[Gc hg]at q2;injection q2 with q2
    injection q2 with e1 e2
    subst e1;subst e2;simp only[toB,A1]at q3;subst q3;refine .own _ _ _ _ _ _ ⟨⟨0,.row W n f⟩,by simp[Bu,q1],B2 _,fun _=>?_⟩;simpa[Bn,G]using hown
   ·rename_i hi;simp at m;subst m;have r:=AkF k ks 0 hi;have R:k∈bs:=hbs k (by simp[Ye,hi]);obtain⟨hle,t⟩:=hown;rcases h.ob k _ l with⟨N,hn0⟩|⟨b,o,cap,cur,e',N,hheap,hcap,hnn,F⟩
    ·rw[N]at t;obtain⟨hbase,rfl,rfl,rfl⟩:=t;rcases hbase with rfl|⟨bb,oo,rfl⟩
     ·exact .p _ _ (.slnil _ _ _ (by simp))
     ·exact .p _ _ (.sl _ _ _ _ _ _ _ (fun _ _=>undef) (by simp) (B2 _) (fun e=>by simp at e) (fun i hi=>by omega) (fun i j hi=>by omega) (fun i j hi=>by omega) (fun i j x hi=>by omega))
    ·rw[N]at t;obtain⟨b',o',rfl,hcc,hadr⟩:=t
     by_cases hlen0:len=0
     ·subst hlen0;exact .p _ _ (.sl _ _ _ _ _ _ _ (fun _ _=>undef) (by simp) (L4 _) (fun e=>by simp at e) (fun i hi=>by omega) (fun i j hi=>by omega) (fun i j hi=>by omega) (fun i j x hi=>by omega))
     ·obtain⟨rfl,rfl⟩:=hadr (by omega);have q:=h.blk k _ b' l trivial (by rw[N];rfl)
      have hSb:Ap (Uw cx U O.objs ks bs) (Bn U ks) (Bu (os.map (·.2))) w b':=by
       refine⟨q.1,?_,fun i o L s=>?_⟩
       ·rintro(hA|⟨E,oo,V,s,hn1,hn2,hb'⟩)
        ·exact q.2.1 hA
        ·by_cases he:E=k
         ·subst he;exact hn2 R
         ·exact h.inj k E _ oo b' l V trivial s (Ne.symm he) (by rw[N];rfl) hb'
       ·obtain⟨E,g',C,D,K,I,_⟩:=M i o L;have Q:k≠E:=fun e=>r (by rw[e];exact B3 D)
        have:=h.inj k E _ _ b' l (H _ _ K) trivial (I s) Q (by rw[N];rfl);simpa[Bn,D]using this
      have J:∀j,w.cell? (at_ b' j)=cur[j]?:=fun j=>cell_of_row w b' j cur e' (0,0) hheap
      have X:∀i j,i<len->j<W->∃u,cur[o+off*W+(i*W+j)]?=some u/\u.oneCell'=true:=by
       intro i j hi hj;obtain⟨q1,q2⟩:=F (off+i) (by omega);obtain⟨u,u1,u2,_⟩:=q2 j (f (off+i))[j] (B0 (by omega));exact⟨u,by rw[<-u1];congr 1;rw[D2];omega,u2⟩
      refine .p _ _ (.sl _ _ _ _ _ _ _ (fun i j=>cur.getD (o+off*W+(i*W+j)) undef) (by simp) (by omega) (fun _=>hSb) (fun i hi=>?_) (fun i j hi hj=>?_) (fun i j hi hj=>?_) (fun i j x hi hx=>?_))
      ·rw[AcD];exact(F (off+i) (by omega)).1
      ·obtain⟨u,u1,_⟩:=X i j hi hj;rw[J,A5,u1];rfl
      ·obtain⟨u,u1,u2⟩:=X i j hi hj;rw[A5,u1];exact u2
      ·rw[AcD]at hx;obtain⟨u,u1,u2,u3⟩:=(F (off+i) (by omega)).2 j x hx;have e2:o+(off+i)*W+j=o+off*W+(i*W+j):=by rw[D2];omega
       rw[<-e2,A5,u1];exact u3.mono hS (fun _ _=>rfl)
  ·simp at m
 ·rename_i k g off;obtain⟨b,rfl,hk⟩:=rx.inv_ref;split at m
  ·rename_i cs i hg hi;simp at m;subst m;have l:=H _ _ (Aaq hg);have t:=hk.get l;have G:=T k i hi;obtain⟨g',bd,q1,_⟩:=A i k G;refine .ref _ _ _ _ ⟨⟨0,bd⟩,by simp[Bu,q1],B2 _,fun _=>?_⟩;simpa[Bn,G]using t
  ·rename_i cs hg hi
   cases hoff:Nat.beq off 0 with
   |false=>simp[hoff]at m
   |true=>
   have e0:=A3 hoff;subst e0;simp only[D4,cond_true]at m;split at m
   ·rename_i ps hps;simp at m;subst m;have hcs:=Hv hps;have l:=H _ _ (Aaq hg);have t:=hk.get l;have r:=AkF k ks 0 hi;have R:k∈bs:=hbs k (by simp[Ye,hi]);obtain⟨b1,cur,e',B,hheap,hsz,F⟩:=h.ob k _ l;rw[t]at B;injection B with B
    subst B;have q:=h.blk k _ b l trivial (by rw[t];rfl)
    have hSb:Ap (Uw cx U O.objs ks bs) (Bn U ks) (Bu (os.map (·.2))) w b:=by
     refine⟨q.1,?_,fun i o L s=>?_⟩
     ·rintro(hA|⟨E,oo,V,s,hn1,hn2,hb'⟩)
      ·exact q.2.1 hA
      ·by_cases he:E=k
       ·subst he;exact hn2 R
       ·exact h.inj k E _ oo b l V trivial s (Ne.symm he) (by rw[t];rfl) hb'
     ·obtain⟨E,g',C,D,K,I,_⟩:=M i o L;have Q:k≠E:=fun e=>r (by rw[e];exact B3 D)
      have:=h.inj k E _ _ b l (H _ _ K) trivial (I s) Q (by rw[t];rfl);simpa[Bn,D]using this
    have J:∀j,w.cell? (at_ b j)=cur[j]?:=fun j=>cell_of_row w b j cur e' (0,0) hheap
    have Y:∀(j:Nat) (x:PV),ps[j]?=some x->∃u,cur[j]?=some u/\u.oneCell'=true/\Rep (Ap cx.Av U O.objs w) w u x:=by
     intro j x hx;obtain⟨u,u1,u2,u3⟩:=F j (.p x) (by rw[hcs,A7,hx];rfl);exact⟨u,u1,u2,u3.inv_p⟩
    refine .fptr ps b 0 hSb (fun j=>cur.getD j undef) (fun j hj=>?_) (fun j hj=>?_) (fun j x hx=>?_)
    ·obtain⟨u,u1,_⟩:=Y j ps[j] (B0 hj);rw[D5,J,A5,u1];rfl
    ·obtain⟨u,u1,u2,_⟩:=Y j ps[j] (B0 hj);simp only[A5,u1];exact u2
    ·obtain⟨u,u1,_,u3⟩:=Y j x hx;simp only[A5,u1];exact u3.mono hS (fun _ _=>rfl)
   ·simp at m
  ·simp at m
 ·rename_i cs;simp at m;subst m;obtain⟨b,o,c,rfl,h1,h2,h3,h4⟩:=rx.inv_fptr;exact .fptr _ _ _ (hS _ h1) _ h2 h3 (fun j x hx=>(h4 j x hx).mono hS (fun _ _=>rfl))
 ·simp at m;subst m;exact .any _
 ·rename_i k g;obtain⟨b,rfl,hk⟩:=rx.inv_mref;split at m
  ·rename_i z has f hg;have l:=H _ _ (Wm hg);have t:=hk.get l;split at m
   ·rename_i i hi;simp at m;subst m;have G:=T k i hi;obtain⟨g',bd,q1,_⟩:=A i k G;refine .mref _ _ _ ⟨⟨0,bd⟩,by simp[Bu,q1],B2 _,fun _=>?_⟩;simpa[Bn,G]using t
   ·rename_i hi;simp at m;subst m;have r:=AkF k ks 0 hi;have R:k∈bs:=hbs k (by simp[Ye,hi]);obtain⟨b1,es,clock,B,hh,hm,hz,hr⟩:=h.ob k _ l;rw[t]at B;injection B with B
    subst B;have q:=h.blk k _ b l trivial (by rw[t];rfl)
    have hSb:Ap (Uw cx U O.objs ks bs) (Bn U ks) (Bu (os.map (·.2))) w b:=by
     refine⟨q.1,?_,fun i o L s=>?_⟩
     ·rintro(hA|⟨E,oo,V,s,hn1,hn2,hb'⟩)
      ·exact q.2.1 hA
      ·by_cases he:E=k
       ·subst he;exact hn2 R
       ·exact h.inj k E _ oo b l V trivial s (Ne.symm he) (by rw[t];rfl) hb'
     ·obtain⟨E,g',C,D,K,I,_⟩:=M i o L;have Q:k≠E:=fun e=>r (by rw[e];exact B3 D)
      have:=h.inj k E _ _ b l (H _ _ K) trivial (I s) Q (by rw[t];rfl);simpa[Bn,D]using this
    exact .p _ _ (.mp _ _ _ _ _ _ hSb hh hm hz (fun i e n he hn=>(hr i e n he hn).mono hS (fun _ _=>rfl)))
  ·simp at m
 ·simp at m
theorem Wn(h:Rel cx U O a w){ob:Ay}(m:∀k o,ob k=some o->O.objs k=some o){ks bs:List Nat}{os:List (Nat×Body)}(l:Tj ob ks=some os)
  {v:Value} {x y:MV} (t:RelV U O.objs (Ap cx.Av U O.objs w) w v x) (b:Zm ob ks x=some y):
  RelV (Bn U ks) (Bu (os.map (·.2))) (Ap (Uw cx U O.objs ks bs) (Bn U ks) (Bu (os.map (·.2))) w) w v y:=by
 have key:(y=.any)\/(Aby ob ks x=some y/\Ye ks x=[]):=by
  unfold Zm at b;split at b
  ·right;simp at b;subst b;exact⟨rfl,rfl⟩
  ·left;simp at b;exact b.symm
  ·split at b
   ·rename_i k g off len q i j hi;obtain⟨W,n,f⟩:=q;simp at b;subst b;right;simp[Aby,Ye,j,hi]
   ·simp at b
  ·split at b
   ·rename_i k g off q i j hi;simp at b;subst b;right;simp[Aby,Ye,j,hi]
   ·simp at b
  ·split at b
   ·rename_i k g q i j hi;obtain⟨z,has,f⟩:=q;simp at b;subst b;right;simp[Aby,Ye,j,hi]
   ·simp at b
  ·simp at b
 rcases key with rfl|⟨u,s⟩
 ·exact .any _
 ·exact Alg h m l t u (fun k r=>by rw[s]at r;simp at r)
theorem Aqz(h:Rel cx U O a w){ob:Ay}(m:∀k o,ob k=some o->O.objs k=some o){ks bs:List Nat}{os:List (Nat×Body)}(l:Tj ob ks=some os)
  {v:Value} {x y:MV} (C:RelV U O.objs (Ap cx.Av U O.objs w) w v x) (j:toC2 ob ks x=some y):
  RelV (Bn U ks) (Bu (os.map (·.2))) (Ap (Uw cx U O.objs ks bs) (Bn U ks) (Bu (os.map (·.2))) w) w v y:=by
 cases C with
 |fn f cs vs z A=>
  simp only[toC2]at j;split at j
  ·rename_i t r;simp only[A1]at j;subst j;obtain⟨B,u⟩:=AbB cs t r;refine .fn f t vs (by rw[z,B]) fun i y j=>?_
   obtain⟨x,s,q⟩:=u i y j;exact Wn h m l (A i x s) q
  ·simp at j
 |p v x s=>exact Wn h m l (.p _ _ s) j
 |own k g off len base c n=>exact Wn h m l (.own _ _ _ _ _ _ n) j
 |ref k g off b n=>exact Wn h m l (.ref _ _ _ _ n) j
 |mref k g b n=>exact Wn h m l (.mref _ _ _ n) j
 |any v=>exact Wn h m l (.any v) j
 |_=>simp[toC2,Zm]at j
theorem toB_sound(h:Rel cx U O a w){ob:Ay}(B:∀k o,ob k=some o->O.objs k=some o){ks bs:List Nat}{os:List (Nat×Body)}(D:Tj ob ks=some os)
  (E:∀b,Ap cx.Av U O.objs w b->Ap (Uw cx U O.objs ks bs) (Bn U ks) (Bu (os.map (·.2))) w b)
  {l:Loc} {b c:Body} (s:ObjRel U O.objs (Ap cx.Av U O.objs w) w l b) (g:toB ob ks b=some c):
  ObjRel (Bn U ks) (Bu (os.map (·.2))) (Ap (Uw cx U O.objs ks bs) (Bn U ks) (Bu (os.map (·.2))) w) w l c:=by
 cases b with
 |box cs=>
  simp only[toB]at g;split at g<;>simp at g;rename_i H A;subst g;obtain⟨L,F⟩:=AbB cs H A;obtain⟨G,cur,e,rfl,r,m,t⟩:=s;refine⟨G,cur,e,rfl,r,by rw[L];exact m,fun j y J=>?_⟩;obtain⟨x,M,C⟩:=F j y J;obtain⟨u,u1,u2,I⟩:=t j x M
  exact⟨u,u1,u2,Aqz h B D I C⟩
 |row W n f=>
  simp only[toB,A1]at g;subst g;rcases s with s|⟨b,o,cap,cur,e,rfl,r,m,t,v⟩
  ·exact .inl s
  ·exact .inr ⟨b,o,cap,cur,e,rfl,r,m,t,fun i hi=>⟨(v i hi).1,(v i hi).2.mono E (fun _ _=>rfl)⟩⟩
 |mp z has f=>
  simp only[toB,A1]at g;subst g;obtain⟨b,K,clock,rfl,r,m,t,v⟩:=s
  exact⟨b,K,clock,rfl,r,m,t,fun i e n Q N=>(v i e n Q N).mono E (fun _ _=>rfl)⟩
 |mq q=>simp[toB]at g
 |dead=>simp[toB]at g;subst g;trivial
theorem Asq(h:Rel cx U O a w){ob:Ay}(C:∀k o,ob k=some o->O.objs k=some o){ks bs:List Nat}{os:List (Nat×Body)}(F:Tj ob ks=some os)
  {v:Value} {x y:MV} (I:RelV U O.objs (Ap cx.Av U O.objs w) w v x) (g:toC ob ks x=some y) (r:∀k∈bor ks x,k∈bs):
  RelV (Bn U ks) (Bu (os.map (·.2))) (Ap (Uw cx U O.objs ks bs) (Bn U ks) (Bu (os.map (·.2))) w) w v y:=by
 have n:∀(cs l:List MV) (vs:Array Value),Yn (Aby ob ks) cs=some l->(∀k∈cs.flatMap (Ye ks),k∈bs) ->
   (∀(i:Nat) x,cs[i]?=some x->RelV U O.objs (Ap cx.Av U O.objs w) w (vs.getD i undef) x) ->
   l.length=cs.length/\∀(i:Nat) y,l[i]?=some y->RelV (Bn U ks) (Bu (os.map (·.2))) (Ap (Uw cx U O.objs ks bs) (Bn U ks) (Bu (os.map (·.2))) w) w (vs.getD i undef) y:=by
  intro cs l vs R B D;obtain⟨G,J⟩:=AbB cs l R;refine⟨G,fun i z N=>?_⟩;obtain⟨q,j,H⟩:=J i z N;exact Alg h C F (D i q j) H (fun k L=>B k (K2.2 ⟨q,B3 j,L⟩))
 unfold toC at g;split at g
 ·rename_i cs
  cases I with
  |agg _ vs A D G=>
   split at g
   ·rename_i l s;obtain⟨m,u⟩:=n cs l vs s (by simpa[bor]using r) D;have E:∀(i:Nat),i<cs.length->(vs.getD i undef).oneCell'=true:=fun i hi=>G i cs[i] (B0 hi)
    split at g
    ·rename_i M t;simp at g;subst g;have b:=Hv t;refine .p _ _ (.agg _ _ (by rw[A,<-m,b];simp) (fun i q j=>?_) (fun i q j=>?_))
     ·exact(u i (.p q) (by rw[b,A7,j];rfl)).inv_p
     ·refine E i ?_;have:=(A9.1 j).1;rw[<-m,b];simpa using this
    ·simp at g;subst g;exact .agg _ _ (by rw[A,m]) u (fun i q j=>E i (by rw[<-m];exact(A9.1 j).1))
   ·simp at g
 ·rename_i f cs
  cases I with
  |fn _ _ vs A D=>
   split at g
   ·rename_i l s;obtain⟨m,u⟩:=n cs l vs s (by simpa[bor]using r) D;split at g
    ·rename_i M t
     cases B:Nat.blt f BND with
     |false=>simp[B]at g;subst g;exact .fn _ _ _ (by rw[A,m]) u
     |true=>
     simp[B]at g;subst g;have b:=Hv t;rw[AgM B];refine .p _ _ (.fn _ _ _ (by rw[A,<-m,b];simp) (fun i q j=>?_));exact(u i (.p q) (by rw[b,A7,j];rfl)).inv_p
    ·simp at g;subst g;exact .fn _ _ _ (by rw[A,m]) u
   ·simp at g
 ·rename_i K Q;refine Alg h C F I g ?_
  have:bor ks x=Ye ks x:=by
   unfold bor;cases x<;>simp_all
  rw[<-this];exact r
end
end Go.Dm

namespace Go.Dm
def ren1(m:List (Nat×Nat)):MV->MV
 | .p x=>.p x
 | .own i _ off len=>match m[i]? with
  |some (k,g)=>.own k g off len
  |none=>.any
 | .ref i _ off=>match m[i]? with
  |some (k,g)=>.ref k g off
  |none=>.any
 | .eref i _ ix off=>match m[i]? with
  |some (k,g)=>.eref k g ix off
  |none=>.any
 | .mref i _=>match m[i]? with
  |some (k,g)=>.mref k g
  |none=>.any
 | .fptr cs=>.fptr cs
 | .und=>.und
 |_=>.any
def renN(m:List (Nat×Nat)):Nat->MV->MV
 |0,x=>ren1 m x
 |d+1,.agg cs=>.agg (cs.map (renN m d))
 |d+1,.tup cs=>.tup (cs.map (renN m d))
 |d+1,.fn f cs=>.fn f (cs.map (renN m d))
 |_+1,x=>ren1 m x
def PV.flat:PV->Bool
 | .v _=>true
 |_=>false
def PV.scal2:PV->Bool
 | .v _=>true
 | .agg cs=>cs.all PV.flat
 |_=>false
def PV.scalar:PV->Bool
 | .v _=>true
 | .agg cs=>cs.all PV.flat
 | .tup cs=>cs.all PV.scal2
 |_=>false
def MV.scalar:MV->Bool
 | .p x=>x.scalar
 | .und=>true
 |_=>false
def MV.flat:MV->Bool
 | .p x=>x.flat
 |_=>false
def Body.flatB:Body->Bool
 | .box cs=>cs.all MV.flat
 |_=>false
theorem AgT{S b:Nat->Prop}{w w':World}{v:Value}{x:PV}(f:x.flat=true)(h:Rep S w v x):Rep b w' v x:=by
 cases h with
 |v _ h=>exact .v _ h
 |_=>simp[PV.flat]at f
theorem ArW{S g:Nat->Prop}{w w':World}{v:Value}{x:PV}(b:x.scal2=true)(h:Rep S w v x):Rep g w' v x:=by
 cases h with
 |v _ h=>exact .v _ h
 |agg cs vs j k l=>
  simp only[PV.scal2,B6]at b
  exact .agg cs vs j (fun i y f=>AgT (b y (B3 f)) (k i y f)) l
 |_=>simp[PV.scal2]at b
theorem ApE{S k:Nat->Prop}{w w':World}{v:Value}{x:PV}(f:x.scalar=true)(h:Rep S w v x):Rep k w' v x:=by
 cases h with
 |v _ h=>exact .v _ h
 |agg cs vs g j l=>
  simp only[PV.scalar,B6]at f
  exact .agg cs vs g (fun i y b=>AgT (f y (B3 b)) (j i y b)) l
 |tup cs vs g j=>
  simp only[PV.scalar,B6]at f
  exact .tup cs vs g (fun i y b=>ArW (f y (B3 b)) (j i y b))
 |_=>simp[PV.scalar]at f
theorem Amj{C u:Bs}{objs' n:Ay}{S G:Nat->Prop}{w w':World}{m:List (Nat×Nat)}(L:∀b,S b->G b)(K:w'.heap=w.heap)
  (hm:∀i o,objs' i=some o->o.gen=0/\∀k g,m[i]?=some (k,g)->∃z,n k=some z/\g<=z.gen/\(z.gen=g->u k=C i/\o.body.same z.body)):
  ∀(d:Nat) (v:Value) (x:MV),RelV C objs' S w v x->RelV u n G w' v (renN m d x):=by
 have known:∀(i k Q g:Nat) (F:Loc->Body->Prop),(∀l b c,F l b->b.same c->F l c)->m[i]?=some (k,g)->Known C objs' i Q F->Known u n k g F:=by
  intro i k Q g F W r V;obtain⟨o,Y,hle,X⟩:=V;obtain⟨h0,D⟩:=hm i o Y;obtain⟨z,I,T,J⟩:=D k g r;refine⟨z,I,T,fun he=>?_⟩;obtain⟨R,B⟩:=J he;rw[R];exact W _ _ _ (X (by omega)) B
 have one:∀(v:Value) (x:MV),RelV C objs' S w v x->RelV u n G w' v (ren1 m x):=by
  intro v x h
  cases h with
  |p _ _ h=>exact .p _ _ (h.mono L (fun _ _=>by rw[K]))
  |own i g off len base c h=>
   simp only[ren1];split
   ·rename_i k E r;exact .own _ _ _ _ _ _ (known i k g E _ (fun _ _ _ h B=>OwnAt.same h B) r h)
   ·exact .any _
  |ref i g off b h=>
   simp only[ren1];split
   ·rename_i k E r;exact .ref _ _ _ _ (known i k g E _ (fun _ _ _ h _=>h) r h)
   ·exact .any _
  |eref i g ix off b oo h=>
   simp only[ren1];split
   ·rename_i k E r;exact .eref _ _ _ _ _ _ (known i k g E _ (fun _ _ _ h B=>ERefAt.same h B) r h)
   ·exact .any _
  |fptr cs b o B c N D A=>
   exact .fptr _ _ _ (L _ B) c (fun j hj=>by rw[Asy K];exact N j hj) D (fun j x hx=>(A j x hx).mono L (fun _ _=>by rw[K]))
  |mref i g b h=>
   simp only[ren1];split
   ·rename_i k E r;exact .mref _ _ _ (known i k g E _ (fun _ _ _ h _=>h) r h)
   ·exact .any _
  |und=>exact .und
  |_=>exact .any _
 intro d
 induction d with
 |zero=>exact one
 |succ d M=>
  intro v x h
  cases h with
  |agg cs vs H A D=>
   refine .agg _ _ (by simpa using H) (fun i y s=>?_) (fun i y s=>?_)
   ·rw[A7]at s
    cases t:cs[i]? with
    |none=>simp[t]at s
    |some q=>simp[t]at s;subst s;exact M _ _ (A i q t)
   ·rw[A7]at s
    cases t:cs[i]? with
    |none=>simp[t]at s
    |some q=>exact D i q t
  |tup cs vs H A=>
   refine .tup _ _ (by simpa using H) (fun i y s=>?_);rw[A7]at s
   cases t:cs[i]? with
   |none=>simp[t]at s
   |some q=>simp[t]at s;subst s;exact M _ _ (A i q t)
  |fn f cs vs H A=>
   refine .fn _ _ _ (by simpa using H) (fun i y s=>?_);rw[A7]at s
   cases t:cs[i]? with
   |none=>simp[t]at s
   |some q=>simp[t]at s;subst s;exact M _ _ (A i q t)
  |p _ _ h=>exact one _ _ (.p _ _ h)
  |own i g off len base c h=>exact one _ _ (.own _ _ _ _ _ _ h)
  |ref i g off b h=>exact one _ _ (.ref _ _ _ _ h)
  |eref i g ix off b oo h=>exact one _ _ (.eref _ _ _ _ _ _ h)
  |fptr cs b o B c N D A=>exact one _ _ (.fptr _ _ _ B c N D A)
  |mref i g b h=>exact one _ _ (.mref _ _ _ h)
  |und=>exact one _ _ .und
  |any v=>exact one _ _ (.any v)
def upG(g:Nat):Body->Nat
 | .dead=>g+1
 |_=>g
theorem AtU{g:Nat}{b:Body}(h:b.live):upG g b=g:=by cases b<;>first|rfl|exact h.elim
def Xd:List Nat->List (Nat×Body)->List Body->List (Nat×Obj)
 |k::ks,(g,_)::os,bd::r=>(k,⟨upG g bd,bd⟩)::Xd ks os r
 |_,_,_=>[]
def newO(ob:Ay)(dst:Nat):Nat->List Body->List (Nat×Obj)
 |_,[]=>[]
 |j,bd::r=>(key dst j,⟨Bt (ob (key dst j)),bd⟩)::newO ob dst (j+1) r
def AnK(ob:Ay):List Nat->List (Nat×Obj)
 |[]=>[]
 |k::r=>(k,⟨Bt (ob k),.dead⟩)::AnK ob r
def Aie:List Nat->List (Nat×Body)->List (Nat×Nat)
 |k::ks,(g,_)::os=>(k,g)::Aie ks os
 |_,_=>[]
def newM(ob:Ay)(dst:Nat):Nat->List Body->List (Nat×Nat)
 |_,[]=>[]
 |j,_::r=>(key dst j,Bt (ob (key dst j)))::newM ob dst (j+1) r
def Aho:List Nat->Bool
 |[]=>true
 |x::r=>!(elem x r)&&Aho r
theorem AkH(l:List Nat):Aho l=true->l.Nodup:=by
 induction l with
 |nil=>intro _;simp
 |cons x r b=>
  intro h;simp only[Aho,A6,D7]at h;rw[H4];refine⟨fun f=>?_,b h.2⟩;rw[(Vh x r).2 f]at h;simp at h
theorem AeB{objs:Ay}:∀(wo:List (Nat×Obj)) (k:Nat) (o:Obj),(Bw wo).Nodup->(k,o)∈wo->Cf objs wo k=some o:=by
 intro wo
 induction wo generalizing objs with
 |nil=>intro k o _ h;simp at h
 |cons p r f=>
  intro k o b h;obtain⟨g,i⟩:=p;simp only[Bw,H4]at b;simp only[Cf];rcases C0.1 h with h|h
  ·injection h with e1 e2
   subst e1;subst e2;rw[Sa r (by rw[<-Cw];exact b.1),Bj]
  ·exact f k o b.2 h
theorem flatB_rel{U i:Bs}{objs objs':Ay}{S q:Nat->Prop}{w:World}{l:Loc}{bd:Body}(g:bd.flatB=true)(h:ObjRel U objs S w l bd):ObjRel i objs' q w l bd:=by
 cases bd with
 |box cs=>
  obtain⟨b,cur,e,n,r,m,o⟩:=h;refine⟨b,cur,e,n,r,m,fun j x k=>?_⟩;obtain⟨u,u1,u2,s⟩:=o j x k;refine⟨u,u1,u2,?_⟩;simp only[Body.flatB,B6]at g;have f:=g x (B3 k)
  cases x with
  |p y=>exact .p _ _ (AgT f s.inv_p)
  |_=>simp[MV.flat]at f
 |_=>simp[Body.flatB]at g
def MV.scal1:MV->Bool
 | .p x=>x.flat
 | .own _ _ _ _=>true
 |_=>false
def MV.scalQ:MV->Bool
 | .p x=>x.scal2
 | .own _ _ _ _=>true
 | .agg cs=>cs.all MV.scal1
 |_=>false
def PV.emptyS:PV->Bool
 | .sl _ _ n _=>Nat.beq n 0
 |_=>false
theorem Axl{S r:Nat->Prop}{w:World}{v:Value}{x:PV}(l:x.emptyS=true)(h:Rep S w v x):Rep r w v x:=by
 cases h with
 |slnil _ _ _ h=>exact .slnil _ _ _ h
 |sl fl W n cap b o f c k g t m y u s=>
  have q:n=0:=A3 l;subst q
  exact .sl _ _ _ cap b o _ c k g (fun h=>absurd rfl h) (fun i hi=>absurd hi (K8 i)) (fun i j hi=>absurd hi (K8 i)) (fun i j hi=>absurd hi (K8 i)) (fun i j x hi=>absurd hi (K8 i))
 |_=>simp[PV.emptyS]at l
def MV.scalR:MV->Bool
 | .p x=>x.scalar||x.emptyS
 | .own _ _ _ _=>true
 | .und=>true
 | .agg cs=>cs.all MV.scal1
 | .tup cs=>cs.all MV.scalQ
 |_=>false
def Body.flatR:Body->Bool
 | .box cs=>cs.all MV.scal1
 | .row _ _ _=>true
 |_=>false
def Agj:List Body->List Prop
 |[]=>[]
 | .row _ n f::r=>(∀i,i<n->(f i).all PV.flat=true)::Agj r
 |_::r=>Agj r
theorem AvK{W n:Nat}{f:Nat->List PV}:∀{l:List Body},All (Agj l)->Body.row W n f∈l->∀i,i<n->(f i).all PV.flat=true:=by
 intro l
 induction l with
 |nil=>intro _ h;simp at h
 |cons b r j=>
  intro h g;rcases C0.1 g with e|e
  ·subst e;exact h.1
  ·refine j ?_ e;cases b<;>first|exact h.2|exact h
theorem AmG{U:Bs}{objs:Ay}{S f:Nat->Prop}{w:World}{v:Value}{x:MV}(b:x.scal1=true)(h:RelV U objs S w v x):RelV U objs f w v x:=by
 cases h with
 |p _ _ h=>exact .p _ _ (AgT b h)
 |own k g off len base c h=>exact .own k g off len base c h
 |_=>simp[MV.scal1]at b
theorem scalQ_rel{U:Bs}{objs:Ay}{S m:Nat->Prop}{w:World}{v:Value}{x:MV}(b:x.scalQ=true)(h:RelV U objs S w v x):RelV U objs m w v x:=by
 cases h with
 |p _ _ h=>exact .p _ _ (ArW b h)
 |own k g off len base c h=>exact .own k g off len base c h
 |agg cs vs j l n=>
  simp only[MV.scalQ,B6]at b
  exact .agg cs vs j (fun i y f=>AmG (b y (B3 f)) (l i y f)) n
 |_=>simp[MV.scalQ]at b
theorem scalR_rel{U:Bs}{objs:Ay}{S m:Nat->Prop}{w:World}{v:Value}{x:MV}(b:x.scalR=true)(h:RelV U objs S w v x):RelV U objs m w v x:=by
 cases h with
 |p _ _ h=>
  simp only[MV.scalR,B7]at b;rcases b with b|b
  ·exact .p _ _ (ApE b h)
  ·exact .p _ _ (Axl b h)
 |own k g off len base c h=>exact .own k g off len base c h
 |agg cs vs j l n=>
  simp only[MV.scalR,B6]at b
  exact .agg cs vs j (fun i y f=>AmG (b y (B3 f)) (l i y f)) n
 |tup cs vs j l=>
  simp only[MV.scalR,B6]at b
  exact .tup cs vs j (fun i y f=>scalQ_rel (b y (B3 f)) (l i y f))
 |und=>exact .und
 |_=>simp[MV.scalR]at b
theorem flatR_rel{U:Bs}{objs:Ay}{S A:Nat->Prop}{w:World}{l:Loc}{bd:Body}(k:bd.flatR=true)(z:∀W n f,bd=.row W n f->∀i,i<n->(f i).all PV.flat=true)(h:ObjRel U objs S w l bd):ObjRel U objs A w l bd:=by
 cases bd with
 |box cs=>
  obtain⟨b,cur,e,q,s,m,r⟩:=h;refine⟨b,cur,e,q,s,m,fun j x g=>?_⟩;obtain⟨u,u1,u2,t⟩:=r j x g;simp only[Body.flatR,B6]at k
  exact⟨u,u1,u2,AmG (k x (B3 g)) t⟩
 |row W n f=>
  rcases h with h|⟨b,o,cap,cur,e,q,s,m,r,y⟩
  ·exact .inl h
  ·refine .inr ⟨b,o,cap,cur,e,q,s,m,r,fun i hi=>⟨(y i hi).1,?_⟩⟩;have v:=z W n f rfl i hi;rw[B6]at v;have:=(y i hi).2;intro j x g;obtain⟨u,u1,u2,t⟩:=this j x g
   exact⟨u,u1,u2,AgT (v x (B3 g)) t⟩
 |_=>simp[Body.flatR]at k
def Oy(m:List (Nat×Nat)):Body->Body
 | .box cs=>.box (cs.map (renN m 1))
 |b=>b
theorem renB_live{m:List (Nat×Nat)}{b:Body}:(Oy m b).live↔b.live:=by cases b<;>simp[Oy,Body.live]
theorem upG_ren{g:Nat}{m:List (Nat×Nat)}{b:Body}:upG g (Oy m b)=upG g b:=by cases b<;>rfl
theorem AmB{m:List (Nat×Nat)}{b:Body}:b.same (Oy m b):=by cases b<;>simp[Oy,Body.same]
theorem Axs{a b c:Body}(h:a.same b)(k:b.same c):a.same c:=by
 cases a<;>cases b<;>cases c<;>simp_all[Body.same]
theorem renB_flat{m:List (Nat×Nat)}{b:Body}(h:b.flatB=true):Oy m b=b:=by
 cases b with
 |box cs=>
  simp only[Body.flatB,B6]at h;simp only[Oy,Body.box.injEq]
  have:cs.map (renN m 1)=cs.map id:=C8 fun x f=>by
   have:=h x f;cases x<;>simp_all[MV.flat,renN,ren1]
  simpa using this
 |_=>rfl
theorem AkU{D t:Bs}{objs' r:Ay}{S C:Nat->Prop}{w:World}{m:List (Nat×Nat)}(G:∀b,S b->C b)
  (L:∀i o,objs' i=some o->o.gen=0/\∀k g,m[i]?=some (k,g)->∃s,r k=some s/\g<=s.gen/\(s.gen=g->t k=D i/\o.body.same s.body))
  {l:Loc} {bd:Body} (h:ObjRel D objs' S w l bd):ObjRel t r C w l (Oy m bd):=by
 cases bd with
 |box cs=>
  obtain⟨b,cur,e,y,A,v,B⟩:=h;refine⟨b,cur,e,y,A,by simpa using v,fun j x F=>?_⟩;rw[A7]at F
  cases H:cs[j]? with
  |none=>simp[H]at F
  |some q=>
   simp[H]at F;subst F;obtain⟨u,u1,u2,I⟩:=B j q H
   exact⟨u,u1,u2,Amj G rfl L 1 _ _ I⟩
 |row W n f=>
  rcases h with h|⟨b,o,cap,cur,e,y,A,v,B,E⟩
  ·exact .inl h
  ·exact .inr ⟨b,o,cap,cur,e,y,A,v,B,fun i hi=>⟨(E i hi).1,(E i hi).2.mono G (fun _ _=>rfl)⟩⟩
 |mp z has f=>
  obtain⟨b,J,clock,y,A,v,B,E⟩:=h
  exact⟨b,J,clock,y,A,v,B,fun i e n M K=>(E i e n M K).mono G (fun _ _=>rfl)⟩
 |mq q=>exact QRel.mono G (fun _ _=>rfl) (fun _ _=>rfl) h
 |dead=>trivial
def Wl(ob:Ay)(dst:Nat)(ks:List Nat)(xs:List MV)(keep:Bool)(res:MV)(outs' news:List Body):Option (List MV×List Body×Eff):=
 match Yn (toC ob ks) xs,Tj ob ks with
 |some args,some os=>
  let bs:=dedup (xs.flatMap (bor ks)) []
  let m:=Aie ks os++newM ob dst 0 news
  let wo:=Xd ks os (outs'.map (Oy m))++newO ob dst 0 (news.map (Oy m))++(bif keep then[]else AnK ob bs)
  let old:=!keep||bs.isEmpty||(news.isEmpty&&outs'.all Body.flatB&&res.scalar)
  bif Nat.beq outs'.length ks.length&&Aho (Bw wo)&&bs.all (fun k=>(ob k).isSome)
   && (old||((outs'++news).all Body.flatR&&res.scalR))then
   some (args,os.map (·.2),renN m 3 res,wo,bif old then[]else Agj (outs'++news))
  else none
 |_,_=>none
theorem backO_mem{ks:List Nat}{os:List (Nat×Body)}{outs':List Body}:∀{k o},(k,o)∈Xd ks os outs'->∃(i:Nat) (g:Nat) (b bd:Body),ks[i]?=some k/\os[i]?=some (g,b)/\outs'[i]?=some bd/\o=⟨upG g bd,bd⟩:=by
 intro k o h
 induction ks generalizing os outs' with
 |nil=>simp[Xd]at h
 |cons t ks m=>
  cases os with
  |nil=>simp[Xd]at h
  |cons p os=>
   cases outs' with
   |nil=>simp[Xd]at h
   |cons bd r=>
    obtain⟨g,b⟩:=p;simp only[Xd,C0]at h;rcases h with h|h
    ·injection h with e1 e2
     exact⟨0,g,b,bd,by simp[e1],rfl,rfl,e2⟩
    ·obtain⟨i,s,j,bd',q,f,l,n⟩:=m h;exact⟨i+1,s,j,bd',by simpa using q,by simpa using f,by simpa using l,n⟩
theorem backO_has{ks:List Nat}{os:List (Nat×Body)}{outs':List Body}:∀{i k:Nat} {g:Nat} {b bd:Body},ks[i]?=some k->os[i]?=some (g,b)->outs'[i]?=some bd->(k,⟨upG g bd,bd⟩)∈Xd ks os outs':=by
 induction ks generalizing os outs' with
 |nil=>intro i k g b bd h;simp at h
 |cons q ks m=>
  intro i k g b bd l f j
  cases os with
  |nil=>simp at f
  |cons p os=>
   cases outs' with
   |nil=>simp at j
   |cons bd' r=>
    obtain⟨o,n⟩:=p;simp only[Xd,C0]
    cases i with
    |zero=>simp at l f j;left;simp[l,f.1,j]
    |succ i=>right;exact m (by simpa using l) (by simpa using f) (by simpa using j)
theorem newO_mem{ob:Ay}{dst:Nat}:∀{news:List Body} {s:Nat} {k o},(k,o)∈newO ob dst s news->∃(j:Nat) (bd:Body),news[j]?=some bd/\k=key dst (s+j)/\o=⟨Bt (ob (key dst (s+j))),bd⟩:=by
 intro news
 induction news with
 |nil=>intro s k o h;simp[newO]at h
 |cons b r f=>
  intro s k o h;simp only[newO,C0]at h;rcases h with h|h
  ·injection h with e1 e2
   exact⟨0,b,rfl,e1,e2⟩
  ·obtain⟨j,bd,i,g,l⟩:=f h;refine⟨j+1,bd,by simpa using i,?_,?_⟩
   ·rw[g,show s+1+j=s+(j+1) by omega]
   ·rw[l,show s+1+j=s+(j+1) by omega]
theorem Aud{ob:Ay}{dst:Nat}:∀{news:List Body} {s j:Nat} {bd:Body},news[j]?=some bd->(key dst (s+j),⟨Bt (ob (key dst (s+j))),bd⟩)∈newO ob dst s news:=by
 intro news
 induction news with
 |nil=>intro s j bd h;simp at h
 |cons b r f=>
  intro s j bd h;simp only[newO,C0]
  cases j with
  |zero=>simp at h;left;simp[h]
  |succ j=>
   right;have:=f (s:=s+1) (j:=j) (bd:=bd) (by simpa using h)
   rwa [show s+1+j=s+(j+1) by omega]at this
theorem deadO_mem{ob:Ay}:∀{bs:List Nat} {k o},(k,o)∈AnK ob bs↔k∈bs/\o=⟨Bt (ob k),.dead⟩:=by
 intro bs
 induction bs with
 |nil=>intro k o;simp[AnK]
 |cons x r g=>
  intro k o;simp only[AnK,C0,g,A4];constructor
  ·rintro(⟨rfl,rfl⟩|⟨f,b⟩)
   ·exact⟨.inl rfl,rfl⟩
   ·exact⟨.inr f,b⟩
  ·rintro⟨rfl|f,b⟩
   ·exact .inl ⟨rfl,b⟩
   ·exact .inr ⟨f,b⟩
theorem backM_get{ks:List Nat}:∀{os:List (Nat×Body)},os.length=ks.length->(Aie ks os).length=ks.length/\∀(i k g:Nat),(Aie ks os)[i]?=some (k,g)->ks[i]?=some k/\∃b,os[i]?=some (g,b):=by
 induction ks with
 |nil=>intro os h;cases os<;>simp[Aie]
 |cons r ks j=>
  intro os h
  cases os with
  |nil=>simp at h
  |cons p os=>
   obtain⟨q,o⟩:=p;obtain⟨l,f⟩:=j (os:=os) (by simpa using h);refine⟨by simp[Aie,l],fun i k g hi=>?_⟩;simp only[Aie]at hi
   cases i with
   |zero=>simp at hi;simp[hi.1,hi.2]
   |succ i=>
    obtain⟨m,b,n⟩:=f i k g (by simpa using hi);exact⟨by simpa using m,b,by simpa using n⟩
theorem newM_get{ob:Ay}{dst:Nat}:∀{news:List Body} {s:Nat} {i k g:Nat},(newM ob dst s news)[i]?=some (k,g)->k=key dst (s+i)/\g=Bt (ob (key dst (s+i)))/\i<news.length:=by
 intro news
 induction news with
 |nil=>intro s i k g h;simp[newM]at h
 |cons b r l=>
  intro s i k g h;simp only[newM]at h
  cases i with
  |zero=>simp at h;exact⟨by rw[<-h.1];rfl,by rw[<-h.2];rfl,by simp⟩
  |succ i=>
   obtain⟨j,f,m⟩:=l (by simpa using h);rw[show s+1+i=s+(i+1) by omega]at j f;exact⟨j,f,by simp;omega⟩
section
variable {P:Program} {cx:Cx P} {U:Bs} {O:St} {a:Act} {w:World}
theorem AuV{args:List MV}{outs outs' news:List Body}{res y:MV}{wo:List (Nat×Obj)}{obl:List Prop}{ob:Ay}{ks:List Nat}{xs:List MV}{dst:Nat}{keep:Bool}
  (h:Rel cx U O a w) (hob:∀k o,ob k=some o->O.objs k=some o)
  (hobn:∀j,j<news.length->ob (key dst j)=O.objs (key dst j)) (hobb:∀k,k∈xs.flatMap (bor ks)->ob k=O.objs k)
  (he:Wl ob dst ks xs keep res outs' news=some (args,outs,y,wo,obl)) (hobl:All obl)
  (hsame:∀(i:Nat) b V,outs[i]?=some b->outs'[i]?=some V->V.live->b.same V)
  (vs:Array Value) (hvs:vs.size=xs.length) (hrel:∀(i:Nat) x,xs[i]?=some x->RelV U O.objs (Ap cx.Av U O.objs w) w (vs.getD i undef) x):
  ∃Av' β0,Pre P w Av' β0 outs vs args/\∀w' v β1,Post w Av' β0 outs w' β1 v res outs' news->∃β',Rel cx β' ⟨O.slots,Cf O.objs wo⟩ a w' /\
   RelV β' (Cf O.objs wo) (Ap cx.Av β' (Cf O.objs wo) w') w' v y/\∀b,Ap cx.Av U O.objs w b->w'.heap[b]?=w.heap[b]?:=by
 unfold Wl at he;split at he
 case h_2=>simp at he
 rename_i args0 os hargs hos;generalize hbs:dedup (xs.flatMap (bor ks)) []=bs at he;simp only at he;generalize hmdef:Aie ks os++newM ob dst 0 news=m at he;generalize hwo:Xd ks os (outs'.map (Oy m))++newO ob dst 0 (news.map (Oy m))++(bif keep then[]else AnK ob bs)=I at he;generalize hold:(!keep||bs.isEmpty||(news.isEmpty&&outs'.all Body.flatB&&res.scalar))=old at he
 cases G:(Nat.beq outs'.length ks.length&&Aho (Bw I)&&bs.all (fun k=>(ob k).isSome)
   && (old||((outs'++news).all Body.flatR&&res.scalR)))with
 |false=>rw[G]at he;simp at he
 |true=>
 simp only[G,cond_true,A1,A4]at he;obtain⟨rfl,rfl,rfl,rfl,rfl⟩:=he;simp only[A6]at G;obtain⟨⟨⟨c1,c2⟩,c5⟩,c6⟩:=G;have e1:=A3 c1;have hnd:=AkH _ c2;rw[B6]at c5;obtain⟨hosl,hosg⟩:=AiV ks os hos;obtain⟨hal,hag⟩:=AbB xs args0 hargs
 have hbmem:∀k,k∈bs↔k∈xs.flatMap (bor ks):=by
  intro k;rw[<-hbs,dedup_mem];simp
 have hbsome:∀k∈bs,∃o,O.objs k=some o/\ob k=some o:=by
  intro k u;have:=c5 k u
  cases t:ob k with
  |none=>simp[t]at this
  |some o=>exact⟨o,hob k o t,rfl⟩
 have F:∀(i:Nat) bd,(os.map (·.2))[i]?=some bd->∃k g,ks[i]?=some k/\os[i]?=some (g,bd)/\∃N,O.objs k=some ⟨g,N⟩/\toB ob ks N=some bd:=by
  intro i bd hi;rw[A7]at hi
  cases t:os[i]? with
  |none=>simp[t]at hi
  |some p=>
   have hlt:i<ks.length:=by rw[<-hosl];exact(A9.1 t).1
   obtain⟨g,bd',J,N,q2,q3⟩:=hosg i ks[i] (B0 hlt);rw[t]at J;injection J with J
   subst J;simp[t]at hi;subst hi;exact⟨ks[i],g,B0 hlt,rfl,N,hob _ _ q2,q3⟩
 have hwkeys:Bw (Xd ks os (outs'.map (Oy m)))=ks:=by
  have:∀(ks:List Nat) (os:List (Nat×Body)) (outs':List Body),os.length=ks.length->outs'.length=ks.length->Bw (Xd ks os outs')=ks:=by
   intro ks
   induction ks with
   |nil=>intro os o' _ _;cases os<;>simp[Xd,Bw]
   |cons k r ih=>
    intro os o' C H
    cases os with
    |nil=>simp at C
    |cons p os=>
     cases o' with
     |nil=>simp at H
     |cons bd o'=>obtain⟨g,b⟩:=p;simp[Xd,Bw,ih os o' (by simpa using C) (by simpa using H)]
  exact this ks os (outs'.map (Oy m)) hosl (by simpa using e1)
 have hnodks:ks.Nodup:=by
  rw[<-hwo]at hnd;simp only[Cw,G9]at hnd;rw[<-Cw,hwkeys,H8]at hnd;exact(J8.1 hnd).1
 have hpre:Pre P w (Uw cx U O.objs ks bs) (Bn U ks) (os.map (·.2)) vs args0:=by
  refine⟨cx.gl.mono h.kept (fun b G hno=>?_),?_,by rw[hvs,hal],?_,?_,?_,?_⟩
  ·rintro⟨i,bd,hi,A,B⟩;obtain⟨k,g,u,_,N,t,hp⟩:=F i bd hi;have hc:Bn U ks i=U k:=by simp[Bn,u]
   rw[hc]at B;rcases(h.blk k _ b t ((Gy hp).2 A) B).2.2 with q|q
   ·omega
   ·exact hno q
  ·rintro b (hA|⟨k,o,t,A,_,_,B⟩)
   ·exact D9 (h.avlt b hA) h.kept.size
   ·exact(h.blk k o b t A B).1
  ·intro i x hx;obtain⟨q,hq,hqx⟩:=hag i x hx;exact Asq h hob hos (hrel i q hq) hqx (fun k u=>(hbmem k).2 (K2.2 ⟨q,B3 hq,u⟩))
  ·intro i bd hi;obtain⟨k,g,u,_,N,t,hp⟩:=F i bd hi;have hc:Bn U ks i=U k:=by simp[Bn,u]
   rw[hc];refine toB_sound h hob hos (fun b hbS=>⟨hbS.1,?_,fun j o D A=>?_⟩) (h.ob k _ t) hp
   ·rintro(hA|⟨k',o,K,A,_,_,B⟩)
    ·exact hbS.2.1 hA
    ·exact hbS.2.2 k' o K A B
   ·simp only[Bu]at D
    cases hjj:(os.map (·.2))[j]? with
    |none=>simp[hjj]at D
    |some bd'=>
     simp only[hjj,E0,A1]at D;subst D;obtain⟨k',g',hk',_,bd0',K,hp'⟩:=F j bd' hjj;have:Bn U ks j=U k':=by simp[Bn,hk']
     rw[this];exact hbS.2.2 k' _ K ((Gy hp').2 A)
  ·intro i bd b hi A B;obtain⟨k,g,u,_,N,t,hp⟩:=F i bd hi;have hc:Bn U ks i=U k:=by simp[Bn,u]
   rw[hc]at B;have hb1:=h.blk k _ b t ((Gy hp).2 A) B;refine⟨hb1.1,?_⟩;rintro(hA|⟨k',o,K,hl',hn1,_,hblk'⟩)
   ·exact hb1.2.1 hA
   ·exact h.inj k k' _ o b t K ((Gy hp).2 A) hl' (fun e=>hn1 (e▸B3 u)) B hblk'
  ·intro i j bd bd' b hi D A hl' hne B;obtain⟨k,g,u,_,N,t,hp⟩:=F i bd hi;obtain⟨k',g',hk',_,bd0',K,hp'⟩:=F j bd' D;have hc:Bn U ks i=U k:=by simp[Bn,u]
   have hc':Bn U ks j=U k':=by simp[Bn,hk']
   rw[hc]at B;rw[hc']
   have hkk:k≠k':=by
    intro e;subst e;have C:=(A9.1 u);have H:=(A9.1 hk');obtain⟨l1,v1⟩:=C;obtain⟨l2,v2⟩:=H;have hpw:=C9.1 hnodks;rcases L0 hne with hlt|hgt
    ·exact hpw i j l1 l2 hlt (v1.trans v2.symm)
    ·exact hpw j i l2 l1 hgt (v2.trans v1.symm)
   exact h.inj k k' _ _ b t K ((Gy hp).2 A) ((Gy hp').2 hl') hkk B
 refine⟨_,_,hpre,?_⟩;intro w' v β1 E;have hnl:(os.map (·.2)).length=ks.length:=by simpa using hosl
 have hA:∀(i k:Nat) g b bd,ks[i]?=some k->os[i]?=some (g,b)->outs'[i]?=some bd->Cf O.objs I k=some ⟨upG g bd,Oy m bd⟩:=by
  intro i k g b bd C H Q;refine AeB I k _ hnd ?_;rw[<-hwo];have:=backO_has (outs':=outs'.map (Oy m)) (bd:=Oy m bd) C H (by rw[A7,Q];rfl);rw[upG_ren]at this;exact B1.2 (.inl (B1.2 (.inl this)))
 have hB:∀(j:Nat) bd,news[j]?=some bd->Cf O.objs I (key dst j)=some ⟨Bt (O.objs (key dst j)),Oy m bd⟩:=by
  intro j bd D;refine AeB I _ _ hnd ?_;rw[<-hwo];have:=Aud (ob:=ob) (dst:=dst) (s:=0) (news:=news.map (Oy m)) (j:=j) (bd:=Oy m bd) (by rw[A7,D];rfl);rw[D5,hobn j (A9.1 D).1]at this;exact B1.2 (.inl (B1.2 (.inr this)))
 have hC:∀k,keep=false->k∈bs->Cf O.objs I k=some ⟨Bt (O.objs k),.dead⟩:=by
  intro k u T;refine AeB I _ _ hnd ?_;rw[<-hwo];refine B1.2 (.inr ?_);simp only[u,cond_false];rw[deadO_mem];exact⟨T,by rw[hobb k ((hbmem k).1 T)]⟩
 have M:∀k,(∃(i:Nat) (g:Nat) (b bd:Body),ks[i]?=some k/\os[i]?=some (g,b)/\outs'[i]?=some bd) \/
   (k∉ks/\∃(j:Nat) (bd:Body),news[j]?=some bd/\k=key dst j) \/
   (k∉ks/\(∀j,j<news.length->k≠key dst j)/\keep=false/\k∈bs) \/
   (k∉ks/\(∀j,j<news.length->k≠key dst j)/\(keep=false->k∉bs)/\Cf O.objs I k=O.objs k):=by
  intro k;have X:=hnd;rw[<-hwo]at X;simp only[Cw,G9]at X;rw[<-Cw,<-Cw,<-Cw,hwkeys]at X;obtain⟨hn12,hn3,hdis3⟩:=J8.1 X;obtain⟨hn1,hn2,hdis2⟩:=J8.1 hn12
  by_cases u:k∈ks
  ·left;obtain⟨i,hi,hik⟩:=D1 u;have hki:ks[i]?=some k:=by rw[B0 hi,hik]
   obtain⟨g,bd,J,_⟩:=hosg i k hki;have hlt:i<outs'.length:=by omega
   exact⟨i,g,bd,outs'[i],hki,J,B0 hlt⟩
  ·right
   by_cases D:∃j,j<news.length/\k=key dst j
   ·left;obtain⟨j,hj1,hj2⟩:=D;exact⟨u,j,news[j],B0 hj1,hj2⟩
   ·right;have hj':∀j,j<news.length->k≠key dst j:=fun j C H=>D ⟨j,C,H⟩
    by_cases T:keep=false/\k∈bs
    ·exact .inl ⟨u,hj',T.1,T.2⟩
    ·refine .inr ⟨u,hj',fun C H=>T ⟨C,H⟩,Sa I ?_⟩;rw[<-Cw,<-hwo];simp only[Cw,G9,B1,not_or];rw[<-Cw,<-Cw,hwkeys];refine⟨⟨u,fun hm=>?_⟩,fun hm=>?_⟩
     ·rw[Cw]at hm;obtain⟨p,hp,hpk⟩:=B8.1 hm;obtain⟨k0,o0⟩:=p;obtain⟨j,bd,J,q2,_⟩:=newO_mem hp;simp at hpk;subst hpk;rw[D5]at q2;exact hj' j (by simpa using(A9.1 J).1) q2
     ·cases keep with
      |true=>simp at hm
      |false=>
       simp only[cond_false]at hm;obtain⟨p,hp,hpk⟩:=B8.1 hm;obtain⟨k0,o0⟩:=p;simp at hpk;subst hpk;exact T ⟨rfl,(deadO_mem.1 hp).1⟩
 let L:Bs:=fun k=>if k∈ks then U k else if 1000+8*dst<=k/\k<1000+8*dst+news.length then β1 (ks.length+(k-(1000+8*dst)))else U k
 have b2A:∀k,k∈ks->L k=U k:=fun k u=>by simp only[L,u,if_true]
 have b2B:∀j,j<news.length->key dst j∉ks->L (key dst j)=β1 (ks.length+j):=by
  intro j D u;simp only[L,u,if_false];rw[if_pos (by simp only[key];omega)];congr 1;simp only[key];omega
 have b2D:∀k,k∉ks->(∀j,j<news.length->k≠key dst j)->L k=U k:=by
  intro k u D;simp only[L,u,if_false];rw[if_neg];rintro⟨C,H⟩;exact D (k-(1000+8*dst)) (by omega) (by simp only[key];omega)
 have hloc:∀(i k:Nat) bd,ks[i]?=some k->outs'[i]?=some bd->bd.live->β1 i=U k:=by
  intro i k bd u hbd A;rw[E.loc i bd (by rw[hnl];exact(A9.1 u).1) hbd A];simp[Bn,u]
 have Y:∀(i g:Nat) b,os[i]?=some (g,b)->(os.map (·.2))[i]?=some b:=fun i g b h=>by simp[h]
 have hnewblk:∀(j:Nat) bd b,news[j]?=some bd->bd.live->(β1 (ks.length+j)).block=some b->b<w'.heap.size/\(w.heap.size<=b\/∃k0 o0 g0,O.objs k0=some o0/\o0.body.live/\(U k0).block=some b/\Cf O.objs I k0=some ⟨g0,.dead⟩):=by
  intro j bd b D A G;have:=E.blk (ks.length+j) bd b (by rw[B9 (by omega)];rw[show ks.length+j-outs'.length=j by omega];exact D) A G;refine⟨this.1,?_⟩;rcases this.2 with C|C|⟨i,N,i1,i2,i3,i4⟩
  ·rw[hnl]at C;omega
  ·exact .inl C
  ·right;obtain⟨k0,g0,hk0,J,bd1,q2,q3⟩:=F i N i1;exact⟨k0,_,_,q2,(Gy q3).2 i2,by simpa[Bn,hk0]using i4,hA i k0 g0 N .dead hk0 J i3⟩
 have hg:Grows U L O.objs (Cf O.objs I):=by
  intro k o t;rcases M k with⟨i,g,b,bd,C,H,Q⟩|⟨u,j,bd,D,rfl⟩|⟨u,D,hkp,T⟩|⟨u,D,_,hD⟩
  ·refine⟨_,hA i k g b bd C H Q,?_⟩;obtain⟨k',g',J,q2,N,q3,q4⟩:=F i b (Y i g b H);rw[C]at J;injection J with J
   subst J;rw[H]at q2;injection q2 with q2
   injection q2 with q2 _
   subst q2;rw[t]at q3;injection q3 with q3
   subst q3
   by_cases A:bd.live
   ·exact⟨by rw[AtU A];exact B2 _,fun _=>⟨b2A k (B3 C),Axs (Axs (toB_same q4) (hsame i b bd (Y i _ b H) Q A)) AmB⟩⟩
   ·have hd:bd=.dead:=by cases bd<;>first|rfl|exact absurd trivial A
    subst hd;exact⟨N4 _,fun e=>by simp[upG]at e⟩
  ·refine⟨_,hB j bd D,?_⟩;rw[t];exact⟨by simp[Bt],fun e=>by simp[Bt]at e⟩
  ·refine⟨_,hC k hkp T,?_⟩;rw[t];exact⟨by simp[Bt],fun e=>by simp[Bt]at e⟩
  ·exact⟨o,by rw[hD];exact t,B2 _,fun _=>⟨b2D k u D,o.body.same_refl⟩⟩
 have hS:∀b,Ap cx.Av U O.objs w b->Ap cx.Av L (Cf O.objs I) w' b:=by
  intro b G;refine⟨D9 G.1 E.kept.size,G.2.1,fun k o t A=>?_⟩;rcases M k with⟨i,g,V,bd,C,H,Q⟩|⟨u,j,bd,D,rfl⟩|⟨u,D,hkp,T⟩|⟨u,D,_,hD⟩
  ·rw[b2A k (B3 C)];obtain⟨k',g',J,q2,N,q3,q4⟩:=F i V (Y i g V H);rw[C]at J;injection J with J
   subst J;rw[hA i k g V bd C H Q]at t;injection t with t
   subst t;have A:=renB_live.1 A;exact G.2.2 k _ q3 ((Gy q4).2 ((Axt (hsame i V bd (Y i g V H) Q A)).2 A))
  ·rw[hB j bd D]at t;injection t with t
   subst t;rw[b2B j (A9.1 D).1 u];intro e;rcases(hnewblk j bd b D (renB_live.1 A) e).2 with h0|⟨k0,o0,g0,i1,i2,i3,_⟩
   ·have:=G.1;omega
   ·exact G.2.2 k0 o0 i1 i2 i3
  ·rw[hC k hkp T]at t;injection t with t
   subst t;exact A.elim
  ·rw[hD]at t;rw[b2D k u D];exact G.2.2 k o t A
 have houtB:∀b,(∃(k:Nat) (bd:Body),(os.map (·.2))[k]?=some bd/\bd.live/\(Bn U ks k).block=some b)->∃k o,O.objs k=some o/\o.body.live/\k∈ks/\(U k).block=some b:=by
  rintro b ⟨i,bd,hi,A,B⟩;obtain⟨k,g,u,_,N,t,hp⟩:=F i bd hi;have hc:Bn U ks i=U k:=by simp[Bn,u]
  rw[hc]at B;exact⟨k,_,t,(Gy hp).2 A,B3 u,B⟩
 have hw:∀b,Ap cx.Av U O.objs w b->w'.heap[b]?=w.heap[b]?:=by
  intro b G;refine E.kept.block b G.1 fun hout=>?_
  obtain⟨k,o,t,A,_,B⟩:=houtB b hout;exact G.2.2 k o t A B
 have hS1:(keep=false\/bs=[])->∀b,Ap (Uw cx U O.objs ks bs) β1 (Bu (outs'++news)) w' b->Ap cx.Av L (Cf O.objs I) w' b:=by
  intro T b G;refine⟨G.1,fun hA'=>G.2.1 (.inl hA'),fun k o t A=>?_⟩;rcases M k with⟨i,g,V,bd,C,H,Q⟩|⟨u,j,bd,D,rfl⟩|⟨u,D,hkp,R⟩|⟨u,D,hn,hD⟩
  ·rw[hA i k g V bd C H Q]at t;injection t with t
   subst t;rw[b2A k (B3 C),<-hloc i k bd C Q (renB_live.1 A)];exact G.2.2 i ⟨0,bd⟩ (by simp only[Bu];rw[C2 (A9.1 Q).1,Q];rfl) (renB_live.1 A)
  ·rw[hB j bd D]at t;injection t with t
   subst t;rw[b2B j (A9.1 D).1 u];exact G.2.2 (ks.length+j) ⟨0,bd⟩ (by simp only[Bu];rw[B9 (by omega),show ks.length+j-outs'.length=j by omega,D];rfl) (renB_live.1 A)
  ·rw[hC k hkp R]at t;injection t with t
   subst t;exact A.elim
  ·rw[hD]at t;rw[b2D k u D];intro e;refine G.2.1 (.inr ⟨k,o,t,A,u,?_,e⟩);rcases T with h0|h0
   ·exact hn h0
   ·rw[h0];simp
 have hkeep:keep=false\/bs=[]\/(news=[]/\(∀bd∈outs',bd.flatB=true)/\res.scalar=true)\/((∀bd∈outs'++news,bd.flatR=true)/\res.scalR=true/\All (Agj (outs'++news))):=by
  cases old with
  |true=>
   simp only[B7,D7,A6,List.isEmpty_iff]at hold;rcases hold with(C|C)|C
   ·exact .inl C
   ·exact .inr (.inl C)
   ·exact .inr (.inr (.inl ⟨C.1.1,by have:=C.1.2;rw[B6]at this;exact this,C.2⟩))
  |false=>
   simp only[E8,A6,B6]at c6;exact .inr (.inr (.inr ⟨c6.1,c6.2,hobl⟩))
 have hmm:∀i o,Bu (outs'++news) i=some o->o.gen=0/\∀k g,m[i]?=some (k,g)->∃o'',Cf O.objs I k=some o''/\g<=o''.gen/\(o''.gen=g->L k=β1 i/\o.body.same o''.body):=by
  rw[<-hmdef];obtain⟨bl,bg⟩:=backM_get (ks:=ks) (os:=os) hosl;intro i o t;simp only[Bu]at t
  cases hoo:(outs'++news)[i]? with
  |none=>simp[hoo]at t
  |some bd=>
   simp only[hoo,E0,A1]at t;subst t;refine⟨rfl,fun k g hm=>?_⟩
   by_cases hi:i<ks.length
   ·rw[C2 (by omega)]at hm;obtain⟨m1,b,m2⟩:=bg i k g hm;rw[C2 (by omega)]at hoo
    by_cases A:bd.live
    ·exact⟨_,hA i k g b bd m1 m2 hoo,by rw[AtU A];exact B2 _,fun _=>⟨by rw[b2A k (B3 m1),hloc i k bd m1 hoo A],AmB⟩⟩
    ·have hd:bd=.dead:=by cases bd<;>first|rfl|exact absurd trivial A
     subst hd;exact⟨_,hA i k g b .dead m1 m2 hoo,N4 _,fun e=>by simp[upG]at e⟩
   ·rw[B9 (by omega),bl]at hm;rw[B9 (by omega),e1]at hoo;obtain⟨m1,m2,m3⟩:=newM_get hm;rw[D5]at m1 m2
    have hknot:k∉ks:=by
     rcases M k with⟨i',g',V,bd',C,H,Q⟩|⟨u,_⟩|⟨u,_⟩|⟨u,_⟩
     ·have X:=hnd;rw[<-hwo]at X;simp only[Cw,G9]at X;rw[<-Cw,<-Cw,<-Cw,hwkeys]at X;obtain⟨hn12,_,_⟩:=J8.1 X;obtain⟨_,_,hdis2⟩:=J8.1 hn12;intro u;refine hdis2 k u k ?_ rfl;have:=Aud (ob:=ob) (dst:=dst) (s:=0) (news:=news.map (Oy m)) (j:=i-ks.length) (bd:=Oy m bd) (by rw[A7,hoo];rfl);rw[D5,<-m1]at this;rw[Cw];exact B8.2 ⟨_,this,rfl⟩
     ·exact u
     ·exact u
     ·exact u
    refine⟨⟨g,Oy m bd⟩,?_,B2 _,fun _=>⟨?_,AmB⟩⟩
    rotate_left
    ·rw[m1,b2B (i-ks.length) m3 (m1▸hknot)];congr 1;omega
    ·rw[m1,hB (i-ks.length) bd hoo,m2,hobn _ m3]
 have hS1o:∀(k:Nat) bd,(outs'++news)[k]?=some bd->∀l,ObjRel β1 (Bu (outs'++news)) (Ap (Uw cx U O.objs ks bs) β1 (Bu (outs'++news)) w') w' l bd->ObjRel L (Cf O.objs I) (Ap cx.Av L (Cf O.objs I) w') w' l (Oy m bd):=by
  intro k bd u l A;rcases hkeep with C|C|⟨C,H,_⟩|⟨C,_,Q⟩
  case inr.inr.inr=>
   have hm':=B3 u;exact AkU (fun _ G=>G) hmm (flatR_rel (C bd hm') (fun W n f e=>AvK Q (e▸hm')) A)
  ·exact AkU (hS1 (.inl C)) hmm A
  ·exact AkU (hS1 (.inr C)) hmm A
  ·rw[C,I3]at u;have hf:=H bd (B3 u);rw[renB_flat hf];exact flatB_rel hf A
 refine⟨L,h.step L _ w' hg hS hw ?_ ?_ ?_ ?_ ?_,?_,hw⟩
 ·intro k o t;rcases M k with⟨i,g,V,bd,C,H,Q⟩|⟨u,j,bd,D,rfl⟩|⟨u,D,hkp,R⟩|⟨u,D,hn,hD⟩
  ·rw[hA i k g V bd C H Q]at t;injection t with t
   subst t
   by_cases A:bd.live
   case neg=>
    have hd:bd=.dead:=by cases bd<;>first|rfl|exact absurd trivial A
    subst hd;trivial
   rw[b2A k (B3 C),<-hloc i k bd C Q A];have hget:(outs'++news)[i]?=some bd:=by rw[C2 (A9.1 Q).1,Q]
   exact hS1o i bd hget _ (E.ob i bd hget)
  ·rw[hB j bd D]at t;injection t with t
   subst t;rw[b2B j (A9.1 D).1 u];have hget:(outs'++news)[ks.length+j]?=some bd:=by rw[B9 (by omega),show ks.length+j-outs'.length=j by omega,D]
   exact hS1o _ bd hget _ (E.ob _ bd hget)
  ·rw[hC k hkp R]at t;injection t with t
   subst t;trivial
  ·rw[hD]at t;rw[b2D k u D]
   by_cases A:o.body.live
   ·refine(h.ob k o t).mono hg hS hw fun b G=>?_
    refine E.kept.block b (h.blk k o b t A G).1 fun hout=>?_
    obtain⟨k',o',K,hl',hk',B⟩:=houtB b hout;exact h.inj k k' o o' b t K A hl' (fun e=>u (e▸hk')) G B
   ·cases hbd:o.body with
    |dead=>trivial
    |box cs=>simp[hbd,Body.live]at A
    |row W n f=>simp[hbd,Body.live]at A
    |mp z has f=>simp[hbd,Body.live]at A
    |mq q=>simp[hbd,Body.live]at A
 ·intro k o b t A G;rcases M k with⟨i,g,V,bd,C,H,Q⟩|⟨u,j,bd,D,rfl⟩|⟨u,D,hkp,R⟩|⟨u,D,hn,hD⟩
  ·rw[b2A k (B3 C)]at G;obtain⟨k',g',J,q2,N,q3,q4⟩:=F i V (Y i g V H);rw[C]at J;injection J with J
   subst J;rw[hA i k g V bd C H Q]at t;injection t with t
   subst t;have A:=renB_live.1 A;have:=h.blk k _ b q3 ((Gy q4).2 ((Axt (hsame i V bd (Y i g V H) Q A)).2 A)) G;exact⟨D9 this.1 E.kept.size,this.2⟩
  ·rw[hB j bd D]at t;injection t with t
   subst t;rw[b2B j (A9.1 D).1 u]at G;obtain⟨n1,n2⟩:=hnewblk j bd b D (renB_live.1 A) G;have hks:=h.kept.size;rcases n2 with n2|⟨k0,o0,g0,i1,i2,i3,_⟩
   ·exact⟨n1,fun hA'=>by have:=h.avlt b hA';omega,.inl (by omega)⟩
   ·exact⟨n1,(h.blk k0 o0 b i1 i2 i3).2⟩
  ·rw[hC k hkp R]at t;injection t with t
   subst t;exact A.elim
  ·rw[hD]at t;rw[b2D k u D]at G;have:=h.blk k o b t A G;exact⟨D9 this.1 E.kept.size,this.2⟩
 ·-- where each object lies:of old,or new
  have place:∀k o b,Cf O.objs I k=some o->o.body.live->(L k).block=some b ->
    (∃o0,O.objs k=some o0/\o0.body.live/\(U k).block=some b/\b<w.heap.size) \/
    (∃j bd,news[j]?=some bd/\bd.live/\k=key dst j/\(β1 (ks.length+j)).block=some b/\(w.heap.size<=b\/∃k0 o0 g0,O.objs k0=some o0/\o0.body.live/\(U k0).block=some b/\Cf O.objs I k0=some ⟨g0,.dead⟩)):=by
   intro k o b t A G;rcases M k with⟨i,g,V,bd,C,H,Q⟩|⟨u,j,bd,D,rfl⟩|⟨u,D,hkp,R⟩|⟨u,D,hn,hD⟩
   ·rw[b2A k (B3 C)]at G;obtain⟨k',g',J,q2,N,q3,q4⟩:=F i V (Y i g V H);rw[C]at J;injection J with J
    subst J;rw[hA i k g V bd C H Q]at t;injection t with t
    subst t;have A:=renB_live.1 A;have hl0:=(Gy q4).2 ((Axt (hsame i V bd (Y i g V H) Q A)).2 A);exact .inl ⟨_,q3,hl0,G,(h.blk k _ b q3 hl0 G).1⟩
   ·rw[hB j bd D]at t;injection t with t
    subst t;rw[b2B j (A9.1 D).1 u]at G;exact .inr ⟨j,bd,D,renB_live.1 A,rfl,G,(hnewblk j bd b D (renB_live.1 A) G).2⟩
   ·rw[hC k hkp R]at t;injection t with t
    subst t;exact A.elim
   ·rw[hD]at t;rw[b2D k u D]at G;exact .inl ⟨o,t,A,G,(h.blk k o b t A G).1⟩
  intro k k' o o' b t K A hl' hne G hb';rcases place k o b t A G with⟨q,J,q2,q3,q4⟩|⟨j,bd,J,q2,q3,q4,q5⟩
  ·rcases place k' o' b K hl' hb' with⟨r,r1,r2,r3,r4⟩|⟨j',bd',r1,r2,r3,r4,r5⟩
   ·exact h.inj k k' q r b J r1 q2 r2 hne q3 r3
   ·rcases r5 with r5|⟨k0,o0,g0,i1,i2,i3,i4⟩
    ·omega
    ·have hk0:k≠k0:=fun e=>by
      subst e;rw[i4]at t;injection t with t
      subst t;exact A
     exact h.inj k k0 q o0 b J i1 q2 i2 hk0 q3 i3
  ·rcases place k' o' b K hl' hb' with⟨r,r1,r2,r3,r4⟩|⟨j',bd',r1,r2,r3,r4,r5⟩
   ·rcases q5 with q5|⟨k0,o0,g0,i1,i2,i3,i4⟩
    ·omega
    ·have hk0:k'≠k0:=fun e=>by
      subst e;rw[i4]at K;injection K with K
      subst K;exact hl'
     exact h.inj k' k0 r o0 b r1 i1 r2 i2 hk0 r3 i3
   ·refine E.inj (ks.length+j) (ks.length+j') bd bd' b ?_ ?_ q2 r2 ?_ q4 r4
    ·rw[B9 (by omega),show ks.length+j-outs'.length=j by omega,J]
    ·rw[B9 (by omega),show ks.length+j'-outs'.length=j' by omega,r1]
    ·intro e;apply hne;rw[q3,r3];congr 1;omega
 ·have u:=h.kept;have hp:=E.kept;refine⟨hp.os.trans u.os,hp.tape.trans u.tape,hp.output.trans u.output,H9 u.size hp.size,fun b G hno=>?_⟩;rw[hp.block b (D9 G u.size) fun hout=>?_]
  ·exact u.block b G hno
  ·obtain⟨k',o',K,hl',hk',B⟩:=houtB b hout;rcases(h.blk k' o' b K hl' B).2.2 with C|C
   ·omega
   ·exact hno C
 ·intro k o hkm t hgen;rcases M k with⟨i,g,V,bd,C,H,Q⟩|⟨u,j,bd,D,rfl⟩|⟨u,D,hkp,R⟩|⟨u,D,hn,hD⟩
  ·rw[b2A k (B3 C)];rw[hA i k g V bd C H Q]at t;injection t with t
   subst t;obtain⟨k',g',J,q2,N,q3,q4⟩:=F i V (Y i g V H);rw[C]at J;injection J with J
   subst J;rw[H]at q2;injection q2 with q2
   injection q2 with q2 _
   subst q2
   have hg0:g=0:=by
    cases bd<;>simp[upG]at hgen<;>exact hgen
   exact h.oloc k _ hkm q3 hg0
  ·have:=h.mle;unfold key at hkm;omega
  ·rw[hC k hkp R]at t;injection t with t
   subst t;obtain⟨o0,ho0,_⟩:=hbsome k R;rw[ho0]at hgen;simp[Bt]at hgen
  ·rw[hD]at t;rw[b2D k u D];exact h.oloc k o hkm t hgen
 ·-- the result
  have hfull:(keep=false\/bs=[])->RelV L (Cf O.objs I) (Ap cx.Av L (Cf O.objs I) w') w' v (renN m 3 res):=by
   intro T;exact Amj (hS1 T) rfl hmm 3 v res E.res
  rcases hkeep with C|C|⟨C,H,Q⟩|⟨_,H,_⟩
  case inr.inr.inr=>exact Amj (fun _ G=>G) rfl hmm 3 v res (scalR_rel H E.res)
  ·exact hfull (.inl C)
  ·exact hfull (.inr C)
  ·have hr:=E.res
   cases hres:res with
   |p x=>
    rw[hres]at hr Q
    exact .p _ _ (ApE Q hr.inv_p)
   |und=>
    rw[hres]at hr;generalize v=v0 at hr;cases hr
    exact .und
   |_=>rw[hres]at Q;simp[MV.scalar]at Q
theorem Axf{f:FuncId}{args:List MV}{g outs' news:List Body}{res y:MV}{wo:List (Nat×Obj)}{obl:List Prop}{ob:Ay}{ks:List Nat}{xs:List MV}{dst:Nat}{keep:Bool}
  (B:Spec P f args g res outs' news) (h:Rel cx U O a w) (z:∀k o,ob k=some o->O.objs k=some o)
  (u:∀j,j<news.length->ob (key dst j)=O.objs (key dst j)) (q:∀k,k∈xs.flatMap (bor ks)->ob k=O.objs k)
  (H:Wl ob dst ks xs keep res outs' news=some (args,g,y,wo,obl)) (s:All obl)
  (m:∀(i:Nat) b b',g[i]?=some b->outs'[i]?=some b'->b'.live->b.same b')
  (vs:Array Value) (C:vs.size=xs.length) (r:∀(i:Nat) x,xs[i]?=some x->RelV U O.objs (Ap cx.Av U O.objs w) w (vs.getD i undef) x):
  Calls P f vs w fun e w'=>∃v l,e=.returned v/\Rel cx l ⟨O.slots,Cf O.objs wo⟩ a w' /\
   RelV l (Cf O.objs wo) (Ap cx.Av l (Cf O.objs wo) w') w' v y:=by
 obtain⟨E,I,t,n⟩:=AuV (res:=res) (news:=news) h z u q H s m vs C r;refine(B.2 w _ _ vs t).mono ?_;rintro e w' ⟨v,A,rfl,G⟩;obtain⟨l,F,D,_⟩:=n w' v A G;exact⟨v,l,rfl,F,D⟩
end
end Go.Dm

namespace Go.Dm
inductive Orc where
 |no
 |pk (b:Bool)
 |skip
 |asR (y:MV) (n:Nat) (f:Nat->List PV)
 |asM (z:PV) (has:Int->Bool) (f:Int->PV)
 |ky (n:Int)
 |frz (n:Nat) (f:Nat->List PV)
 |mv
 |nat (z:Value)
 |call (f:Nat) (ks:List Nat) (keep:Bool) (res:MV) (outs' news:List Body) (sm:List Nat)
def Orc.isSkip:Orc->Bool
 | .skip=>true
 |_=>false
def Orc.bit:Orc->Bool
 | .pk b=>b
 |_=>true
def Yv(a:List (Option Nat))(g:Option (Nat×Bool))(sk:Bool)(O:St):Option (List Nat×List Prop):=
 match g with
 |none=>bif sk then none else some ([],[])
 |some (j,want)=>match a[j]? with
  |some (some t)=>match O.slots t with
   | .p (.v (.bool b))=>some ([t],[b=(bif sk then !want else want)])
   | .und=>bif sk then some ([t],[])else none
   |_=>none
  |_=>none
def Ags(dst:Nat):Nat->Nat->List Nat
 |0,_=>[]
 |n+1,j=>key dst j::Ags dst n (j+1)
def sameD(b:Body):Body->Prop
 | .dead=>True
 | .box cs=>b.same (.box cs)
 | .row W n f=>b.same (.row W n f)
 | .mp z has f=>b.same (.mp z has f)
 | .mq q=>b.same (.mq q)
theorem sameD.get{b c:Body}(h:sameD b c)(a:c.live):b.same c:=by cases c<;>first|exact h|exact a.elim
def AfW:List Body->List Body->List Prop
 |b::r,c::s=>sameD b c::AfW r s
 |_,_=>[]
def fnOf:MV->Option (Nat×List MV)
 | .p (.fn f caps)=>some (f,caps.map .p)
 | .fn f caps=>bif Nat.blt f BND then some (f,caps)else none
 |_=>none
def Ajl(g:MV)(xs:List MV):Option (Nat×List MV):=match g with
 | .p (.fn f caps)=>some (f,xs++caps.map .p)
 | .fn f caps=>bif Nat.blt f BND then some (f,xs++caps)else some (f-BND,caps++xs)
 |_=>none
def AaY(a:List Nat):List (Nat×Obj)->List (Nat×Obj)
 |[]=>[]
 |(k,o)::r=>bif elem k a then AaY a r else(k,o)::AaY a r
def Aeg(a:List Nat)(ob:Ay):List (Nat×Obj)->List Prop
 |[]=>[]
 |(k,o)::r=>bif elem k a then(ob k=some o)::Aeg a ob r else Aeg a ob r
theorem dropK_mem{f:List Nat}:∀{l:List (Nat×Obj)} {k:Nat} {o:Obj},(k,o)∈AaY f l↔(k,o)∈l/\k∉f
 |[],k,o=>by simp[AaY]
 |(i,q)::r,k,o=>by
  simp only[AaY]
  cases g:elem i f with
  |true=>
   have hi:=(Vh i f).1 g;simp only[cond_true,dropK_mem,C0,A4];constructor
   ·rintro⟨b,a⟩;exact⟨.inr b,a⟩
   ·rintro⟨⟨rfl,rfl⟩|b,a⟩
    ·exact absurd hi a
    ·exact⟨b,a⟩
  |false=>
   have hi:i∉f:=fun h=>by rw[(Vh i f).2 h]at g;simp at g
   simp only[cond_false,C0,dropK_mem,A4];constructor
   ·rintro(⟨rfl,rfl⟩|⟨b,a⟩)
    ·exact⟨.inl ⟨rfl,rfl⟩,hi⟩
    ·exact⟨.inr b,a⟩
   ·rintro⟨⟨rfl,rfl⟩|b,a⟩
    ·exact .inl ⟨rfl,rfl⟩
    ·exact .inr ⟨b,a⟩
theorem dropK_sub{a:List Nat}:∀{l:List (Nat×Obj)},(AaY a l).Sublist l
 |[]=>List.Sublist.slnil
 |(i,q)::r=>by
  simp only[AaY]
  cases elem i a with
  |true=>exact .cons _ dropK_sub
  |false=>exact .cons_cons _ dropK_sub
theorem Amx{b:List Nat}{ob:Ay}:∀{l:List (Nat×Obj)} {k:Nat} {o:Obj},All (Aeg b ob l)->(k,o)∈l->k∈b->ob k=some o
 |[],k,o,_,h,_=>by simp at h
 |(i,q)::r,k,o,ha,h,hk=>by
  simp only[Aeg]at ha
  cases a:elem i b with
  |true=>
   simp only[a,cond_true,All]at ha;rcases C0.1 h with e|h
   ·injection e with e1 e2
    subst e1;subst e2;exact ha.1
   ·exact Amx ha.2 h hk
  |false=>
   simp only[a,cond_false]at ha;rcases C0.1 h with e|h
   ·injection e with e1 e2
    subst e1;rw[(Vh k b).2 hk]at a;simp at a
   ·exact Amx ha h hk
theorem AwV{a:List Nat}{ob objs:Ay}{wo:List (Nat×Obj)}(l:(Bw wo).Nodup)(j:∀k o,ob k=some o->objs k=some o)(h:All (Aeg a ob wo)):Cf objs (AaY a wo)=Cf objs wo:=by
 funext k
 have g:(Bw (AaY a wo)).Nodup:=by
  rw[Cw]at l ⊢;exact l.sublist (dropK_sub.map _)
 by_cases hk:k∈Bw wo
 ·rw[Cw]at hk;obtain⟨p,b,rfl⟩:=B8.1 hk;obtain⟨k,o⟩:=p;rw[AeB wo k o l b]
  by_cases hs:k∈a
  ·rw[Sa]
   ·exact j _ _ (Amx h b hs)
   ·intro f;obtain⟨p,i,e⟩:=B8.1 f;obtain⟨m,n⟩:=p;simp only at e;subst e;exact(dropK_mem.1 i).2 hs
  ·exact AeB _ k o g (dropK_mem.2 ⟨b,hs⟩)
 ·rw[Cw]at hk;rw[Sa wo hk,Sa _ (fun f=>hk ((dropK_sub.map _).subset f))]
theorem Atf{ob:Ay}{dst:Nat}{ks:List Nat}{xs:List MV}{keep:Bool}{res:MV}{outs' news:List Body}{a:List MV}{b:List Body}{y:MV}{wo:List (Nat×Obj)}{obl:List Prop}
  (h:Wl ob dst ks xs keep res outs' news=some (a,b,y,wo,obl)):(Bw wo).Nodup:=by
 unfold Wl at h;split at h
 ·rename_i args os i g;simp only at h;rw[E2]at h;split at h
  ·rename_i f;simp only[A1,A4]at h;obtain⟨_,_,_,rfl,_⟩:=h;simp only[A6]at f;exact AkH _ f.1.1.2
  ·simp at h
 ·simp at h
def dcall(P:Program)(op:Op)(dst:Nat)(f:Nat)(ks:List Nat)(keep:Bool)(res:MV)(outs' news:List Body)(a:List Nat)(O:St):Option (List Nat×Eff):=
 match op with
 | .call ⟨.value fop,args,_⟩=>
  match Ajl (ev O fop) (args.toList.map (ev O))with
  |some (f',xs)=>
   bif Nat.beq f' f then
    let ro:=ks++xs.flatMap (bor ks)++Ags dst news.length 0
    match Wl (only ro O.objs) dst ks xs keep res outs' news with
    |some (args',outs,y,wo,ob)=>some (ro,y,AaY a wo,Spec P f args' outs res outs' news::(AfW outs outs'++(Aeg a (only ro O.objs) wo++ob)))
    |none=>none
   else none
  |none=>none
 |_=>none
def NatRun(P:Program)(f:Nat)(vs:Array Value)(z:Value):Prop:=z.oneCell'=true/\∀w:World,(callFunc f vs).run P w=.ok (.value z) w
def AeS:List MV->Option (List Value)
 |[]=>some []
 | .p (.v x)::r=>match AeS r with
  |some s=>some (x::s)
  |none=>none
 |_=>none
theorem Apx:∀{l:List MV} {vs:List Value},AeS l=some vs->l=vs.map (fun x=>MV.p (.v x))
 |[],vs,h=>by simp[AeS]at h;subst h;rfl
 |x::r,vs,h=>by
  unfold AeS at h;split at h
  ·simp at *
  ·rename_i q f a;injection a with h1 h2
   subst h1;subst h2;split at h
   ·rename_i s b;simp only[A1]at h;subst h;rw[D8,<-Apx b]
   ·simp at h
  ·simp at h
def dstep(P:Program)(T:Ty)(nt:Nat)(a:List (Option Nat))(o:Oper)(x:Orc)(O:St):Option (Rec×List Prop):=
 match Yv a o.guard x.isSkip O with
 |none=>none
 |some (gt,gobl)=>
  bif (match o.dst with|some t=>Nat.blt t nt|none=>true)&&Jt o.op then
   match x with
   | .skip=>some (⟨gt,[],o.dst.toList.map fun t=>(t,MV.und),[]⟩,gobl)
   | .call f ks keep res outs' news sm=>
    match dcall P o.op (o.dst.getD 0) f ks keep res outs' news sm O with
    |some (ro,y,wo,obl)=>some (⟨gt++Qt o.op,ro,o.dst.toList.map fun t=>(t,y),wo⟩,gobl++obl)
    |none=>none
   | .asR y' n' f'=>
    match Cd T o.op (o.dst.getD 0) true (only (Lo o.op (o.dst.getD 0) (o.op.operands.toList.map (ev O))) O.objs) (o.op.operands.toList.map (ev O))with
    |some (y,[(k,⟨g,.row W n f⟩)],obl)=>some (⟨gt++Qt o.op,Lo o.op (o.dst.getD 0) (o.op.operands.toList.map (ev O)),o.dst.toList.map fun t=>(t,y'),[(k,⟨g,.row W n' f'⟩)]⟩,gobl++(obl++[y=y',n=n'/\∀i,i<n->f i=f' i]))
    |_=>none
   | .asM z' has' f'=>
    match Cd T o.op (o.dst.getD 0) true (only (Lo o.op (o.dst.getD 0) (o.op.operands.toList.map (ev O))) O.objs) (o.op.operands.toList.map (ev O))with
    |some (y,[(k,⟨g,.mp z has f⟩)],obl)=>some (⟨gt++Qt o.op,Lo o.op (o.dst.getD 0) (o.op.operands.toList.map (ev O)),o.dst.toList.map fun t=>(t,y),[(k,⟨g,.mp z' has' f'⟩)]⟩,gobl++(obl++[AkW z has f z' has' f']))
    |_=>none
   | .frz n' f'=>
    match Cd T o.op (o.dst.getD 0) true (only (Lo o.op (o.dst.getD 0) (o.op.operands.toList.map (ev O))) O.objs) (o.op.operands.toList.map (ev O)),o.dst with
    |some (.own k' g' 0 len,[(k,⟨g,.row W n f⟩)],obl),some t=>bif Nat.beq k' k&&Nat.beq g' g&&Nat.beq len n then
     some (⟨gt++Qt o.op,Lo o.op (o.dst.getD 0) (o.op.operands.toList.map (ev O)),[(t,.p (.sl .unk W n' f'))],[(k,⟨g+1,.dead⟩)]⟩,gobl++(obl++[n=n'/\∀i,i<n->f i=f' i]))else none
    |_,_=>none
   | .mv=>
    match Cd T o.op (o.dst.getD 0) true (only (Lo o.op (o.dst.getD 0) (o.op.operands.toList.map (ev O))) O.objs) (o.op.operands.toList.map (ev O)),o.dst with
    |some (.own k' g' 0 len,[(k,⟨g,.row W n f⟩)],obl),some t=>bif Nat.beq k' k&&Nat.beq g' g&&!Nat.beq (key t 0) k then
     some (⟨gt++Qt o.op,key t 0::Lo o.op (o.dst.getD 0) (o.op.operands.toList.map (ev O)),[(t,.own (key t 0) (Bt (O.objs (key t 0))) 0 len)],[(k,⟨g+1,.dead⟩),(key t 0,⟨Bt (O.objs (key t 0)),.row W n f⟩)]⟩,gobl++(obl++[len=n]))else none
    |_,_=>none
   | .ky n=>
    match o.op,o.op.operands.toList.map (ev O)with
    | .entryStore _ _ _ _,[x,s,v]=>match Aff n (only x.keys O.objs) x s v with
     |some (y,wo,obl)=>some (⟨gt++Qt o.op,x.keys,o.dst.toList.map fun t=>(t,y),wo⟩,gobl++obl)
     |none=>none
    |_,_=>none
   | .nat z=>
    match o.op with
    | .call ⟨.value fop,args,_⟩=>match fnOf (ev O fop),AeS (args.toList.map (ev O))with
     |some (f,[]),some vs=>some (⟨gt++Qt o.op,[],o.dst.toList.map fun t=>(t,MV.p (.v z)),[]⟩,gobl++[NatRun P f vs.toArray z])
     |_,_=>none
    |_=>none
   |x=>
    match Cd T o.op (o.dst.getD 0) x.bit (only (Lo o.op (o.dst.getD 0) (o.op.operands.toList.map (ev O))) O.objs) (o.op.operands.toList.map (ev O))with
    |some (y,wo,obl)=>some (⟨gt++Qt o.op,Lo o.op (o.dst.getD 0) (o.op.operands.toList.map (ev O)),o.dst.toList.map fun t=>(t,y),wo⟩,gobl++obl)
    |none=>none
  else none
def drun(P:Program)(T:Ty)(nt:Nat)(a:List (Option Nat)):List Oper->List Orc->St->Option (List Rec×List Prop×St)
 |[],[],O=>some ([],[],O)
 |o::os,x::xs,O=>match dstep P T nt a o x O with
  |some (r,obl)=>match drun P T nt a os xs (Hb O r)with
   |some (rs,obls,σ')=>some (r::rs,obl++obls,σ')
   |none=>none
  |none=>none
 |_,_,_=>none
theorem All_append{l m:List Prop}:All (l++m)↔All l/\All m:=by
 induction l with
 |nil=>simp[All]
 |cons q r a=>simp[All,a,and_assoc]
theorem AsO:∀(l m:List Body),All (AfW l m)->∀(i:Nat) b c,l[i]?=some b->m[i]?=some c->c.live->b.same c:=by
 intro l
 induction l with
 |nil=>intro m _ i b c h;simp at h
 |cons x r j=>
  intro m h i b c f a g
  cases m with
  |nil=>simp at a
  |cons y s=>
   simp only[AfW,All]at h
   cases i with
   |zero=>simp at f a;subst f;subst a;exact h.1.get g
   |succ i=>exact j s h.2 i b c (by simpa using f) (by simpa using a) g
theorem AvO(dst:Nat):∀(n s j:Nat),j<n->key dst (s+j)∈Ags dst n s:=by
 intro n
 induction n with
 |zero=>intro s j h;omega
 |succ n a=>
  intro s j h;simp only[Ags,C0]
  cases j with
  |zero=>left;rfl
  |succ j=>
   right;have:=a (s+1) j (by omega)
   rwa [show s+1+j=s+(j+1) by omega]at this
theorem Avx{P:Program}{op:Op}{dst f:Nat}{ks:List Nat}{keep:Bool}{res:MV}{outs' news:List Body}{j:List Nat}{O Z:St}{ro:List Nat}{e:Eff}
  (h:dcall P op dst f ks keep res outs' news j O=some (ro,e)) (z:∀t∈Qt op,Z.slots t=O.slots t) (q:∀k∈ro,Z.objs k=O.objs k):
  dcall P op dst f ks keep res outs' news j Z=some (ro,e):=by
 have a:∀x∈op.operands.toList,ev Z x=ev O x:=by
  intro x i
  cases x with
  |tmp t=>exact z t (List.mem_filterMap.2 ⟨.tmp t,i,rfl⟩)
  |_=>rfl
 unfold dcall at h ⊢;split at h
 ·rename_i fop args s;have u:ev Z fop=ev O fop:=a fop (by simp[Op.operands,Call.operands]);have o:args.toList.map (ev Z)=args.toList.map (ev O):=C8 fun x i=>a x (by simp[Op.operands,Call.operands];right;simpa using i)
  rw[u,o];split at h
  ·rename_i f' n v
   cases b:Nat.beq f' f with
   |false=>simp[b]at h
   |true=>
    simp only[b,cond_true]at h;split at h
    ·rename_i g m y wo l r;simp only[A1,A4]at h;obtain⟨rfl,rfl⟩:=h;simp only[v,b,cond_true];rw[Ut q,r]
    ·simp at h
  ·simp at h
 ·simp at h
section
variable {P:Program} {T:Ty} {nt:Nat}
theorem AiL{op:Op}(h:Jt op=true):∀x∈op.operands.toList,Au x=true:=by
 simp only[Jt,A6,B6]at h;exact h.2
theorem Rj{op:Op}(h:Jt op=true):AjI op=false:=by
 simp only[Jt,A6]at h
 cases a:AjI op with
 |false=>rfl
 |true=>rw[a]at h;simp at h
theorem dcall_wp{cx:Cx P}{U:Bs}{O:St}{a:Act}{w:World}{o:Oper}(hc:Jt o.op=true)(h:Rel cx U O a w)(hd:∀t,o.dst=some t->t<cx.nt)
  {f:Nat} {ks:List Nat} {keep:Bool} {res:MV} {outs' news:List Body} {sm:List Nat} {ro:List Nat} {y:MV} {wo:List (Nat×Obj)} {obl:List Prop}
  (u:dcall P o.op (o.dst.getD 0) f ks keep res outs' news sm O=some (ro,y,wo,obl)) (ho:All obl) (Q:Exit->Act->World->Prop):
  o.wp P a w (fun a' w'=>∃J,Rel cx J (Hb O ⟨[],[],o.dst.toList.map fun t=>(t,y),wo⟩) a' w') Q:=by
 have G:=AiL hc;unfold dcall at u;split at u
 case h_2=>simp at u
 rename_i fop args ats K;split at u
 case h_2=>simp at u
 rename_i f' xs C
 cases hb:Nat.beq f' f with
 |false=>simp[hb]at u
 |true=>
 have ef:=A3 hb;subst ef;simp only[hb,cond_true]at u;split at u
 case h_2=>simp at u
 rename_i args' outs y0 wo0 obl0 hce;simp only[A1,A4]at u;obtain⟨rfl,rfl,rfl,rfl⟩:=u;simp only[All,All_append]at ho;obtain⟨hsp,I,D,H⟩:=ho;have V:∀x∈args,Au x=true:=fun x n=>G x (by rw[K];simp[Op.operands,Call.operands,n])
 have rf:=Bi h fop (G fop (by rw[K];simp[Op.operands,Call.operands]))
 have s:∀(i:Nat) x,(args.toList.map (ev O))[i]?=some x->RelV U O.objs (Ap cx.Av U O.objs w) w ((args.map a.eval).getD i undef) x:=by
  intro i x n;rw[A7]at n
  cases N:args.toList[i]? with
  |none=>simp[N]at n
  |some q=>
   simp[N]at n;subst n;have Y:args[i]?=some q:=by simpa using N
   have:(args.map a.eval).getD i undef=a.eval q:=by simp[A5,Y]
   rw[this];exact Bi h q (V q (F0 Y))
 have z:∀{us vs:Array Value} {l m:List MV},us.size=l.length->(∀(i:Nat) x,l[i]?=some x->RelV U O.objs (Ap cx.Av U O.objs w) w (us.getD i undef) x) ->
   (∀(i:Nat) x,m[i]?=some x->RelV U O.objs (Ap cx.Av U O.objs w) w (vs.getD i undef) x)->∀(i:Nat) x,(l++m)[i]?=some x->RelV U O.objs (Ap cx.Av U O.objs w) w ((us++vs).getD i undef) x:=by
  intro us vs l m hsz h1 R i x n
  by_cases hi:i<l.length
  ·rw[C2 hi]at n;have:=h1 i x n;rw[A5,F7 (by omega),<-A5];exact this
  ·rw[B9 (by omega)]at n;have:=R _ x n;rw[A5,N5 (by omega),<-A5,hsz];exact this
 obtain⟨us,husz,hur,hinv⟩:∃us:Array Value,us.size=xs.length/\(∀(i:Nat) x,xs[i]?=some x->RelV U O.objs (Ap cx.Av U O.objs w) w (us.getD i undef) x) /\
   ((∃r:Array Value,a.eval fop=.func (.func f') #[] r/\us=args.map a.eval++r)\/∃r:Array Value,a.eval fop=.func (.func f') r #[]/\us=r++args.map a.eval):=by
  unfold Ajl at C;split at C
  ·rename_i g cs L;simp only[A1,A4]at C;obtain⟨rfl,rfl⟩:=C;rw[L]at rf;have rp:=rf.inv_p;generalize a.eval fop=v at rp
   cases rp with
   |fn _ _ vs X hr=>
    refine⟨args.map a.eval++vs,by simp[X],z (by simp) s (fun i x n=>?_),.inl ?_⟩
    ·rw[A7]at n
     cases N:cs[i]? with
     |none=>simp[N]at n
     |some q=>simp[N]at n;subst n;exact .p _ _ (hr i q N)
    ·exact⟨vs,rfl,rfl⟩
  ·rename_i g cs L;rw[L]at rf;generalize a.eval fop=v at rf
   cases rf with
   |fn _ _ vs X hr=>
    cases E:Nat.blt g BND with
    |true=>
     simp only[E,cond_true,A1,A4]at C;obtain⟨rfl,rfl⟩:=C;refine⟨args.map a.eval++vs,by simp[X],z (by simp) s hr,.inl ?_⟩
     exact⟨vs,AgM E,rfl⟩
    |false=>
     simp only[E,cond_false,A1,A4]at C;obtain⟨rfl,rfl⟩:=C;refine⟨vs++args.map a.eval,by simp[X],z X hr s,.inr ⟨vs,?_,rfl⟩⟩;rw[fnV_ge E]
  ·simp at C
 have B:=Axf hsp h (fun k o=>Cu) (fun j hj=>Mh (by
   refine B1.2 (.inr ?_);have:=AvO (o.dst.getD 0) news.length 0 j hj
   rwa [D5]at this)) (fun k hk=>Mh (B1.2 (.inl (B1.2 (.inr hk))))) hce H (AsO _ _ I)
  us husz hur
 obtain⟨fn,hfn,A,b⟩:=hsp.1
 have W:(execOp a.eval o).run P w=.ok (.enter f' us) w:=by
  unfold execOp;rw[K];rcases hinv with⟨r,h1,R⟩|⟨r,h1,R⟩
  ·subst R;simp[resolve,Deferred.ofValue,h1,invoke,callFunc,hfn,A];intro hn;rw[hn]at b;simp at b
  ·subst R;simp[resolve,Deferred.ofValue,h1,invoke,callFunc,hfn,A];intro hn;rw[hn]at b;simp at b
 unfold Oper.wp;rw[W];simp only[Oper.upon];refine B.mono ?_;rintro e w' ⟨v,J,rfl,F,hv⟩;have M:=AwV (objs:=O.objs) (Atf hce) (fun _ _=>Cu) D;rw[<-M]at F hv;exact⟨J,AeY F o.dst hd v _ hv⟩
theorem Ms{ops:Array Oper}{o:Oper}{i:Nat}(hi:ops[i]?=some o){cx:Cx P}{U:Bs}{O:St}{a:Act}{w:World}(h:Rel cx U O a w)
  {sk:Bool} {y:List Nat} {m:List Prop} (k:Yv (ops.toList.map (·.dst)) o.guard sk O=some (y,m)) (x:All m):
  Region.wanted o (yielded ops a.tmps)=!sk:=by
 unfold Yv at k;unfold Region.wanted;split at k
 ·rename_i s
  cases sk with
  |true=>simp at k
  |false=>simp[s]
 ·rename_i j want s;rw[s];split at k
  ·rename_i t l
   have n:(ops[j]?).bind (·.dst)=some t:=by
    rw[A7]at l
    cases r:ops.toList[j]? with
    |none=>simp[r]at l
    |some q=>
     simp[r]at l;have:ops[j]?=some q:=by simpa using r
     simp[this,l]
   have f:=h.sl t;split at k
   ·rename_i b u;simp only[A1,A4]at k;obtain⟨rfl,rfl⟩:=k;simp only[All,and_true]at x;rw[u]at f;obtain⟨e,_⟩:=f.inv_v
    have:a.tmps[t]?=some (.bool b):=by
     rw[A5]at e
     cases r:a.tmps[t]? with
     |none=>simp[r,undef]at e
     |some q=>simp[r]at e;rw[e]
    simp only[yielded,n,A0,this];subst x;cases sk<;>cases want<;>rfl
   ·rename_i u
    cases sk with
    |false=>simp at k
    |true=>
     rw[u]at f
     have g:a.tmps.getD t undef=undef:=by
      generalize a.tmps.getD t undef=v at f;cases f;rfl
     simp only[yielded,n,A0];rw[A5]at g
     cases r:a.tmps[t]? with
     |none=>rfl
     |some q=>
      simp[r]at g;subst g;rfl
   ·simp at k
  ·simp at k
theorem Kk{m:List (Option Nat)}{g:Option (Nat×Bool)}{sk:Bool}{O Z:St}{k:List Nat}{a:List Prop}(h:Yv m g sk O=some (k,a))
  (l:∀t∈k,Z.slots t=O.slots t):Yv m g sk Z=some (k,a):=by
 unfold Yv at h ⊢;split at h
 ·exact h
 ·rename_i j want;split at h
  ·rename_i t i
   try simp only[i]
   split at h
   ·rename_i b f;simp only[A1,A4]at h;obtain⟨rfl,rfl⟩:=h;rw[l t (by simp),f]
   ·rename_i f
    cases sk with
    |false=>simp at h
    |true=>
     simp only[cond_true,A1,A4]at h;obtain⟨rfl,rfl⟩:=h;rw[l t (by simp),f];rfl
   ·simp at h
  ·simp at h
theorem Rel.bodyAs{cx:Cx P}{U:Bs}{O:St}{a:Act}{w:World}(h:Rel cx U O a w){k g:Nat}{v b1:Body}(z:O.objs k=some ⟨g,v⟩)(J:v.same b1)(E:v.live↔b1.live)
  (I:∀U objs S l,ObjRel U objs S w l v->ObjRel U objs S w l b1):Rel cx U ⟨O.slots,Bm O.objs k ⟨g,b1⟩⟩ a w:=by
 have m:∀j i,Bm O.objs k ⟨g,b1⟩ j=some i->(j=k/\i=⟨g,b1⟩)\/(j≠k/\O.objs j=some i):=by
  intro j i f
  by_cases e:j=k
  ·subst e;rw[Bj]at f;injection f with f;exact .inl ⟨rfl,f.symm⟩
  ·rw[Cl _ _ e]at f;exact .inr ⟨e,f⟩
 have hold:∀j i,Bm O.objs k ⟨g,b1⟩ j=some i->∃o,O.objs j=some o/\o.gen=i.gen/\(o.body.live↔i.body.live):=by
  intro j i f;rcases m j i f with⟨rfl,rfl⟩|⟨_,f⟩
  ·exact⟨_,z,rfl,E⟩
  ·exact⟨_,f,rfl,Iff.rfl⟩
 have y:Grows U U O.objs (Bm O.objs k ⟨g,b1⟩):=by
  intro j o f
  by_cases e:j=k
  ·subst e;rw[z]at f;injection f with f;subst f
   exact⟨_,Bj _ _ _,B2 _,fun _=>⟨rfl,J⟩⟩
  ·exact⟨o,by rw[Cl _ _ e];exact f,B2 _,fun _=>⟨rfl,Body.same_refl _⟩⟩
 have D:∀b,Ap cx.Av U O.objs w b->Ap cx.Av U (Bm O.objs k ⟨g,b1⟩) w b:=by
  intro b n;refine⟨n.1,n.2.1,fun j i f u=>?_⟩;obtain⟨o,q,_,s⟩:=hold j i f;exact n.2.2 j o q (s.2 u)
 refine⟨h.nd,h.sz,fun t=>(h.sl t).mono y D (fun _ _=>rfl),fun j i f=>?_,fun j i b f u n=>?_,fun j F o i b f A u B x n=>?_,h.kept,h.avo,h.avlt,h.mle,fun j i C f r=>?_⟩
 ·rcases m j i f with⟨rfl,rfl⟩|⟨_,f⟩
  ·exact I _ _ _ _ ((h.ob j _ z).mono y D (fun _ _=>rfl) (fun _ _=>rfl))
  ·exact(h.ob j i f).mono y D (fun _ _=>rfl) (fun _ _=>rfl)
 ·obtain⟨o,q,_,s⟩:=hold j i f;exact h.blk j o b q (s.2 u) n
 ·obtain⟨p,q,_,s⟩:=hold j o f;obtain⟨K,H,_,G⟩:=hold F i A;exact h.inj j F p K b q H (s.2 u) (G.2 B) x n
 ·obtain⟨o,q,L,_⟩:=hold j i f;exact h.oloc j o C q (by rw[L];exact r)
theorem Rel.rowAs{cx:Cx P}{U:Bs}{O:St}{a:Act}{w:World}(h:Rel cx U O a w){k g W n:Nat}{f f':Nat->List PV}(m:O.objs k=some ⟨g,.row W n f⟩)(j:∀i,i<n->f i=f' i):
  Rel cx U ⟨O.slots,Bm O.objs k ⟨g,.row W n f'⟩⟩ a w:=by
 refine h.bodyAs (b1:=.row W n f') m ⟨rfl,rfl⟩ Iff.rfl fun U objs S l q=>?_
 rcases q with q|⟨b,o,cap,cur,e,r,t,v,u,s⟩
 ·exact .inl q
 ·refine .inr ⟨b,o,cap,cur,e,r,t,v,u,fun i hi=>?_⟩;rw[<-j i hi];exact s i hi
theorem Rel.mapAs{cx:Cx P}{U:Bs}{O:St}{a:Act}{w:World}(h:Rel cx U O a w){k g:Nat}{z m:PV}{has j:Int->Bool}{f f':Int->PV}(u:O.objs k=some ⟨g,.mp z has f⟩)(o:AkW z has f m j f'):
  Rel cx U ⟨O.slots,Bm O.objs k ⟨g,.mp m j f'⟩⟩ a w:=by
 refine h.bodyAs (b1:=.mp m j f') u trivial Iff.rfl fun U objs S l q=>?_
 obtain⟨B,t,x⟩:=o;subst B;obtain⟨b,v,clock,r,C,E,D,s⟩:=q;exact⟨b,v,clock,r,C,E,x D,fun i e n A y=>t n _ _ _ (s i e n A y)⟩
theorem AxM{cx:Cx P}{U:Bs}{O:St}{a:Act}{w:World}(h:Rel cx U O a w){t k g W n:Nat}{f:Nat->List PV}(F:O.objs k=some ⟨g,.row W n f⟩)(ht:O.slots t=.own k g 0 n):
  Rel cx U ⟨Cg O.slots t (.p (.sl .unk W n f)),Bm O.objs k ⟨g+1,.dead⟩⟩ a w:=by
 have hg:Grows U U O.objs (Bm O.objs k ⟨g+1,.dead⟩):=by
  intro j o l
  by_cases e:j=k
  ·subst e;rw[F]at l;injection l with l;subst l
   exact⟨_,Bj _ _ _,N4 _,fun e=>absurd e (by simp)⟩
  ·exact⟨o,by rw[Cl _ _ e];exact l,B2 _,fun _=>⟨rfl,Body.same_refl _⟩⟩
 have hold:∀j m,Bm O.objs k ⟨g+1,.dead⟩ j=some m->m.body.live->j≠k/\O.objs j=some m:=by
  intro j m l q
  by_cases e:j=k
  ·subst e;rw[Bj]at l;injection l with l;subst l;exact absurd q (by simp[Body.live])
  ·rw[Cl _ _ e]at l;exact⟨e,l⟩
 have R:∀b,Ap cx.Av U O.objs w b->Ap cx.Av U (Bm O.objs k ⟨g+1,.dead⟩) w b:=fun b z=>⟨z.1,z.2.1,fun j m l q=>z.2.2 j m (hold j m l q).2 q⟩
 have V:∀b,(U k).block=some b->Ap cx.Av U (Bm O.objs k ⟨g+1,.dead⟩) w b:=by
  intro b z;have B:=h.blk k _ b F trivial z;exact⟨B.1,B.2.1,fun j m l q=>h.inj k j _ m b F (hold j m l q).2 trivial q (Ne.symm (hold j m l q).1) z⟩
 refine⟨h.nd,h.sz,fun E=>?_,fun j m l=>?_,fun j m b l q z=>?_,fun j X o m b l N q r I z=>?_,h.kept,h.avo,h.avlt,h.mle,fun j m J l A=>?_⟩
 ·show RelV U _ _ w _ (Cg O.slots t (.p (.sl .unk W n f)) E)
  by_cases htt:E=t
  ·subst htt;have Q:=h.sl E;rw[ht]at Q;simp only[Cg,Cr,cond_true];generalize a.tmps.getD E undef=v at Q
   cases Q with
   |own _ _ _ _ base c hk=>
    have G:=hk.get F;obtain⟨hle,q⟩:=G;refine .p _ _ ?_;rcases h.ob k _ F with⟨r,hn0⟩|⟨b,o,cap,cur,e',r,hheap,Y,hnn,s⟩
    ·rw[r]at q;obtain⟨C,rfl,_,rfl⟩:=q;rcases C with rfl|⟨bb,oo,rfl⟩
     ·exact .slnil _ _ _ (by simp)
     ·exact .sl _ _ _ _ _ _ _ (fun _ _=>undef) (by simp) (B2 _) (fun e=>by simp at e) (fun i hi=>by omega) (fun i j hi=>by omega) (fun i j hi=>by omega) (fun i j x hi=>by omega)
    ·rw[r]at q;obtain⟨L,m,rfl,hcc,H⟩:=q
     by_cases hlen0:n=0
     ·subst hlen0;exact .sl _ _ _ _ _ _ _ (fun _ _=>undef) (by simp) (L4 _) (fun e=>by simp at e) (fun i hi=>by omega) (fun i j hi=>by omega) (fun i j hi=>by omega) (fun i j x hi=>by omega)
     ·obtain⟨rfl,rfl⟩:=H (by omega);have M:=V L (by rw[r];rfl);have D:∀j,w.cell? (at_ L j)=cur[j]?:=fun j=>cell_of_row w L j cur e' (0,0) hheap
      have y:∀i j,i<n->j<W->∃u,cur[o+0*W+(i*W+j)]?=some u/\u.oneCell'=true:=by
       intro i j hi l;obtain⟨q1,K⟩:=s i (by omega);obtain⟨u,u1,u2,_⟩:=K j (f i)[j] (B0 (by omega));exact⟨u,by rw[<-u1];congr 1;omega,u2⟩
      refine .sl _ _ _ _ _ _ _ (fun i j=>cur.getD (o+0*W+(i*W+j)) undef) (by simp) (by omega) (fun _=>M) (fun i hi=>(s i hi).1) (fun i j hi l=>?_) (fun i j hi l=>?_) (fun i j x hi hx=>?_)
      ·obtain⟨u,u1,_⟩:=y i j hi l;rw[D,A5,u1];rfl
      ·obtain⟨u,u1,u2⟩:=y i j hi l;rw[A5,u1];exact u2
      ·obtain⟨q1,K⟩:=s i hi;obtain⟨u,u1,u2,u3⟩:=K j x hx;have e2:cur[o+0*W+(i*W+j)]?=some u:=by rw[<-u1];congr 1;omega
       rw[A5,e2];exact u3.mono R (fun _ _=>rfl)
  ·simp only[Cg,Dt htt,cond_false];exact(h.sl E).mono hg R (fun _ _=>rfl)
 ·by_cases e:j=k
  ·have l:Bm O.objs k ⟨g+1,.dead⟩ j=some m:=l;subst e;rw[Bj]at l;injection l with l;subst l;trivial
  ·have l:Bm O.objs k ⟨g+1,.dead⟩ j=some m:=l;rw[Cl _ _ e]at l;exact(h.ob j m l).mono hg R (fun _ _=>rfl) (fun _ _=>rfl)
 ·exact h.blk j m b (hold j m l q).2 q z
 ·exact h.inj j X o m b (hold j o l q).2 (hold X m N r).2 q r I z
 ·by_cases e:j=k
  ·have l:Bm O.objs k ⟨g+1,.dead⟩ j=some m:=l;subst e;rw[Bj]at l;injection l with l;subst l;simp at A
  ·have l:Bm O.objs k ⟨g+1,.dead⟩ j=some m:=l;rw[Cl _ _ e]at l;exact h.oloc j m J l A
theorem AeC(objs:Ay)(k:Nat)(o a:Obj):Bm (Bm objs k o) k a=Bm objs k a:=by
 funext j
 by_cases e:j=k
 ·subst e;rw[Bj,Bj]
 ·rw[Cl _ _ e,Cl _ _ e,Cl _ _ e]
theorem Rel.moveRow{cx:Cx P}{U:Bs}{O:St}{a:Act}{w:World}(h:Rel cx U O a w){t k g W n kd:Nat}{f:Nat->List PV}(F:O.objs k=some ⟨g,.row W n f⟩)(R:O.slots t=.own k g 0 n)(N:kd≠k)(Y:1000<=kd):
  Rel cx (Hl U kd (U k)) ⟨Cg O.slots t (.own kd (Bt (O.objs kd)) 0 n),Bm (Bm O.objs k ⟨g+1,.dead⟩) kd ⟨Bt (O.objs kd),.row W n f⟩⟩ a w:=by
 have r:∀j m,Bm (Bm O.objs k ⟨g+1,.dead⟩) kd ⟨Bt (O.objs kd),.row W n f⟩ j=some m->(j=kd/\m=⟨Bt (O.objs kd),.row W n f⟩)\/(j≠kd/\j=k/\m=⟨g+1,.dead⟩)\/(j≠kd/\j≠k/\O.objs j=some m):=by
  intro j m l
  by_cases e:j=kd
  ·subst e;rw[Bj]at l;injection l with l;exact .inl ⟨rfl,l.symm⟩
  ·rw[Cl _ _ e]at l
   by_cases e2:j=k
   ·subst e2;rw[Bj]at l;injection l with l;exact .inr (.inl ⟨e,rfl,l.symm⟩)
   ·rw[Cl _ _ e2]at l;exact .inr (.inr ⟨e,e2,l⟩)
 have G:Grows U (Hl U kd (U k)) O.objs (Bm (Bm O.objs k ⟨g+1,.dead⟩) kd ⟨Bt (O.objs kd),.row W n f⟩):=by
  intro j o l
  by_cases e:j=kd
  ·subst e;rw[l];exact⟨_,Bj _ _ _,by simp[Bt],fun e=>by simp[Bt]at e⟩
  ·by_cases e2:j=k
   ·subst e2;rw[F]at l;injection l with l;subst l
    exact⟨⟨g+1,.dead⟩,by rw[Cl _ _ e,Bj],N4 _,fun e=>absurd e (by simp)⟩
   ·exact⟨o,by rw[Cl _ _ e,Cl _ _ e2];exact l,B2 _,fun _=>⟨by rw[Lg _ _ e],Body.same_refl _⟩⟩
 have q:∀j m,Bm (Bm O.objs k ⟨g+1,.dead⟩) kd ⟨Bt (O.objs kd),.row W n f⟩ j=some m->m.body.live->∃i o,O.objs i=some o/\o.body.live/\Hl U kd (U k) j=U i/\((j=kd/\i=k)\/(j≠kd/\j≠k/\i=j)):=by
  intro j m l y;rcases r j m l with⟨rfl,rfl⟩|⟨_,rfl,rfl⟩|⟨e1,e2,s⟩
  ·exact⟨k,_,F,trivial,Dq _ _ _,.inl ⟨rfl,rfl⟩⟩
  ·exact y.elim
  ·exact⟨j,m,s,y,Lg _ _ e1,.inr ⟨e1,e2,rfl⟩⟩
 have K:∀b,Ap cx.Av U O.objs w b->Ap cx.Av (Hl U kd (U k)) (Bm (Bm O.objs k ⟨g+1,.dead⟩) kd ⟨Bt (O.objs kd),.row W n f⟩) w b:=by
  intro b u;refine⟨u.1,u.2.1,fun j m l y=>?_⟩;obtain⟨i,o,C,E,D,_⟩:=q j m l y;rw[D];exact u.2.2 i o C E
 refine⟨h.nd,h.sz,fun B=>?_,fun j m l=>?_,fun j m b l y u=>?_,fun j L o m b l s y I z u=>?_,h.kept,h.avo,h.avlt,h.mle,fun j m J l x=>?_⟩
 ·show RelV _ _ _ w _ (Cg O.slots t (.own kd (Bt (O.objs kd)) 0 n) B)
  by_cases htt:B=t
  ·subst htt;have H:=h.sl B;rw[R]at H;simp only[Cg,Cr,cond_true];generalize a.tmps.getD B undef=v at H
   cases H with
   |own _ _ _ _ base c X=>
    have A:=X.get F;exact .own _ _ _ _ _ _ ⟨_,Bj _ _ _,B2 _,fun _=>by rw[Dq];exact A⟩
  ·simp only[Cg,Dt htt,cond_false];exact(h.sl B).mono G K (fun _ _=>rfl)
 ·rcases r j m l with⟨rfl,rfl⟩|⟨_,rfl,rfl⟩|⟨e1,e2,s⟩
  ·rw[Dq];exact(h.ob k _ F).mono G K (fun _ _=>rfl) (fun _ _=>rfl)
  ·trivial
  ·rw[Lg _ _ e1];exact(h.ob j m s).mono G K (fun _ _=>rfl) (fun _ _=>rfl)
 ·obtain⟨i,o,C,E,D,_⟩:=q j m l y;rw[D]at u;exact h.blk i o b C E u
 ·obtain⟨i,p,C,E,D,q4⟩:=q j o l y;obtain⟨i',p',Q,r2,M,V⟩:=q L m s I;rw[D]at u;rw[M];refine h.inj i i' p p' b C Q E r2 ?_ u;rcases q4 with⟨rfl,rfl⟩|⟨a1,a2,rfl⟩<;>rcases V with⟨rfl,rfl⟩|⟨b1,b2,rfl⟩
  ·exact absurd rfl z
  ·exact Ne.symm b2
  ·exact a2
  ·exact z
 ·rcases r j m l with⟨rfl,rfl⟩|⟨_,rfl,rfl⟩|⟨e1,e2,s⟩
  ·have:=h.mle;omega
  ·simp at x
  ·rw[Lg _ _ e1];exact h.oloc j m J s x
theorem Aup(hT:Hx P T){ops:Array Oper}{i:Nat}{o:Oper}(hi:ops[i]?=some o){x:Orc}{O:St}{r:Rec}{obl:List Prop}
  (h:dstep P T nt (ops.toList.map (·.dst)) o x O=some (r,obl)) (I:All obl):OpOK P nt ops i r O:=by
 intro cx U Z a w Q hnt b B M;unfold dstep at h;split at h
 case h_1=>simp at h
 rename_i gt gobl hg
 cases hb:((match o.dst with|some t=>Nat.blt t nt|none=>true)&&Jt o.op)with
 |false=>simp[hb]at h
 |true=>
 simp only[hb,cond_true]at h;simp only[A6]at hb;obtain⟨hb1,D⟩:=hb
 have hd:∀t,o.dst=some t->t<cx.nt:=by
  intro t u;rw[u]at hb1;simp only at hb1;rw[hnt];exact A8 hb1
 have J:∀t,o.dst=some t->t=o.dst.getD 0:=fun t u=>by simp[u]
 unfold wpOpIn;rw[hi];simp only;split at h
 ·-- skipped
  simp only[A1,A4]at h;obtain⟨rfl,rfl⟩:=h;have A:=Kk hg B;have F:=Ms hi b A I;simp only[Orc.isSkip,B4]at F;rw[if_neg (by simp[F])];exact⟨fun _ _=>trivial,U,AeY b o.dst hd undef .und .und⟩
 ·rename_i f ks keep res outs' news sm;split at h
  case h_2=>simp at h
  rename_i ro y wo C N;simp only[A1,A4]at h;obtain⟨rfl,rfl⟩:=h;rw[All_append]at I;have A:=Kk hg (fun t u=>B t (B1.2 (.inl u)));have F:=Ms hi b A I.1;simp only[Orc.isSkip,G6]at F;rw[if_pos F];refine Pq (Rj D) ?_;have hc':=Avx N (fun t u=>B t (B1.2 (.inr u))) M;exact dcall_wp D b hd hc' I.2 Q
 ·rename_i y' n' f';split at h
  case h_2=>simp at h
  rename_i y k g W n f C N;simp only[A1,A4]at h;obtain⟨rfl,rfl⟩:=h;rw[All_append,All_append]at I;obtain⟨X,ho2,ho3,⟨ho4,ho5⟩,_⟩:=I;subst ho3;subst ho4;have A:=Kk hg (fun t u=>B t (B1.2 (.inl u)));have F:=Ms hi b A X;simp only[Orc.isSkip,G6]at F;rw[if_pos F];refine Pq (Rj D) ?_;have E:=Abz (op:=o.op) (O:=O) (Z:=Z) (fun t u=>B t (B1.2 (.inr u)))
  refine Oper.wp_mono ?_ (AmV hT D J true b hd (y:=y) (wo:=[(k,⟨g,.row W n f⟩)]) (obl:=C) (by
   rw[E,Ut (objs':=O.objs) M]
   exact N) ho2 Q)
  ·rintro a' w' ⟨G,V⟩;have H:(Hb Z ⟨[],[],o.dst.toList.map fun t=>(t,y),[(k,⟨g,.row W n f⟩)]⟩).objs k=some ⟨g,.row W n f⟩:=Bj _ _ _;have:=V.rowAs H ho5;refine⟨G,?_⟩;have e:Bm (Hb Z ⟨[],[],o.dst.toList.map fun t=>(t,y),[(k,⟨g,.row W n f⟩)]⟩).objs k ⟨g,.row W n f'⟩=Bm Z.objs k ⟨g,.row W n f'⟩:=AeC _ _ _ _;rw[e]at this;exact this
 ·rename_i z' has' f';split at h
  case h_2=>simp at h
  rename_i y k g z has f C N;simp only[A1,A4]at h;obtain⟨rfl,rfl⟩:=h;rw[All_append,All_append]at I;obtain⟨X,ho2,ho3,_⟩:=I;have A:=Kk hg (fun t u=>B t (B1.2 (.inl u)));have F:=Ms hi b A X;simp only[Orc.isSkip,G6]at F;rw[if_pos F];refine Pq (Rj D) ?_;have E:=Abz (op:=o.op) (O:=O) (Z:=Z) (fun t u=>B t (B1.2 (.inr u)))
  refine Oper.wp_mono ?_ (AmV hT D J true b hd (y:=y) (wo:=[(k,⟨g,.mp z has f⟩)]) (obl:=C) (by
   rw[E,Ut (objs':=O.objs) M]
   exact N) ho2 Q)
  ·rintro a' w' ⟨G,V⟩;have H:(Hb Z ⟨[],[],o.dst.toList.map fun t=>(t,y),[(k,⟨g,.mp z has f⟩)]⟩).objs k=some ⟨g,.mp z has f⟩:=Bj _ _ _;have:=V.mapAs H ho3;refine⟨G,?_⟩;have e:Bm (Hb Z ⟨[],[],o.dst.toList.map fun t=>(t,y),[(k,⟨g,.mp z has f⟩)]⟩).objs k ⟨g,.mp z' has' f'⟩=Bm Z.objs k ⟨g,.mp z' has' f'⟩:=AeC _ _ _ _;rw[e]at this;exact this
 ·rename_i n' f';split at h
  case h_2=>simp at h
  rename_i od m q len k g W n f C t N hot
  cases L:(Nat.beq m k&&Nat.beq q g&&Nat.beq len n)with
  |false=>simp[L]at h
  |true=>
  simp only[L,cond_true,A1,A4]at h;obtain⟨rfl,rfl⟩:=h;simp only[A6]at L;obtain⟨⟨e1,e2⟩,e3⟩:=L;have e1:=A3 e1;have e2:=A3 e2;have e3:=A3 e3;subst e1;subst e2;subst e3;rw[All_append,All_append]at I;obtain⟨X,ho2,⟨ho3,ho4⟩,_⟩:=I;subst ho3;have A:=Kk hg (fun t u=>B t (B1.2 (.inl u)));have F:=Ms hi b A X;simp only[Orc.isSkip,G6]at F;rw[if_pos F];refine Pq (Rj D) ?_;have E:=Abz (op:=o.op) (O:=O) (Z:=Z) (fun t u=>B t (B1.2 (.inr u)))
  refine Oper.wp_mono ?_ (AmV hT D J true b hd (y:=.own m q 0 len) (wo:=[(m,⟨q,.row W len f⟩)]) (obl:=C) (by
   rw[E,Ut (objs':=O.objs) M]
   exact N) ho2 Q)
  ·rintro a' w' ⟨G,V⟩;rw[hot]at V;have H:(Hb Z ⟨[],[],[(t,.own m q 0 len)],[(m,⟨q,.row W len f⟩)]⟩).objs m=some ⟨q,.row W len f⟩:=Bj _ _ _;have hsl:(Hb Z ⟨[],[],[(t,.own m q 0 len)],[(m,⟨q,.row W len f⟩)]⟩).slots t=.own m q 0 len:=by simp[Hb,Rx,Cg,Cr]
   have hr2:Rel cx G (Hb Z ⟨[],[],[(t,.own m q 0 len)],[(m,⟨q,.row W len f⟩)]⟩) a' w':=V;have hr3:=hr2.rowAs H ho4;have hfr:=AxM (t:=t) hr3 (Bj _ _ _) hsl;refine⟨G,?_⟩;have e4:Bm (Bm (Hb Z ⟨[],[],[(t,.own m q 0 len)],[(m,⟨q,.row W len f⟩)]⟩).objs m ⟨q,.row W len f'⟩) m ⟨q+1,.dead⟩=Bm Z.objs m ⟨q+1,.dead⟩:=by rw[AeC];exact AeC _ _ _ _
   have e5:Cg (Hb Z ⟨[],[],[(t,.own m q 0 len)],[(m,⟨q,.row W len f⟩)]⟩).slots t (.p (.sl .unk W len f'))=Cg Z.slots t (.p (.sl .unk W len f')):=by
    funext j;simp only[Hb,Rx,Cg];cases Nat.beq j t<;>rfl
   rw[e4,e5]at hfr;exact hfr
 ·split at h
  case h_2=>simp at h
  rename_i od m q len k g W n f C t N hot
  cases L:(Nat.beq m k&&Nat.beq q g&&!Nat.beq (key t 0) k)with
  |false=>simp[L]at h
  |true=>
  simp only[L,cond_true,A1,A4]at h;obtain⟨rfl,rfl⟩:=h;simp only[A6,D7]at L;obtain⟨⟨e1,e2⟩,e4⟩:=L;have e1:=A3 e1;have e2:=A3 e2;rw[All_append,All_append]at I;have e3:=I.2.2.1;subst e1;subst e2;subst e3;have hne:key t 0≠m:=fun e=>by rw[e,D4]at e4;simp at e4
  have A:=Kk hg (fun t u=>B t (B1.2 (.inl u)));have F:=Ms hi b A I.1;simp only[Orc.isSkip,G6]at F;rw[if_pos F];refine Pq (Rj D) ?_;have E:=Abz (op:=o.op) (O:=O) (Z:=Z) (fun t u=>B t (B1.2 (.inr u)))
  refine Oper.wp_mono ?_ (AmV hT D J true b hd (y:=.own m q 0 len) (wo:=[(m,⟨q,.row W len f⟩)]) (obl:=C) (by
   rw[E,Ut (objs':=O.objs) (fun k hk=>M k (H5 _ hk))]
   exact N) I.2.1 Q)
  ·rintro a' w' ⟨G,V⟩;rw[hot]at V;have H:(Hb Z ⟨[],[],[(t,.own m q 0 len)],[(m,⟨q,.row W len f⟩)]⟩).objs m=some ⟨q,.row W len f⟩:=Bj _ _ _;have hsl:(Hb Z ⟨[],[],[(t,.own m q 0 len)],[(m,⟨q,.row W len f⟩)]⟩).slots t=.own m q 0 len:=by simp[Hb,Rx,Cg,Cr]
   have hr2:Rel cx G (Hb Z ⟨[],[],[(t,.own m q 0 len)],[(m,⟨q,.row W len f⟩)]⟩) a' w':=V;have hm:=hr2.moveRow (t:=t) H hsl hne (by simp only[key];omega);refine⟨Hl G (key t 0) (G m),?_⟩
   have e6:(Hb Z ⟨[],[],[(t,.own m q 0 len)],[(m,⟨q,.row W len f⟩)]⟩).objs (key t 0)=O.objs (key t 0):=by
    have:=M (key t 0) (by simp);rw[<-this];exact Cl _ _ hne
   rw[e6]at hm;have e7:Bm (Hb Z ⟨[],[],[(t,.own m q 0 len)],[(m,⟨q,.row W len f⟩)]⟩).objs m ⟨q+1,.dead⟩=Bm Z.objs m ⟨q+1,.dead⟩:=AeC _ _ _ _;rw[e7]at hm
   have e5:Cg (Hb Z ⟨[],[],[(t,.own m q 0 len)],[(m,⟨q,.row W len f⟩)]⟩).slots t (.own (key t 0) (Bt (O.objs (key t 0))) 0 len)=Cg Z.slots t (.own (key t 0) (Bt (O.objs (key t 0))) 0 len):=by
    funext j;simp only[Hb,Rx,Cg];cases Nat.beq j t<;>rfl
   rw[e5]at hm;exact hm
 ·rename_i n;split at h
  case h_2=>simp at h
  rename_i t1 q1 q2 q3 x s v R Y;split at h
  case h_2=>simp at h
  rename_i y wo C N;simp only[A1,A4]at h;obtain⟨rfl,rfl⟩:=h;rw[All_append]at I;have A:=Kk hg (fun t u=>B t (B1.2 (.inl u)));have F:=Ms hi b A I.1;simp only[Orc.isSkip,G6]at F;rw[if_pos F];refine Pq (Rj D) ?_;have E:=Abz (op:=o.op) (O:=O) (Z:=Z) (fun t u=>B t (B1.2 (.inr u)));obtain⟨od,op,ot,opos,oafter,oguard⟩:=o;simp only at R E Y D J hd hi ⊢;subst R;simp only[Op.operands,D8,G2,H3,and_true]at E Y;obtain⟨e1,e2,e3⟩:=E;obtain⟨e4,e5,e6⟩:=Y;have K:∀x∈(Op.operands (.entryStore t1 q1 q2 q3)).toList,Au x=true:=AiL D
  obtain⟨w',G,V,hrel2,rfl⟩:=Ark (P:=P) (t:=t1) b (K q1 (by simp[Op.operands])) (K q2 (by simp[Op.operands])) (K q3 (by simp[Op.operands])) (ob:=only x.keys Z.objs) (fun k o=>Cu)
   (by rw[e1,e2,e3,e4,e5,e6,Ut (objs':=O.objs) M];exact N) I.2
  unfold Oper.wp;simp only[execOp,Sem.run_bind,V,Result.andThen_ok,Sem.run_pure,Oper.upon];exact⟨G,AeY hrel2 od hd undef .und .und⟩
 ·rename_i z;split at h
  case h_2=>simp at h
  rename_i fop args ats R;split at h
  case h_2=>simp at h
  rename_i f vs hf hv;simp only[A1,A4]at h;obtain⟨rfl,rfl⟩:=h;rw[All_append]at I;have A:=Kk hg (fun t u=>B t (B1.2 (.inl u)));have F:=Ms hi b A I.1;simp only[Orc.isSkip,G6]at F;rw[if_pos F];refine Pq (Rj D) ?_;have E:=Abz (op:=o.op) (O:=O) (Z:=Z) (fun t u=>B t (B1.2 (.inr u)));have K:=AiL D;have hevx:∀x∈o.op.operands.toList,ev Z x=ev O x:=List.map_inj_left.mp E;obtain⟨hz1,hz2⟩:=I.2.1;have hm1:fop∈o.op.operands.toList:=by rw[R];simp[Op.operands,Call.operands]
  have hm2:∀x∈args,x∈o.op.operands.toList:=fun x hx=>by rw[R];simp[Op.operands,Call.operands,hx]
  have hfv:a.eval fop=.func (.func f) #[] #[]:=by
   have rf:=Bi b fop (K fop hm1);rw[hevx fop hm1]at rf;unfold fnOf at hf;split at hf
   ·rename_i g cs hq;simp only[A1,A4,List.map_eq_nil_iff]at hf;obtain⟨rfl,rfl⟩:=hf;rw[hq]at rf;have rp:=rf.inv_p;generalize a.eval fop=v at rp
    cases rp with
    |fn _ _ vs hl V=>
     have:vs= #[]:=H6 hl;rw[this]
   ·rename_i g cs hq
    cases hb3:Nat.blt g BND with
    |false=>simp[hb3]at hf
    |true=>
    simp only[hb3,cond_true,A1,A4]at hf;obtain⟨rfl,rfl⟩:=hf;rw[hq]at rf;generalize a.eval fop=v at rf
    cases rf with
    |fn _ _ vs hl V=>
     have:vs= #[]:=H6 hl;rw[this,AgM hb3]
   ·simp at hf
  have hargs:args.map a.eval=vs.toArray:=by
   have hl:=Apx hv
   have h1:args.toList.map a.eval=vs:=by
    have hlen:args.toList.length=vs.length:=by have:=congrArg List.length hl;simpa using this
    refine I6 (by simpa using hlen) fun i h3 h4=>?_
    have h3:i<args.toList.length:=by simpa using h3
    have hmem:args.toList[i]∈args:=by simp
    have r1:=Bi b args.toList[i] (K _ (hm2 _ hmem));rw[hevx _ (hm2 _ hmem)]at r1;have h5:=congrArg (fun l=>l[i]?) hl;simp only[A7,B0 h3,B0 h4,E0,A1]at h5;rw[h5]at r1;rw[K3];exact r1.inv_v.1
   rw[<-h1];exact Array.ext' (by rw[O2])
  have hrun:(execOp a.eval o).run P w=.ok (.value z) w:=by
   unfold execOp;rw[R];simp[resolve,Deferred.ofValue,hfv,invoke,hargs,hz2]
  unfold Oper.wp;rw[hrun];simp only[Oper.upon];exact⟨U,AeY b o.dst hd z _ (.mk_v hz1)⟩
 ·rename_i hn1 hn2 hn3 hn4 hn5 hn6 hn7 hn8;split at h
  case h_2=>simp at h
  rename_i y wo C N;simp only[A1,A4]at h;obtain⟨rfl,rfl⟩:=h;rw[All_append]at I;have A:=Kk hg (fun t u=>B t (B1.2 (.inl u)));have F:=Ms hi b A I.1
  have hsk:x.isSkip=false:=by
   cases x with
   |skip=>exact absurd rfl hn1
   |_=>rfl
  rw[hsk]at F;simp only[G6]at F;rw[if_pos F];refine Pq (Rj D) ?_;have E:=Abz (op:=o.op) (O:=O) (Z:=Z) (fun t u=>B t (B1.2 (.inr u)));refine AmV hT D J x.bit b hd (y:=y) (wo:=wo) (obl:=C) ?_ I.2 Q;rw[E,Ut (objs':=O.objs) M];exact N
theorem Ash{u:List (Option Nat)}:∀(os:List Oper) (xs:List Orc) (O:St) (a:List Rec) (obl:List Prop) (f:St),drun P T nt u os xs O=some (a,obl,f)->All obl ->
  a.length=os.length/\(∀(i:Nat) o r,os[i]?=some o->a[i]?=some r->∃x g,dstep P T nt u o x (Dh O (fun j=>a.getD j ⟨[],[],[],[]⟩) (fun _=>true) i)=some (r,g)/\All g) /\
  f=Dh O (fun j=>a.getD j ⟨[],[],[],[]⟩) (fun _=>true) os.length:=by
 intro os
 induction os with
 |nil=>
  intro xs O a obl f h q
  cases xs with
  |nil=>
   simp[drun]at h;obtain⟨rfl,rfl,rfl⟩:=h
   exact⟨rfl,fun i o r h=>by simp at h,rfl⟩
  |cons x xs=>simp[drun]at h
 |cons o os D=>
  intro xs O a obl f h q
  cases xs with
  |nil=>simp[drun]at h
  |cons x xs=>
   simp only[drun]at h;split at h
   case h_2=>simp at h
   rename_i r n C;split at h
   case h_2=>simp at h
   rename_i rs m s z;simp only[A1,A4]at h;obtain⟨rfl,rfl,rfl⟩:=h;rw[All_append]at q;obtain⟨E,y,A⟩:=D xs (Hb O r) rs m s z q.2
   have b:∀i,Dh O (fun j=>(r::rs).getD j ⟨[],[],[],[]⟩) (fun _=>true) (i+1)=Dh (Hb O r) (fun j=>rs.getD j ⟨[],[],[],[]⟩) (fun _=>true) i:=by
    intro i
    induction i with
    |zero=>simp[Dh]
    |succ i t=>
     rw[Dh,t];simp[Dh]
   refine⟨by simp[E],fun i B v l k=>?_,?_⟩
   ·cases i with
    |zero=>
     simp at l k;subst l;subst k
     exact⟨x,n,by simpa[Dh]using C,q.1⟩
    |succ i=>
     rw[b i];exact y i B v (by simpa using l) (by simpa using k)
   ·rw[A,E9,b]
theorem AoI(y:Hx P T){ops:Array Oper}{id:Nat}{xs:List Orc}{O l:St}{b:List Rec}{obl:List Prop}
  (h:drun P T nt (ops.toList.map (·.dst)) ops.toList xs O=some (b,obl,l)) (B:All obl) {cx:Cx P} (o:cx.nt=nt) {U:Bs} {a:Act} {w:World}
  (k:Rel cx U O a w) {Q:Exit->Act->World->Prop} (u:∀U a w,Rel cx U l a w->Q .normal a w):(Code.region id ops false).wpIn (fen cx.rd) 0 P Q a w:=by
 obtain⟨A,t,C⟩:=Ash _ _ _ _ _ _ h B
 have g:∀i,i<ops.size->OpOK P nt ops i (b.getD i ⟨[],[],[],[]⟩) (Dh O (fun j=>b.getD j ⟨[],[],[],[]⟩) (fun _=>true) i):=by
  intro i hi;have f:i<b.length:=by rw[A];simpa using hi
  obtain⟨x,s,z,E⟩:=t i ops[i] b[i] (by simp[hi]) (B0 f);have:=Aup y (ops:=ops) (i:=i) (C4 hi) z E;simpa[B0 f]using this
 refine wpIn_region ?_
 have key:∀(n i:Nat) (U:Bs) (a:Act) (w:World),n+i=ops.size->Rel cx U (Dh O (fun j=>b.getD j ⟨[],[],[],[]⟩) (fun _=>true) i) a w ->
   wpOpsIn (fen cx.rd) 0 P ops Q (List.range' i n) a w:=by
  intro n
  induction n with
  |zero=>
   intro i U a w hi q;have:i=ops.toList.length:=by simpa using hi
   subst this;simp only[List.range'_zero,wpOpsIn]
   exact u U a w (by rw[C];exact q)
  |succ n D=>
   intro i U a w hi q;rw[List.range'_succ,wpOpsIn_cons];refine wpOpIn_mono ?_ (g i (by omega) cx U _ a w Q o q (fun _ _=>rfl) (fun _ _=>rfl));rintro v w' ⟨r,m⟩;exact D (i+1) r v w' (by omega) (by simpa[Dh]using m)
 have:=key ops.size 0 U a w (by omega) k
 rwa [<-List.range_eq_range']at this
def backs:List (List Nat)->Nat->Bool
 |[],_=>true
 |ps::r,i=>ps.all (fun p=>Nat.blt p i)&&backs r (i+1)
theorem Axq:∀(l:List (List Nat)) (s:Nat),backs l s=true->∀(j:Nat) a,l[j]?=some a->∀p∈a,p<s+j:=by
 intro l
 induction l with
 |nil=>intro s _ j a h;simp at h
 |cons q r g=>
  intro s h j a b p f;simp only[backs,A6,B6]at h
  cases j with
  |zero=>simp at b;subst b;exact A8 (h.1 p f)
  |succ j=>
   have:=g (s+1) h.2 j a (by simpa using b) p f;omega
theorem Aoy(J:Hx P T)(y:P.follows .mixedOrders=true){ops:Array Oper}{id:Nat}{xs:List Orc}{O u:St}{b:List Rec}{obl:List Prop}
  (h:drun P T nt (ops.toList.map (·.dst)) ops.toList xs O=some (b,obl,u)) (M:All obl)
  (g:indep [] b (masks (ops.toList.map Ml) [])=true) (E:backs (ops.toList.map Ml) 0=true)
  {cx:Cx P} (B:cx.nt=nt) {U:Bs} {a:Act} {w:World}
  (s:Rel cx U O a w) {Q:Exit->Act->World->Prop} (I:∀U a w,Rel cx U u a w->Q .normal a w):(Code.region id ops true).wpIn (fen cx.rd) 0 P Q a w:=by
 obtain⟨F,H,R⟩:=Ash _ _ _ _ _ _ h M
 have l:∀i,i<ops.size->OpOK P nt ops i (b.getD i ⟨[],[],[],[]⟩) (Dh O (fun j=>b.getD j ⟨[],[],[],[]⟩) (fun _=>true) i):=by
  intro i hi;have k:i<b.length:=by rw[F];simpa using hi
  obtain⟨x,G,K,X⟩:=H i ops[i] b[i] (by simp[hi]) (B0 k);have:=Aup J (ops:=ops) (i:=i) (C4 hi) K X;simpa[B0 k]using this
 have D:∀(j:Nat) o,(ops.toList.map Ml)[j]?=some o->Pr ops j=o:=by
  intro j o f;rw[A7]at f
  cases C:ops.toList[j]? with
  |none=>simp[C]at f
  |some q=>
   simp[C]at f;have:ops[j]?=some q:=by simpa using C
   simp[Pr,this,f]
 have v:∀j,j<ops.size->(ops.toList.map Ml)[j]?=some (Pr ops j):=by
  intro j f;simp[Pr,f]
 refine wpIn_region_any y ?_;refine wpAny_run (nt:=nt) B O (fun j=>b.getD j ⟨[],[],[],[]⟩) l ?_ ?_ ?_ ops.size _ U a _ (by simp) ?_ ?_ ?_
 ·intro i j A f;have r:j<b.length:=by rw[F];simpa using f
  have t:i<b.length:=by omega
  have V:=indep_len _ _ _ g;obtain⟨m,y⟩:∃m,(masks (ops.toList.map Ml) [])[j]?=some m:=⟨_,B0 (by omega)⟩;rcases AwQ b [] _ g i j b[j] b[i] m (by simpa using A) (by simp[t]) (B0 r) y with z|z
  ·left;exact AwI (Pr ops) (ops.toList.map Ml) [] (fun j o f=>by simpa using D j o f) (fun j i m f=>by simp at f) j i m y z
  ·right;simpa[t,r]using z
 ·intro j f p L;have:=Axq _ 0 E j (Pr ops j) (v j f) p L;omega
 ·intro U a w N;exact I U a w (by rw[R];simpa using N)
 ·simp[cnt];exact H9 (List.countP_le_length) (by simp)
 ·intro j f;exfalso;rw[A5]at f
  by_cases hjs:j<ops.size
  ·simp[hjs]at f
  ·simp[hjs]at f
 ·have:Dh O (fun j=>b.getD j ⟨[],[],[],[]⟩) (fun i=>(Array.replicate ops.size false).getD i false) ops.size=O:=by
   have:∀n,Dh O (fun j=>b.getD j ⟨[],[],[],[]⟩) (fun i=>(Array.replicate ops.size false).getD i false) n=O:=by
    intro n
    induction n with
    |zero=>rfl
    |succ n W=>
     simp only[Dh];rw[if_neg,W];rw[A5]
     by_cases hjs:n<ops.size
     ·simp[hjs]
     ·simp[hjs]
   exact this _
  rw[this];exact s.drew
end
end Go.Dm

namespace Go.Dm
def Ac(sl:List (Nat×MV))(ob:List (Nat×Obj)):St:=⟨fun t=>(assoc sl t).getD .any,assoc ob⟩
def fix1(cur:Nat->Option Nat):MV->MV
 | .own k g off len=>match cur k with
  |some b=>bif Nat.beq b g then .own k 0 off len else .any
  |none=>.any
 | .ref k g off=>match cur k with
  |some b=>bif Nat.beq b g then .ref k 0 off else .any
  |none=>.any
 | .eref k g i off=>match cur k with
  |some b=>bif Nat.beq b g then .eref k 0 i off else .any
  |none=>.any
 | .mref k g=>match cur k with
  |some b=>bif Nat.beq b g then .mref k 0 else .any
  |none=>.any
 | .p x=>.p x
 | .fptr cs=>.fptr cs
 | .und=>.und
 |_=>.any
def fixN(cur:Nat->Option Nat):Nat->MV->MV
 |0,x=>fix1 cur x
 |d+1,.agg cs=>.agg (cs.map (fixN cur d))
 |d+1,.tup cs=>.tup (cs.map (fixN cur d))
 |d+1,.fn f cs=>.fn f (cs.map (fixN cur d))
 |_+1,x=>fix1 cur x
def fixB(cur:Nat->Option Nat):Body->Body
 | .box cs=>.box (cs.map (fixN cur 1))
 |b=>b
def AhP(cur:Nat->Option Nat)(objs:Ay):List Nat->List (Nat×Obj)
 |[]=>[]
 |k::r=>match cur k,objs k with
  |some _,some o=>(k,⟨0,fixB cur o.body⟩)::AhP cur objs r
  |_,_=>AhP cur objs r
def AhN(b:List Nat)(objs:Ay):Nat->Option Nat:=fun k=>
 bif elem k b then(match objs k with
  |some o=>bif Nat.ble 1000 k||Nat.beq o.gen 0 then some o.gen else none
  |none=>none)else none
def pickS(cur:Nat->Option Nat)(slots:Nat->MV):List Nat->List (Nat×MV)
 |[]=>[]
 |t::r=>(t,fixN cur 2 (slots t))::pickS cur slots r
def Kp(ls b:List Nat)(O:St):List (Nat×MV):=pickS (AhN b O.objs) O.slots ls
def He(b:List Nat)(O:St):List (Nat×Obj):=AhP (AhN b O.objs) O.objs b
theorem fixB_same(cur:Nat->Option Nat)(b:Body):b.same (fixB cur b):=by cases b<;>simp[fixB,Body.same]
theorem Ahz(cur:Nat->Option Nat)(b:Body):(fixB cur b).live↔b.live:=by cases b<;>simp[fixB,Body.live]
theorem Aex{V:Type}{l:List (Nat×V)}{k:Nat}{x:V}(h:assoc l k=some x):(k,x)∈l:=by
 induction l with
 |nil=>simp[assoc]at h
 |cons p r f=>
  obtain⟨j,y⟩:=p;simp only[assoc]at h
  cases b:Nat.beq k j with
  |true=>
   simp[b]at h;subst h;rw[A3 b]
   simp
  |false=>
   simp[b]at h;exact H5 _ (f h)
theorem normO_mem{cur:Nat->Option Nat}{objs:Ay}{b:List Nat}{k:Nat}{i:Obj}(h:(k,i)∈AhP cur objs b):
  ∃g o,cur k=some g/\objs k=some o/\i=⟨0,fixB cur o.body⟩:=by
 induction b with
 |nil=>simp[AhP]at h
 |cons j r f=>
  simp only[AhP]at h;split at h
  ·rename_i g o m l;rcases C0.1 h with h|h
   ·injection h with e1 e2
    subst e1;exact⟨g,o,m,l,e2⟩
   ·exact f h
  ·exact f h
theorem normO_has{cur:Nat->Option Nat}{objs:Ay}{b:List Nat}{k g:Nat}{o:Obj}(f:k∈b)(m:cur k=some g)(l:objs k=some o):
  assoc (AhP cur objs b) k=some ⟨0,fixB cur o.body⟩:=by
 induction b with
 |nil=>simp at f
 |cons j r h=>
  simp only[AhP]
  by_cases hj:k=j
  ·subst hj;simp only[m,l,assoc,Cr,cond_true]
  ·have i:k∈r:=by simpa[hj]using f
   split
   ·simp only[assoc,Dt hj,cond_false];exact h i
   ·exact h i
theorem Akb{b:List Nat}{objs:Ay}{k g:Nat}(h:AhN b objs k=some g):k∈b/\∃o,objs k=some o/\o.gen=g/\(1000<=k\/o.gen=0):=by
 unfold AhN at h
 cases i:elem k b with
 |false=>simp[i]at h
 |true=>
  simp only[i,cond_true]at h;refine⟨(Vh k b).1 i,?_⟩;split at h
  ·rename_i o l
   cases f:(Nat.ble 1000 k||Nat.beq o.gen 0)with
   |false=>simp[f]at h
   |true=>
    simp[f]at h;refine⟨o,l,h,?_⟩;rcases(B7 _ _).mp f with j|j
    ·exact .inl (A8 j)
    ·exact .inr (A3 j)
  ·simp at h
theorem ArX{U:Bs}{objs objs':Ay}{S D:Nat->Prop}{w:World}{cur:Nat->Option Nat}(G:∀b,S b->D b)
  (W:∀k g,cur k=some g->∃o C,objs k=some o/\o.gen=g/\objs' k=some C/\C.gen=0/\o.body.same C.body):
  ∀(d:Nat) (v:Value) (x:MV),RelV U objs S w v x->RelV U objs' D w v (fixN cur d x):=by
 have known:∀(k g:Nat) (F:Loc->Body->Prop),(∀l b c,F l b->b.same c->F l c)->cur k=some g->Known U objs k g F->Known U objs' k 0 F:=by
  intro k g F K r I;obtain⟨o,M,X,L⟩:=I;obtain⟨o1,C,t,H,N,Y,J⟩:=W k g r;rw[M]at t;injection t with t
  subst t;exact⟨C,N,by omega,fun _=>K _ _ _ (L H) J⟩
 have one:∀(v:Value) (x:MV),RelV U objs S w v x->RelV U objs' D w v (fix1 cur x):=by
  intro v x h
  cases h with
  |p _ _ h=>exact .p _ _ (h.mono G (fun _ _=>rfl))
  |own k g off len base c h=>
   simp only[fix1];split
   ·rename_i s r
    cases z:Nat.beq s g with
    |false=>exact .any _
    |true=>
     have:=A3 z;subst this;exact .own _ _ _ _ _ _ (known k s _ (fun _ _ _ h A=>OwnAt.same h A) r h)
   ·exact .any _
  |ref k g off b h=>
   simp only[fix1];split
   ·rename_i s r
    cases z:Nat.beq s g with
    |false=>exact .any _
    |true=>
     have:=A3 z;subst this;exact .ref _ _ _ _ (known k s _ (fun _ _ _ h _=>h) r h)
   ·exact .any _
  |eref k g i off b V h=>
   simp only[fix1];split
   ·rename_i s r
    cases z:Nat.beq s g with
    |false=>exact .any _
    |true=>
     have:=A3 z;subst this;exact .eref _ _ _ _ _ _ (known k s _ (fun _ _ _ h A=>ERefAt.same h A) r h)
   ·exact .any _
  |fptr cs b o A c r t u=>exact .fptr _ _ _ (G _ A) c r t (fun j x R=>(u j x R).mono G (fun _ _=>rfl))
  |mref k g b h=>
   simp only[fix1];split
   ·rename_i s r
    cases z:Nat.beq s g with
    |false=>exact .any _
    |true=>
     have:=A3 z;subst this;exact .mref _ _ _ (known k s _ (fun _ _ _ h _=>h) r h)
   ·exact .any _
  |und=>exact .und
  |_=>exact .any _
 intro d
 induction d with
 |zero=>exact one
 |succ d E=>
  intro v x h
  cases h with
  |agg cs vs B u t=>
   refine .agg _ _ (by simpa using B) (fun i y m=>?_) (fun i y m=>?_)
   ·rw[A7]at m
    cases n:cs[i]? with
    |none=>simp[n]at m
    |some q=>simp[n]at m;subst m;exact E _ _ (u i q n)
   ·rw[A7]at m
    cases n:cs[i]? with
    |none=>simp[n]at m
    |some q=>exact t i q n
  |tup cs vs B u=>
   refine .tup _ _ (by simpa using B) (fun i y m=>?_);rw[A7]at m
   cases n:cs[i]? with
   |none=>simp[n]at m
   |some q=>simp[n]at m;subst m;exact E _ _ (u i q n)
  |fn f cs vs B u=>
   refine .fn _ _ _ (by simpa using B) (fun i y m=>?_);rw[A7]at m
   cases n:cs[i]? with
   |none=>simp[n]at m
   |some q=>simp[n]at m;subst m;exact E _ _ (u i q n)
  |p _ _ h=>exact one _ _ (.p _ _ h)
  |own i g off len base c h=>exact one _ _ (.own _ _ _ _ _ _ h)
  |ref i g off b h=>exact one _ _ (.ref _ _ _ _ h)
  |eref i g ix off b V h=>exact one _ _ (.eref _ _ _ _ _ _ h)
  |fptr cs b o A c r t u=>exact one _ _ (.fptr _ _ _ A c r t u)
  |mref i g b h=>exact one _ _ (.mref _ _ _ h)
  |und=>exact one _ _ .und
  |any v=>exact one _ _ (.any v)
theorem pickS_get{cur:Nat->Option Nat}{slots:Nat->MV}{ls:List Nat}{t:Nat}:assoc (pickS cur slots ls) t=some (fixN cur 2 (slots t))\/assoc (pickS cur slots ls) t=none:=by
 induction ls with
 |nil=>exact .inr rfl
 |cons j r b=>
  simp only[pickS,assoc]
  cases f:Nat.beq t j with
  |true=>rw[A3 f];exact .inl rfl
  |false=>exact b
section
variable {P:Program} {T:Ty} {cx:Cx P} {U:Bs} {O:St} {a:Act} {w:World}
theorem Rel.norm(h:Rel cx U O a w)(ls C:List Nat):Rel cx U (Ac (Kp ls C O) (He C O)) a w:=by
 have v:∀k l,assoc (He C O) k=some l->∃o,O.objs k=some o/\AhN C O.objs k=some o.gen/\l=⟨0,fixB (AhN C O.objs) o.body⟩:=by
  intro k l y;obtain⟨g,o,m,A,h3⟩:=normO_mem (Aex y);obtain⟨_,o1,s,E,_⟩:=Akb m;rw[A]at s;injection s with s
  subst s;exact⟨o,A,by rw[m,E],h3⟩
 have I:∀b,Ap cx.Av U O.objs w b->Ap cx.Av U (assoc (He C O)) w b:=by
  intro b F;refine⟨F.1,F.2.1,fun k l y H=>?_⟩;obtain⟨o,m,A,rfl⟩:=v k l y;exact F.2.2 k o m ((Ahz _ _).1 H)
 have hm:∀k g,AhN C O.objs k=some g->∃o l,O.objs k=some o/\o.gen=g/\assoc (He C O) k=some l/\l.gen=0/\o.body.same l.body:=by
  intro k g hc;obtain⟨N,o,m,A,_⟩:=Akb hc;exact⟨o,_,m,A,normO_has N hc m,rfl,fixB_same _ _⟩
 refine⟨h.nd,h.sz,fun t=>?_,fun k l y=>?_,fun k l b y H F=>?_,fun k Y o l b y X H V M F=>?_,h.kept,h.avo,h.avlt,h.mle,fun k l N y hg=>?_⟩
 ·simp only[Ac,Kp];rcases pickS_get (cur:=AhN C O.objs) (slots:=O.slots) (ls:=ls) (t:=t)with e|e
  ·rw[e];exact ArX I hm 2 _ _ (h.sl t)
  ·rw[e];exact .any _
 ·obtain⟨o,m,A,rfl⟩:=v k l y;have:=h.ob k o m
  cases D:o.body with
  |dead=>trivial
  |mq q=>rw[D]at this;exact QRel.mono I (fun _ _=>rfl) (fun _ _=>rfl) this
  |row W n f=>
   rw[D]at this;rcases this with q|⟨b,oo,cap,cur,e,G,s,E,B,J⟩
   ·exact .inl q
   ·exact .inr ⟨b,oo,cap,cur,e,G,s,E,B,fun i hi=>⟨(J i hi).1,(J i hi).2.mono I (fun _ _=>rfl)⟩⟩
  |mp z has f=>
   rw[D]at this;obtain⟨b,es,clock,L,s,E,B,J⟩:=this
   exact⟨b,es,clock,L,s,E,B,fun i e n he hn=>(J i e n he hn).mono I (fun _ _=>rfl)⟩
  |box cs=>
   rw[D]at this;obtain⟨b,cur,e,L,s,E,B⟩:=this;refine⟨b,cur,e,L,s,by simpa[fixB]using E,fun j x K=>?_⟩;rw[A7]at K
   cases R:cs[j]? with
   |none=>simp[R]at K
   |some q=>
    simp[R]at K;subst K;obtain⟨u,u1,u2,u3⟩:=B j q R;exact⟨u,u1,u2,ArX I hm 1 _ _ u3⟩
 ·obtain⟨o,m,A,rfl⟩:=v k l y;exact h.blk k o b m ((Ahz _ _).1 H) F
 ·obtain⟨q,m,A,rfl⟩:=v k o y;obtain⟨r,g1,g2,rfl⟩:=v Y l X;exact h.inj k Y q r b m g1 ((Ahz _ _).1 H) ((Ahz _ _).1 V) M F
 ·obtain⟨o,m,A,rfl⟩:=v k l y;obtain⟨_,o1,s,E,B⟩:=Akb A;rw[m]at s;injection s with s
  subst s;refine h.oloc k o N m ?_;rcases B with B|B
  ·have:=h.mle;omega
  ·exact B
def DWP(P:Program)(cx:Cx P)(c:Code)(O:St)(Q:Exit->St->Prop):Prop:=
 ∀U a w,Rel cx U O a w->c.wpIn (fen cx.rd) 0 P (fun e g w'=>∃f b,Q e b/\Rel cx f b g w') a w
variable {Q:Exit->St->Prop}
theorem DWP.mono{c:Code}{g:Exit->St->Prop}(h:DWP P cx c O Q)(i:∀e O,Q e O->g e O):DWP P cx c O g:=
 fun U a w j=>wpIn_mono (h U a w j) fun _ _ _ ⟨b,f,q,r⟩=>⟨b,f,i _ _ q,r⟩
def thenQ(P:Program)(cx:Cx P)(c:Code)(Q:Exit->St->Prop):Exit->St->Prop
 | .normal,O=>DWP P cx c O Q
 |e,O=>Q e O
theorem DWP.seq{x y:Code}(h:DWP P cx x O (thenQ P cx y Q)):DWP P cx (.seq x y) O Q:=by
 intro U a w i;refine wpIn_seq (wpIn_mono (h U a w i) ?_);rintro e g w' ⟨b,f,q,r⟩
 cases e with
 |normal=>exact q b g w' r
 |_=>exact⟨b,f,q,r⟩
theorem DWP.skip(h:Q .normal O):DWP P cx .skip O Q:=fun U a w b=>wpIn_skip ⟨U,O,h,b⟩
theorem DWP.ret(h:Q .ret O):DWP P cx .ret O Q:=fun U a w b=>wpIn_ret ⟨U,O,h,b⟩
theorem DWP.exit{id:Nat}(h:Q (.exit id) O):DWP P cx (.exit id) O Q:=fun U a w b=>wpIn_exit ⟨U,O,h,b⟩
theorem DWP.cond{c:Operand}{x y:Code}{b:Bool}(g:Au c=true)(j:ev O c=.p (.v (.bool b)))(i:b=true->DWP P cx x O Q)(h:b=false->DWP P cx y O Q):
  DWP P cx (.cond c x y) O Q:=by
 intro U a w f;have:=Bi f c g;rw[j]at this;exact wpIn_cond_split this.inv_v.1 (fun e=>i e U a w f) (fun e=>h e U a w f)
def Rk(id:Nat)(Q:Exit->St->Prop):Exit->St->Prop
 | .exit id',O=>if id'=id then Q .normal O else Q (.exit id') O
 |e,O=>Q e O
theorem DWP.block{id:Nat}{c:Code}(h:DWP P cx c O (Rk id Q)):DWP P cx (.block id c) O Q:=by
 intro U a w g;refine wpIn_block (wpIn_mono (h U a w g) ?_);rintro e j w' ⟨b,f,q,r⟩
 cases e with
 |exit i=>
  simp only[Rk]at q;simp only[Exit.inBlock];split
  ·rename_i e;rw[if_pos e]at q;exact⟨b,f,q,r⟩
  ·rename_i e;rw[if_neg e]at q;exact⟨b,f,q,r⟩
 |_=>exact⟨b,f,q,r⟩
theorem Vv{rd:Option Nat}{ι:Type}{R:Exit->Act->World->Prop}{c:Code}(I:ι->Act->World->Prop)(z:ι->Nat)(i:ι)(v:I i a w)
  (round:∀i a w,I i a w->c.wpIn (fen rd) 0 P (Exit.then (fun s w'=>∃j,I j s w'/\z j<z i) R) a w):(Code.loop c).wpIn (fen rd) 0 P R a w:=by
 intro b k cs C B D
 have key:∀n i a w,z i=n->I i a w ->
   ∃e s w',R e s w'/\ArrivesIn (Machine.fenced P (fen rd)) P (lone (b.atR a (.code c::.inLoop c::k)) cs w) b k cs e s w':=by
  intro n
  induction n using Nat.strongRecOn with
  |_ n G=>
   intro i a w F E;obtain⟨e,h,g,o,f⟩:=round i a w E b (.inLoop c::k) cs C B D
   cases e with
   |normal=>
    obtain⟨j,r,A⟩:=o;obtain⟨t,u,y,q,m⟩:=G (z j) (F▸A) j h g rfl r
    exact⟨t,u,y,q,.of_steps (StepsIn.trans f (.one (fenced_calm B D rfl) stepR_inLoop)) m⟩
   |exit id=>exact⟨_,h,g,o,.pass (x:=.inLoop c) rfl (fun _ _=>.inl (by simp)) f⟩
   |goto l=>exact⟨_,h,g,o,.pass (x:=.inLoop c) rfl (fun _ _=>.inl (by simp)) f⟩
   |ret=>exact⟨_,h,g,o,.pass (x:=.inLoop c) rfl (fun _ _=>.inl (by simp)) f⟩
   |panic H=>exact⟨_,h,g,o,.pass (x:=.inLoop c) rfl (fun _ _=>.inl (by simp)) f⟩
   |outgrown=>exact⟨_,h,g,o,.pass (x:=.inLoop c) rfl (fun _ _=>.inl (by simp)) f⟩
 obtain⟨e,s,w',o,f⟩:=key _ i a w rfl v;exact⟨e,s,w',o,.of_steps (.one (fenced_calm B D rfl) stepR_loop) f⟩
def loopQ{ι:Type}(I:ι->St)(pre:ι->Prop)(b:ι->Nat)(i:ι)(Q:Exit->St->Prop):Exit->St->Prop
 | .normal,O=>∃j,pre j/\O=I j/\b j<b i
 |e,O=>Q e O
theorem DWP.loop{ι:Type}{c:Code}(I:ι->St)(pre:ι->Prop)(k:ι->Nat)(i:ι)(f:pre i)(m:O=I i)
  (round:∀i,pre i->DWP P cx c (I i) (loopQ I pre k i Q)):DWP P cx (.loop c) O Q:=by
 intro U a w g;subst m;refine Vv (ι:=ι) (fun i a w=>pre i/\∃U,Rel cx U (I i) a w) k i ⟨f,U,g⟩ ?_;rintro i a w ⟨f,U,g⟩;refine wpIn_mono (round i f U a w g) ?_;rintro e s w' ⟨b,h,q,r⟩
 cases e with
 |normal=>
  obtain⟨j,o,l,n⟩:=q;subst l
  exact⟨j,⟨o,b,r⟩,n⟩
 |_=>exact⟨b,h,q,r⟩
def dreg(P:Program)(T:Ty)(nt:Nat)(ops:Array Oper)(xs:List Orc)(ls b:List Nat)(draw:Bool)(O:St):Option (List (Nat×MV)×List (Nat×Obj)×List Prop):=
 match drun P T nt (ops.toList.map (·.dst)) ops.toList xs O with
 |some (recs,obl,σ')=>
  bif !draw||(indep [] recs (masks (ops.toList.map Ml) [])&&backs (ops.toList.map Ml) 0)then some (Kp ls b σ',He b σ',obl)else none
 |none=>none
theorem DWP.region(q:Hx P T)(t:P.follows .mixedOrders=true){ops:Array Oper}{id:Nat}{draw:Bool}{xs:List Orc}{ls o:List Nat}{sl:List (Nat×MV)}{ob:List (Nat×Obj)}{obl:List Prop}
  (h:dreg P T cx.nt ops xs ls o draw O=some (sl,ob,obl)) (n:All obl) (s:Q .normal (Ac sl ob)):DWP P cx (.region id ops draw) O Q:=by
 unfold dreg at h;split at h
 case h_2=>simp at h
 rename_i i r k m
 cases g:(!draw||(indep [] i (masks (ops.toList.map Ml) [])&&backs (ops.toList.map Ml) 0))with
 |false=>simp[g]at h
 |true=>
 simp only[g,cond_true,A1,A4]at h;obtain⟨rfl,rfl,rfl⟩:=h;intro U a w j;have b:∀U a w,Rel cx U k a w->∃l f,Q .normal f/\Rel cx l f a w:=fun U a w j=>⟨U,_,s,j.norm ls o⟩
 cases draw with
 |false=>exact AoI q m n rfl j b
 |true=>
  simp only[B4,E8,A6]at g;exact Aoy q t m n g.1 g.2 rfl j b
end
end Go.Dm

namespace Go.Dm
structure Same(S:Nat->Prop)(w w':World):Prop where
 cell:∀b o v,S b->w.cell? (at_ b o)=some v->w'.cell? (at_ b o)=some v
 map:∀b es c,S b->w.heap[b]?=some (.map es c)->w'.heap[b]?=some (.map es c)
theorem Rep.move{S C:Nat->Prop}{w w':World}(A:∀b,S b->C b)(t:Same S w w'){v:Value}{x:PV}(h:Rep S w v x):Rep C w' v x:=by
 induction h with
 |v x h=>exact .v x h
 |slnil fl W f h=>exact .slnil fl W f h
 |sl fl W n cap b o f c u l g m B k r a=>
  exact .sl fl W n cap b o f c u l (fun H=>A _ (g H)) m (fun i j hi y=>t.cell _ _ _ (g (by omega)) (B i j hi y)) k a
 |fn f s vs q r a=>exact .fn f s vs q a
 |agg cs vs q r k a=>exact .agg cs vs q a k
 |tup cs vs q r a=>exact .tup cs vs q a
 |mp z has f b clock G g F D E r a=>exact .mp z has f b clock G (A _ g) (t.map _ _ _ g F) D E a
 |ptr cs b o g c B k r a=>exact .ptr cs b o (A _ g) c (fun j y=>t.cell _ _ _ g (B j y)) k a
theorem RelV.move{U:Bs}{objs:Ay}{S u:Nat->Prop}{w w':World}(s:∀b,S b->u b)(r:Same S w w'){v:Value}{x:MV}(h:RelV U objs S w v x):RelV U objs u w' v x:=by
 induction h with
 |p v x h=>exact .p v x (h.move s r)
 |own k g off len base c h=>exact .own k g off len base c h
 |ref k g off b h=>exact .ref k g off b h
 |eref k g i off b y h=>exact .eref k g i off b y h
 |fptr cs b o t c B q n=>exact .fptr cs b o (s _ t) c (fun j A=>r.cell _ _ _ t (B j A)) q (fun j x z=>(n j x z).move s r)
 |agg cs vs a n q l=>exact .agg cs vs a l q
 |tup cs vs a n l=>exact .tup cs vs a l
 |fn f m vs a n l=>exact .fn f m vs a l
 |mref k g b h=>exact .mref k g b h
 |und=>exact .und
 |any v=>exact .any v
theorem ObjRel.move{U:Bs}{objs:Ay}{S J:Nat->Prop}{w w':World}(D:∀b,S b->J b)(v:Same S w w'){l:Loc}{bd:Body}(Q:bd.live)
  (t:∀b,l.block=some b->w'.heap[b]?=w.heap[b]?) (h:ObjRel U objs S w l bd):ObjRel U objs J w' l bd:=by
 cases bd with
 |box cs=>
  obtain⟨b,cur,e,rfl,g,k,m⟩:=h;refine⟨b,cur,e,rfl,by rw[t b rfl,g],k,fun j x H=>?_⟩;obtain⟨u,G,E,I⟩:=m j x H
  exact⟨u,G,E,I.move D v⟩
 |row W n f=>
  rcases h with h|⟨b,o,cap,cur,e,rfl,g,k,m,r⟩
  ·exact .inl h
  ·refine .inr ⟨b,o,cap,cur,e,rfl,by rw[t b rfl,g],k,m,fun i hi=>⟨(r i hi).1,fun j x H=>?_⟩⟩;obtain⟨u,G,E,I⟩:=(r i hi).2 j x H
   exact⟨u,G,E,I.move D v⟩
 |mp z has f=>
  obtain⟨b,A,clock,rfl,g,k,m,r⟩:=h
  exact⟨b,A,clock,rfl,by rw[t b rfl,g],k,m,fun i e n C B=>(r i e n C B).move D v⟩
 |mq q=>
  cases q with
  |clk z has f born clock=>
   obtain⟨b,A,rfl,g,k,m,r,F⟩:=h
   exact⟨b,A,rfl,by rw[t b rfl,g],k,m,fun i e n C B=>(r i e n C B).move D v,F⟩
  |it f rem cur=>
   obtain⟨b,M,A,clock,y,seen,L,has,rfl,g,k,m,r,F,O,K,N,P⟩:=h
   exact⟨b,M,A,clock,y,seen,L,has,rfl,by rw[t b rfl,g],D _ k,v.map _ _ _ k m,r,F,O,fun i e n C B=>(K i e n C B).move D v,N,P⟩
  |pm z has f=>
   obtain⟨b,A,clock,rfl,g,k,m,r⟩:=h
   exact⟨b,A,clock,rfl,by rw[t b rfl,g],k,m,fun i e a c C B=>(r i e a c C B).move D v⟩
  |sit s pos=>
   obtain⟨b,rfl,g⟩:=h
   exact⟨b,rfl,by rw[t b rfl,g]⟩
 |dead=>trivial
structure Shut(n0:Nat)(w w':World):Prop where
 os:w'.os=w.os
 tape:w'.tape=w.tape
 output:w'.output=w.output
 size:w'.heap.size=w.heap.size
 block:∀b,(b<n0\/w.heap[b]? ≠ some (.deferred (some [])))->w'.heap[b]?=w.heap[b]?
theorem Shut.refl(a:Nat)(w:World):Shut a w w:=⟨rfl,rfl,rfl,rfl,fun _ _=>rfl⟩
theorem Shut.trans{f:Nat}{a b c:World}(h:Shut f a b)(k:Shut f b c):Shut f a c:=
 ⟨k.os.trans h.os,k.tape.trans h.tape,k.output.trans h.output,k.size.trans h.size,fun i hi=>by
  have e:=h.block i hi
  rw[k.block i (by rcases hi with hi|hi;exact .inl hi;exact .inr (by rw[e];exact hi)),e]⟩
theorem Shut.put{f:Nat}{w:World}{D:Nat}(i:f<=D)(g:w.heap[D]?=some (.deferred (some [])))(o:Go.Obj):Shut f w (w.putObj D o):=by
 refine⟨rfl,rfl,rfl,by simp[World.putObj],fun b a=>?_⟩
 by_cases h:b=D
 ·subst h;rcases a with a|a
  ·omega
  ·exact absurd g a
 ·exact World.putObj_heap_other h
theorem Rel.shut{P:Program}{cx:Cx P}{U:Bs}{O:St}{a:Act}{w w':World}(h:Rel cx U O a w)(i:Shut cx.w0.heap.size w w'):Rel cx U O {a with defers:=[]} w':=by
 have A:∀b,Ap cx.Av U O.objs w b->Ap cx.Av U O.objs w' b:=fun b g=>⟨by rw[i.size];exact g.1,g.2.1,g.2.2⟩
 have j:Same (Ap cx.Av U O.objs w) w w':=by
  refine⟨fun b o v _ B=>?_,fun b C c _ y=>?_⟩
  ·rw[World.cell?_of_block (i.block b (.inr fun e=>by simp[World.cell?,at_,e]at B))];exact B
  ·rw[i.block b (.inr fun e=>by rw[e]at y;simp at y)];exact y
 have r:∀k o b,O.objs k=some o->o.body.live->(U k).block=some b->w'.heap[b]?=w.heap[b]?:=by
  intro k o b s l g
  by_cases h0:b<cx.w0.heap.size
  ·exact i.block b (.inl h0)
  ·refine i.block b (.inr fun e=>?_);have:=h.mark_safe (Nat.le_of_not_lt h0) e (fun _ _ _ e=>by simp at e) (fun _ _ e=>by simp at e) (fun _ _ _ _ e=>by simp at e) (fun _ _ e=>by simp at e);exact this.2.2 k o s l g
 refine⟨Marked.nil,h.sz,fun t=>(h.sl t).move A j,fun k o s=>?_,fun k o b s l g=>?_,h.inj,?_,h.avo,h.avlt,h.mle,h.oloc⟩
 ·by_cases l:o.body.live
  ·exact(h.ob k o s).move A j l fun b g=>r k o b s l g
  ·cases m:o.body with
   |dead=>trivial
   |box cs=>simp[m,Body.live]at l
   |row W n f=>simp[m,Body.live]at l
   |mp z has f=>simp[m,Body.live]at l
   |mq q=>simp[m,Body.live]at l
 ·have:=h.blk k o b s l g;exact⟨by rw[i.size];exact this.1,this.2⟩
 ·have u:=h.kept;refine⟨i.os.trans u.os,i.tape.trans u.tape,i.output.trans u.output,by rw[i.size];exact u.size,fun b g x=>?_⟩;rw[i.block b (.inl g)];exact u.block b g x
theorem AtD{F:Fence}{n:Nat}{P:Program}{fn:Func}{a:Array Value}{R:Ending->World->Prop}{w0:World}:∀(f:List Deferred) (w:World),Marked w0 f w ->
  (∀w',Shut w0.heap.size w w'->∃v,(results fn a).run P w'=.ok v w'/\R (.returned v) w')->LeavesInM F n P fn a R f .returning w:=by
 intro f
 induction f with
 |nil=>intro w _ h;exact h w (Shut.refl _ _)
 |cons d f x=>
  intro w k h;obtain⟨D,l,r,m⟩:=k.mark d (by simp);have b:=k.nodup;rw[H4]at b;refine⟨by simp,.inl ⟨D,w.putObj D (.deferred none),by rw[l],run_takeDeferred m,x _ ⟨b.2,fun u g=>?_⟩ fun w' i=>h w' ((Shut.put r m _).trans i)⟩⟩;obtain⟨q,o,s,t⟩:=k.mark u (by simp[g]);refine⟨q,o,s,?_⟩;have j:D≠q:=fun e=>b.1 (by rw[l,e,<-o];exact g)
  rw[World.putObj_heap_other (Ne.symm j)];exact t
theorem fen_wpIn{r:Option Nat}{n m:Nat}{P:Program}{c:Code}{Q:Exit->Act->World->Prop}{a:Act}{w:World}(h:c.wpIn (fen r) n P Q a w):c.wpIn (fen r) m P Q a w:=
 fun b k cs f g _=>h b k cs f g (Avj r _)
end Go.Dm

namespace Go.Dm
def toR(ob:Ay)(ks:List Nat):MV->Option MV
 | .tup cs=>match Yn (toC ob ks) cs with
  |some a=>match pures a with
   |some b=>some (.p (.tup b))
   |none=>some (.tup a)
  |none=>none
 |x=>toC ob ks x
def rv(T:Ty)(O:St):ResultVar->Option MV
 | .tmp t=>some (O.slots t)
 | .cell t ty=>match Zg T ty O.objs (O.slots t)with
  |some (y,_,[])=>some y
  |_=>none
def rvs(T:Ty)(O:St):List ResultVar->Option (List MV)
 |[]=>some []
 |r::rs=>match rv T O r,rvs T O rs with
  |some y,some ys=>some (y::ys)
  |_,_=>none
def one:List MV->MV
 |[x]=>x
 |l=>.tup l
def upN:Nat->Nat->List Nat
 |0,_=>[]
 |n+1,i=>i::upN n (i+1)
def Vm:Nat->List (Nat×Body)->Bool
 |0,_=>true
 |_+1,[]=>false
 |n+1,(g,.dead)::r=>Vm n r
 |n+1,(g,_)::r=>Nat.beq g 0&&Vm n r
def Abi(m:Nat)(ob:Ay):Ay:=fun k=>match ob k with
 |some o=>some o
 |none=>bif Nat.blt k m then some ⟨1,.dead⟩else none
def fin0(T:Ty)(results:List ResultVar)(m:Nat)(ex:List Nat)(O:St):Option (MV×List Body):=
 match rvs T O results with
 |some a=>match toR O.objs (upN m 0++ex) (one a),Tj O.objs (upN m 0++ex)with
  |some res,some os=>bif Vm m os&&Aho (upN m 0++ex)&&ex.all (fun k=>Nat.ble 1000 k)&&Nat.ble m 1000 then some (res,os.map (·.2))else none
  |_,_=>none
 |none=>none
def fin(T:Ty)(results:List ResultVar)(m:Nat)(ex:List Nat)(O:St):Option (MV×List Body):=fin0 T results m ex ⟨O.slots,Abi m O.objs⟩
def Afl(T:Ty)(results:List ResultVar)(m:Nat)(res:MV)(bs:List Body):Exit->St->Prop
 | .ret,O=>∃ex,fin T results m ex O=some (res,bs)
 | .normal,O=>∃ex,fin T results m ex O=some (res,bs)
 |_,_=>False
theorem Anz(n:Nat):∀(s i:Nat),i<n->(upN n s)[i]?=some (s+i):=by
 induction n with
 |zero=>intro s i h;omega
 |succ n a=>
  intro s i h
  cases i with
  |zero=>simp[upN]
  |succ i=>
   simp only[upN,List.getElem?_cons_succ];rw[a (s+1) i (by omega)];congr 1;omega
theorem AcK(n:Nat):∀s,(upN n s).length=n:=by
 induction n with
 |zero=>intro s;rfl
 |succ n a=>intro s;simp[upN,a]
theorem AuH:∀(n:Nat) (l:List (Nat×Body)),Vm n l=true->∀i g b,i<n->l[i]?=some (g,b)->b.live->g=0:=by
 intro n
 induction n with
 |zero=>intro l _ i g b h;omega
 |succ n m=>
  intro l h i g b hi a f
  cases l with
  |nil=>simp[Vm]at h
  |cons p r=>
   obtain⟨o,j⟩:=p
   cases i with
   |zero=>
    simp at a;obtain⟨rfl,rfl⟩:=a
    cases j with
    |dead=>exact f.elim
    |_=>simp only[Vm,A6]at h;exact A3 h.1
   |succ i=>
    have k:Vm n r=true:=by
     cases j with
     |dead=>exact h
     |_=>simp only[Vm,A6]at h;exact h.2
    exact m r k i g b (by omega) (by simpa using a) f
def Anv(a:Array Value):ResultVar->Sem Value
 | .tmp t=>pure (a.getD t undef)
 | .cell q t=>do loadVar t (<-asAddr (a.getD q undef))
theorem Axo(fn:Func)(b:Array Value):results fn b=(do
  let vs <-fn.results.mapM (Anv b)
  pure (if h:vs.size=1 then vs[0]else .tuple vs)):=by
 unfold results
 have:(Anv b)=(fun
  | .tmp t=>pure (b.getD t undef)
  | .cell a t=>do loadVar t (<-asAddr (b.getD a undef))):=by
  funext r;cases r<;>rfl
 rw[this];rfl
section
variable {P:Program} {T:Ty}
theorem run_rv(A:Hx P T){cx:Cx P}{U:Bs}{O:St}{a:Act}{w:World}(h:Rel cx U O a w){r:ResultVar}{y:MV}(j:rv T O r=some y):
  ∃v,(Anv a.tmps r).run P w=.ok v w/\RelV U O.objs (Ap cx.Av U O.objs w) w v y:=by
 cases r with
 |tmp t=>
  simp[rv]at j;subst j
  exact⟨_,rfl,h.sl t⟩
 |cell q t=>
  simp only[rv]at j;split at j
  ·rename_i D wo m;simp at j;subst j;obtain⟨v,B,x,_⟩:=Aqa (P:=P) (ob:=O.objs) (ox:=.tmp q) A.ok h rfl (fun _ _ h=>h) m trivial
   have n:∃p,a.tmps.getD q undef=.pointer (some p):=by
    have l:=h.sl q;unfold Zg at m;split at m
    ·simp at m
    ·split at m
     ·rename_i k g off i;have f:O.slots q=.ref k g off:=i;rw[f]at l;obtain⟨b,u,_⟩:=l.inv_ref;exact⟨_,u⟩
     ·rename_i k g z off i;have f:O.slots q=.eref k g z off:=i;rw[f]at l;obtain⟨b,C,u,_⟩:=l.inv_eref;exact⟨_,u⟩
     ·rename_i cs i;have f:O.slots q=.fptr cs:=i;rw[f]at l;obtain⟨b,o,c,u,_⟩:=l.inv_fptr;exact⟨_,u⟩
     ·simp at m
   obtain⟨p,i⟩:=n;refine⟨v,?_,x⟩;have s:(Instr.loadAt t (a.tmps.getD q undef)).run P w=.ok v w:=B;simp only[Anv];rw[i]at s ⊢;simpa[Instr.loadAt,Instr.sureAddr,asAddr]using s
  ·simp at j
theorem run_rvs(A:Hx P T){cx:Cx P}{U:Bs}{O:St}{a:Act}{w:World}(h:Rel cx U O a w):∀(rs:List ResultVar) (g:List MV),rvs T O rs=some g ->
  ∃vs:List Value,(rs.mapM (m:=Sem) (Anv a.tmps)).run P w=.ok vs w/\vs.length=g.length /\
   ∀(i:Nat) v y,vs[i]?=some v->g[i]?=some y->RelV U O.objs (Ap cx.Av U O.objs w) w v y:=by
 intro rs
 induction rs with
 |nil=>intro g b;simp[rvs]at b;subst b;exact⟨[],by simp,rfl,fun i v y h=>by simp at h⟩
 |cons r rs x=>
  intro g b;simp only[rvs]at b;split at b
  ·rename_i y k B s;simp at b;subst b;obtain⟨v,t,j⟩:=run_rv A h B;obtain⟨vs,n,q,f⟩:=x k s;refine⟨v::vs,?_,by simp[q],fun i u z l o=>?_⟩
   ·rw[List.mapM_cons,Sem.run_bind,t];simp[n]
   ·cases i with
    |zero=>simp at l o;subst l;subst o;exact j
    |succ i=>exact f i u z (by simpa using l) (by simpa using o)
  ·simp at b
theorem Avy(n:Hx P T){cx:Cx P}{U:Bs}{O:St}{a:Act}{w:World}(h:Rel cx U O a w){fn:Func}{b:List MV}(l:rvs T O fn.results.toList=some b):
  ∃v,(results fn a.tmps).run P w=.ok v w/\RelV U O.objs (Ap cx.Av U O.objs w) w v (Dm.one b):=by
 obtain⟨vs,o,f,k⟩:=run_rvs n h _ _ l;refine⟨if hh:vs.toArray.size=1 then vs.toArray[0]else .tuple vs.toArray,?_,?_⟩
 ·rw[Axo,Sem.run_bind]
  have:(fn.results.mapM (m:=Sem) (Anv a.tmps)).run P w=.ok vs.toArray w:=by
   rw[Array.mapM_eq_mapM_toList];simp[o]
  rw[this];rfl
 ·by_cases hv:vs.length=1
  ·obtain⟨u,rfl⟩:∃u,vs=[u]:=by
    match vs,hv with
    |[u],_=>exact⟨u,rfl⟩
   obtain⟨z,rfl⟩:∃z,b=[z]:=by
    match b,f with
    |[z],_=>exact⟨z,rfl⟩
   exact k 0 u z rfl rfl
  ·rw[dif_neg (by simpa using hv)]
   have:Dm.one b=.tup b:=by
    match b,f,hv with
    |[],_,_=>rfl
    |[z],f,hv=>exact absurd f hv
    |_::_::_,_,_=>rfl
   rw[this];refine .tup _ _ (by simpa using f) (fun i y j=>?_);have g:i<vs.length:=by rw[f];exact(A9.1 j).1
   have:=k i vs[i] y (B0 g) j;simpa[A5,g]using this
theorem toR_sound{cx:Cx P}{U:Bs}{O:St}{a:Act}{w:World}(h:Rel cx U O a w){ks:List Nat}{os:List (Nat×Body)}(u:Tj O.objs ks=some os)
  {v:Value} {x y:MV} (l:RelV U O.objs (Ap cx.Av U O.objs w) w v x) (f:toR O.objs ks x=some y):
  RelV (Bn U ks) (Bu (os.map (·.2))) (Ap cx.Av (Bn U ks) (Bu (os.map (·.2))) w) w v y:=by
 have weak:∀(bs:List Nat) (v:Value) (z:MV),RelV (Bn U ks) (Bu (os.map (·.2))) (Ap (Uw cx U O.objs ks bs) (Bn U ks) (Bu (os.map (·.2))) w) w v z ->
   RelV (Bn U ks) (Bu (os.map (·.2))) (Ap cx.Av (Bn U ks) (Bu (os.map (·.2))) w) w v z:=by
  intro bs v z s;refine s.mono (Grows.refl _ _) (fun b n=>⟨n.1,fun F=>n.2.1 (.inl F),n.2.2⟩) (fun _ _=>rfl)
 have single:∀(v:Value) (x y:MV),RelV U O.objs (Ap cx.Av U O.objs w) w v x->toC O.objs ks x=some y ->
   RelV (Bn U ks) (Bu (os.map (·.2))) (Ap cx.Av (Bn U ks) (Bu (os.map (·.2))) w) w v y:=fun v x y l f=>
  weak (bor ks x) v y (Asq h (fun _ _ h=>h) u l f (fun k E=>E))
 unfold toR at f;split at f
 ·rename_i cs
  cases l with
  |tup _ vs B G=>
   split at f
   ·rename_i A m;obtain⟨C,D⟩:=AbB cs A m
    have j:∀(i:Nat) z,A[i]?=some z->RelV (Bn U ks) (Bu (os.map (·.2))) (Ap cx.Av (Bn U ks) (Bu (os.map (·.2))) w) w (vs.getD i undef) z:=by
     intro i z s;obtain⟨q,o,r⟩:=D i z s;exact single _ _ _ (G i q o) r
    split at f
    ·rename_i H t;simp at f;subst f;have g:=Hv t;refine .p _ _ (.tup _ _ (by rw[B,<-C,g];simp) (fun i q o=>?_));exact(j i (.p q) (by rw[g,A7,o];rfl)).inv_p
    ·simp at f;subst f;exact .tup _ _ (by rw[B,C]) j
   ·simp at f
 ·exact single _ _ _ l f
theorem toR_body{cx:Cx P}{U:Bs}{O:St}{a:Act}{w:World}(h:Rel cx U O a w){ks:List Nat}{os:List (Nat×Body)}{bs:List Body}(C:Tj O.objs ks=some os)(v:os.map (·.2)=bs)
  (D:∀b,Ap cx.Av U O.objs w b->Ap cx.Av (Bn U ks) (Bu bs) w b)
  {l:Loc} {b c:Body} (r:ObjRel U O.objs (Ap cx.Av U O.objs w) w l b) (g:toB O.objs ks b=some c):ObjRel (Bn U ks) (Bu bs) (Ap cx.Av (Bn U ks) (Bu bs) w) w l c:=by
 subst v
 cases b with
 |box cs=>
  simp only[toB]at g;split at g<;>simp at g;rename_i G A;subst g;obtain⟨L,E⟩:=AbB cs G A;obtain⟨F,cur,e,rfl,m,k,s⟩:=r;refine⟨F,cur,e,rfl,m,by rw[L];exact k,fun j y J=>?_⟩;obtain⟨x,M,B⟩:=E j y J;obtain⟨u,u1,u2,I⟩:=s j x M;refine⟨u,u1,u2,?_⟩
  exact(Aqz (bs:=[]) h (fun _ _ h=>h) C I B).mono (Grows.refl _ _) (fun b g=>⟨g.1,fun H=>g.2.1 (.inl H),g.2.2⟩) (fun _ _=>rfl)
 |row W n f=>
  simp only[toB,A1]at g;subst g;rcases r with r|⟨b,o,cap,cur,e,rfl,m,k,s,t⟩
  ·exact .inl r
  ·exact .inr ⟨b,o,cap,cur,e,rfl,m,k,s,fun i hi=>⟨(t i hi).1,(t i hi).2.mono D (fun _ _=>rfl)⟩⟩
 |mp z has f=>
  simp only[toB,A1]at g;subst g;obtain⟨b,K,clock,rfl,m,k,s,t⟩:=r
  exact⟨b,K,clock,rfl,m,k,s,fun i e n Q N=>(t i e n Q N).mono D (fun _ _=>rfl)⟩
 |mq q=>simp[toB]at g
 |dead=>simp[toB]at g;subst g;trivial
def cxOf{P:Program}(w:World)(Av:Nat->Prop)(U:Bs)(a:List Body)(nt:Nat)(rd:Option Nat)(gl:GlOK P (fun b=>∃(k:Nat) (bd:Body),a[k]?=some bd/\bd.live/\(U k).block=some b) w):Cx P:=
 {w0:=w,Av:=Av,out:=fun b=>∃(k:Nat) (bd:Body),a[k]?=some bd/\bd.live/\(U k).block=some b,nt:=nt,m:=a.length,β0:=U,rd:=rd,gl:=gl}
theorem AtT{P:Program}{w:World}{Av:Nat->Prop}{U:Bs}{vs:Array Value}{args:List MV}{a:List Body}{nt:Nat}(rd:Option Nat)(D:args.length<=nt)(C:a.length<=1000)(f:Pre P w Av U a vs args):
  Rel (cxOf w Av U a nt rd f.gl) U ⟨fun t=>(args[t]?).getD .any,Bu a⟩ {tmps:=vs++Array.replicate (nt-vs.size) undef,defers:=[]} w:=by
 have g:∀k o,Bu a k=some o->∃bd,a[k]?=some bd/\o=⟨0,bd⟩:=by
  intro k o h;simp only[Bu]at h
  cases v:a[k]? with
  |none=>simp[v]at h
  |some bd=>simp[v]at h;exact⟨bd,rfl,h.symm⟩
 refine⟨Marked.nil,?_,fun t=>?_,fun k o h=>?_,fun k o b h m i=>?_,fun k x o B b h u m s q i=>?_,Kept.refl _ _,fun b z l=>?_,f.av,C,fun k o F h E=>rfl⟩
 ·have:=f.len;show(vs++Array.replicate (nt-vs.size) undef).size=nt;simp;omega
 ·show RelV U (Bu a) (Ap Av U (Bu a) w) w ((vs++Array.replicate (nt-vs.size) undef).getD t undef) ((args[t]?).getD .any)
  by_cases ht:t<args.length
  ·have:args[t]?=some args[t]:=B0 ht;rw[this];have A:=f.args t _ this;have n:t<vs.size:=by rw[f.len];exact ht
   have e1:(vs++Array.replicate (nt-vs.size) undef).getD t undef=vs.getD t undef:=by
    rw[A5,F7 n,A5]
   simp only[E1];rw[e1];exact A
  ·rw[M5 (by omega)];exact .any _
 ·obtain⟨bd,j,rfl⟩:=g k o h;exact f.ob k bd j
 ·obtain⟨bd,j,rfl⟩:=g k o h;have:=f.blk k bd b j m i;exact⟨this.1,this.2,.inr ⟨k,bd,j,m,i⟩⟩
 ·obtain⟨bd,j,rfl⟩:=g k o h;obtain⟨bd',r,rfl⟩:=g x B u;exact f.inj k x bd bd' b j r m s q i
 ·obtain⟨k,bd,j,r,y⟩:=l;exact(f.blk k bd b j r y).2 z
theorem Rel.fill{cx:Cx P}{U:Bs}{O:St}{a:Act}{w:World}(h:Rel cx U O a w)(m:Nat):Rel cx U ⟨O.slots,Abi m O.objs⟩ a w:=by
 have v:Grows U U O.objs (Abi m O.objs):=fun k o g=>⟨o,by simp[Abi,g],B2 _,fun _=>⟨rfl,o.body.same_refl⟩⟩
 have f:∀k o,Abi m O.objs k=some o->O.objs k=some o\/o=⟨1,.dead⟩:=by
  intro k o g;simp only[Abi]at g
  cases r:O.objs k with
  |some q=>rw[r]at g;exact .inl g
  |none=>
   rw[r]at g
   cases i:Nat.blt k m with
   |true=>simp[i]at g;exact .inr g.symm
   |false=>simp[i]at g
 have y:∀b,Ap cx.Av U O.objs w b->Ap cx.Av U (Abi m O.objs) w b:=by
  intro b i;refine⟨i.1,i.2.1,fun k o g l=>?_⟩;rcases f k o g with e|rfl
  ·exact i.2.2 k o e l
  ·exact l.elim
 refine⟨h.nd,h.sz,fun t=>(h.sl t).mono v y (fun _ _=>rfl),fun k o g=>?_,fun k o b g l i=>?_,fun k z o x b g u l n s i=>?_,h.kept,h.avo,h.avlt,h.mle,fun k o r g j=>?_⟩
 ·rcases f k o g with e|rfl
  ·exact(h.ob k o e).mono v y (fun _ _=>rfl) (fun _ _=>rfl)
  ·trivial
 ·rcases f k o g with e|rfl
  ·exact h.blk k o b e l i
  ·exact l.elim
 ·rcases f k o g with e|rfl
  ·rcases f z x u with A|rfl
   ·exact h.inj k z o x b e A l n s i
   ·exact n.elim
  ·exact l.elim
 ·rcases f k o g with e|rfl
  ·exact h.oloc k o r e j
  ·simp at j
theorem Avl(hT:Hx P T){w:World}{Av:Nat->Prop}{U:Bs}{a outs' news:List Body}{gl:GlOK P (fun b=>∃(k:Nat) (bd:Body),a[k]?=some bd/\bd.live/\(U k).block=some b) w}{res:MV}{nt:Nat}{rd:Option Nat}{fn:Func}{rs:List ResultVar}(hrs:rs=fn.results.toList)(N:outs'.length=a.length)
  {r:Bs} {E:St} {a':Act} {w':World} (hr0:Rel (cxOf w Av U a nt rd gl) r E a' w') {ex:List Nat} (f:fin T rs a.length ex E=some (res,outs'++news)):
  ∃v,(results fn a'.tmps).run P w'=.ok v w'/\∃R,Post w Av U a w' R v res outs' news:=by
 have x:=hr0.fill a.length;unfold fin at f;generalize (⟨E.slots,Abi a.length E.objs⟩:St)=K at x f;unfold fin0 at f;split at f
 case h_2=>simp at f
 rename_i ys hys;split at f
 case h_2=>simp at f
 rename_i res0 os Q L
 cases B:(Vm a.length os&&Aho (upN a.length 0++ex)&&ex.all (fun k=>Nat.ble 1000 k)&&Nat.ble a.length 1000)with
 |false=>simp only[B,cond_false]at f;simp at f
 |true=>
 simp only[B,cond_true,A1,A4]at f;obtain⟨rfl,m⟩:=f;simp only[A6]at B;obtain⟨⟨⟨z1,z2⟩,z3⟩,z4⟩:=B;have hnd:=AkH _ z2;have hm1000:a.length<=1000:=A8 z4;rw[B6]at z3;subst hrs;obtain⟨v,hv1,hv2⟩:=Avy hT x hys;have O:=toR_sound x L hv2 Q;rw[m]at O;obtain⟨Y,W⟩:=AiV _ os L;refine⟨v,hv1,Bn r (upN a.length 0++ex),?_⟩;have hlk:(upN a.length 0++ex).length=a.length+ex.length:=by simp[AcK]
 have h:∀(i:Nat) bd,(outs'++news)[i]?=some bd->∃k g,(upN a.length 0++ex)[i]?=some k/\(∃l,K.objs k=some ⟨g,l⟩/\toB K.objs (upN a.length 0++ex) l=some bd)/\Bn r (upN a.length 0++ex) i=r k/\(i<a.length->k=i/\(bd.live->g=0))/\(a.length<=i->1000<=k):=by
  intro i bd hi;rw[<-m,A7]at hi
  cases z:os[i]? with
  |none=>simp[z]at hi
  |some p=>
   have q:i<(upN a.length 0++ex).length:=by rw[<-Y];exact(A9.1 z).1
   obtain⟨g,bd',C,l,t,u⟩:=W i _ (B0 q);rw[z]at C;injection C with C
   subst C;simp[z]at hi;subst hi;refine⟨_,g,B0 q,⟨l,t,u⟩,?_,fun n=>?_,fun n=>?_⟩
   ·unfold Bn;rw[B5,B0 q];rfl
   ·refine⟨?_,fun A=>AuH _ _ z1 i g bd' n z A⟩
    have e2:(upN a.length 0++ex)[i]?=some i:=by
     rw[C2 (by rw[AcK];exact n),Anz _ _ _ n,D5]
    rw[B0 q]at e2;injection e2 with e2
   ·have e2:(upN a.length 0++ex)[i]?=ex[i-a.length]?:=by
     rw[B9 (by rw[AcK];exact n),AcK]
    rw[B0 q]at e2;exact A8 (z3 _ (B3 e2.symm))
 have I:∀(i j k:Nat),(upN a.length 0++ex)[i]?=some k->(upN a.length 0++ex)[j]?=some k->i=j:=by
  intro i j k hi hj;obtain⟨l1,v1⟩:=A9.1 hi;obtain⟨l2,v2⟩:=A9.1 hj;have M:=C9.1 hnd;rcases Nat.lt_trichotomy i j with q|heq|hgt
  ·exact absurd (v1.trans v2.symm) (M i j l1 l2 q)
  ·exact heq
  ·exact absurd (v2.trans v1.symm) (M j i l2 l1 hgt)
 have J:∀b,Ap Av r K.objs w' b->Ap Av (Bn r (upN a.length 0++ex)) (Bu (outs'++news)) w' b:=by
  intro b G;refine⟨G.1,G.2.1,fun i o z A=>?_⟩;simp only[Bu]at z
  cases hq:(outs'++news)[i]? with
  |none=>simp[hq]at z
  |some bd=>
   simp only[hq,E0,A1]at z;subst z;obtain⟨k,g,_,⟨l,t,u⟩,D,_⟩:=h i bd hq;rw[D];exact G.2.2 k _ t ((Gy u).2 A)
 refine⟨x.kept,fun k bd hk hbd A=>?_,N,O,fun i bd hi=>?_,fun i bd b hi A s=>?_,fun i j bd bd' b hi hj A hl' hne s=>?_⟩
 ·obtain⟨y,g,C,⟨l,t,u⟩,D,q5,_⟩:=h k bd (by rw[C2 (by omega),hbd]);obtain⟨rfl,q6⟩:=q5 hk;have:=q6 A;subst this;rw[D];exact x.oloc y _ hk t rfl
 ·obtain⟨k,g,C,⟨l,t,u⟩,D,_⟩:=h i bd hi;rw[D];exact toR_body x L m J (x.ob k _ t) u
 ·obtain⟨k,g,C,⟨l,t,u⟩,D,q5,q6⟩:=h i bd hi;rw[D]at s;have hB:=x.blk k _ b t ((Gy u).2 A) s;refine⟨hB.1,?_⟩
  by_cases n:i<a.length
  ·exact .inl n
  ·right;rcases hB.2.2 with h3|⟨k0,l,h3,h4,h5⟩
   ·exact .inl h3
   ·have X:k0<a.length:=(A9.1 h3).1;have F:k0<(outs'++news).length:=by simp;omega
    obtain⟨y,g',r1,⟨V,r2,r3⟩,r4,r5,_⟩:=h k0 (outs'++news)[k0] (B0 F);obtain⟨rfl,r6⟩:=r5 X;have H:(outs'++news)[y]?=some (outs'++news)[y]:=B0 F;generalize (outs'++news)[y]=bk at H r3 r6
    by_cases hlv:bk.live
    case neg=>
     have hd:bk=.dead:=by cases bk<;>first|rfl|exact absurd trivial hlv
     subst hd;rw[C2 (by omega)]at H;exact .inr ⟨y,l,h3,h4,H,h5⟩
    exfalso;have:=r6 hlv;subst this;have hol:=x.oloc y _ X r2 rfl;refine x.inj k y _ _ b t r2 ((Gy u).2 A) ((Gy r3).2 hlv) (fun e=>?_) s (by rw[hol];exact h5);have:=q6 (by omega);omega
 ·obtain⟨k,g,C,⟨l,t,u⟩,D,_⟩:=h i bd hi;obtain⟨y,g',r1,⟨V,r2,r3⟩,r4,_⟩:=h j bd' hj;rw[D]at s;rw[r4];refine x.inj k y _ _ b t r2 ((Gy u).2 A) ((Gy r3).2 hl') (fun e=>hne ?_) s;subst e;exact I i j k C r1
theorem AsN(F:Hx P T){f:FuncId}{fn:Func}{c:Code}(C:P.funcs[f]?=some fn)(i:fn.name ≠ "runtime.NumGoroutine")(A:fn.body=some c)
  {args:List MV} {a:List Body} {res:MV} {outs' news:List Body} (j:outs'.length=a.length)
  {sl:List (Nat×MV)} {ob:List (Nat×Obj)} (y:args.length<=fn.ntmps) (G:a.length<=1000)
  (u:Kp (upN args.length 0) (upN a.length 0) ⟨fun t=>(args[t]?).getD .any,Bu a⟩=sl)
  (o:He (upN a.length 0) ⟨fun t=>(args[t]?).getD .any,Bu a⟩=ob)
  (E:∀cx:Cx P,cx.nt=fn.ntmps->cx.rd=none->DWP P cx c (Ac sl ob) (Afl T fn.results.toList a.length res (outs'++news))):
  Spec P f args a res outs' news:=by
 refine⟨⟨fn,C,i,by rw[A];rfl⟩,fun w Av U vs h=>?_⟩;refine(callsIn_wide (n:=1)).1 (callsIn_of_wp_marks C A trivial ?_ rfl);have k:=AtT (nt:=fn.ntmps) none y G h;have b:=k.norm (upN args.length 0) (upN a.length 0);rw[u,o]at b;refine wpIn_mono (fen_wpIn (r:=none) (m:=1) (E (cxOf w Av U a fn.ntmps none h.gl) rfl rfl U _ w b)) ?_;rintro e B w' ⟨H,x,s,D⟩
 have done:(∃ex,fin T fn.results.toList a.length ex x=some (res,outs'++news))->LeavesInM Fence.wide 1 P fn B.tmps (fun e w'=>∃z g,e=.returned z/\Post w Av U a w' g z res outs' news) B.defers .returning w':=by
  rintro⟨ex,l⟩;refine AtD (w0:=w) _ _ D.nd fun I q=>?_
  obtain⟨v,u,g,o⟩:=Avl F rfl j (D.shut q) l;exact⟨v,u,v,g,rfl,o⟩
 cases e with
 |ret=>exact done s
 |normal=>exact done s
 |_=>exact s.elim
def BSpec(P:Program)(nt:Nat)(body:Code)(args:List MV)(a outs':List Body):Prop:=
 ∀(l:Nat) (w:World) (Av:Nat->Prop) (U:Bs) (vs:Array Value),vs.size=nt->Pre P w Av U a vs args ->
  body.wpIn (fen (some l)) 0 P (fun e _ w'=>e=.normal/\∃v b,Post w Av U a w' b v (.p (.tup [])) outs' []) {tmps:=vs,defers:=[]} w
def bfin(T:Ty)(m:Nat)(outs':List Body):Exit->St->Prop
 | .normal,O=>∃ex,fin T [] m ex O=some (.p (.tup []),outs'++[])
 |_,_=>False
theorem bspec_of(o:Hx P T){nt:Nat}{body:Code}{args:List MV}{a outs':List Body}(g:outs'.length=a.length){sl:List (Nat×MV)}{ob:List (Nat×Obj)}(z:args.length=nt)(x:a.length<=1000)
  (q:Kp (Bw sl) (upN a.length 0) ⟨fun t=>(args[t]?).getD .any,Bu a⟩=sl)
  (n:He (upN a.length 0) ⟨fun t=>(args[t]?).getD .any,Bu a⟩=ob)
  (m:∀cx:Cx P,cx.nt=nt->DWP P cx body (Ac sl ob) (bfin T a.length outs')):BSpec P nt body args a outs':=by
 intro l w Av U vs y f;have h:=AtT (nt:=nt) (some l) (by omega) x f;have b:=h.norm (Bw sl) (upN a.length 0);rw[q,n,show nt-vs.size=0 by omega,show vs++Array.replicate 0 undef=vs by simp]at b;refine wpIn_mono (m (cxOf w Av U a nt (some l) f.gl) rfl U _ w b) ?_;rintro e B w' ⟨A,u,k,s⟩
 cases e with
 |normal=>
  obtain⟨ex,i⟩:=k;obtain⟨v,_,j,r⟩:=Avl o (fn:={(default:Func)with results:=#[]}) (rs:=[]) rfl g s i
  exact⟨rfl,v,j,r⟩
 |_=>exact k.elim
theorem spec_of(o:Hx P T){f:FuncId}{fn:Func}{c:Code}(j:P.funcs[f]?=some fn)(b:fn.name ≠ "runtime.NumGoroutine")(l:fn.body=some c)
  {args:List MV} {a:List Body} {res:MV} {outs' news:List Body} (g:outs'.length=a.length)
  {sl:List (Nat×MV)} {ob:List (Nat×Obj)} (h:args.length<=fn.ntmps) (n:a.length<=1000)
  (q:Kp (upN args.length 0) (upN a.length 0) ⟨fun t=>(args[t]?).getD .any,Bu a⟩=sl)
  (k:He (upN a.length 0) ⟨fun t=>(args[t]?).getD .any,Bu a⟩=ob)
  (i:∀cx:Cx P,cx.nt=fn.ntmps->DWP P cx c (Ac sl ob) (Afl T fn.results.toList a.length res (outs'++news))):
  Spec P f args a res outs' news:=AsN o j b l g h n q k fun cx m _=>i cx m
end
end Go.Dm

namespace Go.Dm
def MLe(x y:MV):Prop:=∀U objs S w v,RelV U objs S w v x->RelV U objs S w v y
theorem PLe.rfl{x:PV}:PLe x x:=fun _ _ _ h=>h
theorem MLe.rfl{x:MV}:MLe x x:=fun _ _ _ _ _ h=>h
theorem MLe.of_eq{x y:MV}(h:x=y):MLe x y:=h▸MLe.rfl
theorem PLe.trans{x y z:PV}(h:PLe x y)(k:PLe y z):PLe x z:=fun S w v q=>k S w v (h S w v q)
theorem MLe.trans{x y z:MV}(h:MLe x y)(k:MLe y z):MLe x z:=fun U o S w v q=>k U o S w v (h U o S w v q)
theorem MLe.p{x y:PV}(h:PLe x y):MLe (.p x) (.p y):=fun _ _ _ _ _ q=>.p _ _ (h _ _ _ q.inv_p)
theorem MLe.any{x:MV}:MLe x .any:=fun _ _ _ _ _ _=>.any _
theorem PLe.sl{fl k:Fl}{W n r:Nat}{f g:Nat->List PV}(l:k=.unk\/k=fl)(y:n=r)(h:∀i,i<n->f i=g i):PLe (.sl fl W n f) (.sl k W r g):=by
 subst y;intro S w v q
 cases q with
 |slnil _ _ _ m=>exact .slnil _ _ _ (by rcases l with rfl|rfl;simp;exact m)
 |sl _ _ _ cap b o _ c m s t A B z C=>
  refine .sl _ _ _ cap b o _ c ?_ s t (fun i hi=>by rw[<-h i hi];exact A i hi) B z (fun i j x hi u=>C i j x hi (by rw[h i hi];exact u));rcases l with rfl|rfl
  ·exact⟨by simp,by simp⟩
  ·exact m
theorem PLe.empty{fl h:Fl}{W n:Nat}{f g:Nat->List PV}(k:h=.unk\/h=fl):PLe (.sl fl W 0 f) (.sl h n 0 g):=by
 intro S w v q
 cases q with
 |slnil _ _ _ l=>exact .slnil _ _ _ (by rcases k with rfl|rfl;simp;exact l)
 |sl _ _ _ cap b o _ c l m r t u s y=>
  refine .sl _ _ _ cap b o _ c ?_ m (fun e=>absurd (Eq.refl 0) e) (fun i hi=>by omega) (fun i j hi=>by omega) (fun i j hi=>by omega) (fun i j x hi=>by omega);rcases k with rfl|rfl
  ·exact⟨by simp,by simp⟩
  ·exact l
inductive MLes:List MV->List MV->Prop where
 |nil:MLes [] []
 |cons {x y:MV} {l m:List MV} (h:MLe x y) (t:MLes l m):MLes (x::l) (y::m)
theorem MLes.get{l m:List MV}(h:MLes l m):l.length=m.length/\∀(i:Nat) y,m[i]?=some y->∃x,l[i]?=some x/\MLe x y:=by
 induction h with
 |nil=>exact⟨rfl,fun i y h=>by simp at h⟩
 |cons h t f=>
  refine⟨by simp[f.1],fun i y b=>?_⟩
  cases i with
  |zero=>simp at b;subst b;exact⟨_,rfl,h⟩
  |succ i=>exact f.2 i y (by simpa using b)
inductive BLe:Body->Body->Prop where
 |rfl {b:Body}:BLe b b
 |box {l m:List MV} (h:MLes l m):BLe (.box l) (.box m)
 |row {W n n':Nat} {f g:Nat->List PV} (hn:n=n') (h:∀i,i<n->f i=g i):BLe (.row W n f) (.row W n' g)
 |mp {z z':PV} {has has':Int->Bool} {f f':Int->PV} (h:AkW z has f z' has' f'):BLe (.mp z has f) (.mp z' has' f')
 |clk {z z':PV} {has has':Int->Bool} {f f':Int->PV} {born:Int->Nat} {clock:Nat} (h:AkW z has f z' has' f'):BLe (.mq (.clk z has f born clock)) (.mp z' has' f')
 |it {f:Int->PV} {rem:Int->Bool} {cur:Option Int}:BLe (.mq (.it f rem cur)) (.mq (.it f rem none))
theorem BLe.same{b c:Body}(h:BLe b c):b.same c:=by
 cases h with
 |rfl=>exact b.same_refl
 |box=>trivial
 |row f=>exact⟨Eq.refl _,f⟩
 |mp=>trivial
 |clk=>trivial
 |it=>trivial
theorem BLe.rel{b c:Body}(h:BLe b c){U:Bs}{objs:Ay}{S:Nat->Prop}{w:World}{l:Loc}(q:ObjRel U objs S w l b):ObjRel U objs S w l c:=by
 cases h with
 |rfl=>exact q
 |box B=>
  obtain⟨z,v⟩:=B.get;obtain⟨b,cur,e,f,g,m,k⟩:=q;refine⟨b,cur,e,f,g,by rw[m,z],fun j y M=>?_⟩;obtain⟨x,N,C⟩:=v j y M;obtain⟨u,u1,u2,I⟩:=k j x N
  exact⟨u,u1,u2,C _ _ _ _ _ I⟩
 |row t K=>
  subst t;rcases q with q|⟨b,o,cap,cur,e,f,g,m,k,s⟩
  ·exact .inl q
  ·refine .inr ⟨b,o,cap,cur,e,f,g,m,k,fun i hi=>?_⟩;rw[<-K i hi]
   exact s i hi
 |mp B=>
  obtain⟨z,v,D⟩:=B;subst z;obtain⟨b,A,clock,f,g,m,k,s⟩:=q
  exact⟨b,A,clock,f,g,m,D k,fun i e n E t=>v n _ _ _ (s i e n E t)⟩
 |clk B=>
  obtain⟨z,v,D⟩:=B;subst z;obtain⟨b,A,f,g,m,k,s,_⟩:=q
  exact⟨b,A,_,f,g,m,D k,fun i e n E t=>v n _ _ _ (s i e n E t)⟩
 |it=>
  obtain⟨b,L,A,clock,r,seen,H,has,f,g,m,k,s,J,G,F,R,_⟩:=q;exact⟨b,L,A,clock,r,seen,H,has,f,g,m,k,s,J,G,F,R,fun n t=>by simp at t⟩
section
variable {P:Program} {T:Ty} {cx:Cx P} {U:Bs} {O:St} {a:Act} {w:World} {Q:Exit->St->Prop}
theorem Rel.leF{sl s:List (Nat×MV)}{ob m:List (Nat×Obj)}(G:∀t,MLe ((assoc sl t).getD .any) ((assoc s t).getD .any))
  (C:∀t,(assoc ob t=none/\assoc m t=none)\/∃g b c,assoc ob t=some ⟨g,b⟩/\assoc m t=some ⟨g,c⟩/\BLe b c) (h:Rel cx U (Ac sl ob) a w):Rel cx U (Ac s m) a w:=by
 have back:∀k l,assoc m k=some l->∃b,assoc ob k=some ⟨l.gen,b⟩/\BLe b l.body:=by
  intro k l j;rcases C k with⟨_,i⟩|⟨g,b,c,f,i,A⟩
  ·rw[j]at i;simp at i
  ·rw[j]at i;injection i with i
   subst i;exact⟨b,f,A⟩
 have D:Grows U U (assoc ob) (assoc m):=by
  intro k o j;rcases C k with⟨f,_⟩|⟨g,b,c,f,i,A⟩
  ·rw[j]at f;simp at f
  ·rw[j]at f;injection f with f
   subst f;exact⟨_,i,B2 _,fun _=>⟨rfl,A.same⟩⟩
 have E:∀b,Ap cx.Av U (assoc ob) w b->Ap cx.Av U (assoc m) w b:=by
  intro b n;refine⟨n.1,n.2.1,fun k l j r=>?_⟩;obtain⟨bd,f,i⟩:=back k l j;exact n.2.2 k _ f ((Axt i.same).2 r)
 refine⟨h.nd,h.sz,fun t=>?_,fun k l j=>?_,fun k l b j r n=>?_,fun k F o l b j B r y v n=>?_,h.kept,h.avo,h.avlt,h.mle,fun k l x j q=>?_⟩
 ·exact G t _ _ _ _ _ ((h.sl t).mono D E (fun _ _=>rfl))
 ·obtain⟨bd,f,i⟩:=back k l j;exact i.rel ((h.ob k _ f).mono D E (fun _ _=>rfl) (fun _ _=>rfl))
 ·obtain⟨bd,f,i⟩:=back k l j;exact h.blk k _ b f ((Axt i.same).2 r) n
 ·obtain⟨bd,f,i⟩:=back k o j;obtain⟨bd',z,u⟩:=back F l B;exact h.inj k F _ _ b f z ((Axt i.same).2 r) ((Axt u.same).2 y) v n
 ·obtain⟨bd,f,i⟩:=back k l j;exact h.oloc k _ x f q
def KQ(P:Program)(cx:Cx P):List Code->(Exit->St->Prop)->Exit->St->Prop
 |[],Q=>Q
 |c::r,Q=>thenQ P cx c (KQ P cx r Q)
def DW(P:Program)(cx:Cx P)(cs:List Code)(O:St)(Q:Exit->St->Prop):Prop:=KQ P cx cs Q .normal O
theorem AxV{c:Code}(h:DW P cx [c] O Q):DWP P cx c O Q:=h
theorem DW.seq{x y:Code}{r:List Code}(h:DW P cx (x::y::r) O Q):DW P cx (.seq x y::r) O Q:=DWP.seq (P:=P) (cx:=cx) (Q:=KQ P cx r Q) h
theorem DW.skip{r:List Code}(h:DW P cx r O Q):DW P cx (.skip::r) O Q:=DWP.skip (Q:=KQ P cx r Q) h
theorem KQ_ret{r:List Code}(h:Q .ret O):KQ P cx r Q .ret O:=by
 induction r with
 |nil=>exact h
 |cons c r b=>exact b
theorem Zd{r:List Code}{id:Nat}(h:Q (.exit id) O):KQ P cx r Q (.exit id) O:=by
 induction r with
 |nil=>exact h
 |cons c r b=>exact b
theorem DW.ret{r:List Code}(h:Q .ret O):DW P cx (.ret::r) O Q:=DWP.ret (Q:=KQ P cx r Q) (KQ_ret h)
theorem DW.exit{r:List Code}{id:Nat}(h:Q (.exit id) O):DW P cx (.exit id::r) O Q:=DWP.exit (Q:=KQ P cx r Q) (Zd h)
theorem DW.cond{c:Operand}{x y:Code}{r:List Code}(b:Bool)(f:Au c=true)(i:ev O c=.p (.v (.bool b)))(h:b=true->DW P cx (x::r) O Q)(g:b=false->DW P cx (y::r) O Q):
  DW P cx (.cond c x y::r) O Q:=DWP.cond (Q:=KQ P cx r Q) f i h g
theorem DW.block{id:Nat}{c:Code}{r:List Code}(h:DW P cx [c] O (Rk id (KQ P cx r Q))):DW P cx (.block id c::r) O Q:=DWP.block (Q:=KQ P cx r Q) h
theorem DW.done(h:Q .normal O):DW P cx [] O Q:=h
theorem Aaw{id:Nat}(h:Q .normal O):Rk id Q (.exit id) O:=by simp[Rk,h]
theorem AgK{id b:Nat}(f:b≠id)(h:Q (.exit b) O):Rk id Q (.exit b) O:=by simp[Rk,f,h]
theorem retOK{results:List ResultVar}{m:Nat}{res:MV}{bs f:List Body}(ex:List Nat)(b:MV)(h:fin T results m ex O=some (b,f))(e:b=res)(e2:f=bs):Afl T results m res bs .ret O:=by
 subst e;subst e2;exact⟨ex,h⟩
theorem endOK{results:List ResultVar}{m:Nat}{res:MV}{bs f:List Body}(ex:List Nat)(b:MV)(h:fin T results m ex O=some (b,f))(e:b=res)(e2:f=bs):Afl T results m res bs .normal O:=by
 subst e;subst e2;exact⟨ex,h⟩
def eqIf(P:Program)(t:Nat):Bool->Prop
 |true=>AaX P t
 |false=>True
def AllT(P:Program):Ty->Prop
 |[]=>True
 |(t,i)::r=>(TyFact P t i/\eqIf P t i.eq)/\AllT P r
theorem Ass{T:Ty}(h:AllT P T)(m:T.all (fun p=>p.2.zero.all fun c=>c.oneCell')=true)
  (k:T.all (fun p=>match p.2.kd with | .struct l=>l.all (fun q=>(Dm.assoc T q.2).isSome)|_=>true)=true):Hx P T:=by
 have f:∀(T:Ty),AllT P T->∀p∈T,TyFact P p.1 p.2/\eqIf P p.1 p.2.eq:=by
  intro T
  induction T with
  |nil=>intro _ p j;simp at j
  |cons q r o=>
   intro h p j;obtain⟨t,i⟩:=q;rcases C0.1 j with rfl|j
   ·exact h.1
   ·exact o h.2 p j
 rw[B6]at m k;refine⟨fun t i g=>(f T h _ (Aex g)).1,fun t i g=>m _ (Aex g),fun t l s b z q g=>?_,fun t i g n=>?_⟩
 ·have:=k _ (Aex g);exact this
 ·have:=(f T h _ (Aex g)).2;simp only[n,eqIf]at this;exact this
end
abbrev vi(n:Int):PV:=.v (.int .i64 n)
abbrev vb(b:Bool):PV:=.v (.bool b)
abbrev vs(s:ByteArray):PV:=.v (.string s)
def elems{V:Type}(enc:V->List PV)(d:V)(L:List V):Nat->List PV:=fun i=>enc (L.getD i d)
def Lq{V:Type}(W:Nat)(enc:V->List PV)(d:V)(L:List V):PV:=.sl .unk W L.length (elems enc d L)
def AkE{V:Type}(W:Nat)(enc:V->List PV)(d:V)(L:List V):Body:=.row W L.length (elems enc d L)
end Go.Dm

namespace Go.Dm
section
variable {P:Program} {T:Ty} {cx:Cx P} {O:St} {Q:Exit->St->Prop}
def RegTo(P:Program)(cx:Cx P)(ops:Array Oper)(draw:Bool)(O:St)(b:List (Nat×MV))(a:List (Nat×Obj)):Prop:=
 ∀(id:Nat) (r:List Code) (Q:Exit->St->Prop),DW P cx r (Ac b a) Q->DW P cx (.region id ops draw::r) O Q
theorem DW.regJ{ops:Array Oper}{id:Nat}{draw:Bool}{r:List Code}{b:List (Nat×MV)}{a:List (Nat×Obj)}(h:RegTo P cx ops draw O b a)(f:DW P cx r (Ac b a) Q):
  DW P cx (.region id ops draw::r) O Q:=h id r Q f
end
theorem AhR{n:Int}(a:-9223372036854775808<=n)(b:n<=9223372036854775807):IntKind.i64.wrap n=n:=by
 exact IntWalk.i64_in n ⟨a,b⟩
def Cj(n:Int):List PV:=[vi n]
def encS(s:ByteArray):List PV:=[vs s]
end Go.Dm

namespace Go.Dm
section
variable {V O R:Type}
def Ba(body:Nat->V->O->(O->R)->R)(done:O->R):List V->Nat->O->R
 |[],_,s=>done s
 |x::r,k,s=>body k x s (fun b=>Ba body done r (k+1) b)
end
inductive Ad1 (k:Nat):MV->MV->Prop where
 |rfl (x:MV):Ad1 k x x
 |nil (W:Nat) (f:Nat->List PV):Ad1 k (.p (.sl .nil W 0 f)) (.own k 0 0 0)
inductive AdL (k:Nat):List MV->List MV->Prop where
 |rfl (l:List MV):AdL k l l
 |cons {x y:MV} {r s:List MV} (h:Ad1 k x y) (t:AdL k r s):AdL k (x::r) (y::s)
inductive Ad (k:Nat):MV->MV->Prop where
 |one {x y:MV} (h:Ad1 k x y):Ad k x y
 |agg {r s:List MV} (h:AdL k r s):Ad k (.agg r) (.agg s)
inductive AdS (k:Nat):List (Nat×MV)->List (Nat×MV)->Prop where
 |rfl (l:List (Nat×MV)):AdS k l l
 |cons {t:Nat} {x y:MV} {r s:List (Nat×MV)} (h:Ad k x y) (q:AdS k r s):AdS k ((t,x)::r) ((t,y)::s)
inductive AdO (k:Nat):List (Nat×Obj)->List (Nat×Obj)->Prop where
 |rfl (l:List (Nat×Obj)):AdO k l l
 |keep {j:Nat} {o:Obj} {r s:List (Nat×Obj)} (q:AdO k r s):AdO k ((j,o)::r) ((j,o)::s)
 |box {j g:Nat} {cs ds:List MV} {r s:List (Nat×Obj)} (h:AdL k cs ds) (q:AdO k r s):AdO k ((j,⟨g,.box cs⟩)::r) ((j,⟨g,.box ds⟩)::s)
theorem AdL.get{k:Nat}{l m:List MV}(h:AdL k l m):l.length=m.length/\∀(i:Nat) y,m[i]?=some y->∃x,l[i]?=some x/\Ad1 k x y:=by
 induction h with
 |rfl l=>exact⟨Eq.refl _,fun i y b=>⟨y,b,.rfl y⟩⟩
 |cons h t f=>
  refine⟨by simp[f.1],fun i y b=>?_⟩
  cases i with
  |zero=>simp at b;subst b;exact⟨_,Eq.refl _,h⟩
  |succ i=>exact f.2 i y (by simpa using b)
theorem AdS.get{k:Nat}{l m:List (Nat×MV)}(h:AdS k l m)(t:Nat):Ad k ((assoc l t).getD .any) ((assoc m t).getD .any):=by
 induction h with
 |rfl l=>exact .one (.rfl _)
 | @cons f x y r s h q b=>
  simp only[assoc]
  cases Nat.beq t f with
  |true=>exact h
  |false=>exact b
theorem AdO.get{k:Nat}{l m:List (Nat×Obj)}(h:AdO k l m)(j:Nat):(assoc l j=none/\assoc m j=none)\/(∃o,assoc l j=some o/\assoc m j=some o) \/
  ∃g cs f,assoc l j=some ⟨g,.box cs⟩/\assoc m j=some ⟨g,.box f⟩/\AdL k cs f:=by
 induction h with
 |rfl l=>
  cases n:assoc l j with
  |none=>exact .inl ⟨Eq.refl _,Eq.refl _⟩
  |some o=>exact .inr (.inl ⟨o,Eq.refl _,Eq.refl _⟩)
 | @keep i o r s q b=>
  simp only[assoc]
  cases Nat.beq j i with
  |true=>exact .inr (.inl ⟨_,Eq.refl _,Eq.refl _⟩)
  |false=>exact b
 | @box i g cs f r s h q b=>
  simp only[assoc]
  cases Nat.beq j i with
  |true=>exact .inr (.inr ⟨_,_,_,Eq.refl _,Eq.refl _,h⟩)
  |false=>exact b
section
variable {P:Program} {T:Ty} {cx:Cx P} {U:Bs} {O:St} {a:Act} {w:World} {Q:Exit->St->Prop}
theorem Ad1.sound{k:Nat}{x y:MV}(h:Ad1 k x y){objs:Ay}{S:Nat->Prop}{v:Value}(q:U k=.nilrow){W:Nat}{f:Nat->List PV}(m:objs k=some ⟨0,.row W 0 f⟩)(j:RelV U objs S w v x):RelV U objs S w v y:=by
 cases h with
 |rfl=>exact j
 |nil r f'=>
  have i:=j.inv_p;generalize l:PV.sl .nil r 0 f'=s at i
  cases i with
  |slnil=>exact .own k 0 0 0 none 0 ⟨_,m,B2 _,fun _=>by simp[OwnAt,q]⟩
  |sl fl _ n cap b o _ c g=>injection l with h1;exact absurd h1.symm g.1
  |_=>simp at l
theorem Ad.sound{k:Nat}{x y:MV}(h:Ad k x y){objs:Ay}{S:Nat->Prop}{v:Value}(q:U k=.nilrow){W:Nat}{f:Nat->List PV}(o:objs k=some ⟨0,.row W 0 f⟩)(l:RelV U objs S w v x):RelV U objs S w v y:=by
 cases h with
 |one h=>exact h.sound q o l
 |agg h=>
  obtain⟨j,b⟩:=h.get
  cases l with
  |agg _ vs r l s=>
   refine .agg _ vs (by rw[r,j]) (fun i y m=>?_) (fun i y m=>?_)
   ·obtain⟨x,n,g⟩:=b i y m;exact g.sound q o (l i x n)
   ·obtain⟨x,n,g⟩:=b i y m;exact s i x n
theorem Rel.adopt{k W:Nat}{f:Nat->List PV}{sl K:List (Nat×MV)}{ob n:List (Nat×Obj)}(hk:1000<=k)(hn:assoc ob k=none)(hs:AdS k sl K)(ho:AdO k ob n)
  (h:Rel cx U (Ac sl ob) a w):Rel cx (Hl U k .nilrow) (Ac K ((k,⟨0,.row W 0 f⟩)::n)) a w:=by
 have hm:=h.mle
 have B:=h.upd1 k ⟨0,.row W 0 f⟩ .nilrow w (fun o M=>by rw[show(Ac sl ob).objs k=assoc ob k from rfl,hn]at M;simp at M)
  (fun b _ A=>by simp[Loc.block]at A) (fun b _ A=>by simp[Loc.block]at A) (fun _ _ _=>rfl) (B2 _) rfl rfl rfl (fun hkm=>by omega) (.inl ⟨rfl,rfl⟩)
 have F:Hl U k .nilrow k=.nilrow:=Dq _ _ _
 have z:∀j,(Bm (assoc ob) k ⟨0,.row W 0 f⟩ j=none/\assoc ((k,⟨0,.row W 0 f⟩)::n) j=none) \/
   (∃o,Bm (assoc ob) k ⟨0,.row W 0 f⟩ j=some o/\assoc ((k,⟨0,.row W 0 f⟩)::n) j=some o) \/
   ∃g cs D,Bm (assoc ob) k ⟨0,.row W 0 f⟩ j=some ⟨g,.box cs⟩/\assoc ((k,⟨0,.row W 0 f⟩)::n) j=some ⟨g,.box D⟩/\AdL k cs D:=by
  intro j
  by_cases l:j=k
  ·subst l;exact .inr (.inl ⟨_,Bj _ _ _,by simp[assoc,Cr]⟩)
  ·rw[Cl _ _ l,show assoc ((k,⟨0,.row W 0 f⟩)::n) j=assoc n j by simp[assoc,Dt l]];exact ho.get j
 have m:∀j s,assoc ((k,⟨0,.row W 0 f⟩)::n) j=some s->∃o,Bm (assoc ob) k ⟨0,.row W 0 f⟩ j=some o/\o.gen=s.gen/\(o.body.live↔s.body.live) /\
   (o=s\/∃g cs D,o=⟨g,.box cs⟩/\s=⟨g,.box D⟩/\AdL k cs D):=by
  intro j s l;rcases z j with⟨_,q⟩|⟨o,r,E⟩|⟨g,cs,D,r,E,G⟩
  ·rw[q]at l;simp at l
  ·rw[E]at l;injection l with l;subst l
   exact⟨o,r,rfl,Iff.rfl,.inl rfl⟩
  ·rw[E]at l;injection l with l;subst l
   exact⟨_,r,rfl,Iff.rfl,.inr ⟨g,cs,D,rfl,rfl,G⟩⟩
 have C:Grows (Hl U k .nilrow) (Hl U k .nilrow) (Bm (assoc ob) k ⟨0,.row W 0 f⟩) (assoc ((k,⟨0,.row W 0 f⟩)::n)):=by
  intro j o l;rcases z j with⟨q,_⟩|⟨o1,r,E⟩|⟨g,cs,D,r,E,G⟩
  ·rw[q]at l;simp at l
  ·rw[r]at l;injection l with l;subst l
   exact⟨_,E,B2 _,fun _=>⟨rfl,Body.same_refl _⟩⟩
  ·rw[r]at l;injection l with l;subst l
   exact⟨_,E,B2 _,fun _=>⟨rfl,trivial⟩⟩
 have hS:∀b,Ap cx.Av (Hl U k .nilrow) (Bm (assoc ob) k ⟨0,.row W 0 f⟩) w b->Ap cx.Av (Hl U k .nilrow) (assoc ((k,⟨0,.row W 0 f⟩)::n)) w b:=by
  intro b A;refine⟨A.1,A.2.1,fun j s l v=>?_⟩;obtain⟨o,r,_,G,_⟩:=m j s l;exact A.2.2 j o r (G.2 v)
 have H:assoc ((k,(⟨0,.row W 0 f⟩:Obj))::n) k=some ⟨0,.row W 0 f⟩:=by simp[assoc,Cr]
 refine⟨B.nd,B.sz,fun t=>?_,fun j s l=>?_,fun j s b l v A=>?_,fun j j' o s b l Y hl hl' N A=>?_,B.kept,B.avo,B.avlt,B.mle,fun j s hjm l hg=>?_⟩
 ·have:=(B.sl t).mono C hS (fun _ _=>rfl);exact(hs.get t).sound F H this
 ·obtain⟨o,r,_,_,q4⟩:=m j s l;have I:=(B.ob j o r).mono C hS (fun _ _=>rfl) (fun _ _=>rfl);rcases q4 with rfl|⟨g,cs,D,rfl,rfl,hA⟩
  ·exact I
  ·obtain⟨b,cur,e,p1,p2,p3,p4⟩:=I;obtain⟨J,L⟩:=hA.get;refine⟨b,cur,e,p1,p2,by rw[p3,J],fun i y hy=>?_⟩;obtain⟨x,hx,X⟩:=L i y hy;obtain⟨u,u1,u2,u3⟩:=p4 i x hx;exact⟨u,u1,u2,X.sound F H u3⟩
 ·obtain⟨o,r,_,G,_⟩:=m j s l;exact B.blk j o b r (G.2 v) A
 ·obtain⟨p,r,_,G,_⟩:=m j o l;obtain⟨p',r1,_,r3,_⟩:=m j' s Y;exact B.inj j j' p p' b r r1 (G.2 hl) (r3.2 hl') N A
 ·obtain⟨o,r,E,_,_⟩:=m j s l;exact B.oloc j o hjm r (by rw[E];exact hg)
end
end Go.Dm

namespace Go.Dm
section
variable {V:Type} {W:Nat} {enc:V->List PV} {d:V}
end
section
variable {P:Program} {f:FuncId} {outs outs' news:List Body} {res:MV}
theorem Spec.args{xs bs:List MV}(h:Spec P f bs outs res outs' news)(b:MLes xs bs):Spec P f xs outs res outs' news:=by
 obtain⟨k,g⟩:=b.get;refine⟨h.1,fun w Av U vs a=>h.2 w Av U vs ⟨a.gl,a.av,by rw[a.len,k],fun i x l=>?_,a.ob,a.blk,a.inj⟩⟩;obtain⟨y,j,b⟩:=g i x l;exact b _ _ _ _ _ (a.args i y j)
theorem Spec.unk{W n:Nat}{g:Nat->List PV}{r:List MV}(A:n=0->Spec P f (.p (.sl .nil W 0 g)::r) outs res outs' news)(k:Spec P f (.p (.sl .nn W n g)::r) outs res outs' news):
  Spec P f (.p (.sl .unk W n g)::r) outs res outs' news:=by
 refine⟨k.1,fun w Av U vs h=>?_⟩;have t:=h.args 0 _ rfl
 have a:∀x:PV,Rep (Ap Av U (Bu outs) w) w (vs.getD 0 undef) x->Pre P w Av U outs vs (.p x::r):=fun x u=>
  ⟨h.gl,h.av,h.len,fun i y j=>by
   cases i with
   |zero=>simp at j;subst j;exact .p _ _ u
   |succ i=>exact h.args (i+1) y (by simpa using j),h.ob,h.blk,h.inj⟩
 have l:=t.inv_p;generalize m:vs.getD 0 undef=v at l
 cases l with
 |slnil _ _ _ _=>exact(A rfl).2 w Av U vs (a _ (by rw[m];exact .slnil _ _ _ (by simp)))
 |sl _ _ _ cap b o _ c E C B q D z s=>exact k.2 w Av U vs (a _ (by rw[m];exact .sl _ _ _ cap b o _ c ⟨by simp,by simp⟩ C B q D z s))
end
structure IMap(V:Type) where
 has:Int->Bool
 get:Int->V
def IMap.empty{V:Type}(d:V):IMap V:=⟨fun _=>false,fun _=>d⟩
def IMap.set{V:Type}(m:IMap V)(n:Int)(v:V):IMap V:=⟨Bf m.has n true,Bf m.get n v⟩
def Cs{V:Type}(enc:V->PV)(z:PV)(m:IMap V):Body:=.mp z m.has (fun n=>enc (m.get n))
theorem AoA{V:Type}(m:IMap V)(n j:Int)(v:V):(m.set n v).get j=if j=n then v else m.get j:=rfl
end Go.Dm

namespace Go.Dm
section
variable {V O R:Type}
theorem bind_open{x:Option V}{k:V->Option R}{r:R}(h:x.bind k=some r):∃a,x=some a/\k a=some r:=by
 cases x with
 |none=>simp at h
 |some a=>exact⟨a,rfl,h⟩
theorem Awz{p:Prop}[Decidable p]{x:Option R}{r:R}(h:(if p then x else none)=some r):p/\x=some r:=by
 by_cases hp:p
 ·rw[if_pos hp]at h;exact⟨hp,h⟩
 ·rw[if_neg hp]at h;simp at h
theorem if_t{b:Bool}{x y:Option R}{r:R}(f:b=true)(h:(if b=true then x else y)=some r):x=some r:=by
 rw[if_pos f]at h;exact h
theorem if_f{b:Bool}{x y:Option R}{r:R}(f:b=false)(h:(if b=true then x else y)=some r):y=some r:=by
 rw[if_neg (by simp[f])]at h;exact h
def Ik:Nat:=1099511627776
def whileO(body:O->(O->Option R)->Option R):Nat->O->Option R
 |0,_=>none
 |m+1,s=>body s (whileO body m)
def forO(body:Int->O->(O->Option R)->Option R)(done:O->Option R):Nat->Int->O->Option R
 |0,_,s=>done s
 |m+1,i,s=>body i s (forO body done m (i+1))
end
section
variable {P:Program} {T:Ty} {cx:Cx P} {U:Bs} {O:St} {a:Act} {w:World} {Q:Exit->St->Prop}
def Conv(cx:Cx P)(O Z:St):Prop:=∀U a w,Rel cx U O a w->∃b,Rel cx b Z a w
theorem Conv.refl:Conv cx O O:=fun U _ _ h=>⟨U,h⟩
theorem Conv.trans{Z f:St}(h:Conv cx O Z)(k:Conv cx Z f):Conv cx O f:=fun U a w r=>by
 obtain⟨b,g⟩:=h U a w r;exact k b a w g
theorem Conv.of_eq{Z:St}(h:O=Z):Conv cx O Z:=h▸Conv.refl
theorem DW.conv{c:Code}{r:List Code}{Z:St}(h:Conv cx O Z)(k:DW P cx (c::r) Z Q):DW P cx (c::r) O Q:=fun U a w g=>by
 obtain⟨b,f⟩:=h U a w g;exact k b a w f
theorem Conv.adopt(k W:Nat)(f:Nat->List PV){sl g:List (Nat×MV)}{ob b:List (Nat×Obj)}(h:Nat.ble 1000 k=true)(m:assoc ob k=none)(l:AdS k sl g)(i:AdO k ob b):
  Conv cx (Ac sl ob) (Ac g ((k,⟨0,.row W 0 f⟩)::b)):=fun _ _ _ j=>⟨_,j.adopt (A8 h) m l i⟩
def Nq{ι:Type}(cx:Cx P)(J:ι->St)(m:ι->Prop)(Q:Exit->St->Prop):Exit->St->Prop
 | .normal,O=>∃i,m i/\Conv cx O (J i)
 |e,O=>Q e O
theorem DWP.join{ι:Type}{c:Code}(J:ι->St)(m:ι->Prop)(n:∀i,m i->Q .normal (J i))(h:DWP P cx c O (Nq cx J m Q)):DWP P cx c O Q:=by
 intro U a w l;refine wpIn_mono (h U a w l) ?_;rintro e o w' ⟨f,g,q,r⟩
 cases e with
 |normal=>
  obtain⟨i,s,k⟩:=q;obtain⟨b,j⟩:=k f o w' r
  exact⟨b,_,n i s,j⟩
 |_=>exact⟨f,g,q,r⟩
theorem DW.join{ι:Type}{c:Code}{r:List Code}(J:ι->St)(m:ι->Prop)(b:∀i,m i->DW P cx r (J i) Q)(h:DW P cx [c] O (Nq cx J m (KQ P cx r Q))):DW P cx (c::r) O Q:=
 DWP.join (Q:=KQ P cx r Q) J m b h
theorem DW.whileO{S R:Type}{c:Code}{r:List Code}(I:S->St){B:S->(S->Option R)->Option R}{n:Nat}{s0:S}{res:R}(g:Dm.whileO B n s0=some res)(u:Conv cx O (I s0))
  (round:∀s N,B s N=some res->DW P cx [c] (I s) (Nq cx I (fun h=>N h=some res) (KQ P cx r Q))):DW P cx (.loop c::r) O Q:=by
 intro U a w k;obtain⟨b,j⟩:=u U a w k;refine Vv (ι:=S×Nat) (fun i a w=>Dm.whileO B i.2 i.1=some res/\∃U,Rel cx U (I i.1) a w) (fun i=>i.2) (s0,n) ⟨g,b,j⟩ ?_;rintro⟨s,m⟩ a w ⟨g,U,k⟩
 cases m with
 |zero=>simp[Dm.whileO]at g
 |succ m=>
  refine wpIn_mono (round s (Dm.whileO B m) g U a w k) ?_;rintro e v w' ⟨b,l,q,r⟩
  cases e with
  |normal=>
   obtain⟨h,x,t⟩:=q;obtain⟨f,o⟩:=t b v w' r
   exact⟨(h,m),⟨x,f,o⟩,O5 m⟩
  |_=>exact⟨b,l,q,r⟩
theorem AxS{V S R:Type}{c:Code}{r:List Code}(I:Nat->S->St){B:Nat->V->S->(S->Option R)->Option R}{D:S->Option R}{L:List V}(d:V){s0:S}{res:R}(l:Ba B D L 0 s0=some res)
  (x:Conv cx O (I 0 s0))
  (round:∀k s N,k<=L.length->(k<L.length->B k (L.getD k d) s N=some res)->(¬ k<L.length->D s=some res)->DW P cx [c] (I k s) (Nq cx (fun s=>I (k+1) s) (fun g=>k<L.length/\N g=some res) (KQ P cx r Q))):
  DW P cx (.loop c::r) O Q:=by
 intro U a w n;obtain⟨f,m⟩:=x U a w n;refine Vv (ι:=Nat×S) (fun i a w=>i.1<=L.length/\Ba B D (L.drop i.1) i.1 i.2=some res/\∃U,Rel cx U (I i.1 i.2) a w) (fun i=>L.length-i.1) (0,s0) ⟨L4 _,l,f,m⟩ ?_;rintro⟨k,s⟩ a w ⟨y,l,U,n⟩;refine wpIn_mono (round k s (fun g=>Ba B D (L.drop (k+1)) (k+1) g) y (fun h=>?_) (fun t=>?_) U a w n) ?_
 ·have b:Ba B D (L.drop k) k s=some res:=l;rw[I5 h]at b;have e:L.getD k d=L[k]:=by simp[h]
  rw[e];exact b
 ·have b:Ba B D (L.drop k) k s=some res:=l;rw[List.drop_eq_nil_of_le (by omega)]at b;exact b
 ·rintro e z w' ⟨f,o,q,r⟩
  cases e with
  |normal=>
   obtain⟨g,⟨A,v⟩,C⟩:=q;obtain⟨j,u⟩:=C f z w' r
   exact⟨(k+1,g),⟨A,v,j,u⟩,by simp only;omega⟩
  |_=>exact⟨f,o,q,r⟩
theorem DW.forO{S R:Type}{c:Code}{r:List Code}(I:Int->S->St){B:Int->S->(S->Option R)->Option R}{D:S->Option R}{lo hi:Int}{s0:S}{res:R}(n:Dm.forO B D (hi-lo).toNat lo s0=some res)
  (y:Conv cx O (I lo s0))
  (round:∀k s N,lo<=k->(k<hi->B k s N=some res)->(¬ k<hi->D s=some res)->DW P cx [c] (I k s) (Nq cx (fun s=>I (k+1) s) (fun g=>k<hi/\N g=some res) (KQ P cx r Q))):
  DW P cx (.loop c::r) O Q:=by
 intro U a w l;obtain⟨f,j⟩:=y U a w l;refine Vv (ι:=Int×S) (fun i a w=>lo<=i.1/\Dm.forO B D (hi-i.1).toNat i.1 i.2=some res/\∃U,Rel cx U (I i.1 i.2) a w) (fun i=>(hi-i.1).toNat) (lo,s0) ⟨J7 _,n,f,j⟩ ?_;rintro⟨k,s⟩ a w ⟨o,n,U,l⟩;have b:Dm.forO B D (hi-k).toNat k s=some res:=n;refine wpIn_mono (round k s (fun g=>Dm.forO B D (hi-(k+1)).toNat (k+1) g) o (fun u=>?_) (fun t=>?_) U a w l) ?_
 ·rw[show(hi-k).toNat=(hi-(k+1)).toNat+1 by omega]at b;exact b
 ·rw[show(hi-k).toNat=0 by omega]at b;exact b
 ·rintro e A w' ⟨f,m,q,r⟩
  cases e with
  |normal=>
   obtain⟨g,⟨E,x⟩,C⟩:=q;obtain⟨h,v⟩:=C f A w' r;have z:lo<=k:=o
   exact⟨(k+1,g),⟨by simp only;omega,x,h,v⟩,by simp only;omega⟩
  |_=>exact⟨f,m,q,r⟩
end
def frz1(ob:Ay)(k:Nat):MV->MV
 | .own j g off len=>bif Nat.beq j k then(match Ka ob k g with
  |some (W,_,f)=>.p (.sl .unk W len (shF off f))
  |none=>.any)else .own j g off len
 | .mref j g=>bif Nat.beq j k then(match Om ob k g with
  |some (z,has,f)=>.p (.mp z has f)
  |none=>.any)else .mref j g
 | .ref j g off=>bif Nat.beq j k then(match Ace ob k g with
  |some cs=>match pures (cs.drop off)with
   |some b=>.p (.ptr b)
   |none=>.any
  |none=>.any)else .ref j g off
 | .eref j g i off=>bif Nat.beq j k then .any else .eref j g i off
 | .p x=>.p x
 | .fptr cs=>.fptr cs
 | .und=>.und
 |_=>.any
def mkFn(f:FuncId)(b:List MV):MV:=match pures b with
 |some g=>bif Nat.blt f BND then .p (.fn f g)else .fn f b
 |none=>.fn f b
def frzN(ob:Ay)(k:Nat):Nat->MV->MV
 |0,x=>frz1 ob k x
 |d+1,.agg cs=>.agg (cs.map (frzN ob k d))
 |d+1,.tup cs=>.tup (cs.map (frzN ob k d))
 |d+1,.fn f cs=>mkFn f (cs.map (frzN ob k d))
 |_+1,x=>frz1 ob k x
def AeZ(ob:Ay)(k:Nat):Body->Body
 | .box cs=>.box (cs.map (frzN ob k 1))
 |b=>b
def frzS(ob:Ay)(k:Nat):List (Nat×MV)->List (Nat×MV)
 |[]=>[]
 |(t,x)::r=>(t,frzN ob k 2 x)::frzS ob k r
def frzO(ob:Ay)(k:Nat):List (Nat×Obj)->List (Nat×Obj)
 |[]=>[]
 |(j,o)::r=>bif Nat.beq j k then frzO ob k r else(j,⟨o.gen,AeZ ob k o.body⟩)::frzO ob k r
theorem frzB_same(ob:Ay)(k:Nat)(b:Body):b.same (AeZ ob k b):=by cases b<;>simp[AeZ,Body.same]
theorem Aey(ob:Ay)(k:Nat)(b:Body):(AeZ ob k b).live↔b.live:=by cases b<;>simp[AeZ,Body.live]
theorem frzS_get(ob:Ay)(k:Nat)(sl:List (Nat×MV))(t:Nat):(assoc (frzS ob k sl) t).getD .any=frzN ob k 2 ((assoc sl t).getD .any):=by
 induction sl with
 |nil=>rfl
 |cons p r b=>
  obtain⟨j,x⟩:=p;simp only[frzS,assoc]
  cases Nat.beq t j with
  |true=>rfl
  |false=>exact b
theorem frzO_get(ob:Ay)(k:Nat)(l:List (Nat×Obj))(j:Nat):(j=k/\assoc (frzO ob k l) j=none)\/(j≠k/\assoc (frzO ob k l) j=(assoc l j).map fun o=>⟨o.gen,AeZ ob k o.body⟩):=by
 induction l with
 |nil=>by_cases h:j=k<;>simp[frzO,assoc,h]
 |cons p r f=>
  obtain⟨i,o⟩:=p;simp only[frzO]
  cases b:Nat.beq i k with
  |true=>
   have e:=A3 b;subst e;simp only[cond_true];rcases f with f|⟨n,q⟩
   ·exact .inl f
   ·refine .inr ⟨n,?_⟩;simp only[assoc];rw[Dt n]
    exact q
  |false=>
   simp only[cond_false,assoc];have g:i≠k:=fun e=>by rw[e,Cr]at b;simp at b
   cases m:Nat.beq j i with
   |true=>
    have e:=A3 m;subst e
    exact .inr ⟨g,rfl⟩
   |false=>simpa using f
section
variable {P:Program} {T:Ty} {cx:Cx P} {U:Bs} {O:St} {a:Act} {w:World} {Q:Exit->St->Prop}
theorem RelV.mkFn{objs:Ay}{S:Nat->Prop}{v:Value}{f:FuncId}{g:List MV}(h:RelV U objs S w v (.fn f g)):RelV U objs S w v (mkFn f g):=by
 unfold Go.Dm.mkFn;split
 ·rename_i o j;have b:=Hv j
  cases m:Nat.blt f BND with
  |false=>exact h
  |true=>
  cases h with
  |fn _ _ vs k l=>
   rw[AgM m];refine .p _ _ (.fn _ _ _ (by rw[k,b];simp) (fun i x n=>?_));exact(l i (.p x) (by rw[b,A7,n];rfl)).inv_p
 ·exact h
theorem frz_sound{objs objs':Ay}{S I:Nat->Prop}{k:Nat}(hS:∀b,S b->I b)
  (B:∀j o,j≠k->objs j=some o->∃M,objs' j=some M/\M.gen=o.gen/\o.body.same M.body)
  (X:∀g W n f off len base c,objs k=some ⟨g,.row W n f⟩->OwnAt (U k) (.row W n f) off len base c->Rep I w (.slice base len c) (.sl .unk W len (shF off f)))
  (N:∀g z has f b,objs k=some ⟨g,.mp z has f⟩->U k=.box b->Rep I w (.map (some b)) (.mp z has f))
  (K:∀g cs Y off b,objs k=some ⟨g,.box cs⟩->U k=.box b->pures (cs.drop off)=some Y->Rep I w (.pointer (some (at_ b off))) (.ptr Y)):
  ∀(d:Nat) (v:Value) (x:MV),RelV U objs S w v x->RelV U objs' I w v (frzN objs k d x):=by
 have known:∀(j g:Nat) (F:Loc->Body->Prop),(∀l b c,F l b->b.same c->F l c)->j≠k->Known U objs j g F->Known U objs' j g F:=by
  intro j g F hF hj hk;obtain⟨o,u,H,E⟩:=hk;obtain⟨M,D,h2,h3⟩:=B j o hj u;exact⟨M,D,by omega,fun e=>hF _ _ _ (E (by omega)) h3⟩
 have A:∀j,Nat.beq j k=false->j≠k:=fun j t e=>by rw[e,Cr]at t;simp at t
 have one:∀(v:Value) (x:MV),RelV U objs S w v x->RelV U objs' I w v (frz1 objs k x):=by
  intro v x h
  cases h with
  |p _ _ h=>exact .p _ _ (h.mono hS (fun _ _=>rfl))
  |own j g off len base c h=>
   simp only[frz1]
   cases t:Nat.beq j k with
   |false=>exact .own _ _ _ _ _ _ (known j g _ (fun _ _ _ h G=>OwnAt.same h G) (A j t) h)
   |true=>
    have e:=A3 t;subst e;simp only[cond_true];split
    ·rename_i W n f J;have u:=Gc J;obtain⟨o,m,H,E⟩:=h;rw[u]at m;injection m with m
     subst m;exact .p _ _ (X _ _ _ _ _ _ _ _ u (E rfl))
    ·exact .any _
  |ref j g off b h=>
   simp only[frz1]
   cases t:Nat.beq j k with
   |true=>
    have e:=A3 t;subst e;simp only[cond_true];split
    ·rename_i cs J;split
     ·rename_i Y hp;have u:=Aaq J;obtain⟨o,m,H,E⟩:=h;rw[u]at m;injection m with m
      subst m;exact .p _ _ (K _ _ _ _ _ u (E rfl) hp)
     ·exact .any _
    ·exact .any _
   |false=>exact .ref _ _ _ _ (known j g _ (fun _ _ _ h _=>h) (A j t) h)
  |eref j g i off b oo h=>
   simp only[frz1]
   cases t:Nat.beq j k with
   |true=>exact .any _
   |false=>exact .eref _ _ _ _ _ _ (known j g _ (fun _ _ _ h G=>ERefAt.same h G) (A j t) h)
  |fptr cs b o G c hc D C=>exact .fptr _ _ _ (hS _ G) c hc D (fun j x hx=>(C j x hx).mono hS (fun _ _=>rfl))
  |mref j g b h=>
   simp only[frz1]
   cases t:Nat.beq j k with
   |false=>exact .mref _ _ _ (known j g _ (fun _ _ _ h _=>h) (A j t) h)
   |true=>
    have e:=A3 t;subst e;simp only[cond_true];split
    ·rename_i z has f J;have u:=Wm J;obtain⟨o,m,H,E⟩:=h;rw[u]at m;injection m with m
     subst m;exact .p _ _ (N _ _ _ _ _ u (E rfl))
    ·exact .any _
  |und=>exact .und
  |_=>exact .any _
 intro d
 induction d with
 |zero=>exact one
 |succ d ih=>
  intro v x h
  cases h with
  |agg cs vs L C D=>
   refine .agg _ _ (by simpa using L) (fun i y r=>?_) (fun i y r=>?_)
   ·rw[A7]at r
    cases s:cs[i]? with
    |none=>simp[s]at r
    |some q=>simp[s]at r;subst r;exact ih _ _ (C i q s)
   ·rw[A7]at r
    cases s:cs[i]? with
    |none=>simp[s]at r
    |some q=>exact D i q s
  |tup cs vs L C=>
   refine .tup _ _ (by simpa using L) (fun i y r=>?_);rw[A7]at r
   cases s:cs[i]? with
   |none=>simp[s]at r
   |some q=>simp[s]at r;subst r;exact ih _ _ (C i q s)
  |fn f cs vs L C=>
   refine RelV.mkFn (.fn _ _ _ (by simpa using L) (fun i y r=>?_));rw[A7]at r
   cases s:cs[i]? with
   |none=>simp[s]at r
   |some q=>simp[s]at r;subst r;exact ih _ _ (C i q s)
  |p _ _ h=>exact one _ _ (.p _ _ h)
  |own i g off len base c h=>exact one _ _ (.own _ _ _ _ _ _ h)
  |ref i g off b h=>exact one _ _ (.ref _ _ _ _ h)
  |eref i g ix off b oo h=>exact one _ _ (.eref _ _ _ _ _ _ h)
  |fptr cs b o G c hc D C=>exact one _ _ (.fptr _ _ _ G c hc D C)
  |mref i g b h=>exact one _ _ (.mref _ _ _ h)
  |und=>exact one _ _ .und
  |any v=>exact one _ _ (.any v)
theorem AxB(k:Nat){sl':Nat->MV}{m:Ay}(hsl:∀t,sl' t=frzN O.objs k 2 (O.slots t))(hF:∀j,(j=k/\m j=none)\/(j≠k/\m j=(O.objs j).map fun o=>⟨o.gen,AeZ O.objs k o.body⟩))
  (h:Rel cx U O a w):Rel cx U ⟨sl',m⟩ a w:=by
 have E:∀j y,m j=some y->j≠k/\∃o,O.objs j=some o/\y=⟨o.gen,AeZ O.objs k o.body⟩:=by
  intro j y s;rcases hF j with⟨_,h2⟩|⟨G,h2⟩
  ·rw[h2]at s;simp at s
  ·rw[h2]at s
   cases hq:O.objs j with
   |none=>simp[hq]at s
   |some o=>simp[hq]at s;exact⟨G,o,rfl,s.symm⟩
 have X:∀j o,j≠k->O.objs j=some o->∃y,m j=some y/\y.gen=o.gen/\o.body.same y.body:=by
  intro j o s I;rcases hF j with⟨G,_⟩|⟨_,h2⟩
  ·exact absurd G s
  ·exact⟨⟨o.gen,AeZ O.objs k o.body⟩,by rw[h2,I];rfl,rfl,frzB_same _ _ _⟩
 have hS:∀b,Ap cx.Av U O.objs w b->Ap cx.Av U (m) w b:=by
  intro b L;refine⟨L.1,L.2.1,fun j y s F=>?_⟩;obtain⟨_,o,M,rfl⟩:=E j y s;exact L.2.2 j o M ((Aey _ _ _).1 F)
 have hSk:∀o b,O.objs k=some o->o.body.live->(U k).block=some b->Ap cx.Av U (m) w b:=by
  intro o b I C L;have Y:=h.blk k o b I C L;refine⟨Y.1,Y.2.1,fun j y s F=>?_⟩;obtain⟨hjk,q,M,rfl⟩:=E j y s;exact h.inj k j o q b I M C ((Aey _ _ _).1 F) (Ne.symm hjk) L
 have D:∀g W n f off len base c,O.objs k=some ⟨g,.row W n f⟩->OwnAt (U k) (.row W n f) off len base c->Rep (Ap cx.Av U (m) w) w (.slice base len c) (.sl .unk W len (shF off f)):=by
  intro g W n f off len base c B hown;obtain⟨hle,C⟩:=hown;rcases h.ob k _ B with⟨H,hn0⟩|⟨b,o,cap,cur,e',H,hheap,hcap,hnn,D⟩
  ·rw[H]at C;obtain⟨hbase,rfl,rfl,rfl⟩:=C;rcases hbase with rfl|⟨bb,oo,rfl⟩
   ·exact .slnil _ _ _ (by simp)
   ·exact .sl _ _ _ _ _ _ _ (fun _ _=>undef) (by simp) (B2 _) (fun e=>by simp at e) (fun i hi=>by omega) (fun i j hi=>by omega) (fun i j hi=>by omega) (fun i j x hi=>by omega)
  ·rw[H]at C;obtain⟨b',y,rfl,hcc,hadr⟩:=C
   by_cases hlen0:len=0
   ·subst hlen0;exact .sl _ _ _ _ _ _ _ (fun _ _=>undef) (by simp) (L4 _) (fun e=>by simp at e) (fun i hi=>by omega) (fun i j hi=>by omega) (fun i j hi=>by omega) (fun i j x hi=>by omega)
   ·obtain⟨rfl,rfl⟩:=hadr (by omega);have hSb:=hSk _ b' B trivial (by rw[H];rfl);have v:∀j,w.cell? (at_ b' j)=cur[j]?:=fun j=>cell_of_row w b' j cur e' (0,0) hheap
    have K:∀i j,i<len->j<W->∃u,cur[o+off*W+(i*W+j)]?=some u/\u.oneCell'=true:=by
     intro i j hi s;obtain⟨M,q2⟩:=D (off+i) (by omega);obtain⟨u,u1,u2,_⟩:=q2 j (f (off+i))[j] (B0 (by omega));exact⟨u,by rw[<-u1];congr 1;rw[D2];omega,u2⟩
    refine .sl _ _ _ _ _ _ _ (fun i j=>cur.getD (o+off*W+(i*W+j)) undef) (by simp) (by omega) (fun _=>hSb) (fun i hi=>?_) (fun i j hi s=>?_) (fun i j hi s=>?_) (fun i j x hi J=>?_)
    ·rw[AcD];exact(D (off+i) (by omega)).1
    ·obtain⟨u,u1,_⟩:=K i j hi s;rw[v,A5,u1];rfl
    ·obtain⟨u,u1,u2⟩:=K i j hi s;rw[A5,u1];exact u2
    ·rw[AcD]at J;obtain⟨u,u1,u2,u3⟩:=(D (off+i) (by omega)).2 j x J;have e2:o+(off+i)*W+j=o+off*W+(i*W+j):=by rw[D2];omega
     rw[<-e2,A5,u1];exact u3.mono hS (fun _ _=>rfl)
 have hmap:∀g z has f b,O.objs k=some ⟨g,.mp z has f⟩->U k=.box b->Rep (Ap cx.Av U (m) w) w (.map (some b)) (.mp z has f):=by
  intro g z has f b B C;obtain⟨b1,es,clock,A,hh,hm,hz,hr⟩:=h.ob k _ B;rw[C]at A;injection A with A
  subst A;exact .mp _ _ _ _ _ _ (hSk _ b B trivial (by rw[C];rfl)) hh hm hz (fun i e n he hn=>(hr i e n he hn).mono hS (fun _ _=>rfl))
 have hbox:∀g cs ps off b,O.objs k=some ⟨g,.box cs⟩->U k=.box b->pures (cs.drop off)=some ps->Rep (Ap cx.Av U m w) w (.pointer (some (at_ b off))) (.ptr ps):=by
  intro g cs ps off b B C hp;obtain⟨b1,cur,e,A,hh,hsz,hr⟩:=h.ob k _ B;rw[C]at A;injection A with A
  subst A;have hcs:=Hv hp
  have v:∀j x,ps[j]?=some x->∃u,cur[off+j]?=some u/\u.oneCell'=true/\Rep (Ap cx.Av U O.objs w) w u x:=by
   intro j x J
   have G:cs[off+j]?=some (.p x):=by
    have:=congrArg (fun l=>l[j]?) hcs;simp only[J1,A7,J,E0]at this;exact this
   obtain⟨u,u1,u2,u3⟩:=hr (off+j) _ G;exact⟨u,u1,u2,u3.inv_p⟩
  have hc2:∀j,w.cell? (at_ b j)=cur[j]?:=fun j=>cell_of_row w b j cur e (0,0) hh
  refine .ptr ps b off (hSk _ b B trivial (by rw[C];rfl)) (fun j=>cur.getD (off+j) undef) (fun j s=>?_) (fun j s=>?_) (fun j x J=>?_)
  ·obtain⟨u,u1,_⟩:=v j ps[j] (B0 s);rw[hc2,u1,A5,u1];rfl
  ·obtain⟨u,u1,u2,_⟩:=v j ps[j] (B0 s);rw[A5,u1];exact u2
  ·obtain⟨u,u1,_,u3⟩:=v j x J;rw[A5,u1];exact u3.mono hS (fun _ _=>rfl)
 have snd:=frz_sound (U:=U) (w:=w) (objs:=O.objs) (objs':=m) (k:=k) hS X D hmap hbox;refine⟨h.nd,h.sz,fun t=>?_,fun j y I=>?_,fun j y b I C L=>?_,fun j j' o y b I ho' C H hne L=>?_,h.kept,h.avo,h.avlt,h.mle,fun j y s I hg=>?_⟩
 ·show RelV U m _ w _ (sl' t);rw[hsl t];exact snd 2 _ _ (h.sl t)
 ·obtain⟨hjk,o,G,rfl⟩:=E j y I;have:=h.ob j o G
  cases N:o.body with
  |dead=>trivial
  |mq q=>rw[N]at this;exact QRel.mono hS (fun _ _=>rfl) (fun _ _=>rfl) this
  |row W n f=>
   rw[N]at this;rcases this with q|⟨b,oo,cap,cur,e,rfl',M,q2,q3,q4⟩
   ·exact .inl q
   ·exact .inr ⟨b,oo,cap,cur,e,rfl',M,q2,q3,fun i hi=>⟨(q4 i hi).1,(q4 i hi).2.mono hS (fun _ _=>rfl)⟩⟩
  |mp z has f=>
   rw[N]at this;obtain⟨b,es,clock,q0,M,q2,q3,q4⟩:=this
   exact⟨b,es,clock,q0,M,q2,q3,fun i e n he hn=>(q4 i e n he hn).mono hS (fun _ _=>rfl)⟩
  |box cs=>
   rw[N]at this;obtain⟨b,cur,e,q0,M,q2,q3⟩:=this;refine⟨b,cur,e,q0,M,by simpa[AeZ]using q2,fun i x J=>?_⟩;rw[A7]at J
   cases hq:cs[i]? with
   |none=>simp[hq]at J
   |some q=>
    simp[hq]at J;subst J;obtain⟨u,u1,u2,u3⟩:=q3 i q hq;exact⟨u,u1,u2,snd 1 _ _ u3⟩
 ·obtain⟨_,o,G,rfl⟩:=E j y I;exact h.blk j o b G ((Aey _ _ _).1 C) L
 ·obtain⟨_,q,G,rfl⟩:=E j o I;obtain⟨_,r,g1,rfl⟩:=E j' y ho';exact h.inj j j' q r b G g1 ((Aey _ _ _).1 C) ((Aey _ _ _).1 H) hne L
 ·obtain⟨_,o,G,rfl⟩:=E j y I;exact h.oloc j o s G hg
theorem Rel.freeze(k:Nat){sl:List (Nat×MV)}{ob:List (Nat×Obj)}(h:Rel cx U (Ac sl ob) a w):Rel cx U (Ac (frzS (assoc ob) k sl) (frzO (assoc ob) k ob)) a w:=
 AxB k (fun t=>frzS_get _ _ _ _) (fun j=>frzO_get _ _ _ _) h
theorem Conv.freeze(k:Nat){sl:List (Nat×MV)}{ob:List (Nat×Obj)}:Conv cx (Ac sl ob) (Ac (frzS (assoc ob) k sl) (frzO (assoc ob) k ob)):=fun _ _ _ b=>⟨_,b.freeze k⟩
def Aqt:List Nat->List (Nat×MV)×List (Nat×Obj)->List (Nat×MV)×List (Nat×Obj)
 |[],s=>s
 |k::r,(sl,ob)=>Aqt r (frzS (assoc ob) k sl,frzO (assoc ob) k ob)
theorem Axw(ks:List Nat):∀{sl f:List (Nat×MV)} {ob b:List (Nat×Obj)},Aqt ks (sl,ob)=(f,b)->Conv cx (Ac sl ob) (Ac f b):=by
 induction ks with
 |nil=>
  intro sl f ob b h;simp only[Aqt,A4]at h;obtain⟨rfl,rfl⟩:=h
  exact .refl
 |cons k r g=>
  intro sl f ob b h;exact(Conv.freeze k).trans (g h)
end
end Go.Dm

namespace Go.Dm
abbrev w64(n:Int):Int:=IntKind.i64.wrap n
def kand(k:IntKind)(a b:Int):Int:=k.wrap ((BitVec.ofInt k.bits a &&& BitVec.ofInt k.bits b).toNat)
def kor(k:IntKind)(a b:Int):Int:=k.wrap ((BitVec.ofInt k.bits a ||| BitVec.ofInt k.bits b).toNat)
def Bp(k:IntKind)(a b:Int):Int:=k.wrap ((BitVec.ofInt k.bits a &&& ~~~(BitVec.ofInt k.bits b)).toNat)
def kshr(k:IntKind)(a b:Int):Int:=a.fdiv (2 ^ (min b.toNat k.bits))
def Jj(a b:Int):Int:=if b<a then b else a
def Us(a b:Int):Int:=if a<b then b else a
def Eb(a b:ByteArray):Bool:=a.toList==b.toList
theorem w64_succ{k n:Nat}(h:k<n)(a:n<=9223372036854775807):IntKind.i64.wrap ((k:Int)+1)=((k+1:Nat):Int):=by
 rw[AhR (by omega) (by omega)];omega
theorem Qw{i hi:Int}{lo:Int}(a:-9223372036854775808<=lo)(b:lo<=i)(h:i<hi)(f:hi<=9223372036854775807):IntKind.i64.wrap (i+1)=i+1:=
 AhR (by omega) (by omega)
section
variable {V:Type} {W:Nat} {enc:V->List PV} {d:V}
structure RowIs(enc:V->List PV)(d:V)(n:Nat)(f:Nat->List PV)(L:List V):Prop where
 len:n=L.length
 get:∀i,i<n->f i=enc (L.getD i d)
theorem RowIs.elems{L:List V}:RowIs enc d L.length (elems enc d L) L:=⟨rfl,fun _ _=>rfl⟩
theorem AxU{n m:Nat}{f g:Nat->List PV}{L M:List V}(h:RowIs enc d n f L)(k:RowIs enc d m g M):RowIs enc d (n+m) (Qn n f g) (L++M):=by
 refine⟨by simp[h.len,k.len],fun i hi=>?_⟩;have e1:=h.len
 by_cases hlt:i<n
 ·have a:Nat.blt i n=true:=F1 hlt;simp only[Qn,a,cond_true];rw[h.get i hlt];simp[B5,C2 (show i<L.length by omega)]
 ·have a:Nat.blt i n=false:=by
   cases a:Nat.blt i n with
   |false=>rfl
   |true=>exact absurd (A8 a) hlt
  simp only[Qn,a,cond_false];rw[k.get (i-n) (by omega)];simp[B5,B9 (show L.length<=i by omega),e1]
theorem RowIs.upd{n i:Nat}{f:Nat->List PV}{L:List V}{c:List PV}(h:RowIs enc d n f L)(x:V)(b:c=enc x):RowIs enc d n (Cg f i c) (L.set i x):=by
 subst b;have e1:=h.len;refine⟨by simp[h.len],fun j a=>?_⟩
 by_cases hji:j=i
 ·subst hji;simp[Cg,Cr,B5,show j<L.length by omega]
 ·simp only[Cg,Dt hji,cond_false];rw[h.get j a];simp[B5,List.getElem?_set_ne (Ne.symm hji)]
theorem shF_val(off:Nat)(f:Nat->List PV)(i:Nat):shF off f i=f (off+i):=by
 unfold shF
 cases h:Nat.beq off 0 with
 |true=>have:=A3 h;subst this;simp
 |false=>rfl
theorem RowIs.sub{n off len:Nat}{f:Nat->List PV}{L:List V}(h:RowIs enc d n f L)(a:off+len<=n):RowIs enc d len (shF off f) ((L.drop off).take len):=by
 have e1:=h.len;refine⟨by simp;omega,fun i hi=>?_⟩;rw[shF_val,h.get (off+i) (by omega)];simp[B5,H1,hi]
theorem RowIs.take{n len:Nat}{f:Nat->List PV}{L:List V}(h:RowIs enc d n f L)(a:len<=n):RowIs enc d len f (L.take len):=by
 have e1:=h.len;refine⟨by simp;omega,fun i hi=>?_⟩;rw[h.get i (by omega)];simp[B5,H1,hi]
theorem RowIs.drop{n off len:Nat}{f:Nat->List PV}{L:List V}(h:RowIs enc d n f L)(b:len=n-off)(a:off<=n):RowIs enc d len (shF off f) (L.drop off):=by
 have e1:=h.len;refine⟨by simp;omega,fun i hi=>?_⟩;rw[shF_val,h.get (off+i) (by omega)];simp[B5]
theorem RowIs.nil{f:Nat->List PV}:RowIs enc d 0 f []:=⟨rfl,fun i hi=>absurd hi (K8 i)⟩
theorem RowIs.lit{n:Nat}{f:Nat->List PV}(L:List V)(a:n=L.length)(h:∀i,i<n->f i=enc (L.getD i d)):RowIs enc d n f L:=⟨a,h⟩
def Iu(L:List V)(a n:Nat)(x:V):List V:=L.take a++(List.replicate n x++L.drop (a+n))
def Vi(L:List V)(a n:Nat)(M:List V):List V:=L.take a++(M.take n++L.drop (a+n))
theorem inR_true{a b j:Nat}(f:a<=j)(g:j<b):inR a b j=true:=by
 simp[inR,F1 f,Nat.blt,F1 g]
theorem inR_false{a b j:Nat}(h:¬ (a<=j/\j<b)):inR a b j=false:=by
 cases f:inR a b j with
 |false=>rfl
 |true=>
  simp only[inR,A6]at f;exact absurd ⟨A8 f.1,A8 f.2⟩ h
theorem RowIs.over{n a m:Nat}{f g:Nat->List PV}{L M:List V}{q:Nat}(h:RowIs enc d n f L)(k:RowIs enc d q g M)(j:m<=q)(b:a+m<=n):RowIs enc d n (Sy f a m g) (Vi L a m M):=by
 have e1:=h.len;have e2:=k.len;refine⟨by simp[Vi];omega,fun i hi=>?_⟩
 by_cases hin:a<=i/\i<a+m
 ·simp only[Sy,inR_true hin.1 hin.2,cond_true];rw[k.get (i-a) (by omega)];unfold Vi;simp only[B5];rw[B9 (by simp;omega),C2 (by simp;omega),H1];simp[show min a L.length=a by omega,show i-a<m by omega]
 ·simp only[Sy,inR_false hin,cond_false];rw[h.get i hi];unfold Vi;simp only[B5]
  by_cases hlt:i<a
  ·rw[C2 (by simp;omega),H1];simp[hlt]
  ·rw[B9 (by simp;omega),B9 (by simp;omega),J1];congr 2;simp;congr 1;omega
theorem RowIs.fill{n a m:Nat}{f:Nat->List PV}{L:List V}{g:List PV}(h:RowIs enc d n f L)(x:V)(j:g=enc x)(b:a+m<=n):RowIs enc d n (Sy f a m (fun _=>g)) (Iu L a m x):=by
 subst j;have k:RowIs enc d m (fun _=>enc x) (List.replicate m x):=⟨by simp,fun i hi=>by simp[B5,hi]⟩;have:=h.over k (B2 m) b;refine⟨?_,?_⟩
 ·have:=this.len;simp[Vi,Iu]at this ⊢;omega
 ·intro i hi;rw[this.get i hi];simp[Vi,Iu]
theorem BLe.typed{n:Nat}{f:Nat->List PV}{L:List V}(h:RowIs enc d n f L):BLe (.row W n f) (AkE W enc d L):=.row h.len h.get
theorem PLe.typed{fl:Fl}{n:Nat}{f:Nat->List PV}{L:List V}(h:RowIs enc d n f L):PLe (.sl fl W n f) (Lq W enc d L):=.sl (.inl (Eq.refl _)) h.len h.get
theorem MLe.typed{fl:Fl}{n:Nat}{f:Nat->List PV}{L:List V}(h:RowIs enc d n f L):MLe (.p (.sl fl W n f)) (.p (Lq W enc d L)):=.p (PLe.typed h)
theorem PLe.nilL{a:Nat}{fl:Fl}{f:Nat->List PV}:PLe (.sl fl a 0 f) (Lq W enc d ([]:List V)):=.empty (.inl (Eq.refl _))
theorem MLe.nilL{a:Nat}{fl:Fl}{f:Nat->List PV}:MLe (.p (.sl fl a 0 f)) (.p (Lq W enc d ([]:List V))):=.p PLe.nilL
theorem AxJ{k g off n:Nat}{L:List V}{f:Nat->List PV}(h:RowIs enc d n f L):MLe (.own k g off n) (.own k g off L.length):=.of_eq (by rw[h.len])
end
section
variable {P:Program} {T:Ty} {cx:Cx P} {O:St} {Q:Exit->St->Prop}
end
end Go.Dm

namespace Go.Dm
abbrev vk(k:IntKind)(n:Int):PV:=.v (.int k n)
def encK(k:IntKind)(n:Int):List PV:=[vk k n]
def bs(l:List UInt8):ByteArray:=ByteArray.mk l.toArray
def Lx(s:ByteArray):List Int:=(List.range s.size).map fun i=>((Cb s i:Nat):Int)
theorem Wc(s:ByteArray):(Lx s).length=s.size:=by simp[Lx]
theorem RowIs.bytes{s:ByteArray}:RowIs (encK .u8) 0 s.size (AmC s) (Lx s):=by
 refine⟨(Wc s).symm,fun i hi=>?_⟩;simp[AmC,encK,Lx,B5,hi]
theorem AxO{V:Type}{enc:V->List PV}{d:V}{n:Nat}{f:Nat->List PV}{L:List V}(h:RowIs enc d n f L):n=L.length/\∀i,i<n->f i=(Dm.elems enc d L) i:=⟨h.len,h.get⟩
theorem AxN{V:Type}{enc:V->List PV}{d:V}{n j off:Nat}{f:Nat->List PV}{L:List V}{a:List PV}(h:RowIs enc d n f L)(b:j<n)(x:V)(g:setRange (enc (L.getD j d)) off a=enc x):
  RowIs enc d n (Cg f j (setRange (f j) off a)) (L.set j x):=by
 have e:=h.get j b;rw[e];exact h.upd x g
section
variable {P:Program} {T:Ty} {cx:Cx P} {O:St} {Q:Exit->St->Prop}
theorem AkS{ι:Type}{J:ι->St}{m:ι->Prop}(i:ι)(a:m i)(b:Conv cx O (J i)):DW P cx [] O (Nq cx J m Q):=⟨i,a,b⟩
theorem joinKQ{ι:Type}{J:ι->St}{m:ι->Prop}(i:ι)(a:m i)(b:Conv cx O (J i)):KQ P cx [] (Nq cx J m Q) .normal O:=⟨i,a,b⟩
theorem blockDone{ι:Type}{J:ι->St}{m:ι->Prop}{id:Nat}(i:ι)(a:m i)(b:Conv cx O (J i)):DW P cx [] O (Rk id (KQ P cx [] (Nq cx J m Q))):=⟨i,a,b⟩
theorem Aci{ι:Type}{J:ι->St}{m:ι->Prop}{id:Nat}(h:Q (.exit id) O):Nq cx J m Q (.exit id) O:=h
end
abbrev slI(L:List Int):PV:=Lq 1 Cj 0 L
abbrev roI(L:List Int):Body:=AkE 1 Cj 0 L
abbrev elI(L:List Int):Nat->List PV:=elems Cj 0 L
abbrev pm(l:List PV):List MV:=l.map .p
abbrev bx(cs:List MV):Obj:=⟨0,.box cs⟩
abbrev ob0(b:Body):Obj:=⟨0,b⟩
abbrev pI(n:Int):MV:=.p (vi n)
abbrev pB(b:Bool):MV:=.p (vb b)
abbrev pS(s:ByteArray):MV:=.p (vs s)
abbrev ow(k n:Nat):MV:=.own k 0 0 n
abbrev rr(k:Nat):MV:=.ref k 0 0
abbrev pT:Orc:=.pk true
abbrev pF:Orc:=.pk false
def sk:Nat->List Orc->List Orc
 |0,l=>l
 |n+1,l=>.skip::sk n l
theorem tt:true=true:=rfl
theorem ff:false=false:=rfl
abbrev an2{p q:Prop}(h:p)(k:q):p/\p/\q:=⟨h,h,k⟩
abbrev an3{p q:Prop}(h:p)(k:q):p/\p/\p/\q:=⟨h,h,h,k⟩
abbrev an4{p q:Prop}(h:p)(k:q):p/\p/\p/\p/\q:=⟨h,h,h,h,k⟩
abbrev an5{p q:Prop}(h:p)(k:q):p/\p/\p/\p/\p/\q:=⟨h,h,h,h,h,k⟩
abbrev an6{p q:Prop}(h:p)(k:q):p/\p/\p/\p/\p/\p/\q:=⟨h,h,h,h,h,h,k⟩
abbrev an{p q:Prop}(h:p)(k:q):p/\q:=⟨h,k⟩
theorem nn0(k:Nat):(0:Int)<=(k:Int):=Int.natCast_nonneg k
theorem ltc{k n:Nat}(h:k<n):(k:Int)<(n:Int):=Int.ofNat_lt.2 h
def nn:Nat->List Orc->List Orc
 |0,l=>l
 |n+1,l=>.no::nn n l
def Ly(a:List (Nat×MV)):List (Nat×MV)->List (Nat×MV)
 |[]=>[]
 |(t,x)::r=>(t,(assoc a t).getD x)::Ly a r
def Ma(a:List (Nat×Body)):List (Nat×Obj)->List (Nat×Obj)
 |[]=>[]
 |(k,o)::r=>(k,⟨o.gen,(assoc a k).getD o.body⟩)::Ma a r
inductive SP (sl:List (Nat×MV)):List (Nat×MV)->Prop where
 |nil:SP sl []
 |cons {t:Nat} {x y:MV} {ps:List (Nat×MV)} (e:assoc sl t=some y) (h:MLe x y) (r:SP sl ps):SP sl ((t,x)::ps)
inductive OP (ob:List (Nat×Obj)):List (Nat×Body)->Prop where
 |nil:OP ob []
 |cons {t g:Nat} {x y:Body} {ps:List (Nat×Body)} (e:assoc ob t=some ⟨g,y⟩) (h:BLe x y) (r:OP ob ps):OP ob ((t,x)::ps)
theorem AwG(a sl:List (Nat×MV))(t:Nat):assoc (Ly a sl) t=(assoc sl t).map fun x=>(assoc a t).getD x:=by
 induction sl with
 |nil=>rfl
 |cons p r b=>
  obtain⟨k,x⟩:=p;simp only[Ly,assoc]
  cases f:Nat.beq t k with
  |true=>have:=A3 f;subst this;rfl
  |false=>exact b
theorem AwM(a:List (Nat×Body))(ob:List (Nat×Obj))(t:Nat):assoc (Ma a ob) t=(assoc ob t).map fun o=>⟨o.gen,(assoc a t).getD o.body⟩:=by
 induction ob with
 |nil=>rfl
 |cons p r b=>
  obtain⟨k,x⟩:=p;simp only[Ma,assoc]
  cases f:Nat.beq t k with
  |true=>have:=A3 f;subst this;rfl
  |false=>exact b
theorem SP.get{sl f:List (Nat×MV)}(h:SP sl f){t:Nat}{x:MV}(a:assoc f t=some x):∃y,assoc sl t=some y/\MLe x y:=by
 induction h with
 |nil=>simp[assoc]at a
 | @cons k i y f e h r g=>
  simp only[assoc]at a
  cases b:Nat.beq t k with
  |true=>
   have:=A3 b;subst this;simp only[b,cond_true,A1]at a;subst a
   exact⟨y,e,h⟩
  |false=>
   simp only[b,cond_false]at a;exact g a
theorem OP.get{ob:List (Nat×Obj)}{f:List (Nat×Body)}(h:OP ob f){t:Nat}{x:Body}(a:assoc f t=some x):∃g y,assoc ob t=some ⟨g,y⟩/\BLe x y:=by
 induction h with
 |nil=>simp[assoc]at a
 | @cons k g j y f e h r i=>
  simp only[assoc]at a
  cases b:Nat.beq t k with
  |true=>
   have:=A3 b;subst this;simp only[b,cond_true,A1]at a;subst a
   exact⟨g,y,e,h⟩
  |false=>
   simp only[b,cond_false]at a;exact i a
theorem SP.le{sl b:List (Nat×MV)}(h:SP sl b)(t:Nat):MLe ((assoc (Ly b sl) t).getD .any) ((assoc sl t).getD .any):=by
 rw[AwG]
 cases i:assoc sl t with
 |none=>exact .rfl
 |some y=>
  cases g:assoc b t with
  |none=>exact .rfl
  |some x=>
   obtain⟨z,a,f⟩:=h.get g;rw[i]at a;injection a with a
   subst a;exact f
theorem OP.le{ob:List (Nat×Obj)}{a:List (Nat×Body)}(h:OP ob a)(t:Nat):(assoc (Ma a ob) t=none/\assoc ob t=none)\/∃g b c,assoc (Ma a ob) t=some ⟨g,b⟩/\assoc ob t=some ⟨g,c⟩/\BLe b c:=by
 rw[AwM]
 cases k:assoc ob t with
 |none=>exact .inl ⟨rfl,rfl⟩
 |some o=>
  right
  cases j:assoc a t with
  |none=>exact⟨o.gen,o.body,o.body,rfl,rfl,.rfl⟩
  |some x=>
   obtain⟨g,z,f,i⟩:=h.get j;rw[k]at f;injection f with f
   subst f;exact⟨g,x,z,rfl,rfl,i⟩
section
variable {P:Program} {T:Ty} {cx:Cx P} {O:St} {Q:Exit->St->Prop}
theorem AxY{sl:List (Nat×MV)}{ob:List (Nat×Obj)}(b:List (Nat×MV))(f:List (Nat×Body))(h:(Kp (Bw sl) (Bw ob) O,He (Bw ob) O)=(Ly b sl,Ma f ob))(k:SP sl b)(j:OP ob f):
  Conv cx O (Ac sl ob):=fun U a w r=>by
 have i:=congrArg Prod.fst h;have g:=congrArg Prod.snd h;simp only at i g;have:=r.norm (Bw sl) (Bw ob);rw[i,g]at this;exact⟨U,this.leF k.le j.le⟩
def Anp(P:Program)(T:Ty)(nt:Nat)(ops:Array Oper)(xs:List Orc)(ls a:List Nat)(draw:Bool)(O:St):Option ((List (Nat×MV)×List (Nat×Obj))×Prop):=
 match dreg P T nt ops xs ls a draw O with
 |some (sl,ob,obl)=>some ((sl,ob),All obl)
 |none=>none
theorem DW.rn{nt:Nat}(x:Hx P T)(u:P.follows .mixedOrders=true)(i:cx.nt=nt){ops:Array Oper}{id:Nat}{draw:Bool}{r:List Code}(xs:List Orc)(sl:List (Nat×MV))(ob:List (Nat×Obj))
  (g:List (Nat×MV)) (f:List (Nat×Body)) {q:Prop} (v:q) (h:Anp P T nt ops xs (Bw sl) (Bw ob) draw O=some ((Ly g sl,Ma f ob),q)) (o:SP sl g) (m:OP ob f)
  (s:DW P cx r (Ac sl ob) Q):DW P cx (.region id ops draw::r) O Q:=by
 unfold Anp at h;split at h
 case h_2=>simp at h
 rename_i y t obl k;simp only[A1,A4]at h;obtain⟨⟨rfl,rfl⟩,rfl⟩:=h;subst i;intro U a w n;have:=DWP.region (id:=id) (Q:=fun e b=>e=.normal/\b=Ac (Ly g sl) (Ma f ob)) x u k v ⟨rfl,rfl⟩ U a w n;refine wpIn_mono this ?_;rintro e z w' ⟨j,b,⟨rfl,rfl⟩,l⟩;exact⟨j,_,s,l.leF o.le m.le⟩
theorem DW.rk{nt:Nat}(m:Hx P T)(k:P.follows .mixedOrders=true)(b:cx.nt=nt){ops:Array Oper}{id:Nat}{draw:Bool}{r:List Code}(xs:List Orc)(sl:List (Nat×MV))(ob:List (Nat×Obj))
  {q:Prop} (l:q) (h:Anp P T nt ops xs (Bw sl) (Bw ob) draw O=some ((sl,ob),q)) (i:DW P cx r (Ac sl ob) Q):DW P cx (.region id ops draw::r) O Q:=by
 unfold Anp at h;split at h
 case h_2=>simp at h
 rename_i n j obl f;simp only[A1,A4]at h;obtain⟨⟨rfl,rfl⟩,rfl⟩:=h;subst b;intro U a w g;exact DWP.region (id:=id) (Q:=KQ P cx r Q) m k f l i U a w g
theorem RegTo.rn{nt:Nat}(n:Hx P T)(i:P.follows .mixedOrders=true)(b:cx.nt=nt){ops:Array Oper}{draw:Bool}{sl:List (Nat×MV)}{ob:List (Nat×Obj)}(xs:List Orc)
  (a:List (Nat×MV)) {q:Prop} (j:q) (h:Anp P T nt ops xs (Bw sl) (Bw ob) draw O=some ((Ly a sl,ob),q)) (f:SP sl a):RegTo P cx ops draw O sl ob:=
 fun id r Q g=>DW.rn (id:=id) n i b xs sl ob a [] j (by
  have:∀(l:List (Nat×Obj)),Ma [] l=l:=by
   intro l
   induction l with
   |nil=>rfl
   |cons p r m=>obtain⟨k,o⟩:=p;simp[Ma,m,assoc]
  rw[this]
  exact h) f .nil g
end
end Go.Dm

namespace Go.Dm
open Go.ChangeShapes Go.WideShapes Go.ChangeAt Go.RowKit
theorem Kept.sameAt{W f:World}(h:Kept (fun _=>False) W f){p:MemPlace}(a:p.block<W.heap.size):W.sameAt f p:=by
 cases p with
 |cell b off=>exact World.cell?_of_block (h.block b a id)
 |map b=>exact h.block b a id
theorem Kept.but{W b:World}(h:Kept (fun _=>False) W b)(a:MemPlace->Prop):W.keptBut b a:=by
 refine⟨h.os,h.output,fun i hi=>?_⟩;have:=h.block i hi id;rw[this]
 cases W.heap[i]? with
 |none=>rfl
 |some o=>cases o<;>simp
section
variable {H:Type} {enc:TypeId×Value->H} {P:Program}
theorem AmU{W j:World}(h:Kept (fun _=>False) W j){base:Nat}{sp:Nat->Bool}{held:Bool}:∀{ts:List TypeId} {vs:List Value} {i:List (DataW H)} {g:List MemPlace},
  DataW.TrodAll enc P W base sp held ts vs i g->DataW.TrodAll enc P j base sp held ts vs i g
 |[],_,_,_,hh=>by
  obtain⟨rfl,rfl,rfl⟩:=trodAll_nil hh
  exact trodAll_mk0
 |t::ts,vs,i,g,hh=>by
  have f:=hh.lt;obtain⟨v,o,d,l,a,b,rfl,rfl,rfl,r,m⟩:=trodAll_cons hh;obtain⟨n,q⟩:=r;exact⟨a,b,⟨n,DataW.trod_carry n _ _ _ q (fun p k=>h.sameAt (f p (List.mem_append_left _ k)))⟩,AmU h m,rfl⟩
theorem law_post{f:Func}{s:ChangeSpec}{apart fresh a again:Bool}{W u:World}{args:Array Value}{l O:List (DataW H)}{before:List MemPlace}{J:TypeId}
  (K:Kids P (· < P.types.size)) (full:∀t e,t<P.types.size->P.underlying t=some (.slice e)->0<P.cellsOf e) (B:∀t∈f.params.toList,t<P.types.size)
  (L:s.vars=[]) (i:f.resultTypes= #[J]) (v:P.underlying J=some .bool)
  (F:DataW.Whole enc P f.params.toList s.vars apart W args.toList l O before)
  (m:s.fn H l={results:=[.lit (.bool true)],args:=l})
  (y:Kept (fun _=>False) W u):s.post enc P f apart fresh a again W args (.bool true) u:=by
 have z:=F;obtain⟨p,q,I,M,rfl,Q,T⟩:=F;rw[L]at M;obtain⟨rfl,rfl⟩:=trodVars_none M;have n:=I.lt
 have k:∀(b:Nat) (sp:Nat->Bool) (D:Bool),DataW.TrodAll enc P u b sp D f.resultTypes.toList ((Value.bool true).resultList f.resultTypes.size) (s.fn H (l++[])).results []:=by
  intro b sp D;rw[I3,m,i];exact trodAll_cons_mk (shut_bool v _) trodAll_mk0
 have g:∀sp:Nat->Bool,(∀x∈p,sp x.block=true)->DataW.TrodAll enc P u 0 sp true f.params.toList args.toList (s.fn H (l++[])).args p:=by
  intro sp C;rw[I3,m];exact DataW.TrodAll.respare K full B (AmU y I) C
 have h:∀sp:Nat->Bool,DataW.TrodVars enc P u sp s.vars (s.fn H (l++[])).vars []:=by
  intro sp;rw[I3,m,L];rfl
 refine⟨l,[],p++[],[],p,[],z,k _ _ _,g _ (fun x A=>by simpa using n x A),h _,y.but _,fun _=>⟨?_,?_⟩⟩
 ·intro j t r G E;rw[i]at G E;exact ok_one (f:=f) i rfl (okWide_bool_mk v true) j t r (by rw[i];exact G) (by rw[i];exact E)
 ·refine⟨_,_,([]++p)++[],⟨[]++p,[],trodAll_append (g _ (fun _ _=>rfl)) (k _ _ _),h _,rfl,?_,?_⟩,?_⟩
  ·intro b off R;have o:MemPlace.cell b off∈p:=by simpa using R
   have N:=n _ o;have:=Q b off (by simpa using o);rw[<-this];exact World.frozen?_of_block (y.block b N id)
  ·intro U;have:=T U;simpa using this
  ·intro x A _;simpa using A
theorem arg_ints{r:Reach}{G base:Nat}{held:Bool}{W:World}{t e:TypeId}{v:Value}{d:DataW H}{u:List MemPlace}(s:P.underlying t=some (.slice e))(R:P.underlying e=some (.int .i64))(T:P.cellsOf e=1)
  (o:Value.okWide P W r G t v) (M:DataW.Trod enc P W base (fun _=>true) held t v d u):
  ∃L:List Int,(∀n∈L,-9223372036854775808<=n/\n<=9223372036854775807)/\∀(U:Bs) (objs:Ay) (S:Nat->Prop),(∀p∈u,S p.block)->RelV U objs S W v (.p (Lq 1 Cj 0 L)):=by
 obtain⟨fuel,O⟩:=M;have l:Cell.okWide P W r G t v:=by simpa[Value.okWide,s]using o
 have f:∀(b:Option Addr) (n c:Nat),v.cells.toList=[.slice b n c]->v=.slice b n c:=by
  intro b n c m;cases v<;>simp[Value.cells,Cell.okWide,Cell.ok,s]at m l ⊢;exact m
 rcases open_ints s R T O with⟨B,V⟩|⟨a,len,cap,h,B,X,E,I,q,y,k,z⟩
 ·have:=f _ _ _ B;subst this;exact⟨[],by simp,fun U objs S K=>.p _ _ (.slnil _ _ _ (by simp))⟩
 ·have:=f _ _ _ B;subst this;have D:u=MemPlace.row a h.length:=by injection y
  have N:h.length=cap:=by simpa using q
  refine⟨h.take len,fun n J=>?_,fun U objs S K=>.p _ _ ?_⟩
  ·have:=z n (List.mem_of_mem_take J);simpa[Lit.wf,IntKind.min,IntKind.max,IntKind.signed,IntKind.bits]using this
  ·have g:a.spot=none:=by
    simp only[Cell.okWide,Cell.ok,s]at l;exact l.2.2.2.1
   obtain⟨b,off,F⟩:=a;simp only at g;subst g;have A:(h.take len).length=len:=by simp;omega
   unfold Lq;rw[A];refine .sl _ _ _ cap b off _ (fun i _=>.int .i64 (h.getD i 0)) (by simp) E (fun J=>?_) (fun i hi=>rfl) (fun i j hi Q=>?_) (fun i j hi Q=>rfl) (fun i j x hi y=>?_)
   ·have:MemPlace.cell b off∈u:=by
     rw[D];exact MemPlace.mem_row.2 ⟨0,by omega,by simp⟩
    exact K _ this
   ·obtain rfl:j=0:=by omega
    have:=k i (by omega);rw[add_plain]at this;simpa[at_]using this
   ·have C:x=vi ((h.take len).getD i 0):=by
     cases j with
     |zero=>simpa[elems,Cj]using y.symm
     |succ j=>simp[elems,Cj]at y
    subst C;have e:(h.take len).getD i 0=h.getD i 0:=by simp[B5,H1,hi]
    rw[e];exact .v _ rfl
theorem Spec.law{f:FuncId}{args:List MV}{vs:Array Value}{W:World}(h:Spec P f args [] (.p (vb true)) [] [])(q:GlOK P (fun _=>False) W)(l:vs.size=args.length)
  (m:∀(U:Bs) (objs:Ay) (i:Nat) x,args[i]?=some x->RelV U objs (fun b=>b<W.heap.size) W (vs.getD i undef) x):
  Calls P f vs W fun e t=>e=.returned (.bool true)/\Kept (fun _=>False) W t:=by
 refine(h.2 W (fun _=>False) (fun _=>.nilrow) vs ⟨q.mono (Kept.refl _ _) (fun b _ _=>by rintro⟨k,bd,a,_⟩;simp at a),fun b n=>n.elim,l,fun i x s=>?_,fun k bd a=>by simp at a,fun k bd b a=>by simp at a,fun k z bd bd' b a=>by simp at a⟩).mono ?_
 ·refine(m _ (Bu []) i x s).mono (Grows.refl _ _) (fun b n=>⟨n,id,fun k o r=>by simp[Bu]at r⟩) (fun _ _=>rfl)
 ·rintro e w' ⟨v,y,rfl,g⟩;have:=g.res.inv_v.1;subst this;exact⟨rfl,g.kept.os,g.kept.tape,g.kept.output,g.kept.size,fun k a _=>g.kept.block k a (by rintro⟨j,bd,u,_⟩;simp at u)⟩
end
end Go.Dm

namespace Go.Dm
def memN:List Nat->Nat->Bool
 |[],_=>false
 |a::r,k=>bif Nat.beq a k then true else memN r k
def delK{V:Type}(a:List Nat):List (Nat×V)->List (Nat×V)
 |[]=>[]
 |(k,x)::r=>bif memN a k then delK a r else(k,x)::delK a r
def insK{V:Type}(k:Nat)(x:V):List (Nat×V)->List (Nat×V)
 |[]=>[(k,x)]
 |(t,y)::r=>bif Nat.beq k t then(k,x)::r else bif Nat.ble k t then(k,x)::(t,y)::r else(t,y)::insK k x r
def insA{V:Type}:List (Nat×V)->List (Nat×V)->List (Nat×V)
 |[],l=>l
 |(k,x)::r,l=>insK k x (insA r l)
def up{V:Type}(a:List Nat)(us l:List (Nat×V)):List (Nat×V):=insA us (delK a l)
theorem AwE{V:Type}(k:Nat)(x:V)(l:List (Nat×V))(j:Nat):assoc (insK k x l) j=assoc ((k,x)::l) j:=by
 induction l with
 |nil=>rfl
 |cons p r b=>
  obtain⟨t,y⟩:=p;rw[insK]
  cases a:Nat.beq k t with
  |true=>
   have:=A3 a;subst this;simp only[cond_true,assoc]
   cases Nat.beq j k<;>rfl
  |false=>
   simp only[cond_false]
   cases Nat.ble k t with
   |true=>rfl
   |false=>
    simp only[cond_false,assoc]at b ⊢;rw[b]
    cases f:Nat.beq j t with
    |true=>
     have:=A3 f;subst this
     cases g:Nat.beq j k with
     |true=>
      have:=A3 g;subst this;rw[f]at a
      cases a
     |false=>rfl
    |false=>rfl
theorem Adg{V:Type}(enc:V->PV)(z:PV)(m:IMap V)(n:Int)(v:V){x:PV}(g:PLe x (enc v)):AkW z (Bf m.has n true) (Bf (fun j=>enc (m.get j)) n x) z (m.set n v).has (fun j=>enc ((m.set n v).get j)):=by
 refine⟨rfl,fun j=>?_,fun h j a=>?_⟩
 ·simp only[Bf,IMap.set];split
  ·exact g
  ·exact .rfl
 ·have f:=h j a;simp only[IMap.set,Bf]at f a ⊢;split at a
  ·simp at a
  ·rename_i b;rw[if_neg b]at f ⊢;exact f
def IMap.del{V:Type}(m:IMap V)(n:Int)(d:V):IMap V:=⟨Bf m.has n false,Bf m.get n d⟩
theorem mdel_le{V:Type}(enc:V->PV)(z:PV)(m:IMap V)(n:Int)(d:V)(f:z=enc d):AkW z (Bf m.has n false) (Bf (fun j=>enc (m.get j)) n z) z (m.del n d).has (fun j=>enc ((m.del n d).get j)):=by
 subst f
 have e:Bf (fun j=>enc (m.get j)) n (enc d)=fun j=>enc ((m.del n d).get j):=by
  funext j;simp only[Bf,IMap.del];split<;>rfl
 rw[<-e];exact⟨rfl,fun j=>.rfl,fun b j a=>b j a⟩
theorem mnew_le{V:Type}(enc:V->PV)(z:PV)(d:V)(a:PLe z (enc d)):AkW z (fun _=>false) (fun _=>z) (enc d) (IMap.empty d).has (fun j=>enc ((IMap.empty d).get j)):=
 ⟨rfl,fun _=>a,fun _ _ _=>rfl⟩
theorem updI_at{V:Type}(f:Int->V)(n:Int)(x:V):Bf f n x n=x:=by simp[Bf]
theorem updI_nat(f:Int->Nat)(n:Int)(x:Nat):(x:Int)=((Bf f n x n:Nat):Int):=by simp[Bf]
inductive AdP where
 |s (t:Nat)
 |a (t j:Nat)
 |o (q j:Nat)
def adNil(k:Nat):MV->Option MV
 | .p (.sl .nil _ n _)=>bif Nat.beq n 0 then some (.own k 0 0 0)else none
 |_=>none
def Ahe(k:Nat):Nat->List MV->Option (List MV)
 |_,[]=>none
 |0,x::r=>match adNil k x with
  |some y=>some (y::r)
  |none=>none
 |j+1,x::r=>match Ahe k j r with
  |some s=>some (x::s)
  |none=>none
def adMV(k:Nat):Option Nat->MV->Option MV
 |none,x=>adNil k x
 |some j,.agg cs=>(Ahe k j cs).map .agg
 |_,_=>none
def adObj(k j:Nat):Obj->Option Obj
 |⟨g,.box cs⟩=>(Ahe k j cs).map fun a=>⟨g,.box a⟩
 |_=>none
def AjL(k t:Nat)(j:Option Nat):List (Nat×MV)->Option (List (Nat×MV))
 |[]=>none
 |(q,x)::r=>bif Nat.beq q t then(adMV k j x).map fun y=>(q,y)::r else(AjL k t j r).map fun s=>(q,x)::s
def adBox(k q j:Nat):List (Nat×Obj)->Option (List (Nat×Obj))
 |[]=>none
 |(i,o)::r=>bif Nat.beq i q then(adObj k j o).map fun p=>(i,p)::r else(adBox k q j r).map fun s=>(i,o)::s
def adOne(k:Nat)(sl:List (Nat×MV))(ob:List (Nat×Obj)):AdP->Option (List (Nat×MV)×List (Nat×Obj))
 | .s t=>(AjL k t none sl).map fun s=>(s,ob)
 | .a t j=>(AjL k t (some j) sl).map fun s=>(s,ob)
 | .o q j=>(adBox k q j ob).map fun b=>(sl,b)
def adAll:List (AdP×Nat×Nat×(Nat->List PV))->List (Nat×MV)->List (Nat×Obj)->Option (List (Nat×MV)×List (Nat×Obj))
 |[],sl,ob=>some (sl,ob)
 |(p,k,W,f)::r,sl,ob=>bif Nat.ble 1000 k&&(assoc ob k).isNone then(adOne k sl ob p).bind fun q=>adAll r q.1 (insK k ⟨0,.row W 0 f⟩ q.2)else none
theorem AuG{k:Nat}{x y:MV}(h:adNil k x=some y):Ad1 k x y:=by
 unfold adNil at h;split at h
 ·rename_i W n f
  cases a:Nat.beq n 0 with
  |true=>
   rw[a]at h;have:=A3 a;subst this;simp only[cond_true,A1]at h;subst h
   exact .nil _ _
  |false=>rw[a]at h;simp at h
 ·simp at h
theorem Anf{k:Nat}:∀{j:Nat} {l m:List MV},Ahe k j l=some m->AdL k l m
 |_,[],_,h=>by simp[Ahe]at h
 |0,x::r,m,h=>by
  rw[Ahe]at h;split at h
  ·rename_i y b;simp only[A1]at h;subst h;exact .cons (AuG b) (.rfl _)
  ·simp at h
 |j+1,x::r,m,h=>by
  rw[Ahe]at h;split at h
  ·rename_i s a;simp only[A1]at h;subst h;exact .cons (.rfl _) (Anf a)
  ·simp at h
theorem adMV_ok{k:Nat}{j:Option Nat}{x y:MV}(h:adMV k j x=some y):Ad k x y:=by
 unfold adMV at h;split at h
 ·exact .one (AuG h)
 ·obtain⟨b,a,rfl⟩:=C7.mp h;exact .agg (Anf a)
 ·simp at h
theorem Ann{k t:Nat}{j:Option Nat}:∀{l m:List (Nat×MV)},AjL k t j l=some m->AdS k l m
 |[],_,h=>by simp[AjL]at h
 |(q,x)::r,m,h=>by
  rw[AjL]at h
  cases a:Nat.beq q t with
  |true=>
   rw[a,cond_true]at h;obtain⟨y,b,rfl⟩:=C7.mp h
   exact .cons (adMV_ok b) (.rfl _)
  |false=>
   rw[a,cond_false]at h;obtain⟨s,f,rfl⟩:=C7.mp h;exact .cons (.one (.rfl _)) (Ann f)
theorem AtM{k q j:Nat}:∀{l m:List (Nat×Obj)},adBox k q j l=some m->AdO k l m
 |[],_,h=>by simp[adBox]at h
 |(i,o)::r,m,h=>by
  rw[adBox]at h
  cases b:Nat.beq i q with
  |true=>
   rw[b,cond_true]at h;obtain⟨p,a,rfl⟩:=C7.mp h;unfold adObj at a;split at a
   ·obtain⟨n,f,rfl⟩:=C7.mp a;exact .box (Anf f) (.rfl _)
   ·simp at a
  |false=>
   rw[b,cond_false]at h;obtain⟨s,g,rfl⟩:=C7.mp h;exact .keep (AtM g)
theorem mkSt_ins(sl:List (Nat×MV))(k:Nat)(o:Obj)(ob:List (Nat×Obj)):Ac sl (insK k o ob)=Ac sl ((k,o)::ob):=by
 unfold Ac;congr 1;funext j;exact AwE k o ob j
theorem AxD{P:Program}{cx:Cx P}:∀(m:List (AdP×Nat×Nat×(Nat->List PV))) {sl j:List (Nat×MV)} {ob g:List (Nat×Obj)},adAll m sl ob=some (j,g)->Conv cx (Ac sl ob) (Ac j g)
 |[],sl,j,ob,g,h=>by
  simp only[adAll,A1,A4]at h;obtain⟨rfl,rfl⟩:=h
  exact .refl
 |(p,k,W,f)::r,sl,j,ob,g,h=>by
  rw[adAll]at h
  cases i:(Nat.ble 1000 k&&(assoc ob k).isNone)with
  |false=>rw[i]at h;simp at h
  |true=>
   rw[i,cond_true]at h;obtain⟨q,l,h⟩:=Option.bind_eq_some_iff.mp h;rw[A6,Option.isNone_iff_eq_none]at i
   have a:Conv cx (Ac sl ob) (Ac q.1 (insK k ⟨0,.row W 0 f⟩ q.2)):=by
    rw[mkSt_ins];unfold adOne at l;split at l
    ·obtain⟨s,n,rfl⟩:=C7.mp l;exact Conv.adopt k W f i.1 i.2 (Ann n) (AdO.rfl ob)
    ·obtain⟨s,n,rfl⟩:=C7.mp l;exact Conv.adopt k W f i.1 i.2 (Ann n) (AdO.rfl ob)
    ·obtain⟨b,o,rfl⟩:=C7.mp l;exact Conv.adopt k W f i.1 i.2 (AdS.rfl sl) (AtM o)
   exact a.trans (AxD r h)
theorem AxX{P:Program}{cx:Cx P}(a:List (AdP×Nat×Nat×(Nat->List PV))){sl f:List (Nat×MV)}{ob b:List (Nat×Obj)}(h:adAll a sl ob=some (f,b):=by kernel_rfl):Conv cx (Ac sl ob) (Ac f b):=AxD a h
theorem Conv.frz{P:Program}{cx:Cx P}(ks:List Nat){sl b:List (Nat×MV)}{ob a:List (Nat×Obj)}(h:Aqt ks (sl,ob)=(b,a):=by kernel_rfl):Conv cx (Ac sl ob) (Ac b a):=Axw ks h
section
variable {P:Program} {T:Ty} {cx:Cx P} {O:St} {Q:Exit->St->Prop} {R:Type}
theorem Ayb{c:Code}{r:List Code}{a:List (Nat×MV)}{ob0:List (Nat×Obj)}(f:List Nat)(us:List (Nat×MV))(b:List Nat)(g:List (Nat×Obj))(h:Conv cx (Ac a ob0) (Ac (up f us a) (up b g ob0)))(k:DW P cx (c::r) (Ac (up f us a) (up b g ob0)) Q):DW P cx (c::r) (Ac a ob0) Q:=DW.conv h k
theorem Conv.eqK{a sl:List (Nat×MV)}{ob0 ob:List (Nat×Obj)}(h:(a,ob0)=(sl,ob):=by kernel_rfl):Conv cx (Ac a ob0) (Ac sl ob):=by
 obtain⟨rfl,rfl⟩:=Prod.mk.inj h;exact .refl
theorem Conv.t0{sl:List (Nat×MV)}{ob:List (Nat×Obj)}(h:(Kp (Bw sl) (Bw ob) O,He (Bw ob) O)=(Ly [] sl,Ma [] ob):=by kernel_rfl):Conv cx O (Ac sl ob):=AxY [] [] h .nil .nil
theorem At{c:Operand}{x y:Code}{r:List Code}{b:Bool}{X Y:Option R}{res:R}(a:(if b=true then X else Y)=some res)(h:b=true->X=some res->DW P cx (x::r) O Q)(g:b=false->Y=some res->DW P cx (y::r) O Q)
  (f:Au c=true:=by kernel_rfl) (i:ev O c=.p (.v (.bool b)):=by kernel_rfl):DW P cx (.cond c x y::r) O Q:=
 DW.cond b f i (fun e=>h e (if_t e a)) (fun e=>g e (if_f e a))
theorem condK{c:Operand}{x y:Code}{r:List Code}(b:Bool)(g:b=true->DW P cx (x::r) O Q)(f:b=false->DW P cx (y::r) O Q)
  (a:Au c=true:=by kernel_rfl) (h:ev O c=.p (.v (.bool b)):=by kernel_rfl):DW P cx (.cond c x y::r) O Q:=DW.cond b a h g f
theorem Ald{c:Operand}{x y:Code}{r:List Code}{b:Bool}(g:b=true)(f:DW P cx (x::r) O Q)
  (a:Au c=true:=by kernel_rfl) (h:ev O c=.p (.v (.bool b)):=by kernel_rfl):DW P cx (.cond c x y::r) O Q:=DW.cond b a h (fun _=>f) (fun e=>by rw[g]at e;cases e)
theorem Agb{c:Operand}{x y:Code}{r:List Code}{b:Bool}(g:b=false)(f:DW P cx (y::r) O Q)
  (a:Au c=true:=by kernel_rfl) (h:ev O c=.p (.v (.bool b)):=by kernel_rfl):DW P cx (.cond c x y::r) O Q:=DW.cond b a h (fun e=>by rw[g]at e;cases e) (fun _=>f)
theorem retK{results:List ResultVar}{m:Nat}{res:MV}{bs:List Body}(b:List Body)(ex:List Nat)(a:MV)(h:fin T results m ex O=some (a,b):=by kernel_rfl)(e:a=res:=by rfl)(e2:b=bs:=by rfl):Afl T results m res bs .ret O:=retOK ex a h e e2
theorem endK{results:List ResultVar}{m:Nat}{res:MV}{bs:List Body}(b:List Body)(ex:List Nat)(a:MV)(h:fin T results m ex O=some (a,b):=by kernel_rfl)(e:a=res:=by rfl)(e2:b=bs:=by rfl):Afl T results m res bs .normal O:=endOK ex a h e e2
theorem Sq{x y:Code}{r:List Code}(h:DW P cx (x::y::r) O Q):DW P cx (.seq x y::r) O Q:=DW.seq h
theorem Sk{r:List Code}(h:DW P cx r O Q):DW P cx (.skip::r) O Q:=DW.skip h
theorem Bk{id:Nat}{c:Code}{r:List Code}(h:DW P cx [c] O (Rk id (KQ P cx r Q))):DW P cx (.block id c::r) O Q:=DW.block h
theorem jD{ι:Type}{J:ι->St}{m:ι->Prop}(i:ι)(a:m i)(b:Conv cx O (J i)):DW P cx [] O (Nq cx J m Q):=AkS i a b
theorem bD{ι:Type}{J:ι->St}{m:ι->Prop}{id:Nat}(i:ι)(a:m i)(b:Conv cx O (J i)):DW P cx [] O (Rk id (KQ P cx [] (Nq cx J m Q))):=blockDone i a b
theorem tv:True:=trivial
theorem sj{a b:R}(h:some a=some b):a=b:=J3 h
theorem go1{p:Prop}[Decidable p]{x:Option R}{r:R}(h:(if p then x else none)=some r):p/\x=some r:=Awz h
end
end Go.Dm

namespace Go.Dm
open Go.ChangeShapes Go.WideShapes Go.ChangeAt Go.RowKit
section
variable {P:Program} {fl:Bool} {V U:Type} {t:TypeId} {n:Nat} {en:V->List PV} {good:V->Prop}
variable {H:Type} {enc:TypeId×Value->H}
end
end Go.Dm
