/- Texts of the proof of TopConfigured: the data machine, the models of the Go functions, their contracts. -/
import Derived.Test.YtddpkhjinlbaoaaGreatDoorTopConfiguredA0
import Derived.IntWalk
import Derived.RangeFuncLeaves
import Derived.RangeFuncRecord
set_option linter.unusedVariables false
set_option linter.unusedSimpArgs false
namespace Go.Dm
def AeB (T:Ty) (t:Nat):Option (Nat×Nat×Nat×Nat) :=
 match assoc T t with
 | some ⟨.map k e,_,_,_,_⟩=>match assoc T k with
  | some ⟨.struct [(0,a),(1,c)],_,_,_,true⟩=>match assoc T a,assoc T c with
   | some ⟨.int .i64,_,_,_,_⟩,some ⟨.int .i64,_,_,_,_⟩=>some (k,e,a,c)
   | _,_=>none
  | _=>none
 | _=>none
def key2 (x:MV):Option (Int×Int) :=
 match x.aggc with
 | some [.p (.v (.int .i64 a)),.p (.v (.int .i64 c))]=>some (a,c)
 | _=>none
def Pl {α:Type} (f:Int→Int→α) (a c:Int) (x:α):Int→Int→α:=fun i j=>if i=a∧j=c then x else f i j
def getPm (ob:Nat→Option Obj) (k g:Nat):Option (PV×(Int→Int→Bool)×(Int→Int→PV)) :=
 match ob k with
 | some ⟨g',.mq (.pm z has f)⟩=>bif Nat.beq g' g then some (z,has,f) else none
 | _=>none
def Lc (T:Ty) (t dst:Nat) (ob:Nat→Option Obj):Option Eff :=
 match AeB T t with
 | some (_,e,_,_)=>match Ye T e with
  | some z=>some (.mref (key dst 0) (Bl (ob (key dst 0))),[(key dst 0,⟨Bl (ob (key dst 0)),.mq (.pm z (fun _ _=>false) (fun _ _=>z))⟩)],[])
  | none=>none
 | none=>none
def Ua (T:Ty) (t:Nat) (ob:Nat→Option Obj) (ok:Bool) (x y:MV):Option Eff :=
 match AeB T t,key2 y,x with
 | some (_,e,_,_),some (a,c),.mref k g =>
  match Ye T e,getPm ob k g with
  | some z0,some (z,has,f)=>some (bif ok then .tup [.p (f a c),.p (.v (.bool (has a c)))] else .p (f a c),[],[PLe z0 z])
  | _,_=>none
 | _,_,_=>none
def Je (T:Ty) (t:Nat) (ob:Nat→Option Obj) (m k v:MV):Option Eff :=
 match AeB T t,m,key2 k,v.whole with
 | some _,.mref q g,some (a,c),some x=>match getPm ob q g with
  | some (z,has,f)=>some (.und,[(q,⟨g,.mq (.pm z (Pl has a c true) (Pl f a c x))⟩)],[])
  | none=>none
 | _,_,_,_=>none
theorem AeG {ob:Nat→Option Obj} {k g:Nat} {z:PV} {has:Int→Int→Bool} {f:Int→Int→PV} (h:getPm ob k g=some (z,has,f)):ob k=some ⟨g,.mq (.pm z has f)⟩:=by
 unfold getPm at h
 split at h
 ·rename_i g' z' has' f' ho
  cases hb:Nat.beq g' g with
  | false=>simp [hb] at h
  | true =>
   simp [hb] at h
   rw [ho,Nat.eq_of_beq_eq_true hb,h.1,h.2.1,h.2.2]
 ·simp at h
section
variable {P : Program} {T:Ty} {cx:Cx P} {β:Bi} {σ:St} {a:Act} {w:World}
theorem AdV (hT:Gk P T) (hE:∀ t i,assoc T t=some i→i.eq=true→Vr P t) {t k e a c:Nat} (h:AeB T t=some (k,e,a,c)) :
  P.underlying t=some (.map k e)∧Vr P k∧(∃ f1 f2:Field,P.underlying k=some (.struct #[f1,f2])∧f1.offset=0∧f1.type=a∧f2.offset=1∧f2.type=c) ∧
  (∃ i,assoc T a=some i∧i.kd = .int .i64)∧(∃ i,assoc T c=some i∧i.kd = .int .i64)∧(∀ ps qs b,eqFields T [(0,a),(1,c)] ps qs=some b→eqFields T [(0,a),(1,c)] ps qs=some b):=by
 unfold AeB at h
 split at h
 case h_2=>simp at h
 rename_i k' e' s1 s2 s3 s4 hi
 split at h
 case h_2=>simp at h
 rename_i a' c' q1 q2 q3 hi2
 split at h
 case h_2=>simp at h
 rename_i r1 r2 r3 r4 r5 r6 r7 r8 hi3 hi4
 simp only [Option.some.injEq,Prod.mk.injEq] at h
 obtain ⟨rfl,rfl,rfl,rfl⟩:=h
 refine ⟨(hT t _ hi).map rfl,hE _ _ hi2 rfl,?_,⟨_,hi3,rfl⟩,⟨_,hi4,rfl⟩,fun _ _ _ h=>h⟩
 obtain ⟨fields,hu,hfs⟩:=(hT k' _ hi2).struct rfl
 obtain ⟨l⟩:=fields
 simp only at hfs
 match l,hfs with
 | [f1,f2],hfs =>
  simp only [List.map_cons,List.map_nil,List.cons.injEq,Prod.mk.injEq,and_true] at hfs
  exact ⟨f1,f2,hu,hfs.1.1,hfs.1.2,hfs.2.1,hfs.2.2⟩
 | [],hfs=>simp at hfs
 | [_],hfs=>simp at hfs
 | _::_::_::_,hfs=>simp at hfs
theorem AkL {k:Nat} {f1 f2:Field} (hk:P.underlying k=some (.struct #[f1,f2])) (h1:f1.offset=0) (h2:f2.offset=1) (e1:P.underlying f1.type=some (.int .i64)) (e2:P.underlying f2.type=some (.int .i64))
  {i1 i2:TI} (hF1:TyFact P f1.type i1) (g1:i1.kd.agg=false) (hF2:TyFact P f2.type i2) (g2:i2.kd.agg=false) (b:Bool) (x y:Int) (d:Nat) :
  (Instr.checkKey b (d+1+1) k (kp x y)).run P w = .ok () w:=by
 have p1:(part f1.type #[.int .i64 x,.int .i64 y] 0).run P w = .ok (.int .i64 x) w:=AdF hF1 g1 (by rfl)
 have p2:(part f2.type #[.int .i64 x,.int .i64 y] 1).run P w = .ok (.int .i64 y) w:=AdF hF2 g2 (by rfl)
 have c1:=Uk (w:=w) e1 b x d
 have c2:=Uk (w:=w) e2 b y d
 unfold Instr.checkKey kp
 by_cases n1:f1.name = "_" <;> by_cases n2:f2.name = "_" <;> simp [run_underlying hk,h1,h2,n1,n2,p1,p2,c1,c2]
theorem AfA {k:Nat} {f1 f2:Field} (hk:P.underlying k=some (.struct #[f1,f2])) (h1:f1.offset=0) (h2:f2.offset=1) (e1:P.underlying f1.type=some (.int .i64)) (e2:P.underlying f2.type=some (.int .i64))
  {i1 i2:TI} (hF1:TyFact P f1.type i1) (g1:i1.kd.agg=false) (hF2:TyFact P f2.type i2) (g2:i2.kd.agg=false) (b:Bool) (x y:Int) :
  (Instr.checkKey b 10000 k (kp x y)).run P w = .ok () w:=AkL hk h1 h2 e1 e2 hF1 g1 hF2 g2 b x y 9998
theorem AkC (hT:Gk P T) {k a c:Nat} (hE:Vr P k) {f1 f2:Field} (hk:P.underlying k=some (.struct #[f1,f2])) (h1:f1.offset=0) (h2:f2.offset=1) (ha:f1.type=a) (hc:f2.type=c)
  (ia:∃ i,assoc T a=some i∧i.kd = .int .i64) (ic:∃ i,assoc T c=some i∧i.kd = .int .i64) (x y x' y':Int) :
  (Op.equal k (kp x y) (kp x' y')).run P w = .ok (x==x'&&y==y') w:=by
 obtain ⟨e1,e2,e3⟩:=hE
 have hfo:P.fieldsOf k = #[f1,f2]:=by simp [Program.fieldsOf,hk]
 obtain ⟨i1,q1,q2⟩:=ia
 obtain ⟨i2,r1,r2⟩:=ic
 have hcell:∀ (x y:Int) (i:Nat) p,[PV.v (.int .i64 x),PV.v (.int .i64 y)][i]? = some p→∃ u,(#[Value.int .i64 x,Value.int .i64 y])[i]? = some u∧Rep (fun _=>True) w u p:=by
  intro x y i p hi
  match i,hi with
  | 0,hi=>simp at hi; subst hi; exact ⟨_,rfl,.v _ rfl⟩
  | 1,hi=>simp at hi; subst hi; exact ⟨_,rfl,.v _ rfl⟩
  | i+2,hi=>simp at hi
 have hef:eqFields T [(0,a),(1,c)] [PV.v (.int .i64 x),PV.v (.int .i64 y)] [PV.v (.int .i64 x'),PV.v (.int .i64 y')]=some (x==x'&&(y==y'&&true)):=by
  simp [eqFields,q1,r1,q2,r2,Hq,Aax]
 have hrun:=Age (P:=P) (w:=w) (S:=fun _=>True) hT (hcell x y) (hcell x' y') 9998 [f1,f2] _ _ (by simp [h1,h2,ha,hc]) (by rw [← (show (P.fieldsOf k).toList = [f1,f2] by rw [hfo])]; exact e3) hef
 have heq:=run_equalIn_struct w 9999 k #[.int .i64 x,.int .i64 y] #[.int .i64 x',.int .i64 y'] (by rw [hfo]; exact hk) e1
 show (Op.equalIn (9999+1) k (kp x y) (kp x' y')).run P w=_
 unfold kp
 rw [heq,hfo]
 rw [show (#[f1,f2]:Array Field).toList = [f1,f2] from rfl,hrun,Bool.and_true]
theorem Akn {k:Nat} (hq:∀ x y x' y',(Op.equal k (kp x y) (kp x' y')).run P w = .ok (x==x'&&y==y') w) (x y:Int):∀ (es:List MapEntry) (s:Nat),(∀ e∈es,∃ a c,e.key=kp a c) →
  ((Instr.findAsking k (kp x y) es s).run P w = .ok none w∧∀ e∈es,e.key≠kp x y) ∨
  ∃ (j:Nat) (e:MapEntry),(Instr.findAsking k (kp x y) es s).run P w = .ok (some (s+j,e.val)) w∧es[j]? = some e∧e.key=kp x y:=by
 intro es
 induction es with
 | nil=>intro s _; exact .inl ⟨by simp [Instr.findAsking],by simp⟩
 | cons e r ih =>
  intro s h
  obtain ⟨a,c,hm⟩:=h e (by simp)
  by_cases hn:x=a∧y=c
  ·obtain ⟨rfl,rfl⟩:=hn
   right
   exact ⟨0,e,by simp [Instr.findAsking,hm,hq],rfl,hm⟩
  ·have hb:(x==a&&y==c)=false:=by
    cases hh:(x==a&&y==c) with
    | false=>rfl
    | true=>simp at hh; exact absurd hh hn
   have hf:(Instr.findAsking k (kp x y) (e::r) s).run P w=(Instr.findAsking k (kp x y) r (s+1)).run P w:=by
    simp [Instr.findAsking,hm,hq,hb]
   rcases ih (s+1) (fun e' he'=>h e' (by simp [he'])) with ⟨h1,h2⟩|⟨j,e',h1,h2,h3⟩
   ·left
    refine ⟨by rw [hf,h1],fun e' he' => ?_⟩
    rcases List.mem_cons.1 he' with rfl|he'
    ·rw [hm]
     intro hh
     simp [kp] at hh
     exact hn ⟨hh.1.symm,hh.2.symm⟩
    ·exact h2 e' he'
   ·right
    exact ⟨j+1,e',by rw [hf,h1]; congr 3; omega,by simpa using h2,h3⟩
theorem Ahk {k:Nat} {f1 f2:Field} (hk:P.underlying k=some (.struct #[f1,f2])) (hq:∀ x y x' y',(Op.equal k (kp x y) (kp x' y')).run P w = .ok (x==x'&&y==y') w) {es:Array MapEntry} {has:Int→Int→Bool} (hm:PMOK es has) (x y:Int) :
  (has x y=false∧(Instr.findKey k (kp x y) es.toList).run P w = .ok none w) ∨
  (has x y=true∧∃ (j:Nat) (e:MapEntry),(Instr.findKey k (kp x y) es.toList).run P w = .ok (some (j,e.val)) w∧es[j]? = some e∧e.key=kp x y):=by
 have hkeys:∀ e∈es.toList,∃ a c,e.key=kp a c:=by
  intro e he
  obtain ⟨i,hi,rfl⟩:=List.getElem_of_mem he
  obtain ⟨a,c,h1,_⟩:=hm.1 i es.toList[i] (by simp at hi ⊢)
  exact ⟨a,c,h1⟩
 have hrun:(Instr.findKey k (kp x y) es.toList).run P w=(Instr.findAsking k (kp x y) es.toList 0).run P w:=by
  cases hl:es.toList with
  | nil=>simp [Instr.findKey,run_underlying hk,Instr.findNow,Instr.findAsking]
  | cons e r =>
   have:Instr.findNow (.struct #[f1,f2]) (kp x y) (e::r) 0=none:=by
    simp [Instr.findNow,Instr.sameNow]
   simp [Instr.findKey,run_underlying hk,this]
 rcases Akn hq x y es.toList 0 hkeys with ⟨h1,h2⟩|⟨j,e,h1,h2,h3⟩
 ·left
  refine ⟨?_,by rw [hrun,h1]⟩
  cases hh:has x y with
  | false=>rfl
  | true =>
   obtain ⟨i,e,h4,h5⟩:=hm.2.1 x y hh
   exact absurd h5 (h2 e (by simpa using Array.mem_of_getElem? h4))
 ·right
  have h2':es[j]? = some e:=by simpa using h2
  obtain ⟨a,c,h4,h5⟩:=hm.1 j e h2'
  rw [h3] at h4
  simp [kp] at h4
  obtain ⟨rfl,rfl⟩:=h4
  exact ⟨h5,j,e,by rw [hrun,h1]; simp,h2',h3⟩
theorem AmO {S:Nat→Prop} {objs:Ar} {v:Value} {x:MV} {p q:Int} (h:RelV β objs S w v x) (hk:key2 x=some (p,q)):v=kp p q:=by
 unfold key2 at hk
 split at hk
 case h_2=>simp at hk
 rename_i a c hc
 simp only [Option.some.injEq,Prod.mk.injEq] at hk
 obtain ⟨rfl,rfl⟩:=hk
 obtain ⟨us,hus,hul,hur⟩:=Afj h hc
 have h0:=(hur 0 _ rfl).1.inv_v.1
 have h1:=(hur 1 _ rfl).1.inv_v.1
 rw [hus]
 unfold kp
 congr 1
 refine Array.ext (by simpa using hul) fun i h3 h4 => ?_
 have h5:i<2:=by simpa using h4
 match i,h5 with
 | 0,_=>simpa [Array.getD_eq_getD_getElem?,h3] using h0
 | 1,_=>simpa [Array.getD_eq_getD_getElem?,h3] using h1
theorem Aop (hT:Mm P T) (hE:∀ t i,assoc T t=some i→i.eq=true→Vr P t) (h:Rel cx β σ a w) {t:Nat} {ok:Bool} {ox oy:Operand} (hx:An ox=true) (hy:An oy=true) {y:MV} {wo obl} {ob:Nat→Option Obj}
  (hob:∀ k o,ob k=some o→σ.objs k=some o) (he:Ua T t ob ok (ev σ ox) (ev σ oy)=some (y,wo,obl)) (ho:All obl) :
  Out P cx σ a (Instr.lookup t (a.eval ox) (a.eval oy) ok) w y wo:=by
 have rx:=Ba h ox hx
 have ry:=Ba h oy hy
 unfold Ua at he
 split at he
 case h_2=>simp at he
 rename_i k e ta tc p q k1 g hmt hkey hp
 obtain ⟨hu,hEq,⟨f1,f2,hk,o1,t1,o2,t2⟩,ia,ic,_⟩:=AdV hT.1 hE hmt
 have ey:=AmO ry hkey
 split at he
 case h_2=>simp at he
 rename_i z0 z has f hz0 hm
 simp only [Option.some.injEq,Prod.mk.injEq] at he
 obtain ⟨rfl,rfl,rfl⟩:=he
 simp only [All,and_true] at ho
 rw [hp] at rx
 obtain ⟨b,hv,hkn⟩:=rx.inv_mref
 have ho1:=hob _ _ (AeG hm)
 have hl:=hkn.get ho1
 obtain ⟨b',es,clock,hl',hh,hmo,hzz,hr⟩:=h.ob k1 _ ho1
 rw [hl] at hl'
 injection hl' with hl'
 subst hl'
 rw [hv,ey]
 obtain ⟨v0,hv0,hrep0⟩:=Aee (P:=P) (w:=w) hT hz0 (S:=Al cx.Av β σ.objs w)
 have hget:(getObj b).run P w = .ok (.map es clock) w:=by simp [getObj,Sem.run,hh]
 have hq:=AkC (P:=P) (w:=w) hT.1 hEq hk o1 o2 t1 t2 ia ic
 obtain ⟨i1,q1,q2⟩:=ia
 obtain ⟨i2,r1,r2⟩:=ic
 have hF1:TyFact P f1.type i1:=by rw [t1]; exact hT.1 _ _ q1
 have hF2:TyFact P f2.type i2:=by rw [t2]; exact hT.1 _ _ r1
 have hck:(Instr.checkKey es.isEmpty 10000 k (kp p q)).run P w = .ok () w:=AfA hk o1 o2 (hF1.int q2) (hF2.int r2) hF1 (by rw [q2]; rfl) hF2 (by rw [r2]; rfl) _ p q
 have hend:∀ (u:Value),Rep (Al cx.Av β σ.objs w) w u (f p q) →
   RelV β σ.objs (Al cx.Av β σ.objs w) w (if ok=true then .tuple #[u,.bool (has p q)] else u) (bif ok then .tup [.p (f p q),.p (.v (.bool (has p q)))] else .p (f p q)):=by
  intro u hu2
  cases ok with
  | false=>exact .p _ _ hu2
  | true =>
   refine .tup _ _ rfl (fun i q hi => ?_)
   match i,hi with
   | 0,hi=>simp at hi; subst hi; exact .p _ _ hu2
   | 1,hi=>simp at hi; subst hi; exact .mk_v rfl
   | i+2,hi=>simp at hi
 rcases Ahk (P:=P) (w:=w) hk hq hmo p q with ⟨h1,h2⟩|⟨h1,j,e1,h2,h3,h4⟩
 ·refine Aqm h ?_ (hend v0 (by rw [hzz p q h1]; exact ho _ _ _ hrep0))
  simp [Instr.lookup,run_underlying hu,hget,hck,h2,hv0,h1]
 ·refine Aqm h ?_ (hend e1.val (hr j e1 p q h3 h4))
  simp [Instr.lookup,run_underlying hu,hget,hck,h2,h1]
theorem AgG (hT:Mm P T) (hE:∀ t i,assoc T t=some i→i.eq=true→Vr P t) (h:Rel cx β σ a w) {t dst:Nat} {r:Option Value} (hr:r=none∨∃ k n,r=some (.int k n)) {y:MV} {wo obl} {ob:Nat→Option Obj} (hob:ob (key dst 0)=σ.objs (key dst 0))
  (he:Lc T t dst ob=some (y,wo,obl)):Out P cx σ a (Instr.makeMap t r) w y wo:=by
 unfold Lc at he
 split at he
 case h_2=>simp at he
 rename_i k e ta tc hmt
 obtain ⟨hu,_⟩:=AdV hT.1 hE hmt
 split at he
 case h_2=>simp at he
 rename_i z hz
 simp only [Option.some.injEq,Prod.mk.injEq] at he
 obtain ⟨rfl,rfl,rfl⟩:=he
 refine ⟨.map (some w.heap.size),w.alloc (.map #[] 0),Fo β (key dst 0) (.box w.heap.size),?_,?_,?_⟩
 ·rcases hr with rfl|⟨k1,n1,rfl⟩
  ·simp [Instr.makeMap]
  ·simp [Instr.makeMap,run_underlying hu,asInt,asIntOf]
 ·simp only [Cb,hob]
  refine h.fresh (key dst 0) _ (.box w.heap.size) w (.map #[] 0) ⟨rfl,rfl,rfl,rfl⟩ rfl (.inl (by unfold key; omega)) ?_
  intro S' β' objs' hS hg
  exact ⟨w.heap.size,#[],0,rfl,heap_alloc_new w _,⟨fun i e hi=>by simp at hi,fun a c hn=>by simp at hn,fun i j e e' hi=>by simp at hi⟩,fun _ _ _=>rfl,fun i e a c hi=>by simp at hi⟩
 ·simp only [Cb,hob]
  exact .mref _ _ _ ⟨_,Bb _ _ _,Nat.le_refl _,fun _=>by rw [Db]⟩
theorem Aok (x y:Int):Instr.sameBits 10000 (kp x y) (kp x y)=true:=by
 show Instr.sameBits (9999+1) (kp x y) (kp x y)=true
 simp [Instr.sameBits,kp]
theorem Aho {a c a' c':Int} (h:kp a c=kp a' c'):a=a'∧c=c':=by
 simpa [kp] using h
theorem AiH (hT:Mm P T) (hE:∀ t i,assoc T t=some i→i.eq=true→Vr P t) (h:Rel cx β σ a w) {t:Nat} {om ok ov:Operand} (hm:An om=true) (hk:An ok=true) (hv:An ov=true) {y:MV} {wo obl} {ob:Nat→Option Obj}
  (hob:∀ k o,ob k=some o→σ.objs k=some o) (he:Je T t ob (ev σ om) (ev σ ok) (ev σ ov)=some (y,wo,obl)) :
  ∃ w' β',(Instr.mapUpdate t (a.eval om) (a.eval ok) (a.eval ov)).run P w = .ok () w'∧Rel cx β' ⟨σ.slots,Cb σ.objs wo⟩ a w'∧y = .und:=by
 have rm:=Ba h om hm
 have rk:=Ba h ok hk
 have rv:=Ba h ov hv
 unfold Je at he
 split at he
 case h_2=>simp at he
 rename_i mt q g p r x hmt hpm hkey hpv
 obtain ⟨k,e,ta,tc⟩:=mt
 obtain ⟨hu,hEq,⟨f1,f2,hkt,o1,t1,o2,t2⟩,ia,ic,_⟩:=AdV hT.1 hE hmt
 split at he
 case h_2=>simp at he
 rename_i z has f hg
 simp only [Option.some.injEq,Prod.mk.injEq] at he
 obtain ⟨rfl,rfl,rfl⟩:=he
 rw [hpm] at rm
 have ek:=AmO rk hkey
 have hrep:=Ahm rv hpv
 obtain ⟨b,hbv,hkn⟩:=rm.inv_mref
 have ho1:=hob _ _ (AeG hg)
 have hl:=hkn.get ho1
 obtain ⟨b',es,clock,hl',hh,hmo,hzz,hr⟩:=h.ob q _ ho1
 rw [hl] at hl'
 injection hl' with hl'
 subst hl'
 have hq:=AkC (P:=P) (w:=w) hT.1 hEq hkt o1 o2 t1 t2 ia ic
 obtain ⟨i1,q1,q2⟩:=ia
 obtain ⟨i2,r1,r2⟩:=ic
 have hF1:TyFact P f1.type i1:=by rw [t1]; exact hT.1 _ _ q1
 have hF2:TyFact P f2.type i2:=by rw [t2]; exact hT.1 _ _ r1
 have hck:(Instr.checkKey false 10000 k (kp p r)).run P w = .ok () w:=AfA hkt o1 o2 (hF1.int q2) (hF2.int r2) hF1 (by rw [q2]; rfl) hF2 (by rw [r2]; rfl) _ p r
 have hget:(getObj b).run P w = .ok (.map es clock) w:=by simp [getObj,Sem.run,hh]
 have hset:∀ o,(setObj b o).run P w = .ok () { w with heap:=w.heap.setIfInBounds b o } := by intro o; simp [setObj,Sem.run,hh]
 have fin:∀ (es':Array MapEntry) (clock':Nat),PMOK es' (Pl has p r true) →
   (∀ (i:Nat) (e:MapEntry) (m n:Int),es'[i]? = some e→e.key=kp m n→Rep (Al cx.Av β σ.objs w) w e.val (Pl f p r x m n)) →
   Rel cx β ⟨σ.slots,Bj σ.objs q ⟨g,.mq (.pm z (Pl has p r true) (Pl f p r x))⟩⟩ a { w with heap:=w.heap.setIfInBounds b (.map es' clock') } := by
  intro es' clock' hm' hr'
  refine h.reput (bd' := .mq (.pm z (Pl has p r true) (Pl f p r x))) ho1 hl trivial trivial trivial hh (.map es' clock') fun S' w' hS hw hb objs' => ?_
  refine ⟨b,es',clock',rfl,hb,hm',fun m n hmf => ?_,fun i e m n hi hem=>(hr' i e m n hi hem).mono hS hw⟩
  simp only [Pl] at hmf ⊢
  split at hmf
  ·simp at hmf
  ·rename_i hne
   rw [if_neg hne]
   exact hzz m n hmf
 rw [hbv,ek]
 rcases Ahk (P:=P) (w:=w) hkt hq hmo p r with ⟨h1,h2⟩|⟨h1,j,e1,h2,h3,h4⟩
 ·refine ⟨_,β,?_,fin (es.push { key:=kp p r,val:=a.eval ov,born:=clock }) (clock+1) ?_ ?_,rfl⟩
  ·simp [Instr.mapUpdate,run_underlying hu,hget,hck,h2,hset]
  ·have hpush:∀ (i:Nat) (e:MapEntry),(es.push { key:=kp p r,val:=a.eval ov,born:=clock })[i]? = some e→(es[i]? = some e)∨(i=es.size∧e = { key:=kp p r,val:=a.eval ov,born:=clock }):=by
    intro i e hi
    rw [Array.getElem?_push] at hi
    split at hi
    ·rename_i hie; right; exact ⟨hie,by simpa using hi.symm⟩
    ·left; exact hi
   have hnk:∀ (i:Nat) (e:MapEntry),es[i]? = some e→e.key≠kp p r:=by
    intro i e hi hek
    obtain ⟨m,n,h5,h6⟩:=hmo.1 i e hi
    rw [hek] at h5
    obtain ⟨rfl,rfl⟩:=Aho h5
    rw [h1] at h6
    simp at h6
   refine ⟨fun i e hi => ?_,fun m n hmt2 => ?_,fun i j e e' hi hj he1 => ?_⟩
   ·rcases hpush i e hi with h5|⟨_,rfl⟩
    ·obtain ⟨m,n,h6,h7⟩:=hmo.1 i e h5
     refine ⟨m,n,h6,?_⟩
     simp only [Pl]
     split
     ·rfl
     ·exact h7
    ·exact ⟨p,r,rfl,by simp [Pl]⟩
   ·simp only [Pl] at hmt2
    by_cases hmn:m=p∧n=r
    ·obtain ⟨rfl,rfl⟩:=hmn
     exact ⟨es.size,{ key:=kp m n,val:=a.eval ov,born:=clock },by simp,rfl⟩
    ·rw [if_neg hmn] at hmt2
     obtain ⟨i,e,h5,h6⟩:=hmo.2.1 m n hmt2
     have hlt:=(Array.getElem?_eq_some_iff.1 h5).1
     exact ⟨i,e,by rw [Array.getElem?_push,if_neg (by omega)]; exact h5,h6⟩
   ·rcases hpush i e hi with h5|⟨h5,rfl⟩
    ·rcases hpush j e' hj with h6|⟨h6,rfl⟩
     ·exact hmo.2.2 i j e e' h5 h6 he1
     ·exact absurd he1 (hnk i e h5)
    ·rcases hpush j e' hj with h6|⟨h6,rfl⟩
     ·exact absurd he1.symm (hnk j e' h6)
     ·omega
  ·intro i e m n hi hem
   rw [Array.getElem?_push] at hi
   split at hi
   ·simp at hi
    subst hi
    simp only at hem
    obtain ⟨rfl,rfl⟩:=Aho hem
    simp only [Pl,and_self,if_true]
    exact hrep
   ·have hne:¬ (m=p∧n=r):=by
     rintro ⟨rfl,rfl⟩
     obtain ⟨m',n',h5,h6⟩:=hmo.1 i e hi
     rw [hem] at h5
     obtain ⟨rfl,rfl⟩:=Aho h5
     rw [h1] at h6
     simp at h6
    simp only [Pl,if_neg hne]
    exact hr i e m n hi hem
 ·have hjlt:j<es.size:=(Array.getElem?_eq_some_iff.1 h3).1
  have hmod:∀ (i:Nat),(es.modify j fun e => { e with key:=kp p r,val:=a.eval ov })[i]? = if i=j then some { e1 with key:=kp p r,val:=a.eval ov } else es[i]? := by
   intro i
   rw [Array.getElem?_modify]
   by_cases hij:j=i
   ·subst hij; simp [h3]
   ·have:¬ i=j:=fun e=>hij e.symm
    simp [hij,this]
  refine ⟨_,β,?_,fin (es.modify j fun e => { e with key:=kp p r,val:=a.eval ov }) clock ?_ ?_,rfl⟩
  ·have hkk:((es[j]?).map (·.key)).getD (kp p r)=kp p r:=by rw [h3]; simp [h4]
   have hks:∀ (v:Value),v=kp p r→(Instr.keyThatStays v (kp p r)).run P w = .ok (kp p r) w:=by
    intro v hv2
    subst hv2
    simp [Instr.keyThatStays,Aok]
   simp [Instr.mapUpdate,run_underlying hu,hget,hck,h2,hset,hks _ hkk]
  ·have hkey:∀ (i:Nat) (e:MapEntry),(es.modify j fun e => { e with key:=kp p r,val:=a.eval ov })[i]? = some e→∃ e0,es[i]? = some e0∧e0.key=e.key:=by
    intro i e hi
    rw [hmod i] at hi
    split at hi
    ·rename_i hij
     simp at hi
     subst hi
     exact ⟨e1,by rw [hij]; exact h3,h4⟩
    ·exact ⟨e,hi,rfl⟩
   refine ⟨fun i e hi => ?_,fun m n hmt2 => ?_,fun i i' e e' hi hi' he1 => ?_⟩
   ·rw [hmod i] at hi
    split at hi
    ·simp at hi
     subst hi
     exact ⟨p,r,rfl,by simp [Pl]⟩
    ·obtain ⟨m,n,h6,h7⟩:=hmo.1 i e hi
     refine ⟨m,n,h6,?_⟩
     simp only [Pl]
     split
     ·rfl
     ·exact h7
   ·simp only [Pl] at hmt2
    by_cases hmn:m=p∧n=r
    ·obtain ⟨rfl,rfl⟩:=hmn
     exact ⟨j,_,by rw [hmod j,if_pos rfl],rfl⟩
    ·rw [if_neg hmn] at hmt2
     obtain ⟨i,e,h5,h6⟩:=hmo.2.1 m n hmt2
     have hij:i≠j:=by
      intro hij
      subst hij
      rw [h3] at h5
      injection h5 with h5
      subst h5
      rw [h4] at h6
      obtain ⟨rfl,rfl⟩:=Aho h6
      exact hmn ⟨rfl,rfl⟩
     exact ⟨i,e,by rw [hmod i,if_neg hij]; exact h5,h6⟩
   ·obtain ⟨e0,q1,q2⟩:=hkey i e hi
    obtain ⟨e0',r1,r2⟩:=hkey i' e' hi'
    exact hmo.2.2 i i' e0 e0' q1 r1 (by rw [q2,r2]; exact he1)
  ·intro i e m n hi hem
   rw [hmod i] at hi
   split at hi
   ·simp at hi
    subst hi
    simp only at hem
    obtain ⟨rfl,rfl⟩:=Aho hem
    simp only [Pl,and_self,if_true]
    exact hrep
   ·rename_i hij
    have hne:¬ (m=p∧n=r):=by
     rintro ⟨rfl,rfl⟩
     exact hij (hmo.2.2 i j e e1 hi h3 (by rw [hem,h4]))
    simp only [Pl,if_neg hne]
    exact hr i e m n hi hem
def Akk (ob:Nat→Option Obj) (k g:Nat):Option (ByteArray×Nat) :=
 match ob k with
 | some ⟨g',.mq (.sit s pos)⟩=>bif Nat.beq g' g then some (s,pos) else none
 | _=>none
def Ph (T:Ty) (t dst:Nat) (ob:Nat→Option Obj) (x:MV):Option Eff :=
 match assoc T t,x with
 | some ⟨.str,_,_,_,_⟩,.p (.v (.string s))=>some (.ref (key dst 0) (Bl (ob (key dst 0))) 0,[(key dst 0,⟨Bl (ob (key dst 0)),.mq (.sit s 0)⟩)],[])
 | _,_=>none
def Zw (bx:Bool) (ob:Nat→Option Obj) (x:MV):Option Eff :=
 match x with
 | .ref k g 0=>match Akk ob k g with
  | some (s,pos)=>bif bx then
    some (.p (.tup [.v (.bool true),.v (.int .i64 (pos:Nat)),.v (.int .i32 (Utf8.decode s pos).1)]),[(k,⟨g,.mq (.sit s (pos+(Utf8.decode s pos).2))⟩)],[pos<s.size])
   else some (.p (.tup [.v (.bool false)]),[],[¬ pos<s.size])
  | none=>none
 | _=>none
theorem Aoe {ob:Nat→Option Obj} {k g:Nat} {s:ByteArray} {pos:Nat} (h:Akk ob k g=some (s,pos)):ob k=some ⟨g,.mq (.sit s pos)⟩:=by
 unfold Akk at h
 split at h
 ·rename_i g' s' p' ho
  cases hb:Nat.beq g' g with
  | false=>simp [hb] at h
  | true =>
   simp [hb] at h
   rw [ho,Nat.eq_of_beq_eq_true hb,h.1,h.2]
 ·simp at h
theorem Apj (hT:Gk P T) (h:Rel cx β σ a w) {t dst:Nat} {ox:Operand} (hx:An ox=true) {y:MV} {wo obl} {ob:Nat→Option Obj} (hob:ob (key dst 0)=σ.objs (key dst 0))
  (he:Ph T t dst ob (ev σ ox)=some (y,wo,obl)):Out P cx σ a (Instr.range t (a.eval ox)) w y wo:=by
 have rx:=Ba h ox hx
 unfold Ph at he
 split at he
 case h_2=>simp at he
 rename_i q1 q2 q3 q4 s hi hp
 have hu:=(hT t _ hi).str rfl
 simp only [Option.some.injEq,Prod.mk.injEq] at he
 obtain ⟨rfl,rfl,rfl⟩:=he
 rw [hp] at rx
 rw [rx.inv_v.1]
 refine ⟨.pointer (some ⟨w.heap.size,0,none⟩),w.alloc (.stringIter s 0),Fo β (key dst 0) (.box w.heap.size),?_,?_,?_⟩
 ·simp [Instr.range,run_underlying hu]
 ·simp only [Cb,hob]
  refine h.fresh (key dst 0) _ (.box w.heap.size) w (.stringIter s 0) ⟨rfl,rfl,rfl,rfl⟩ rfl (.inl (by unfold key; omega)) ?_
  intro S' β' objs' hS hg
  exact ⟨w.heap.size,rfl,heap_alloc_new w _⟩
 ·simp only [Cb,hob]
  exact .ref _ _ _ _ ⟨_,Bb _ _ _,Nat.le_refl _,fun _=>by rw [Db]⟩
theorem snd_nextS {bx:Bool} (h:Rel cx β σ a w) {ty:TypeId} {ox:Operand} (hx:An ox=true) {y:MV} {wo obl} {ob:Nat→Option Obj} (hob:∀ k o,ob k=some o→σ.objs k=some o)
  (he:Zw bx ob (ev σ ox)=some (y,wo,obl)) (ho:All obl):Out P cx σ a (Instr.next (a.eval ox) true ty) w y wo:=by
 have rx:=Ba h ox hx
 unfold Zw at he
 split at he
 case h_2=>simp at he
 rename_i k g hp
 split at he
 case h_2=>simp at he
 rename_i s pos hs
 rw [hp] at rx
 obtain ⟨b,hv,hkn⟩:=rx.inv_ref
 have ho1:=hob _ _ (Aoe hs)
 have hl:=hkn.get ho1
 obtain ⟨b',hl',hh⟩:=h.ob k _ ho1
 rw [hl] at hl'
 injection hl' with hl'
 subst hl'
 have hget:(getObj b).run P w = .ok (.stringIter s pos) w:=by simp [getObj,Sem.run,hh]
 have hset:∀ o,(setObj b o).run P w = .ok () { w with heap:=w.heap.setIfInBounds b o } := by intro o; simp [setObj,Sem.run,hh]
 rw [hv]
 cases bx with
 | true =>
  simp only [cond_true,Option.some.injEq,Prod.mk.injEq] at he
  obtain ⟨rfl,rfl,rfl⟩:=he
  have hlt:pos<s.size:=ho.1
  refine ⟨.tuple #[.bool true,.int .i64 (pos:Nat),.int .i32 (Utf8.decode s pos).1],{ w with heap:=w.heap.setIfInBounds b (.stringIter s (pos+(Utf8.decode s pos).2)) },β,?_,?_,?_⟩
  ·simp [Instr.next,at_,hget,hlt,hset,goInt]
  ·simp only [Cb]
   exact h.reput (bd' := .mq (.sit s (pos+(Utf8.decode s pos).2))) ho1 hl trivial trivial trivial hh _ fun S' w' hS hw hb' objs'=>⟨b,rfl,hb'⟩
  ·refine .p _ _ (.tup _ _ rfl fun i q hi => ?_)
   match i,hi with
   | 0,hi=>simp at hi; subst hi; exact .v _ rfl
   | 1,hi=>simp at hi; subst hi; exact .v _ rfl
   | 2,hi=>simp at hi; subst hi; exact .v _ rfl
   | i+3,hi=>simp at hi
 | false =>
  simp only [cond_false,Option.some.injEq,Prod.mk.injEq] at he
  obtain ⟨rfl,rfl,rfl⟩:=he
  have hlt:¬ pos<s.size:=ho.1
  refine Aqm h (v := .tuple #[.bool false]) ?_ ?_
  ·simp [Instr.next,at_,hget,hlt]
  ·refine .p _ _ (.tup _ _ rfl fun i q hi => ?_)
   match i,hi with
   | 0,hi=>simp at hi; subst hi; exact .v _ rfl
   | i+1,hi=>simp at hi
theorem snd_make (hT:Gk P T) (hz1:∀ t i,assoc T t=some i→i.zero.all (fun c=>c.oneCell')=true) (h:Rel cx β σ a w) {t dst:Nat} {ox oy:Operand} (hx:An ox=true) (hy:An oy=true) {y:MV} {wo obl} {ob:Nat→Option Obj}
  (hob:ob (key dst 0)=σ.objs (key dst 0)) (he:AbV T t dst ob (ev σ ox) (ev σ oy)=some (y,wo,obl)) (ho:All obl):Out P cx σ a (Instr.makeSlice t (a.eval ox) (a.eval oy)) w y wo:=by
 have rx:=Ba h ox hx
 have ry:=Ba h oy hy
 unfold AbV at he
 split at he
 case h_2=>simp at he
 rename_i e s1 s2 s3 s4 k1 z k2 c hi hpx hpy
 have hu:=(hT t _ hi).slice rfl
 split at he
 case h_2=>simp at he
 rename_i i hi2
 have hF:=hT e i hi2
 cases hb:(Nat.beq i.zero.length i.size&&Nat.blt 0 i.size) with
 | false=>simp only [hb,cond_false] at he; simp at he
 | true =>
 simp only [hb,cond_true] at he
 simp only [Bool.and_eq_true] at hb
 have b2:=Nat.eq_of_beq_eq_true hb.1
 have b3:0<i.size:=Nat.le_of_ble_eq_true hb.2
 split at he
 case h_2=>simp at he
 rename_i zs hzs
 simp only [Option.some.injEq,Ob,Prod.mk.injEq] at he
 obtain ⟨rfl,rfl,rfl⟩:=he
 obtain ⟨o1,o2,o3,o4,_⟩:=ho
 subst o2
 rw [hpx] at rx
 rw [hpy] at ry
 obtain ⟨vz,hz,hzc⟩:=hF.zeroValue w
 have hzsz:vz.cells.size=i.size:=by rw [← b2,← hzc]; simp
 obtain ⟨g1,g2⟩:=Ach h hzc (hz1 _ _ hi2)
 have hz0:=Cells.of g1 g2
 have hpz:=Fw hzs
 have hlenz:zs.length=i.size:=by
  have:=congrArg List.length hpz
  simp at this
  omega
 generalize hn:z.toNat=n
 have hz':z=(n:Int):=by omega
 obtain ⟨r1,r2⟩:=h.newRow (key dst 0) i.size n n ((Array.range (n*i.size)).map (vz.cells[· % vz.cells.size]!)) e (fun _=>zs) w ⟨rfl,rfl,rfl,rfl⟩ (.inl (by unfold key; omega)) (Nat.le_refl _) (by simp) (fun j hj=>by
  refine ⟨hlenz,fun q x hq => ?_⟩
  have hq1:q<i.size:=by rw [← hlenz]; exact (List.getElem?_eq_some_iff.1 hq).1
  have hmul:(j+1)*i.size≤n*i.size:=Nat.mul_le_mul_right _ hj
  have hexp:(j+1)*i.size=j*i.size+i.size:=Nat.succ_mul j i.size
  obtain ⟨u,u1,u2,u3⟩:=hz0.get (i:=q) (y := .p x) (by rw [hpz,List.getElem?_map,hq]; rfl)
  refine ⟨u,?_,u2,u3.inv_p⟩
  have e1:=AeW vz.cells n (by omega)
  rw [hzsz] at e1
  have e2:(((Array.range (n*i.size)).map (vz.cells[· % vz.cells.size]!)).toList)[j*i.size+q]? = some u:=by
   rw [hzsz,e1,Aae _ (by simp; omega) n _ (by simp [hzsz]; omega)]
   have e3:(j*i.size+q) % vz.cells.toList.length=q:=by
    rw [Array.length_toList,hzsz,Nat.mul_comm,Nat.mul_add_mod,Nat.mod_eq_of_lt hq1]
   rw [e3]
   exact u1
  rw [Array.getElem?_toList] at e2
  exact e2)
 rw [hob]
 refine ⟨_,_,_,?_,r1,r2⟩
 have hw:IntKind.i64.wrap z=z:=IntWalk.i64_in z ⟨by omega,by omega⟩
 have hroom:¬ (n*i.bytes>roomBytes):=by
  unfold roomBytes
  rw [hz'] at o4
  have:((n*i.bytes:Nat):Int)≤140737488355328:=by rw [Int.natCast_mul]; exact o4
  omega
 have hbig:¬ ((i.bytes:Int)*z>2 ^ 48):=by
  rw [Int.mul_comm]
  omega
 have hneg:¬ z<0:=by omega
 rw [rx.inv_v.1,ry.inv_v.1]
 obtain ⟨xi,zi,hinfo,hxs,hxb,hxz,_,_⟩:=hF.info
 have hbig2:¬ (281474976710656<(xi.bytes:Int)*z):=by rw [hxb]; exact hbig
 have hroom2:¬ (roomBytes<n*xi.bytes):=by rw [hxb]; exact hroom
 by_cases h0:n*i.size=0
 ·simp [Instr.makeSlice,run_underlying hu,asInt,asIntOf,sizeOf,typeInfo,hinfo,hw,hneg,hbig2,hn,askRoom,hroom2,hxs,h0,newRow,at_]
  have e0:∀ f g:Nat→Value,Array.map f (Array.range 0)=Array.map g (Array.range 0):=fun f g=>Array.ext (by simp) (fun i h1 h2=>by simp at h1)
  rw [e0]
 ·simp [Instr.makeSlice,run_underlying hu,asInt,asIntOf,sizeOf,typeInfo,hinfo,hw,hneg,hbig2,hn,askRoom,hroom2,hxs,h0,newRow,hz,at_]
end
end Go.Dm

namespace Go.Dm
def MV.keys : MV→List Nat
 | .own k _ _ _ => [k]
 | .ref k _ _ => [k]
 | .eref k _ _ _ => [k]
 | .mref k _ => [k]
 | _ => []
def Ik (op:Op) (dst:Nat) (xs:List MV):List Nat :=
 match op,xs with
 | .alloc _,_ | .box _ _,_ | .buildSlice ..,_ => [key dst 0]
 | .makeSlice ..,_ => [key dst 0]
 | .load _ _,[x]=>x.keys
 | .store _ _ _,[x,_]=>x.keys
 | .indexAddr ..,[x,_]=>x.keys
 | .slice ..,x::_=>x.keys
 | .makeMap ..,_ => [key dst 0]
 | .lookup ..,[x,_]=>x.keys
 | .mapUpdate ..,[x,_,_]=>x.keys
 | .insert ..,[x,_,_]=>x.keys
 | .mapEntry ..,[x,_]=>x.keys
 | .entryStore ..,[x,_,_]=>x.keys
 | .range ..,[x]=>x.keys ++ [key dst 0]
 | .next ..,[x]=>x.keys
 | .entry _,[x]=>x.keys
 | .call ⟨.builtin .delete,_,_⟩,[x,_]=>x.keys
 | .call ⟨.builtin .clear,_,_⟩,[x]=>x.keys
 | .call ⟨.builtin .copy,_,_⟩,[x,y]=>x.keys++y.keys
 | .call ⟨.builtin .append,_,_⟩,[s,x]=>s.keys++x.keys ++ [key dst 0]
 | _,_ => []
def elem (k:Nat):List Nat→Bool
 | []=>false
 | j::r=>Nat.beq k j||elem k r
def only (ks:List Nat) (objs:Ar):Ar:=fun k=>bif elem k ks then objs k else none
def Qw : Operand→Bool
 | .const (.int _ (.ofNat 0))=>true
 | _=>false
theorem AiB {q:Operand} (h:Qw q=true):∃ k,q = .const (.int k 0):=by
 unfold Qw at h
 split at h
 ·exact ⟨_,rfl⟩
 ·simp at h
def orE : Option Eff→Option Eff→Option Eff
 | some e,_=>some e
 | none,x=>x
theorem Qe {a b:Option Eff} {e:Eff} (h:orE a b=some e):a=some e∨b=some e:=by
 cases a with
 | none=>exact .inr h
 | some _=>exact .inl h
def Bx (T:Ty) (op:Op) (dst:Nat) (bx:Bool) (ob:Ar) (xs:List MV):Option Eff :=
 match op,xs with
 | .move _,[x]=>Xc x
 | .assign _,[x]=>Xc x
 | .pick _ _ _,[c,a,b]=>Alk bx c a b
 | .alloc t,[]=>Zu T t dst ob
 | .box _ _,[x]=>AeA dst ob x
 | .build t ps,xs=>Ws T t ((ps.toList.map (·.1)).zip xs)
 | .buildSlice t len ps,xs=>Kb T t len dst ob ((ps.toList.map (·.1)).zip xs)
 | .load t _,[x]=>Tm T t ob x
 | .store t _ _,[x,y]=>Zs T t ob x y
 | .nilCheck _,[x]=>Aeq x
 | .binOp op t _ _ _,[x,y]=>AbR T op t x y
 | .unOp op _ _,[x]=>AhU op x
 | .convert s d _,[x]=>bif (assoc T s).isSome then (match Ts T d x with
  | some e=>some e
  | none=>Zp T d x) else none
 | .slice t _ none none none,[x]=>Kg T t ob x none none
 | .slice t _ (some _) none none,[x,l]=>match Fu l with
  | some zl=>Kg T t ob x (some zl) none
  | none=>none
 | .slice t _ none (some _) none,[x,h]=>match Fu h with
  | some zh=>Kg T t ob x none (some zh)
  | none=>none
 | .slice t _ (some _) (some _) none,[x,l,h]=>match Fu l,Fu h with
  | some zl,some zh=>bif bx then Kg T t ob x (some zl) (some zh) else Aea T t ob x zl zh
  | _,_=>none
 | .slice t _ none (some h) (some m),[x,_,_]=>bif Qw h&&Qw m then Pi T t x else none
 | .slice t _ (some _) (some _) (some _),[x,l,h,m]=>match Fu l,Fu h,Fu m with
  | some zl,some zh,some zm=>Agu T t ob x zl zh zm
  | _,_,_=>none
 | .makeFunc (.func f) first cap,xs=>bif first.isEmpty then AbU f xs else bif cap.isEmpty then Zm f xs else none
 | .fieldAddr t _ f,[x]=>Om T t f x
 | .field t _ f,[x]=>Aac T t f x
 | .indexAddr t _ _,[x,y]=>Oe T t ob x y
 | .index t _ _,[x,y]=>Zk T t x y
 | .extract _ i,[x]=>Tp i x
 | .makeSlice t _ _,[x,y]=>AbV T t dst ob x y
 | .makeMap t none,[]=>orE (Mq T t dst ob) (Lc T t dst ob)
 | .makeMap t (some _),[x]=>match Fu x with
  | some _=>orE (Mq T t dst ob) (Lc T t dst ob)
  | none=>none
 | .lookup t _ _ ok,[x,y]=>orE (Xj T t ob ok x y) (Ua T t ob ok x y)
 | .mapUpdate t _ _ _,[x,y,z]=>orE (Lb T t ob x y z) (Je T t ob x y z)
 | .insert t _ _ _,[x,y,z]=>orE (Lb T t ob x y z) (Je T t ob x y z)
 | .mapEntry t _ _,[x,y]=>AdR T t ob x y
 | .range t _,[x]=>orE (Sr T t dst ob x) (Ph T t dst ob x)
 | .next _ true,[x]=>Zw bx ob x
 | .entry _,[x]=>Zn ob x
 | .call ⟨.builtin .len,_,ts⟩,[x]=>match ts.toList with
  | [t]=>Aet T t x
  | _=>none
 | .call ⟨.builtin .append,_,ts⟩,[s,x]=>match ts.toList with
  | [t,t2]=>match Xg T t t2 dst ob s x with
   | some e=>some e
   | none=>Aeb T t t2 ob s x
  | _=>none
 | .call ⟨.builtin .clear,_,ts⟩,[x]=>match ts.toList with
  | [t]=>Zz T t ob x
  | _=>none
 | .call ⟨.builtin .copy,_,ts⟩,[x,y]=>match ts.toList with
  | [t,_]=>AbY T t ob x y
  | _=>none
 | .call ⟨.builtin .delete,_,ts⟩,[x,y]=>match ts.toList with
  | [t,_]=>Wz T t ob x y
  | _=>none
 | .call ⟨.builtin .min,_,_⟩,[x,y]=>Aay false x y
 | .call ⟨.builtin .max,_,_⟩,[x,y]=>Aay true x y
 | _,_=>none
structure Gi (P:Program) (T:Ty):Prop where
 ok:Gk P T
 z1:∀ t i,assoc T t=some i→i.zero.all (fun c=>c.oneCell')=true
 fk:∀ t fs s b z q,assoc T t=some ⟨.struct fs,s,b,z,q⟩→fs.all (fun p=>(assoc T p.2).isSome)=true
 eqk:∀ t i,assoc T t=some i→i.eq=true→Vr P t
def Mi (op:Op):List Nat:=op.operands.toList.filterMap fun | .tmp t=>some t|_=>none
def Hi (op:Op):Bool := !Ael op&&op.operands.toList.all An
theorem Wv {σ τ:St} {op:Op} (h:∀ t∈Mi op,τ.slots t=σ.slots t):op.operands.toList.map (ev τ)=op.operands.toList.map (ev σ):=by
 apply List.map_congr_left
 intro x hx
 cases x with
 | tmp t=>exact h t (List.mem_filterMap.2 ⟨.tmp t,hx,rfl⟩)
 | _=>rfl
theorem Qb (k:Nat) (l:List Nat):elem k l=true↔k∈l:=by
 induction l with
 | nil=>simp [elem]
 | cons j r ih =>
  simp only [elem,Bool.or_eq_true,ih,List.mem_cons]
  constructor
  ·rintro (h|h)
   ·exact .inl (Nat.eq_of_beq_eq_true h)
   ·exact .inr h
  ·rintro (h|h)
   ·subst h; exact .inl (Ch _)
   ·exact .inr h
theorem Pq {ks:List Nat} {objs objs':Ar} (h:∀ k∈ks,objs k=objs' k):only ks objs=only ks objs':=by
 funext k
 unfold only
 cases hk:elem k ks with
 | false=>rfl
 | true=>simp [h k ((Qb k ks).1 hk)]
theorem Cj {ks:List Nat} {objs:Ar} {k:Nat} {o:Obj} (h:only ks objs k=some o):objs k=some o:=by
 unfold only at h
 cases hk:elem k ks with
 | false=>simp [hk] at h
 | true=>simpa [hk] using h
theorem Iz {ks:List Nat} {objs:Ar} {k:Nat} (h:k∈ks):only ks objs k=objs k:=by
 unfold only
 rw [(Qb k ks).2 h]
 rfl
section
variable {P : Program} {T:Ty} {cx:Cx P} {β:Bi} {σ:St} {a:Act} {w:World}
theorem AaW (h:Rel cx β σ a w) (dst:Option Nat) (hd:∀ t,dst=some t→t<cx.nt) (v:Value) (x:MV)
  (hv:RelV β σ.objs (Al cx.Av β σ.objs w) w v x) :
  Rel cx β ⟨Nd σ.slots (dst.toList.map fun t=>(t,x)),σ.objs⟩ (a.put dst v) w:=by
 cases dst with
 | none=>exact h
 | some t=>exact h.put t (hd t rfl) v x hv
theorem wp_of_out {o:Oper} {m:Sem Value} (hexec:execOp a.eval o=(do pure (.value (← m)))) {y:MV} {wo:List (Nat×Obj)} (h:Out P cx σ a m w y wo)
  (hd:∀ t,o.dst=some t→t<cx.nt) (Q:Exit→Act→World→Prop) :
  o.wp P a w (fun a' w'=>∃ β',Rel cx β' (Fh σ ⟨[],[],o.dst.toList.map fun t=>(t,y),wo⟩) a' w') Q:=by
 obtain ⟨v,w',β',hr,hrel,hv⟩:=h
 unfold Oper.wp
 rw [hexec]
 simp only [Sem.run_bind,hr,Result.andThen_ok,Sem.run_pure,Oper.upon]
 exact ⟨β',AaW hrel o.dst hd v y hv⟩
theorem AlC {α:Type} (ps:Array (Nat×Operand)) (g:Operand→α):(ps.toList.map (·.1)).zip (ps.toList.map fun x=>g x.2)=ps.toList.map fun x=>(x.1,g x.2):=by
 induction ps.toList with
 | nil=>rfl
 | cons p r ih=>simp [ih]
theorem AgS (hT:Gi P T) {o:Oper} (hc:Hi o.op=true) {dst:Nat} (hdst:∀ t,o.dst=some t→t=dst) (bx:Bool)
  (h:Rel cx β σ a w) (hd:∀ t,o.dst=some t→t<cx.nt) {y:MV} {wo:List (Nat×Obj)} {obl:List Prop}
  (he:Bx T o.op dst bx (only (Ik o.op dst (o.op.operands.toList.map (ev σ))) σ.objs) (o.op.operands.toList.map (ev σ))=some (y,wo,obl)) (ho:All obl)
  (Q:Exit→Act→World→Prop) :
  o.wp P a w (fun a' w'=>∃ β',Rel cx β' (Fh σ ⟨[],[],o.dst.toList.map fun t=>(t,y),wo⟩) a' w') Q:=by
 obtain ⟨od,op,ot,opos,oafter,oguard⟩:=o
 simp only at *
 have hall:∀ x∈op.operands.toList,An x=true:=by
  simp only [Hi,Bool.and_eq_true,List.all_eq_true] at hc
  exact hc.2
 have quick:∀ (m:Sem Value),execOp a.eval ⟨od,op,ot,opos,oafter,oguard⟩=(do pure (.value (← m)))→Out P cx σ a m w y wo →
   Oper.wp P ⟨od,op,ot,opos,oafter,oguard⟩ a w (fun a' w'=>∃ β',Rel cx β' (Fh σ ⟨[],[],od.toList.map fun t=>(t,y),wo⟩) a' w') Q :=
  fun m e h=>wp_of_out (o:=⟨od,op,ot,opos,oafter,oguard⟩) e h hd Q
 cases op with
 | move x =>
  simp [Bx,Op.operands,Xc] at he
  obtain ⟨rfl,rfl,rfl⟩:=he
  exact quick (pure (a.eval x)) rfl (Aqm h rfl (Ba h x (hall x (by simp [Op.operands]))))
 | assign x =>
  simp [Bx,Op.operands,Xc] at he
  obtain ⟨rfl,rfl,rfl⟩:=he
  exact quick (pure (a.eval x)) rfl (Aqm h rfl (Ba h x (hall x (by simp [Op.operands]))))
 | pick c x z =>
  simp [Bx,Op.operands] at he
  exact quick (do pure (if ← asBool (a.eval c) then a.eval x else a.eval z)) (by simp [execOp]) (snd_pick h (hall _ (by simp [Op.operands])) (hall _ (by simp [Op.operands])) (hall _ (by simp [Op.operands])) he ho)
 | alloc t =>
  simp only [Bx,Op.operands,List.map_nil,Array.toList_empty] at he
  exact quick _ rfl (snd_alloc hT.ok h (Iz (by simp [Ik])) (hT.z1 t) he)
 | box t x =>
  simp [Bx,Op.operands] at he
  exact quick _ rfl (snd_box h (hall _ (by simp [Op.operands])) (Iz (by simp [Ik])) he)
 | build t ps =>
  have he':Ws T t (ps.toList.map fun x=>(x.1,ev σ x.2))=some (y,wo,obl):=by
   rw [← AlC]
   simpa [Bx,Op.operands,Function.comp_def] using he
  exact quick _ rfl (snd_build hT.ok h (fun x hx=>hall _ (by simpa [Op.operands] using ⟨x.1,hx⟩)) (hT.z1 t) (hT.fk t) he')
 | buildSlice t len ps =>
  have he':Kb T t len dst (only [key dst 0] σ.objs) (ps.toList.map fun x=>(x.1,ev σ x.2))=some (y,wo,obl):=by
   rw [← AlC]
   simpa [Bx,Op.operands,Ik,Function.comp_def] using he
  exact quick _ rfl (Ale hT.ok h (fun x hx=>hall _ (by simpa [Op.operands] using ⟨x.1,hx⟩)) (Iz (by simp)) hT.z1 he')
 | load t x =>
  simp [Bx,Op.operands] at he
  exact quick _ rfl (snd_load hT.ok h (hall _ (by simp [Op.operands])) (fun k o=>Cj) he ho)
 | store t x z =>
  simp [Bx,Op.operands] at he
  obtain ⟨w',β',hr,hrel,rfl⟩:=snd_store hT.ok h (hall _ (by simp [Op.operands])) (hall _ (by simp [Op.operands])) (fun k o=>Cj) he ho
  unfold Oper.wp
  simp only [execOp,Sem.run_bind,hr,Result.andThen_ok,Sem.run_pure,Oper.upon]
  exact ⟨β',AaW hrel od hd undef .und .und⟩
 | nilCheck x =>
  simp [Bx,Op.operands] at he
  obtain ⟨v,hr,hv,rfl⟩:=snd_nil (P:=P) h (o:=⟨od,.nilCheck x,ot,opos,oafter,oguard⟩) rfl (hall _ (by simp [Op.operands])) he
  unfold Oper.wp
  rw [hr]
  simp only [Oper.upon]
  exact ⟨β,AaW h od hd v y hv⟩
 | binOp b t x z t2 =>
  simp [Bx,Op.operands] at he
  exact quick _ rfl (snd_bin2 hT.ok hT.eqk h (hall _ (by simp [Op.operands])) (hall _ (by simp [Op.operands])) he ho)
 | unOp u t x =>
  simp [Bx,Op.operands] at he
  exact quick _ rfl (snd_un h (hall _ (by simp [Op.operands])) he)
 | convert s d x =>
  simp only [Bx,Op.operands,List.map_cons,List.map_nil] at he
  cases hs:assoc T s with
  | none=>simp [hs] at he
  | some si =>
   simp only [hs,Option.isSome_some,cond_true] at he
   split at he
   ·rename_i e hc
    rw [he] at hc
    exact quick _ rfl (Aos hT.ok h hs (hall _ (by simp [Op.operands])) hc)
   ·exact quick _ rfl (snd_bytes hT.ok h hs (hall _ (by simp [Op.operands])) he)
 | slice t x lo hi mx =>
  have bnd:∀ (q:Operand) (z:Int),An q=true→Fu (ev σ q)=some z→bndOK (some (a.eval q)) (some z):=by
   intro q z hq hz
   have rq:=Ba h q hq
   unfold Fu at hz
   split at hz
   ·rename_i k n hev
    simp at hz
    subst hz
    rw [hev] at rq
    exact .inr ⟨k,n,by rw [rq.inv_v.1],rfl⟩
   ·simp at hz
  have hx:An x=true:=hall x (by simp [Op.operands])
  rcases lo with _|lo <;> rcases hi with _|hi <;> rcases mx with _|mx
  ·simp [Bx,Op.operands] at he
   exact quick _ (by simp [execOp]) (AdE hT.ok h hx (.inl ⟨rfl,rfl⟩) (.inl ⟨rfl,rfl⟩) (fun k o=>Cj) he ho)
  ·simp [Bx] at he
  ·simp [Bx,Op.operands] at he
   split at he
   ·rename_i zh hzh
    exact quick _ (by simp [execOp]) (AdE hT.ok h hx (.inl ⟨rfl,rfl⟩) (bnd hi zh (hall hi (by simp [Op.operands])) hzh) (fun k o=>Cj) he ho)
   ·simp at he
  ·have hc1:(∃ k1 k2,hi = .const (.int k1 0)∧mx = .const (.int k2 0))∧Pi T t (ev σ x)=some (y,wo,obl):=by
    have he':(bif Qw hi&&Qw mx then Pi T t (ev σ x) else none)=some (y,wo,obl):=he
    cases hz:(Qw hi&&Qw mx) with
    | false=>simp [hz] at he'
    | true =>
     rw [hz] at he'
     simp only [Bool.and_eq_true] at hz
     obtain ⟨k1,h1⟩:=AiB hz.1
     obtain ⟨k2,h2⟩:=AiB hz.2
     exact ⟨⟨k1,k2,h1,h2⟩,he'⟩
   obtain ⟨⟨k1,k2,rfl,rfl⟩,he⟩:=hc1
   exact quick _ (by simp [execOp,Act.eval]) (Apm (k1:=k1) (k2:=k2) hT.ok h hx he)
  ·simp [Bx,Op.operands] at he
   split at he
   ·rename_i zl hzl
    exact quick _ (by simp [execOp]) (AdE hT.ok h hx (bnd lo zl (hall lo (by simp [Op.operands])) hzl) (.inl ⟨rfl,rfl⟩) (fun k o=>Cj) he ho)
   ·simp at he
  ·simp [Bx] at he
  ·simp [Bx,Op.operands] at he
   split at he
   ·rename_i zl zh hzl hzh
    cases bx with
    | false =>
     have bi:∀ (q:Operand) (z:Int),An q=true→Fu (ev σ q)=some z→∃ k,a.eval q = .int k z:=by
      intro q z hq hz
      rcases bnd q z hq hz with ⟨e1,_⟩|⟨k,n,e1,e2⟩
      ·simp at e1
      ·injection e1 with e1
       injection e2 with e2
       subst e2
       exact ⟨k,e1⟩
     obtain ⟨kl,el⟩:=bi lo zl (hall lo (by simp [Op.operands])) hzl
     obtain ⟨kh,eh⟩:=bi hi zh (hall hi (by simp [Op.operands])) hzh
     have:=Anp (P:=P) (kl:=kl) (kh:=kh) hT.ok h hx (fun k o=>Cj) he ho
     rw [← el,← eh] at this
     exact quick _ (by simp [execOp]) this
    | true =>
    exact quick _ (by simp [execOp]) (AdE hT.ok h hx (bnd lo zl (hall lo (by simp [Op.operands])) hzl) (bnd hi zh (hall hi (by simp [Op.operands])) hzh) (fun k o=>Cj) he ho)
   ·simp at he
  ·have bi:∀ (q:Operand) (z:Int),An q=true→Fu (ev σ q)=some z→∃ k,a.eval q = .int k z:=by
    intro q z hq hz
    rcases bnd q z hq hz with ⟨e1,_⟩|⟨k,n,e1,e2⟩
    ·simp at e1
    ·injection e1 with e1
     injection e2 with e2
     subst e2
     exact ⟨k,e1⟩
   simp [Bx,Op.operands] at he
   split at he
   ·rename_i zl zh zm hzl hzh hzm
    obtain ⟨kl,el⟩:=bi lo zl (hall lo (by simp [Op.operands])) hzl
    obtain ⟨kh,eh⟩:=bi hi zh (hall hi (by simp [Op.operands])) hzh
    obtain ⟨km,em⟩:=bi mx zm (hall mx (by simp [Op.operands])) hzm
    have:=AoM (P:=P) (kl:=kl) (kh:=kh) (km:=km) hT.ok h hx (fun k o=>Cj) he ho
    rw [← el,← eh,← em] at this
    exact quick _ (by simp [execOp]) this
   ·simp at he
 | makeFunc fn first caps =>
  cases fn with
  | func f =>
   simp only [Bx] at he
   cases hf:first.isEmpty with
   | false =>
    cases hg:caps.isEmpty with
    | false=>simp [hf,hg] at he
    | true =>
    have hge:caps = #[]:=by simpa using hg
    subst hge
    simp [hf,Op.operands] at he
    have:=snd_bound (P:=P) (f:=f) (xs:=first) h (fun x hx=>hall x (by simpa [Op.operands] using hx)) he
    exact quick _ (by simp [execOp]) this
   | true =>
    have hfe:first = #[]:=by simpa using hf
    subst hfe
    simp [Op.operands] at he
    have:=snd_func (P:=P) (f:=f) (xs:=caps) h (fun x hx=>hall x (by simpa [Op.operands] using hx)) he
    exact quick _ (by simp [execOp]) this
  | _=>simp [Bx] at he
 | fieldAddr t x f =>
  simp [Bx,Op.operands] at he
  exact quick _ rfl (AlX hT.ok h (hall _ (by simp [Op.operands])) he)
 | field t x f =>
  simp [Bx,Op.operands] at he
  exact quick _ rfl (snd_field hT.ok h (hall _ (by simp [Op.operands])) he)
 | indexAddr t x z =>
  simp [Bx,Op.operands] at he
  exact quick _ rfl (Ami hT.ok h (hall _ (by simp [Op.operands])) (hall _ (by simp [Op.operands])) (fun k o=>Cj) he ho)
 | index t x z =>
  simp [Bx,Op.operands] at he
  exact quick _ rfl (snd_index hT.ok h (hall _ (by simp [Op.operands])) (hall _ (by simp [Op.operands])) he ho)
 | extract x i =>
  simp [Bx,Op.operands] at he
  exact quick _ rfl (AoA h (hall _ (by simp [Op.operands])) he)
 | makeSlice t x z =>
  simp [Bx,Op.operands] at he
  exact quick _ rfl (snd_make hT.ok hT.z1 h (hall _ (by simp [Op.operands])) (hall _ (by simp [Op.operands])) (Iz (by simp [Ik])) he ho)
 | makeMap t r =>
  rcases r with _|r
  ·simp [Bx,Op.operands] at he
   rcases Qe he with he|he
   ·exact quick (Instr.makeMap t none) (by simp [execOp]) (Aiy ⟨hT.ok,hT.z1⟩ h (.inl rfl) (Iz (by simp [Ik])) he)
   ·exact quick (Instr.makeMap t none) (by simp [execOp]) (AgG ⟨hT.ok,hT.z1⟩ hT.eqk h (.inl rfl) (Iz (by simp [Ik])) he)
  ·simp [Bx,Op.operands] at he
   split at he
   ·rename_i n hn
    have rq:=Ba h r (hall r (by simp [Op.operands]))
    unfold Fu at hn
    split at hn
    ·rename_i k n' hev
     rw [hev] at rq
     rcases Qe he with he|he
     ·exact quick (Instr.makeMap t (some (a.eval r))) (by simp [execOp]) (Aiy ⟨hT.ok,hT.z1⟩ h (.inr ⟨k,n',by rw [rq.inv_v.1]⟩) (Iz (by simp [Ik])) he)
     ·exact quick (Instr.makeMap t (some (a.eval r))) (by simp [execOp]) (AgG ⟨hT.ok,hT.z1⟩ hT.eqk h (.inr ⟨k,n',by rw [rq.inv_v.1]⟩) (Iz (by simp [Ik])) he)
    ·simp at hn
   ·simp at he
 | lookup t x z ok =>
  simp [Bx,Op.operands] at he
  rcases Qe he with he|he
  ·exact quick _ rfl (Api ⟨hT.ok,hT.z1⟩ h (hall _ (by simp [Op.operands])) (hall _ (by simp [Op.operands])) (fun k o=>Cj) he ho)
  ·exact quick _ rfl (Aop ⟨hT.ok,hT.z1⟩ hT.eqk h (hall _ (by simp [Op.operands])) (hall _ (by simp [Op.operands])) (fun k o=>Cj) he ho)
 | mapUpdate t x z u =>
  simp [Bx,Op.operands] at he
  obtain ⟨w',β',hr,hrel,rfl⟩:=(Qe he).elim (fun he=>AjG ⟨hT.ok,hT.z1⟩ h (hall _ (by simp [Op.operands])) (hall _ (by simp [Op.operands])) (hall _ (by simp [Op.operands])) (fun k o=>Cj) he)
   (fun he=>AiH ⟨hT.ok,hT.z1⟩ hT.eqk h (hall _ (by simp [Op.operands])) (hall _ (by simp [Op.operands])) (hall _ (by simp [Op.operands])) (fun k o=>Cj) he)
  unfold Oper.wp
  simp only [execOp,Sem.run_bind,hr,Result.andThen_ok,Sem.run_pure,Oper.upon]
  exact ⟨β',AaW hrel od hd undef .und .und⟩
 | insert t x z u =>
  simp [Bx,Op.operands] at he
  obtain ⟨w',β',hr,hrel,rfl⟩:=(Qe he).elim (fun he=>AjG ⟨hT.ok,hT.z1⟩ h (hall _ (by simp [Op.operands])) (hall _ (by simp [Op.operands])) (hall _ (by simp [Op.operands])) (fun k o=>Cj) he)
   (fun he=>AiH ⟨hT.ok,hT.z1⟩ hT.eqk h (hall _ (by simp [Op.operands])) (hall _ (by simp [Op.operands])) (hall _ (by simp [Op.operands])) (fun k o=>Cj) he)
  unfold Oper.wp
  simp only [execOp,Sem.run_bind,hr,Result.andThen_ok,Sem.run_pure,Oper.upon]
  exact ⟨β',AaW hrel od hd undef .und .und⟩
 | mapEntry t x z =>
  simp [Bx,Op.operands] at he
  exact quick _ rfl (Anz ⟨hT.ok,hT.z1⟩ h (hall _ (by simp [Op.operands])) (hall _ (by simp [Op.operands])) (fun k o=>Cj) he ho)
 | range t x =>
  simp [Bx,Op.operands] at he
  rcases Qe he with he|he
  ·exact quick _ rfl (snd_range ⟨hT.ok,hT.z1⟩ h (hall _ (by simp [Op.operands])) (fun k o=>Cj) (Iz (by simp [Ik,Op.operands])) he)
  ·exact quick _ rfl (Apj hT.ok h (hall _ (by simp [Op.operands])) (Iz (by simp [Ik,Op.operands])) he)
 | next x b =>
  cases b with
  | true =>
   simp [Bx,Op.operands] at he
   exact quick _ rfl (snd_nextS (ty:=ot) h (hall _ (by simp [Op.operands])) (fun k o=>Cj) he ho)
  | false=>simp [Bx,Op.operands] at he
 | entry x =>
  simp [Bx,Op.operands] at he
  exact quick _ rfl (snd_entry h (hall _ (by simp [Op.operands])) (fun k o=>Cj) he)
 | call c =>
  obtain ⟨callee,args,argTypes⟩:=c
  cases callee with
  | builtin b =>
   have hargs:Op.operands (.call ⟨.builtin b,args,argTypes⟩)=args:=by simp [Op.operands,Call.operands]
   rw [hargs] at he hall
   cases b with
   | len =>
    obtain ⟨l⟩:=args
    rcases l with _|⟨q,r⟩
    ·simp [Bx] at he
    rcases r with _|⟨q2,r⟩
    ·simp only [Bx,List.map_cons,List.map_nil] at he
     split at he
     ·rename_i t hts
      have:argTypes = #[t]:=by cases argTypes; simp at hts; rw [hts]
      subst this
      exact quick _ (by simp [execOp,resolve,invoke,builtin]) (snd_len (ty:=ot) hT.ok h (hall _ (by simp)) he)
     ·simp at he
    ·simp [Bx] at he
   | append =>
    obtain ⟨l⟩:=args
    rcases l with _|⟨p,r⟩
    ·simp [Bx] at he
    rcases r with _|⟨q,r⟩
    ·simp [Bx] at he
    rcases r with _|⟨q2,r⟩
    ·simp only [Bx,List.map_cons,List.map_nil] at he
     split at he
     ·rename_i t t2 hts
      have:argTypes = #[t,t2]:=by cases argTypes; simp at hts; rw [hts]
      subst this
      split at he
      ·rename_i e hap
       rw [he] at hap
       exact quick _ (by simp [execOp,resolve,invoke,builtin]) (Apr (ty:=ot) hT.ok h (hall _ (by simp)) (hall _ (by simp)) (fun k o=>Cj) (Iz (by simp [Ik])) hap ho)
      ·exact quick _ (by simp [execOp,resolve,invoke,builtin]) (AmS (ty:=ot) hT.ok h (hall _ (by simp)) (hall _ (by simp)) (fun k o=>Cj) he ho)
     ·simp at he
    ·simp [Bx] at he
   | clear =>
    obtain ⟨l⟩:=args
    rcases l with _|⟨q,r⟩
    ·simp [Bx] at he
    rcases r with _|⟨q2,r⟩
    ·simp only [Bx,List.map_cons,List.map_nil] at he
     split at he
     ·rename_i t hts
      have:argTypes = #[t]:=by cases argTypes; simp at hts; rw [hts]
      subst this
      exact quick _ (by simp [execOp,resolve,invoke,builtin]) (snd_clear (ty:=ot) ⟨hT.ok,hT.z1⟩ h (hall _ (by simp)) (fun k o=>Cj) he ho)
     ·simp at he
    ·simp [Bx] at he
   | copy =>
    obtain ⟨l⟩:=args
    rcases l with _|⟨p,r⟩
    ·simp [Bx] at he
    rcases r with _|⟨q,r⟩
    ·simp [Bx] at he
    rcases r with _|⟨q2,r⟩
    ·simp only [Bx,List.map_cons,List.map_nil] at he
     split at he
     ·rename_i t t2 hts
      have:argTypes = #[t,t2]:=by cases argTypes; simp at hts; rw [hts]
      subst this
      exact quick _ (by simp [execOp,resolve,invoke,builtin]) (snd_copy (t2:=t2) (ty:=ot) ⟨hT.ok,hT.z1⟩ h (hall _ (by simp)) (hall _ (by simp)) (fun k o=>Cj) he ho)
     ·simp at he
    ·simp [Bx] at he
   | delete =>
    obtain ⟨l⟩:=args
    rcases l with _|⟨p,r⟩
    ·simp [Bx] at he
    rcases r with _|⟨q,r⟩
    ·simp [Bx] at he
    rcases r with _|⟨q2,r⟩
    ·simp only [Bx,List.map_cons,List.map_nil] at he
     split at he
     ·rename_i t t2 hts
      have:argTypes = #[t,t2]:=by cases argTypes; simp at hts; rw [hts]
      subst this
      exact quick _ (by simp [execOp,resolve,invoke,builtin]) (AoY (t2:=t2) (ty:=ot) ⟨hT.ok,hT.z1⟩ h (hall _ (by simp)) (hall _ (by simp)) (fun k o=>Cj) he)
     ·simp at he
    ·simp [Bx] at he
   | min =>
    obtain ⟨l⟩:=args
    rcases l with _|⟨p,r⟩
    ·simp [Bx] at he
    rcases r with _|⟨q,r⟩
    ·simp [Bx] at he
    rcases r with _|⟨q2,r⟩
    ·simp only [Bx,List.map_cons,List.map_nil] at he
     have:=snd_min (P:=P) (mx:=false) (ts:=argTypes) (ty:=ot) h (hall p (by simp)) (hall q (by simp)) he
     simp only [Bool.false_eq_true,if_false] at this
     exact quick _ (by simp [execOp,resolve,invoke,builtin]) this
    ·simp [Bx] at he
   | max =>
    obtain ⟨l⟩:=args
    rcases l with _|⟨p,r⟩
    ·simp [Bx] at he
    rcases r with _|⟨q,r⟩
    ·simp [Bx] at he
    rcases r with _|⟨q2,r⟩
    ·simp only [Bx,List.map_cons,List.map_nil] at he
     have:=snd_min (P:=P) (mx:=true) (ts:=argTypes) (ty:=ot) h (hall p (by simp)) (hall q (by simp)) he
     simp only [if_true] at this
     exact quick _ (by simp [execOp,resolve,invoke,builtin]) this
    ·simp [Bx] at he
   | _=>simp [Bx] at he
  | _=>simp [Bx] at he
 | _=>simp [Bx] at he
end
end Go.Dm

namespace Go.Dm
def Bq (l:List Body):Ar:=fun k=>(l[k]?).map fun b=>⟨0,b⟩
def FnOK (P:Program) (f:FuncId):Prop:=∃ fn,P.funcs[f]? = some fn∧fn.name ≠ "runtime.NumGoroutine" ∧ fn.body.isSome=true
structure Pre (P:Program) (w:World) (Av:Nat→Prop) (β:Bi) (outs:List Body) (vs:Array Value) (args:List MV):Prop where
 gl:GlOK P (fun b=>∃ (k:Nat) (bd:Body),outs[k]? = some bd∧bd.live∧(β k).block=some b) w
 av:∀ b,Av b→b<w.heap.size
 len:vs.size=args.length
 args:∀ (i:Nat) x,args[i]? = some x→RelV β (Bq outs) (Al Av β (Bq outs) w) w (vs.getD i undef) x
 ob:∀ (k:Nat) bd,outs[k]? = some bd→ObjRel β (Bq outs) (Al Av β (Bq outs) w) w (β k) bd
 blk:∀ (k:Nat) bd b,outs[k]? = some bd→bd.live→(β k).block=some b→b<w.heap.size∧¬ Av b
 inj:∀ (k k':Nat) bd bd' b,outs[k]? = some bd→outs[k']? = some bd'→bd.live→bd'.live→k≠k'→(β k).block=some b→(β k').block≠some b
structure Post (w:World) (Av:Nat→Prop) (β:Bi) (outs:List Body) (w':World) (β':Bi) (v:Value) (res:MV) (outs' news:List Body):Prop where
 kept:Kept (fun b=>∃ (k:Nat) (bd:Body),outs[k]? = some bd∧bd.live∧(β k).block=some b) w w'
 loc:∀ k bd,k<outs.length→outs'[k]? = some bd→bd.live→β' k=β k
 len:outs'.length=outs.length
 res:RelV β' (Bq (outs'++news)) (Al Av β' (Bq (outs'++news)) w') w' v res
 ob:∀ (k:Nat) bd,(outs'++news)[k]? = some bd→ObjRel β' (Bq (outs'++news)) (Al Av β' (Bq (outs'++news)) w') w' (β' k) bd
 blk:∀ (k:Nat) bd b,(outs'++news)[k]? = some bd→bd.live→(β' k).block=some b→b<w'.heap.size∧(k<outs.length∨w.heap.size≤b∨∃ (j:Nat) (bd0:Body),outs[j]? = some bd0∧bd0.live∧outs'[j]? = some .dead∧(β j).block=some b)
 inj:∀ (k k':Nat) bd bd' b,(outs'++news)[k]? = some bd→(outs'++news)[k']? = some bd'→bd.live→bd'.live→k≠k'→(β' k).block=some b→(β' k').block≠some b
def Spec (P:Program) (f:FuncId) (args:List MV) (outs:List Body) (res:MV) (outs' news:List Body):Prop :=
 FnOK P f∧∀ (w:World) (Av:Nat→Prop) (β:Bi) (vs:Array Value),Pre P w Av β outs vs args →
  Calls P f vs w fun e w'=>∃ v β',e = .returned v∧Post w Av β outs w' β' v res outs' news
def Il (k:Nat):List Nat→Nat→Option Nat
 | [],_=>none
 | j::r,i=>bif Nat.beq k j then some i else Il k r (i+1)
def Wu (ob:Ar) (ks:List Nat):MV→Option MV
 | .p x=>some (.p x)
 | .own k g off len=>match Hf ob k g with
  | some (W,_,f)=>match Il k ks 0 with
   | some i=>some (.own i 0 off len)
   | none=>some (.p (.sl .unk W len (shF off f)))
  | none=>none
 | .ref k g off=>match Yn ob k g,Il k ks 0 with
  | some _,some i=>some (.ref i 0 off)
  | some cs,none=>bif Nat.beq off 0 then (match pures cs with
   | some ps=>some (.fptr ps)
   | none=>none) else none
  | none,_=>none
 | .fptr cs=>some (.fptr cs)
 | .any=>some .any
 | .mref k g=>match Km ob k g with
  | some (z,has,f)=>match Il k ks 0 with
   | some i=>some (.mref i 0)
   | none=>some (.p (.mp z has f))
  | none=>none
 | _=>none
def Sm {α:Type} (f:α→Option α):List α→Option (List α)
 | []=>some []
 | x::r=>match f x,Sm f r with
  | some y,some s=>some (y::s)
  | _,_=>none
def toC (ob:Ar) (ks:List Nat):MV→Option MV
 | .agg cs=>match Sm (Wu ob ks) cs with
  | some ds=>match pures ds with
   | some ps=>some (.p (.agg ps))
   | none=>some (.agg ds)
  | none=>none
 | .fn f cs=>match Sm (Wu ob ks) cs with
  | some ds=>match pures ds with
   | some ps=>bif Nat.blt f BND then some (.p (.fn f ps)) else some (.fn f ds)
   | none=>some (.fn f ds)
  | none=>none
 | x=>Wu ob ks x
def Sn (ks:List Nat):MV→List Nat
 | .own k _ _ _=>match Il k ks 0 with
  | some _ => []
  | none => [k]
 | .mref k _=>match Il k ks 0 with
  | some _ => []
  | none => [k]
 | .ref k _ _=>match Il k ks 0 with
  | some _ => []
  | none => [k]
 | _ => []
def bor (ks:List Nat):MV→List Nat
 | .agg cs=>cs.flatMap (Sn ks)
 | .fn _ cs=>cs.flatMap (Sn ks)
 | x=>Sn ks x
def dedup : List Nat→List Nat→List Nat
 | [],acc=>acc
 | x::r,acc=>bif elem x acc then dedup r acc else dedup r (acc ++ [x])
theorem dedup_mem (l:List Nat):∀ acc k,k∈dedup l acc↔k∈l∨k∈acc:=by
 induction l with
 | nil=>intro acc k; simp [dedup]
 | cons x r ih =>
  intro acc k
  simp only [dedup]
  cases h:elem x acc with
  | true =>
   have:=(Qb x acc).1 h
   simp only [cond_true,ih,List.mem_cons]
   constructor
   ·rintro (h|h); exact .inl (.inr h); exact .inr h
   ·rintro ((h|h)|h)
    ·subst h; exact .inr this
    ·exact .inl h
    ·exact .inr h
  | false =>
   simp only [cond_false,ih,List.mem_append,List.mem_cons,List.not_mem_nil,or_false]
   constructor
   ·rintro (h|h|h); exact .inl (.inr h); exact .inr h; exact .inl (.inl h)
   ·rintro ((h|h)|h); exact .inr (.inr h); exact .inl h; exact .inr (.inl h)
def Uc (ob:Ar) (ks:List Nat):MV→Option MV
 | .p x=>some (.p x)
 | .any=>some .any
 | .own k g off len=>match Hf ob k g,Il k ks 0 with
  | some _,some i=>some (.own i 0 off len)
  | _,_=>none
 | .ref k g off=>match Yn ob k g,Il k ks 0 with
  | some _,some i=>some (.ref i 0 off)
  | _,_=>none
 | .mref k g=>match Km ob k g,Il k ks 0 with
  | some _,some i=>some (.mref i 0)
  | _,_=>none
 | _=>none
def toC2 (ob:Ar) (ks:List Nat):MV→Option MV
 | .fn f cs=>match Sm (Uc ob ks) cs with
  | some ds=>some (.fn f ds)
  | none=>none
 | x=>Uc ob ks x
def toB (ob:Ar) (ks:List Nat):Body→Option Body
 | .box cs=>match Sm (toC2 ob ks) cs with
  | some ds=>some (.box ds)
  | none=>none
 | .row W n f=>some (.row W n f)
 | .mp z has f=>some (.mp z has f)
 | .mq _=>none
 | .dead=>some .dead
theorem toB_same {ob:Ar} {ks:List Nat} {b c:Body} (h:toB ob ks b=some c):b.same c:=by
 cases b with
 | box cs =>
  simp only [toB] at h
  split at h <;> simp at h
  subst h
  trivial
 | row W n f=>simp [toB] at h; subst h; exact ⟨rfl,rfl⟩
 | mp z has f=>simp [toB] at h; subst h; trivial
 | mq q=>simp [toB] at h
 | dead=>simp [toB] at h; subst h; trivial
theorem Fi {ob:Ar} {ks:List Nat} {b c:Body} (h:toB ob ks b=some c):b.live↔c.live:=by
 cases b with
 | box cs =>
  simp only [toB] at h
  split at h <;> simp at h
  subst h
  exact Iff.rfl
 | row W n f=>simp [toB] at h; subst h; exact Iff.rfl
 | mp z has f=>simp [toB] at h; subst h; exact Iff.rfl
 | mq q=>simp [toB] at h
 | dead=>simp [toB] at h; subst h; exact Iff.rfl
def Adt (ob:Ar) (kall:List Nat):List Nat→Option (List (Nat×Body))
 | []=>some []
 | k::r=>match ob k,Adt ob kall r with
  | some o,some s=>match toB ob kall o.body with
   | some b=>some ((o.gen,b)::s)
   | none=>none
  | _,_=>none
def Oa (ob:Ar) (ks:List Nat):Option (List (Nat×Body)):=Adt ob ks ks
theorem Apn (k:Nat):∀ (l:List Nat) (s i:Nat),Il k l s=some i→∃ j,i=s+j∧l[j]? = some k:=by
 intro l
 induction l with
 | nil=>intro s i h; simp [Il] at h
 | cons x r ih =>
  intro s i h
  unfold Il at h
  cases hb:Nat.beq k x with
  | true =>
   simp [hb] at h
   exact ⟨0,by omega,by simp [Nat.eq_of_beq_eq_true hb]⟩
  | false =>
   simp [hb] at h
   obtain ⟨j,h1,h2⟩:=ih _ _ h
   exact ⟨j+1,by omega,by simpa using h2⟩
theorem AeY (k:Nat):∀ (l:List Nat) (s:Nat),Il k l s=none→k∉l:=by
 intro l
 induction l with
 | nil=>intro s _; simp
 | cons x r ih =>
  intro s h
  unfold Il at h
  cases hb:Nat.beq k x with
  | true=>simp [hb] at h
  | false =>
   simp [hb] at h
   simp only [List.mem_cons,not_or]
   exact ⟨fun e=>by subst e; rw [Ch] at hb; simp at hb,ih _ h⟩
theorem Apb {ob:Ar} {kall:List Nat} : ∀ (ks:List Nat) (os:List (Nat×Body)),Adt ob kall ks=some os →
  os.length=ks.length∧∀ (i k:Nat),ks[i]? = some k→∃ g bd,os[i]? = some (g,bd)∧∃ bd0,ob k=some ⟨g,bd0⟩∧toB ob kall bd0=some bd:=by
 intro ks
 induction ks with
 | nil=>intro os h; simp [Adt] at h; subst h; exact ⟨rfl,fun i k h=>by simp at h⟩
 | cons k r ih =>
  intro os h
  unfold Adt at h
  split at h
  ·rename_i o s ho hs
   split at h
   ·rename_i b hb
    simp at h
    subst h
    obtain ⟨h1,h2⟩:=ih s hs
    refine ⟨by simp [h1],fun i k' hk => ?_⟩
    cases i with
    | zero=>simp at hk; subst hk; exact ⟨o.gen,b,rfl,o.body,ho,hb⟩
    | succ i=>exact h2 i k' (by simpa using hk)
   ·simp at h
  ·simp at h
theorem AdN {ob:Ar} (ks:List Nat) (os:List (Nat×Body)) (h:Oa ob ks=some os) :
  os.length=ks.length∧∀ (i k:Nat),ks[i]? = some k→∃ g bd,os[i]? = some (g,bd)∧∃ bd0,ob k=some ⟨g,bd0⟩∧toB ob ks bd0=some bd:=Apb ks os h
theorem Xd {α:Type} {f:α→Option α} : ∀ (l m:List α),Sm f l=some m→m.length=l.length∧∀ (i:Nat) y,m[i]? = some y→∃ x,l[i]? = some x∧f x=some y:=by
 intro l
 induction l with
 | nil=>intro m h; simp [Sm] at h; subst h; simp
 | cons x r ih =>
  intro m h
  unfold Sm at h
  split at h
  ·rename_i y s h1 h2
   simp at h
   subst h
   obtain ⟨g1,g2⟩:=ih s h2
   refine ⟨by simp [g1],fun i z hz => ?_⟩
   cases i with
   | zero=>simp at hz; subst hz; exact ⟨x,rfl,h1⟩
   | succ i=>exact g2 i z (by simpa using hz)
  ·simp at h
section
variable {P : Program} {cx:Cx P} {β:Bi} {σ:St} {a:Act} {w:World}
def Qg (cx:Cx P) (β:Bi) (objs:Ar) (ks bs:List Nat) (b:Nat):Prop :=
 cx.Av b∨∃ k o,objs k=some o∧o.body.live∧k∉ks∧k∉bs∧(β k).block=some b
def Bf (β:Bi) (ks:List Nat):Bi:=fun i=>β (ks.getD i 0)
theorem AeU (h:Rel cx β σ a w) {ob:Ar} (hob:∀ k o,ob k=some o→σ.objs k=some o) {ks bs:List Nat} {os:List (Nat×Body)} (hos:Oa ob ks=some os)
  {v:Value} {x y:MV} (rx:RelV β σ.objs (Al cx.Av β σ.objs w) w v x) (hy:Wu ob ks x=some y) (hbs:∀ k∈Sn ks x,k∈bs) :
  RelV (Bf β ks) (Bq (os.map (·.2))) (Al (Qg cx β σ.objs ks bs) (Bf β ks) (Bq (os.map (·.2))) w) w v y:=by
 obtain ⟨hlen,hspec⟩:=AdN ks os hos
 have hout:∀ i o,Bq (os.map (·.2)) i=some o→∃ k g bd0,ks[i]? = some k∧ob k=some ⟨g,bd0⟩∧(o.body.live→bd0.live)∧o.gen=0:=by
  intro i o ho
  simp only [Bq,List.getElem?_map] at ho
  cases hi:os[i]? with
  | none=>simp [hi] at ho
  | some p =>
   have hlt:i<ks.length:=by rw [← hlen]; exact (List.getElem?_eq_some_iff.1 hi).1
   obtain ⟨g,bd,h1,bd0,h2,h3⟩:=hspec i ks[i] (List.getElem?_eq_getElem hlt)
   rw [hi] at h1
   injection h1 with h1
   subst h1
   simp [hi] at ho
   subst ho
   exact ⟨ks[i],g,bd0,List.getElem?_eq_getElem hlt,h2,(Fi h3).2,rfl⟩
 have hS:∀ b,Al cx.Av β σ.objs w b→Al (Qg cx β σ.objs ks bs) (Bf β ks) (Bq (os.map (·.2))) w b:=by
  intro b hb
  refine ⟨hb.1,?_,fun i o ho hl => ?_⟩
  ·rintro (hA|⟨k,o,ho,hl,_,_,hblk⟩)
   ·exact hb.2.1 hA
   ·exact hb.2.2 k o ho hl hblk
  ·obtain ⟨k,g,bd0,hk,ho',hl0,_⟩:=hout i o ho
   have:=hb.2.2 k _ (hob _ _ ho') (hl0 hl)
   simpa [Bf,hk] using this
 have hget:∀ k i,Il k ks 0=some i→ks[i]? = some k:=by
  intro k i hi
  obtain ⟨j,e,hj⟩:=Apn k ks 0 i hi
  rw [e,Nat.zero_add]; exact hj
 unfold Wu at hy
 split at hy
 ·simp at hy; subst hy
  exact .p _ _ (rx.inv_p.mono hS (fun _ _=>rfl))
 ·rename_i k g off len
  obtain ⟨base,c,rfl,hk⟩:=rx.inv_own
  split at hy
  ·rename_i W n f hg
   have ho1:=hob _ _ (Es hg)
   have hown:=hk.get ho1
   split at hy
   ·rename_i i hi
    simp at hy; subst hy
    have hki:=hget k i hi
    obtain ⟨g',bd,q1,bd0,q2,q3⟩:=hspec i k hki
    rw [Es hg] at q2
    injection q2 with q2
    injection q2 with e1 e2
    subst e1; subst e2
    simp only [toB,Option.some.injEq] at q3
    subst q3
    refine .own _ _ _ _ _ _ ⟨⟨0,.row W n f⟩,by simp [Bq,q1],Nat.le_refl _,fun _ => ?_⟩
    simpa [Bf,hki] using hown
   ·rename_i hi
    simp at hy; subst hy
    have hknot:=AeY k ks 0 hi
    have hkb:k∈bs:=hbs k (by simp [Sn,hi])
    obtain ⟨hle,hl⟩:=hown
    rcases h.ob k _ ho1 with ⟨hl',hn0⟩|⟨b,o,cap,cur,e',hl',hheap,hcap,hnn,hrow⟩
    ·rw [hl'] at hl
     obtain ⟨hbase,rfl,rfl,rfl⟩:=hl
     rcases hbase with rfl|⟨bb,oo,rfl⟩
     ·exact .p _ _ (.slnil _ _ _ (by simp))
     ·exact .p _ _ (.sl _ _ _ _ _ _ _ (fun _ _=>undef) (by simp) (Nat.le_refl _) (fun e=>by simp at e) (fun i hi=>by omega) (fun i j hi=>by omega) (fun i j hi=>by omega) (fun i j x hi=>by omega))
    ·rw [hl'] at hl
     obtain ⟨b',o',rfl,hcc,hadr⟩:=hl
     by_cases hlen0:len=0
     ·subst hlen0
      exact .p _ _ (.sl _ _ _ _ _ _ _ (fun _ _=>undef) (by simp) (Nat.zero_le _) (fun e=>by simp at e) (fun i hi=>by omega) (fun i j hi=>by omega) (fun i j hi=>by omega) (fun i j x hi=>by omega))
     ·obtain ⟨rfl,rfl⟩:=hadr (by omega)
      have hblk:=h.blk k _ b' ho1 trivial (by rw [hl']; rfl)
      have hSb:Al (Qg cx β σ.objs ks bs) (Bf β ks) (Bq (os.map (·.2))) w b':=by
       refine ⟨hblk.1,?_,fun i o ho hlv => ?_⟩
       ·rintro (hA|⟨k',oo,hoo,hlv,hn1,hn2,hb'⟩)
        ·exact hblk.2.1 hA
        ·by_cases he:k'=k
         ·subst he; exact hn2 hkb
         ·exact h.inj k k' _ oo b' ho1 hoo trivial hlv (Ne.symm he) (by rw [hl']; rfl) hb'
       ·obtain ⟨k',g',bd0,hk',ho',hl0,_⟩:=hout i o ho
        have hne:k≠k':=fun e=>hknot (by rw [e]; exact List.mem_of_getElem? hk')
        have:=h.inj k k' _ _ b' ho1 (hob _ _ ho') trivial (hl0 hlv) hne (by rw [hl']; rfl)
        simpa [Bf,hk'] using this
      have hcell:∀ j,w.cell? (at_ b' j)=cur[j]? := fun j=>cell_of_row w b' j cur e' (0,0) hheap
      have hgetc:∀ i j,i<len→j<W→∃ u,cur[o+off*W+(i*W+j)]? = some u∧u.oneCell'=true:=by
       intro i j hi hj
       obtain ⟨q1,q2⟩:=hrow (off+i) (by omega)
       obtain ⟨u,u1,u2,_⟩:=q2 j (f (off+i))[j] (List.getElem?_eq_getElem (by omega))
       exact ⟨u,by rw [← u1]; congr 1; rw [Nat.add_mul]; omega,u2⟩
      refine .p _ _ (.sl _ _ _ _ _ _ _ (fun i j=>cur.getD (o+off*W+(i*W+j)) undef) (by simp) (by omega) (fun _=>hSb) (fun i hi => ?_) (fun i j hi hj => ?_) (fun i j hi hj => ?_) (fun i j x hi hx => ?_))
      ·rw [Yb]; exact (hrow (off+i) (by omega)).1
      ·obtain ⟨u,u1,_⟩:=hgetc i j hi hj
       rw [hcell,Array.getD_eq_getD_getElem?,u1]
       rfl
      ·obtain ⟨u,u1,u2⟩:=hgetc i j hi hj
       rw [Array.getD_eq_getD_getElem?,u1]
       exact u2
      ·rw [Yb] at hx
       obtain ⟨u,u1,u2,u3⟩:=(hrow (off+i) (by omega)).2 j x hx
       have e2:o+(off+i)*W+j=o+off*W+(i*W+j):=by rw [Nat.add_mul]; omega
       rw [← e2,Array.getD_eq_getD_getElem?,u1]
       exact u3.mono hS (fun _ _=>rfl)
  ·simp at hy
 ·rename_i k g off
  obtain ⟨b,rfl,hk⟩:=rx.inv_ref
  split at hy
  ·rename_i cs i hg hi
   simp at hy; subst hy
   have ho1:=hob _ _ (Vn hg)
   have hl:=hk.get ho1
   have hki:=hget k i hi
   obtain ⟨g',bd,q1,_⟩:=hspec i k hki
   refine .ref _ _ _ _ ⟨⟨0,bd⟩,by simp [Bq,q1],Nat.le_refl _,fun _ => ?_⟩
   simpa [Bf,hki] using hl
  ·rename_i cs hg hi
   cases hoff:Nat.beq off 0 with
   | false=>simp [hoff] at hy
   | true =>
   have e0:=Nat.eq_of_beq_eq_true hoff
   subst e0
   simp only [Nat.beq_refl,cond_true] at hy
   split at hy
   ·rename_i ps hps
    simp at hy; subst hy
    have hcs:=Fw hps
    have ho1:=hob _ _ (Vn hg)
    have hl:=hk.get ho1
    have hknot:=AeY k ks 0 hi
    have hkb:k∈bs:=hbs k (by simp [Sn,hi])
    obtain ⟨b1,cur,e',hl1,hheap,hsz,hrow⟩:=h.ob k _ ho1
    rw [hl] at hl1
    injection hl1 with hl1
    subst hl1
    have hblk:=h.blk k _ b ho1 trivial (by rw [hl]; rfl)
    have hSb:Al (Qg cx β σ.objs ks bs) (Bf β ks) (Bq (os.map (·.2))) w b:=by
     refine ⟨hblk.1,?_,fun i o ho hlv => ?_⟩
     ·rintro (hA|⟨k',oo,hoo,hlv,hn1,hn2,hb'⟩)
      ·exact hblk.2.1 hA
      ·by_cases he:k'=k
       ·subst he; exact hn2 hkb
       ·exact h.inj k k' _ oo b ho1 hoo trivial hlv (Ne.symm he) (by rw [hl]; rfl) hb'
     ·obtain ⟨k',g',bd0,hk',ho',hl0,_⟩:=hout i o ho
      have hne:k≠k':=fun e=>hknot (by rw [e]; exact List.mem_of_getElem? hk')
      have:=h.inj k k' _ _ b ho1 (hob _ _ ho') trivial (hl0 hlv) hne (by rw [hl]; rfl)
      simpa [Bf,hk'] using this
    have hcell:∀ j,w.cell? (at_ b j)=cur[j]? := fun j=>cell_of_row w b j cur e' (0,0) hheap
    have hval:∀ (j:Nat) (x:PV),ps[j]? = some x→∃ u,cur[j]? = some u∧u.oneCell'=true∧Rep (Al cx.Av β σ.objs w) w u x:=by
     intro j x hx
     obtain ⟨u,u1,u2,u3⟩:=hrow j (.p x) (by rw [hcs,List.getElem?_map,hx]; rfl)
     exact ⟨u,u1,u2,u3.inv_p⟩
    refine .fptr ps b 0 hSb (fun j=>cur.getD j undef) (fun j hj => ?_) (fun j hj => ?_) (fun j x hx => ?_)
    ·obtain ⟨u,u1,_⟩:=hval j ps[j] (List.getElem?_eq_getElem hj)
     rw [Nat.zero_add,hcell,Array.getD_eq_getD_getElem?,u1]
     rfl
    ·obtain ⟨u,u1,u2,_⟩:=hval j ps[j] (List.getElem?_eq_getElem hj)
     simp only [Array.getD_eq_getD_getElem?,u1]
     exact u2
    ·obtain ⟨u,u1,_,u3⟩:=hval j x hx
     simp only [Array.getD_eq_getD_getElem?,u1]
     exact u3.mono hS (fun _ _=>rfl)
   ·simp at hy
  ·simp at hy
 ·rename_i cs
  simp at hy; subst hy
  obtain ⟨b,o,c,rfl,h1,h2,h3,h4⟩:=rx.inv_fptr
  exact .fptr _ _ _ (hS _ h1) _ h2 h3 (fun j x hx=>(h4 j x hx).mono hS (fun _ _=>rfl))
 ·simp at hy; subst hy; exact .any _
 ·rename_i k g
  obtain ⟨b,rfl,hk⟩:=rx.inv_mref
  split at hy
  ·rename_i z has f hg
   have ho1:=hob _ _ (Ra hg)
   have hl:=hk.get ho1
   split at hy
   ·rename_i i hi
    simp at hy; subst hy
    have hki:=hget k i hi
    obtain ⟨g',bd,q1,_⟩:=hspec i k hki
    refine .mref _ _ _ ⟨⟨0,bd⟩,by simp [Bq,q1],Nat.le_refl _,fun _ => ?_⟩
    simpa [Bf,hki] using hl
   ·rename_i hi
    simp at hy; subst hy
    have hknot:=AeY k ks 0 hi
    have hkb:k∈bs:=hbs k (by simp [Sn,hi])
    obtain ⟨b1,es,clock,hl1,hh,hm,hz,hr⟩:=h.ob k _ ho1
    rw [hl] at hl1
    injection hl1 with hl1
    subst hl1
    have hblk:=h.blk k _ b ho1 trivial (by rw [hl]; rfl)
    have hSb:Al (Qg cx β σ.objs ks bs) (Bf β ks) (Bq (os.map (·.2))) w b:=by
     refine ⟨hblk.1,?_,fun i o ho hlv => ?_⟩
     ·rintro (hA|⟨k',oo,hoo,hlv,hn1,hn2,hb'⟩)
      ·exact hblk.2.1 hA
      ·by_cases he:k'=k
       ·subst he; exact hn2 hkb
       ·exact h.inj k k' _ oo b ho1 hoo trivial hlv (Ne.symm he) (by rw [hl]; rfl) hb'
     ·obtain ⟨k',g',bd0,hk',ho',hl0,_⟩:=hout i o ho
      have hne:k≠k':=fun e=>hknot (by rw [e]; exact List.mem_of_getElem? hk')
      have:=h.inj k k' _ _ b ho1 (hob _ _ ho') trivial (hl0 hlv) hne (by rw [hl]; rfl)
      simpa [Bf,hk'] using this
    exact .p _ _ (.mp _ _ _ _ _ _ hSb hh hm hz (fun i e n he hn=>(hr i e n he hn).mono hS (fun _ _=>rfl)))
  ·simp at hy
 ·simp at hy
theorem Rb (h:Rel cx β σ a w) {ob:Ar} (hob:∀ k o,ob k=some o→σ.objs k=some o) {ks bs:List Nat} {os:List (Nat×Body)} (hos:Oa ob ks=some os)
  {v:Value} {x y:MV} (rx:RelV β σ.objs (Al cx.Av β σ.objs w) w v x) (hy:Uc ob ks x=some y) :
  RelV (Bf β ks) (Bq (os.map (·.2))) (Al (Qg cx β σ.objs ks bs) (Bf β ks) (Bq (os.map (·.2))) w) w v y:=by
 have key:(y = .any)∨(Wu ob ks x=some y∧Sn ks x = []):=by
  unfold Uc at hy
  split at hy
  ·right; simp at hy; subst hy; exact ⟨rfl,rfl⟩
  ·left; simp at hy; exact hy.symm
  ·split at hy
   ·rename_i k g off len q i hg hi
    obtain ⟨W,n,f⟩:=q
    simp at hy; subst hy
    right
    simp [Wu,Sn,hg,hi]
   ·simp at hy
  ·split at hy
   ·rename_i k g off q i hg hi
    simp at hy; subst hy
    right
    simp [Wu,Sn,hg,hi]
   ·simp at hy
  ·split at hy
   ·rename_i k g q i hg hi
    obtain ⟨z,has,f⟩:=q
    simp at hy; subst hy
    right
    simp [Wu,Sn,hg,hi]
   ·simp at hy
  ·simp at hy
 rcases key with rfl|⟨h1,h2⟩
 ·exact .any _
 ·exact AeU h hob hos rx h1 (fun k hk=>by rw [h2] at hk; simp at hk)
theorem Akz (h:Rel cx β σ a w) {ob:Ar} (hob:∀ k o,ob k=some o→σ.objs k=some o) {ks bs:List Nat} {os:List (Nat×Body)} (hos:Oa ob ks=some os)
  {v:Value} {x y:MV} (rx:RelV β σ.objs (Al cx.Av β σ.objs w) w v x) (hy:toC2 ob ks x=some y) :
  RelV (Bf β ks) (Bq (os.map (·.2))) (Al (Qg cx β σ.objs ks bs) (Bf β ks) (Bq (os.map (·.2))) w) w v y:=by
 cases rx with
 | fn f cs vs hl hr =>
  simp only [toC2] at hy
  split at hy
  ·rename_i ds hds
   simp only [Option.some.injEq] at hy
   subst hy
   obtain ⟨m1,m2⟩:=Xd cs ds hds
   refine .fn f ds vs (by rw [hl,m1]) fun i y hy => ?_
   obtain ⟨x,hx,hxy⟩:=m2 i y hy
   exact Rb h hob hos (hr i x hx) hxy
  ·simp at hy
 | p v x hx=>exact Rb h hob hos (.p _ _ hx) hy
 | own k g off len base c hk=>exact Rb h hob hos (.own _ _ _ _ _ _ hk) hy
 | ref k g off b hk=>exact Rb h hob hos (.ref _ _ _ _ hk) hy
 | mref k g b hk=>exact Rb h hob hos (.mref _ _ _ hk) hy
 | any v=>exact Rb h hob hos (.any v) hy
 | _=>simp [toC2,Uc] at hy
theorem toB_sound (h:Rel cx β σ a w) {ob:Ar} (hob:∀ k o,ob k=some o→σ.objs k=some o) {ks bs:List Nat} {os:List (Nat×Body)} (hos:Oa ob ks=some os)
  (hS:∀ b,Al cx.Av β σ.objs w b→Al (Qg cx β σ.objs ks bs) (Bf β ks) (Bq (os.map (·.2))) w b)
  {l:Loc} {b c:Body} (hr:ObjRel β σ.objs (Al cx.Av β σ.objs w) w l b) (hb:toB ob ks b=some c) :
  ObjRel (Bf β ks) (Bq (os.map (·.2))) (Al (Qg cx β σ.objs ks bs) (Bf β ks) (Bq (os.map (·.2))) w) w l c:=by
 cases b with
 | box cs =>
  simp only [toB] at hb
  split at hb <;> simp at hb
  rename_i ds hds
  subst hb
  obtain ⟨m1,m2⟩:=Xd cs ds hds
  obtain ⟨bl,cur,e,rfl,h1,h2,h3⟩:=hr
  refine ⟨bl,cur,e,rfl,h1,by rw [m1]; exact h2,fun j y hy => ?_⟩
  obtain ⟨x,hx,hxy⟩:=m2 j y hy
  obtain ⟨u,u1,u2,u3⟩:=h3 j x hx
  exact ⟨u,u1,u2,Akz h hob hos u3 hxy⟩
 | row W n f =>
  simp only [toB,Option.some.injEq] at hb
  subst hb
  rcases hr with hr|⟨b,o,cap,cur,e,rfl,h1,h2,h3,h4⟩
  ·exact .inl hr
  ·exact .inr ⟨b,o,cap,cur,e,rfl,h1,h2,h3,fun i hi=>⟨(h4 i hi).1,(h4 i hi).2.mono hS (fun _ _=>rfl)⟩⟩
 | mp z has f =>
  simp only [toB,Option.some.injEq] at hb
  subst hb
  obtain ⟨b,es,clock,rfl,h1,h2,h3,h4⟩:=hr
  exact ⟨b,es,clock,rfl,h1,h2,h3,fun i e n he hn=>(h4 i e n he hn).mono hS (fun _ _=>rfl)⟩
 | mq q=>simp [toB] at hb
 | dead=>simp [toB] at hb; subst hb; trivial
theorem AlP (h:Rel cx β σ a w) {ob:Ar} (hob:∀ k o,ob k=some o→σ.objs k=some o) {ks bs:List Nat} {os:List (Nat×Body)} (hos:Oa ob ks=some os)
  {v:Value} {x y:MV} (rx:RelV β σ.objs (Al cx.Av β σ.objs w) w v x) (hy:toC ob ks x=some y) (hbs:∀ k∈bor ks x,k∈bs) :
  RelV (Bf β ks) (Bq (os.map (·.2))) (Al (Qg cx β σ.objs ks bs) (Bf β ks) (Bq (os.map (·.2))) w) w v y:=by
 have many:∀ (cs ds:List MV) (vs:Array Value),Sm (Wu ob ks) cs=some ds→(∀ k∈cs.flatMap (Sn ks),k∈bs) →
   (∀ (i:Nat) x,cs[i]? = some x→RelV β σ.objs (Al cx.Av β σ.objs w) w (vs.getD i undef) x) →
   ds.length=cs.length∧∀ (i:Nat) y,ds[i]? = some y→RelV (Bf β ks) (Bq (os.map (·.2))) (Al (Qg cx β σ.objs ks bs) (Bf β ks) (Bq (os.map (·.2))) w) w (vs.getD i undef) y:=by
  intro cs ds vs hm hb hr
  obtain ⟨h1,h2⟩:=Xd cs ds hm
  refine ⟨h1,fun i z hz => ?_⟩
  obtain ⟨q,hq,hqz⟩:=h2 i z hz
  exact AeU h hob hos (hr i q hq) hqz (fun k hk=>hb k (List.mem_flatMap.2 ⟨q,List.mem_of_getElem? hq,hk⟩))
 unfold toC at hy
 split at hy
 ·rename_i cs
  cases rx with
  | agg _ vs hl hr h1 =>
   split at hy
   ·rename_i ds hds
    obtain ⟨m1,m2⟩:=many cs ds vs hds (by simpa [bor] using hbs) hr
    have h1':∀ (i:Nat),i<cs.length→(vs.getD i undef).oneCell'=true:=fun i hi=>h1 i cs[i] (List.getElem?_eq_getElem hi)
    split at hy
    ·rename_i ps hps
     simp at hy; subst hy
     have hds':=Fw hps
     refine .p _ _ (.agg _ _ (by rw [hl,← m1,hds']; simp) (fun i q hq => ?_) (fun i q hq => ?_))
     ·exact (m2 i (.p q) (by rw [hds',List.getElem?_map,hq]; rfl)).inv_p
     ·refine h1' i ?_
      have:=(List.getElem?_eq_some_iff.1 hq).1
      rw [← m1,hds']; simpa using this
    ·simp at hy; subst hy
     exact .agg _ _ (by rw [hl,m1]) m2 (fun i q hq=>h1' i (by rw [← m1]; exact (List.getElem?_eq_some_iff.1 hq).1))
   ·simp at hy
 ·rename_i f cs
  cases rx with
  | fn _ _ vs hl hr =>
   split at hy
   ·rename_i ds hds
    obtain ⟨m1,m2⟩:=many cs ds vs hds (by simpa [bor] using hbs) hr
    split at hy
    ·rename_i ps hps
     cases hb:Nat.blt f BND with
     | false=>simp [hb] at hy; subst hy; exact .fn _ _ _ (by rw [hl,m1]) m2
     | true =>
     simp [hb] at hy; subst hy
     have hds':=Fw hps
     rw [Agq hb]
     refine .p _ _ (.fn _ _ _ (by rw [hl,← m1,hds']; simp) (fun i q hq => ?_))
     exact (m2 i (.p q) (by rw [hds',List.getElem?_map,hq]; rfl)).inv_p
    ·simp at hy; subst hy
     exact .fn _ _ _ (by rw [hl,m1]) m2
   ·simp at hy
 ·rename_i hn1 hn2
  refine AeU h hob hos rx hy ?_
  have:bor ks x=Sn ks x:=by
   unfold bor
   cases x <;> simp_all
  rw [← this]
  exact hbs
end
end Go.Dm

namespace Go.Dm
def ren1 (m:List (Nat×Nat)):MV→MV
 | .p x => .p x
 | .own i _ off len=>match m[i]? with
  | some (k,g) => .own k g off len
  | none => .any
 | .ref i _ off=>match m[i]? with
  | some (k,g) => .ref k g off
  | none => .any
 | .eref i _ ix off=>match m[i]? with
  | some (k,g) => .eref k g ix off
  | none => .any
 | .mref i _=>match m[i]? with
  | some (k,g) => .mref k g
  | none => .any
 | .fptr cs => .fptr cs
 | .und => .und
 | _ => .any
def renN (m:List (Nat×Nat)):Nat→MV→MV
 | 0,x=>ren1 m x
 | d+1,.agg cs => .agg (cs.map (renN m d))
 | d+1,.tup cs => .tup (cs.map (renN m d))
 | d+1,.fn f cs => .fn f (cs.map (renN m d))
 | _+1,x=>ren1 m x
def PV.flat : PV→Bool
 | .v _=>true
 | _=>false
def PV.scal2 : PV→Bool
 | .v _=>true
 | .agg cs=>cs.all PV.flat
 | _=>false
def PV.scalar : PV→Bool
 | .v _=>true
 | .agg cs=>cs.all PV.flat
 | .tup cs=>cs.all PV.scal2
 | _=>false
def MV.scalar : MV→Bool
 | .p x=>x.scalar
 | .und=>true
 | _=>false
def MV.flat : MV→Bool
 | .p x=>x.flat
 | _=>false
def Body.flatB : Body→Bool
 | .box cs=>cs.all MV.flat
 | _=>false
theorem AcD {S S':Nat→Prop} {w w':World} {v:Value} {x:PV} (hx:x.flat=true) (h:Rep S w v x):Rep S' w' v x:=by
 cases h with
 | v _ h=>exact .v _ h
 | _=>simp [PV.flat] at hx
theorem AlM {S S':Nat→Prop} {w w':World} {v:Value} {x:PV} (hx:x.scal2=true) (h:Rep S w v x):Rep S' w' v x:=by
 cases h with
 | v _ h=>exact .v _ h
 | agg cs vs hl hr h1 =>
  simp only [PV.scal2,List.all_eq_true] at hx
  exact .agg cs vs hl (fun i y hy=>AcD (hx y (List.mem_of_getElem? hy)) (hr i y hy)) h1
 | _=>simp [PV.scal2] at hx
theorem AjY {S S':Nat→Prop} {w w':World} {v:Value} {x:PV} (hx:x.scalar=true) (h:Rep S w v x):Rep S' w' v x:=by
 cases h with
 | v _ h=>exact .v _ h
 | agg cs vs hl hr h1 =>
  simp only [PV.scalar,List.all_eq_true] at hx
  exact .agg cs vs hl (fun i y hy=>AcD (hx y (List.mem_of_getElem? hy)) (hr i y hy)) h1
 | tup cs vs hl hr =>
  simp only [PV.scalar,List.all_eq_true] at hx
  exact .tup cs vs hl (fun i y hy=>AlM (hx y (List.mem_of_getElem? hy)) (hr i y hy))
 | _=>simp [PV.scalar] at hx
theorem Aga {β' β'':Bi} {objs' objs'':Ar} {S S'':Nat→Prop} {w w':World} {m:List (Nat×Nat)} (hS:∀ b,S b→S'' b) (hw:w'.heap=w.heap)
  (hm:∀ i o,objs' i=some o→o.gen=0∧∀ k g,m[i]? = some (k,g)→∃ o'',objs'' k=some o''∧g≤o''.gen∧(o''.gen=g→β'' k=β' i∧o.body.same o''.body)) :
  ∀ (d:Nat) (v:Value) (x:MV),RelV β' objs' S w v x→RelV β'' objs'' S'' w' v (renN m d x):=by
 have known:∀ (i k g0 g:Nat) (F:Loc→Body→Prop),(∀ l b c,F l b→b.same c→F l c)→m[i]? = some (k,g)→Known β' objs' i g0 F→Known β'' objs'' k g F:=by
  intro i k g0 g F hF hmi hk
  obtain ⟨o,ho,hle,hf⟩:=hk
  obtain ⟨h0,h1⟩:=hm i o ho
  obtain ⟨o'',ho'',hg,hs'⟩:=h1 k g hmi
  refine ⟨o'',ho'',hg,fun he => ?_⟩
  obtain ⟨hb,hs⟩:=hs' he
  rw [hb]
  exact hF _ _ _ (hf (by omega)) hs
 have one:∀ (v:Value) (x:MV),RelV β' objs' S w v x→RelV β'' objs'' S'' w' v (ren1 m x):=by
  intro v x h
  cases h with
  | p _ _ h=>exact .p _ _ (h.mono hS (fun _ _=>by rw [hw]))
  | own i g off len base c h =>
   simp only [ren1]
   split
   ·rename_i k g' hmi
    exact .own _ _ _ _ _ _ (known i k g g' _ (fun _ _ _ h hs=>OwnAt.same h hs) hmi h)
   ·exact .any _
  | ref i g off b h =>
   simp only [ren1]
   split
   ·rename_i k g' hmi
    exact .ref _ _ _ _ (known i k g g' _ (fun _ _ _ h _=>h) hmi h)
   ·exact .any _
  | eref i g ix off b oo h =>
   simp only [ren1]
   split
   ·rename_i k g' hmi
    exact .eref _ _ _ _ _ _ (known i k g g' _ (fun _ _ _ h hs=>ERefAt.same h hs) hmi h)
   ·exact .any _
  | fptr cs b o hs c hc h1 hr =>
   exact .fptr _ _ _ (hS _ hs) c (fun j hj=>by rw [AlR hw]; exact hc j hj) h1 (fun j x hx=>(hr j x hx).mono hS (fun _ _=>by rw [hw]))
  | mref i g b h =>
   simp only [ren1]
   split
   ·rename_i k g' hmi
    exact .mref _ _ _ (known i k g g' _ (fun _ _ _ h _=>h) hmi h)
   ·exact .any _
  | und=>exact .und
  | _=>exact .any _
 intro d
 induction d with
 | zero=>exact one
 | succ d ih =>
  intro v x h
  cases h with
  | agg cs vs hl hr h1 =>
   refine .agg _ _ (by simpa using hl) (fun i y hy => ?_) (fun i y hy => ?_)
   ·rw [List.getElem?_map] at hy
    cases hq:cs[i]? with
    | none=>simp [hq] at hy
    | some q=>simp [hq] at hy; subst hy; exact ih _ _ (hr i q hq)
   ·rw [List.getElem?_map] at hy
    cases hq:cs[i]? with
    | none=>simp [hq] at hy
    | some q=>exact h1 i q hq
  | tup cs vs hl hr =>
   refine .tup _ _ (by simpa using hl) (fun i y hy => ?_)
   rw [List.getElem?_map] at hy
   cases hq:cs[i]? with
   | none=>simp [hq] at hy
   | some q=>simp [hq] at hy; subst hy; exact ih _ _ (hr i q hq)
  | fn f cs vs hl hr =>
   refine .fn _ _ _ (by simpa using hl) (fun i y hy => ?_)
   rw [List.getElem?_map] at hy
   cases hq:cs[i]? with
   | none=>simp [hq] at hy
   | some q=>simp [hq] at hy; subst hy; exact ih _ _ (hr i q hq)
  | p _ _ h=>exact one _ _ (.p _ _ h)
  | own i g off len base c h=>exact one _ _ (.own _ _ _ _ _ _ h)
  | ref i g off b h=>exact one _ _ (.ref _ _ _ _ h)
  | eref i g ix off b oo h=>exact one _ _ (.eref _ _ _ _ _ _ h)
  | fptr cs b o hs c hc h1 hr=>exact one _ _ (.fptr _ _ _ hs c hc h1 hr)
  | mref i g b h=>exact one _ _ (.mref _ _ _ h)
  | und=>exact one _ _ .und
  | any v=>exact one _ _ (.any v)
def upG (g:Nat):Body→Nat
 | .dead=>g+1
 | _=>g
theorem AnG {g:Nat} {b:Body} (h:b.live):upG g b=g:=by cases b <;> first|rfl|exact h.elim
def Rl : List Nat→List (Nat×Body)→List Body→List (Nat×Obj)
 | k::ks,(g,_)::os,bd::r=>(k,⟨upG g bd,bd⟩)::Rl ks os r
 | _,_,_ => []
def newO (ob:Ar) (dst:Nat):Nat→List Body→List (Nat×Obj)
 | _,[] => []
 | j,bd::r=>(key dst j,⟨Bl (ob (key dst j)),bd⟩)::newO ob dst (j+1) r
def AhV (ob:Ar):List Nat→List (Nat×Obj)
 | [] => []
 | k::r=>(k,⟨Bl (ob k),.dead⟩)::AhV ob r
def AdG : List Nat→List (Nat×Body)→List (Nat×Nat)
 | k::ks,(g,_)::os=>(k,g)::AdG ks os
 | _,_ => []
def newM (ob:Ar) (dst:Nat):Nat→List Body→List (Nat×Nat)
 | _,[] => []
 | j,_::r=>(key dst j,Bl (ob (key dst j)))::newM ob dst (j+1) r
def Acg : List Nat→Bool
 | []=>true
 | x::r => !(elem x r)&&Acg r
theorem AeL (l:List Nat):Acg l=true→l.Nodup:=by
 induction l with
 | nil=>intro _; simp
 | cons x r ih =>
  intro h
  simp only [Acg,Bool.and_eq_true,Bool.not_eq_true'] at h
  rw [List.nodup_cons]
  refine ⟨fun hm => ?_,ih h.2⟩
  rw [(Qb x r).2 hm] at h
  simp at h
theorem AaG {objs:Ar} : ∀ (wo:List (Nat×Obj)) (k:Nat) (o:Obj),(Ce wo).Nodup→(k,o)∈wo→Cb objs wo k=some o:=by
 intro wo
 induction wo generalizing objs with
 | nil=>intro k o _ h; simp at h
 | cons p r ih =>
  intro k o hn h
  obtain ⟨k',o'⟩:=p
  simp only [Ce,List.nodup_cons] at hn
  simp only [Cb]
  rcases List.mem_cons.1 h with h|h
  ·injection h with e1 e2
   subst e1; subst e2
   rw [Ni r (by rw [← Cm]; exact hn.1),Bb]
  ·exact ih k o hn.2 h
theorem flatB_rel {β β':Bi} {objs objs':Ar} {S S':Nat→Prop} {w:World} {l:Loc} {bd:Body} (hf:bd.flatB=true) (h:ObjRel β objs S w l bd):ObjRel β' objs' S' w l bd:=by
 cases bd with
 | box cs =>
  obtain ⟨b,cur,e,h0,h1,h2,h3⟩:=h
  refine ⟨b,cur,e,h0,h1,h2,fun j x hx => ?_⟩
  obtain ⟨u,u1,u2,u3⟩:=h3 j x hx
  refine ⟨u,u1,u2,?_⟩
  simp only [Body.flatB,List.all_eq_true] at hf
  have hx':=hf x (List.mem_of_getElem? hx)
  cases x with
  | p y=>exact .p _ _ (AcD hx' u3.inv_p)
  | _=>simp [MV.flat] at hx'
 | _=>simp [Body.flatB] at hf
def MV.scal1 : MV→Bool
 | .p x=>x.flat
 | .own _ _ _ _=>true
 | _=>false
def MV.scalQ : MV→Bool
 | .p x=>x.scal2
 | .own _ _ _ _=>true
 | .agg cs=>cs.all MV.scal1
 | _=>false
def PV.emptyS : PV→Bool
 | .sl _ _ n _=>Nat.beq n 0
 | _=>false
theorem Apo {S S':Nat→Prop} {w:World} {v:Value} {x:PV} (hx:x.emptyS=true) (h:Rep S w v x):Rep S' w v x:=by
 cases h with
 | slnil _ _ _ h=>exact .slnil _ _ _ h
 | sl fl W n cap b o f c hfl hcap hs hlen hc h1 hr =>
  have h0:n=0:=Nat.eq_of_beq_eq_true hx
  subst h0
  exact .sl _ _ _ cap b o _ c hfl hcap (fun h=>absurd rfl h) (fun i hi=>absurd hi (Nat.not_lt_zero i)) (fun i j hi=>absurd hi (Nat.not_lt_zero i)) (fun i j hi=>absurd hi (Nat.not_lt_zero i)) (fun i j x hi=>absurd hi (Nat.not_lt_zero i))
 | _=>simp [PV.emptyS] at hx
def MV.scalR : MV→Bool
 | .p x=>x.scalar||x.emptyS
 | .own _ _ _ _=>true
 | .und=>true
 | .agg cs=>cs.all MV.scal1
 | .tup cs=>cs.all MV.scalQ
 | _=>false
def Body.flatR : Body→Bool
 | .box cs=>cs.all MV.scal1
 | .row _ _ _=>true
 | _=>false
def AbZ : List Body→List Prop
 | [] => []
 | .row _ n f::r=>(∀ i,i<n→(f i).all PV.flat=true)::AbZ r
 | _::r=>AbZ r
theorem Aoi {W n:Nat} {f:Nat→List PV} : ∀ {l:List Body},All (AbZ l)→Body.row W n f∈l→∀ i,i<n→(f i).all PV.flat=true:=by
 intro l
 induction l with
 | nil=>intro _ h; simp at h
 | cons b r ih =>
  intro h hm
  rcases List.mem_cons.1 hm with e|e
  ·subst e; exact h.1
  ·refine ih ?_ e
   cases b <;> first|exact h.2|exact h
theorem Aht {β:Bi} {objs:Ar} {S S':Nat→Prop} {w:World} {v:Value} {x:MV} (hx:x.scal1=true) (h:RelV β objs S w v x):RelV β objs S' w v x:=by
 cases h with
 | p _ _ h=>exact .p _ _ (AcD hx h)
 | own k g off len base c h=>exact .own k g off len base c h
 | _=>simp [MV.scal1] at hx
theorem scalQ_rel {β:Bi} {objs:Ar} {S S':Nat→Prop} {w:World} {v:Value} {x:MV} (hx:x.scalQ=true) (h:RelV β objs S w v x):RelV β objs S' w v x:=by
 cases h with
 | p _ _ h=>exact .p _ _ (AlM hx h)
 | own k g off len base c h=>exact .own k g off len base c h
 | agg cs vs hl hr h1 =>
  simp only [MV.scalQ,List.all_eq_true] at hx
  exact .agg cs vs hl (fun i y hy=>Aht (hx y (List.mem_of_getElem? hy)) (hr i y hy)) h1
 | _=>simp [MV.scalQ] at hx
theorem scalR_rel {β:Bi} {objs:Ar} {S S':Nat→Prop} {w:World} {v:Value} {x:MV} (hx:x.scalR=true) (h:RelV β objs S w v x):RelV β objs S' w v x:=by
 cases h with
 | p _ _ h =>
  simp only [MV.scalR,Bool.or_eq_true] at hx
  rcases hx with hx|hx
  ·exact .p _ _ (AjY hx h)
  ·exact .p _ _ (Apo hx h)
 | own k g off len base c h=>exact .own k g off len base c h
 | agg cs vs hl hr h1 =>
  simp only [MV.scalR,List.all_eq_true] at hx
  exact .agg cs vs hl (fun i y hy=>Aht (hx y (List.mem_of_getElem? hy)) (hr i y hy)) h1
 | tup cs vs hl hr =>
  simp only [MV.scalR,List.all_eq_true] at hx
  exact .tup cs vs hl (fun i y hy=>scalQ_rel (hx y (List.mem_of_getElem? hy)) (hr i y hy))
 | und=>exact .und
 | _=>simp [MV.scalR] at hx
theorem flatR_rel {β:Bi} {objs:Ar} {S S':Nat→Prop} {w:World} {l:Loc} {bd:Body} (hf:bd.flatR=true) (hr:∀ W n f,bd = .row W n f→∀ i,i<n→(f i).all PV.flat=true) (h:ObjRel β objs S w l bd):ObjRel β objs S' w l bd:=by
 cases bd with
 | box cs =>
  obtain ⟨b,cur,e,h0,h1,h2,h3⟩:=h
  refine ⟨b,cur,e,h0,h1,h2,fun j x hx => ?_⟩
  obtain ⟨u,u1,u2,u3⟩:=h3 j x hx
  simp only [Body.flatR,List.all_eq_true] at hf
  exact ⟨u,u1,u2,Aht (hf x (List.mem_of_getElem? hx)) u3⟩
 | row W n f =>
  rcases h with h|⟨b,o,cap,cur,e,h0,h1,h2,h3,h4⟩
  ·exact .inl h
  ·refine .inr ⟨b,o,cap,cur,e,h0,h1,h2,h3,fun i hi=>⟨(h4 i hi).1,?_⟩⟩
   have hq:=hr W n f rfl i hi
   rw [List.all_eq_true] at hq
   have:=(h4 i hi).2
   intro j x hx
   obtain ⟨u,u1,u2,u3⟩:=this j x hx
   exact ⟨u,u1,u2,AcD (hq x (List.mem_of_getElem? hx)) u3⟩
 | _=>simp [Body.flatR] at hf
def Ks (m:List (Nat×Nat)):Body→Body
 | .box cs => .box (cs.map (renN m 1))
 | b=>b
theorem renB_live {m:List (Nat×Nat)} {b:Body} : (Ks m b).live↔b.live:=by cases b <;> simp [Ks,Body.live]
theorem upG_ren {g:Nat} {m:List (Nat×Nat)} {b:Body} : upG g (Ks m b)=upG g b:=by cases b <;> rfl
theorem Agf {m:List (Nat×Nat)} {b:Body} : b.same (Ks m b):=by cases b <;> simp [Ks,Body.same]
theorem ApO {a b c:Body} (h:a.same b) (k:b.same c):a.same c:=by
 cases a <;> cases b <;> cases c <;> simp_all [Body.same]
theorem renB_flat {m:List (Nat×Nat)} {b:Body} (h:b.flatB=true):Ks m b=b:=by
 cases b with
 | box cs =>
  simp only [Body.flatB,List.all_eq_true] at h
  simp only [Ks,Body.box.injEq]
  have:cs.map (renN m 1)=cs.map id:=List.map_congr_left fun x hx=>by
   have:=h x hx
   cases x <;> simp_all [MV.flat,renN,ren1]
  simpa using this
 | _=>rfl
theorem Afh {β' β'':Bi} {objs' objs'':Ar} {S S'':Nat→Prop} {w:World} {m:List (Nat×Nat)} (hS:∀ b,S b→S'' b)
  (hm:∀ i o,objs' i=some o→o.gen=0∧∀ k g,m[i]? = some (k,g)→∃ o'',objs'' k=some o''∧g≤o''.gen∧(o''.gen=g→β'' k=β' i∧o.body.same o''.body))
  {l:Loc} {bd:Body} (h:ObjRel β' objs' S w l bd):ObjRel β'' objs'' S'' w l (Ks m bd):=by
 cases bd with
 | box cs =>
  obtain ⟨b,cur,e,h0,h1,h2,h3⟩:=h
  refine ⟨b,cur,e,h0,h1,by simpa using h2,fun j x hx => ?_⟩
  rw [List.getElem?_map] at hx
  cases hq:cs[j]? with
  | none=>simp [hq] at hx
  | some q =>
   simp [hq] at hx
   subst hx
   obtain ⟨u,u1,u2,u3⟩:=h3 j q hq
   exact ⟨u,u1,u2,Aga hS rfl hm 1 _ _ u3⟩
 | row W n f =>
  rcases h with h|⟨b,o,cap,cur,e,h0,h1,h2,h3,h4⟩
  ·exact .inl h
  ·exact .inr ⟨b,o,cap,cur,e,h0,h1,h2,h3,fun i hi=>⟨(h4 i hi).1,(h4 i hi).2.mono hS (fun _ _=>rfl)⟩⟩
 | mp z has f =>
  obtain ⟨b,es,clock,h0,h1,h2,h3,h4⟩:=h
  exact ⟨b,es,clock,h0,h1,h2,h3,fun i e n he hn=>(h4 i e n he hn).mono hS (fun _ _=>rfl)⟩
 | mq q=>exact QRel.mono hS (fun _ _=>rfl) (fun _ _=>rfl) h
 | dead=>trivial
def Xe (ob:Ar) (dst:Nat) (ks:List Nat) (xs:List MV) (keep:Bool) (res:MV) (outs' news:List Body):Option (List MV×List Body×Eff) :=
 match Sm (toC ob ks) xs,Oa ob ks with
 | some args,some os =>
  let bs:=dedup (xs.flatMap (bor ks)) []
  let m:=AdG ks os++newM ob dst 0 news
  let wo:=Rl ks os (outs'.map (Ks m))++newO ob dst 0 (news.map (Ks m))++(bif keep then [] else AhV ob bs)
  let old := !keep||bs.isEmpty||(news.isEmpty&&outs'.all Body.flatB&&res.scalar)
  bif Nat.beq outs'.length ks.length&&Acg (Ce wo)&&bs.all (fun k=>(ob k).isSome)
   && (old||((outs'++news).all Body.flatR&&res.scalR)) then
   some (args,os.map (·.2),renN m 3 res,wo,bif old then [] else AbZ (outs'++news))
  else none
 | _,_=>none
theorem backO_mem {ks:List Nat} {os:List (Nat×Body)} {outs':List Body} : ∀ {k o},(k,o)∈Rl ks os outs'→∃ (i:Nat) (g:Nat) (b bd:Body),ks[i]? = some k∧os[i]? = some (g,b)∧outs'[i]? = some bd∧o=⟨upG g bd,bd⟩:=by
 intro k o h
 induction ks generalizing os outs' with
 | nil=>simp [Rl] at h
 | cons k' ks ih =>
  cases os with
  | nil=>simp [Rl] at h
  | cons p os =>
   cases outs' with
   | nil=>simp [Rl] at h
   | cons bd r =>
    obtain ⟨g,b⟩:=p
    simp only [Rl,List.mem_cons] at h
    rcases h with h|h
    ·injection h with e1 e2
     exact ⟨0,g,b,bd,by simp [e1],rfl,rfl,e2⟩
    ·obtain ⟨i,g',b',bd',h1,h2,h3,h4⟩:=ih h
     exact ⟨i+1,g',b',bd',by simpa using h1,by simpa using h2,by simpa using h3,h4⟩
theorem backO_has {ks:List Nat} {os:List (Nat×Body)} {outs':List Body} : ∀ {i k:Nat} {g:Nat} {b bd:Body},ks[i]? = some k→os[i]? = some (g,b)→outs'[i]? = some bd→(k,⟨upG g bd,bd⟩)∈Rl ks os outs':=by
 induction ks generalizing os outs' with
 | nil=>intro i k g b bd h; simp at h
 | cons k' ks ih =>
  intro i k g b bd h1 h2 h3
  cases os with
  | nil=>simp at h2
  | cons p os =>
   cases outs' with
   | nil=>simp at h3
   | cons bd' r =>
    obtain ⟨g',b'⟩:=p
    simp only [Rl,List.mem_cons]
    cases i with
    | zero=>simp at h1 h2 h3; left; simp [h1,h2.1,h3]
    | succ i=>right; exact ih (by simpa using h1) (by simpa using h2) (by simpa using h3)
theorem newO_mem {ob:Ar} {dst:Nat} : ∀ {news:List Body} {s:Nat} {k o},(k,o)∈newO ob dst s news→∃ (j:Nat) (bd:Body),news[j]? = some bd∧k=key dst (s+j)∧o=⟨Bl (ob (key dst (s+j))),bd⟩:=by
 intro news
 induction news with
 | nil=>intro s k o h; simp [newO] at h
 | cons b r ih =>
  intro s k o h
  simp only [newO,List.mem_cons] at h
  rcases h with h|h
  ·injection h with e1 e2
   exact ⟨0,b,rfl,e1,e2⟩
  ·obtain ⟨j,bd,h1,h2,h3⟩:=ih h
   refine ⟨j+1,bd,by simpa using h1,?_,?_⟩
   ·rw [h2,show s+1+j=s+(j+1) by omega]
   ·rw [h3,show s+1+j=s+(j+1) by omega]
theorem AnR {ob:Ar} {dst:Nat} : ∀ {news:List Body} {s j:Nat} {bd:Body},news[j]? = some bd→(key dst (s+j),⟨Bl (ob (key dst (s+j))),bd⟩)∈newO ob dst s news:=by
 intro news
 induction news with
 | nil=>intro s j bd h; simp at h
 | cons b r ih =>
  intro s j bd h
  simp only [newO,List.mem_cons]
  cases j with
  | zero=>simp at h; left; simp [h]
  | succ j =>
   right
   have:=ih (s:=s+1) (j:=j) (bd:=bd) (by simpa using h)
   rwa [show s+1+j=s+(j+1) by omega] at this
theorem deadO_mem {ob:Ar} : ∀ {bs:List Nat} {k o},(k,o)∈AhV ob bs↔k∈bs∧o=⟨Bl (ob k),.dead⟩:=by
 intro bs
 induction bs with
 | nil=>intro k o; simp [AhV]
 | cons x r ih =>
  intro k o
  simp only [AhV,List.mem_cons,ih,Prod.mk.injEq]
  constructor
  ·rintro (⟨rfl,rfl⟩|⟨h1,h2⟩)
   ·exact ⟨.inl rfl,rfl⟩
   ·exact ⟨.inr h1,h2⟩
  ·rintro ⟨rfl|h1,h2⟩
   ·exact .inl ⟨rfl,h2⟩
   ·exact .inr ⟨h1,h2⟩
theorem backM_get {ks:List Nat} : ∀ {os:List (Nat×Body)},os.length=ks.length→(AdG ks os).length=ks.length∧∀ (i k g:Nat),(AdG ks os)[i]? = some (k,g)→ks[i]? = some k∧∃ b,os[i]? = some (g,b):=by
 induction ks with
 | nil=>intro os h; cases os <;> simp [AdG]
 | cons k' ks ih =>
  intro os h
  cases os with
  | nil=>simp at h
  | cons p os =>
   obtain ⟨g',b'⟩:=p
   obtain ⟨h1,h2⟩:=ih (os:=os) (by simpa using h)
   refine ⟨by simp [AdG,h1],fun i k g hi => ?_⟩
   simp only [AdG] at hi
   cases i with
   | zero=>simp at hi; simp [hi.1,hi.2]
   | succ i =>
    obtain ⟨q1,b,q2⟩:=h2 i k g (by simpa using hi)
    exact ⟨by simpa using q1,b,by simpa using q2⟩
theorem newM_get {ob:Ar} {dst:Nat} : ∀ {news:List Body} {s:Nat} {i k g:Nat},(newM ob dst s news)[i]? = some (k,g)→k=key dst (s+i)∧g=Bl (ob (key dst (s+i)))∧i<news.length:=by
 intro news
 induction news with
 | nil=>intro s i k g h; simp [newM] at h
 | cons b r ih =>
  intro s i k g h
  simp only [newM] at h
  cases i with
  | zero=>simp at h; exact ⟨by rw [← h.1]; rfl,by rw [← h.2]; rfl,by simp⟩
  | succ i =>
   obtain ⟨h1,h2,h3⟩:=ih (by simpa using h)
   rw [show s+1+i=s+(i+1) by omega] at h1 h2
   exact ⟨h1,h2,by simp; omega⟩
section
variable {P : Program} {cx:Cx P} {β:Bi} {σ:St} {a:Act} {w:World}
theorem call_two {args:List MV} {outs outs' news:List Body} {res y:MV} {wo:List (Nat×Obj)} {obl:List Prop} {ob:Ar} {ks:List Nat} {xs:List MV} {dst:Nat} {keep:Bool}
  (h:Rel cx β σ a w) (hob:∀ k o,ob k=some o→σ.objs k=some o)
  (hobn:∀ j,j<news.length→ob (key dst j)=σ.objs (key dst j)) (hobb:∀ k,k∈xs.flatMap (bor ks)→ob k=σ.objs k)
  (he:Xe ob dst ks xs keep res outs' news=some (args,outs,y,wo,obl)) (hobl:All obl)
  (hsame:∀ (i:Nat) b b',outs[i]? = some b→outs'[i]? = some b'→b'.live→b.same b')
  (vs:Array Value) (hvs:vs.size=xs.length) (hrel:∀ (i:Nat) x,xs[i]? = some x→RelV β σ.objs (Al cx.Av β σ.objs w) w (vs.getD i undef) x) :
  ∃ Av' β0,Pre P w Av' β0 outs vs args∧∀ w' v β1,Post w Av' β0 outs w' β1 v res outs' news→∃ β',Rel cx β' ⟨σ.slots,Cb σ.objs wo⟩ a w' ∧
   RelV β' (Cb σ.objs wo) (Al cx.Av β' (Cb σ.objs wo) w') w' v y∧∀ b,Al cx.Av β σ.objs w b→w'.heap[b]? = w.heap[b]? := by
 unfold Xe at he
 split at he
 case h_2=>simp at he
 rename_i args0 os hargs hos
 generalize hbs:dedup (xs.flatMap (bor ks)) []=bs at he
 simp only at he
 generalize hmdef:AdG ks os++newM ob dst 0 news=m at he
 generalize hwo:Rl ks os (outs'.map (Ks m))++newO ob dst 0 (news.map (Ks m))++(bif keep then [] else AhV ob bs)=wo0 at he
 generalize hold:(!keep||bs.isEmpty||(news.isEmpty&&outs'.all Body.flatB&&res.scalar))=old at he
 cases hb:(Nat.beq outs'.length ks.length&&Acg (Ce wo0)&&bs.all (fun k=>(ob k).isSome)
   && (old||((outs'++news).all Body.flatR&&res.scalR))) with
 | false=>rw [hb] at he; simp at he
 | true =>
 simp only [hb,cond_true,Option.some.injEq,Prod.mk.injEq] at he
 obtain ⟨rfl,rfl,rfl,rfl,rfl⟩:=he
 simp only [Bool.and_eq_true] at hb
 obtain ⟨⟨⟨c1,c2⟩,c5⟩,c6⟩:=hb
 have e1:=Nat.eq_of_beq_eq_true c1
 have hnd:=AeL _ c2
 rw [List.all_eq_true] at c5
 obtain ⟨hosl,hosg⟩:=AdN ks os hos
 obtain ⟨hal,hag⟩:=Xd xs args0 hargs
 have hbmem:∀ k,k∈bs↔k∈xs.flatMap (bor ks):=by
  intro k; rw [← hbs,dedup_mem]; simp
 have hbsome:∀ k∈bs,∃ o,σ.objs k=some o∧ob k=some o:=by
  intro k hk
  have:=c5 k hk
  cases ho:ob k with
  | none=>simp [ho] at this
  | some o=>exact ⟨o,hob k o ho,rfl⟩
 have hlent:∀ (i:Nat) bd,(os.map (·.2))[i]? = some bd→∃ k g,ks[i]? = some k∧os[i]? = some (g,bd)∧∃ bd0,σ.objs k=some ⟨g,bd0⟩∧toB ob ks bd0=some bd:=by
  intro i bd hi
  rw [List.getElem?_map] at hi
  cases ho:os[i]? with
  | none=>simp [ho] at hi
  | some p =>
   have hlt:i<ks.length:=by rw [← hosl]; exact (List.getElem?_eq_some_iff.1 ho).1
   obtain ⟨g,bd',q1,bd0,q2,q3⟩:=hosg i ks[i] (List.getElem?_eq_getElem hlt)
   rw [ho] at q1
   injection q1 with q1
   subst q1
   simp [ho] at hi
   subst hi
   exact ⟨ks[i],g,List.getElem?_eq_getElem hlt,rfl,bd0,hob _ _ q2,q3⟩
 have hwkeys:Ce (Rl ks os (outs'.map (Ks m)))=ks:=by
  have:∀ (ks:List Nat) (os:List (Nat×Body)) (outs':List Body),os.length=ks.length→outs'.length=ks.length→Ce (Rl ks os outs')=ks:=by
   intro ks
   induction ks with
   | nil=>intro os o' _ _; cases os <;> simp [Rl,Ce]
   | cons k r ih =>
    intro os o' h1 h2
    cases os with
    | nil=>simp at h1
    | cons p os =>
     cases o' with
     | nil=>simp at h2
     | cons bd o'=>obtain ⟨g,b⟩:=p; simp [Rl,Ce,ih os o' (by simpa using h1) (by simpa using h2)]
  exact this ks os (outs'.map (Ks m)) hosl (by simpa using e1)
 have hnodks:ks.Nodup:=by
  rw [← hwo] at hnd
  simp only [Cm,List.map_append] at hnd
  rw [← Cm,hwkeys,List.append_assoc] at hnd
  exact (List.nodup_append.1 hnd).1
 have hpre:Pre P w (Qg cx β σ.objs ks bs) (Bf β ks) (os.map (·.2)) vs args0:=by
  refine ⟨cx.gl.mono h.kept (fun b hb hno => ?_),?_,by rw [hvs,hal],?_,?_,?_,?_⟩
  ·rintro ⟨i,bd,hi,hl,hblk⟩
   obtain ⟨k,g,hk,_,bd0,ho,hp⟩:=hlent i bd hi
   have hc:Bf β ks i=β k:=by simp [Bf,hk]
   rw [hc] at hblk
   rcases (h.blk k _ b ho ((Fi hp).2 hl) hblk).2.2 with q|q
   ·omega
   ·exact hno q
  ·rintro b (hA|⟨k,o,ho,hl,_,_,hblk⟩)
   ·exact Nat.lt_of_lt_of_le (h.avlt b hA) h.kept.size
   ·exact (h.blk k o b ho hl hblk).1
  ·intro i x hx
   obtain ⟨q,hq,hqx⟩:=hag i x hx
   exact AlP h hob hos (hrel i q hq) hqx (fun k hk=>(hbmem k).2 (List.mem_flatMap.2 ⟨q,List.mem_of_getElem? hq,hk⟩))
  ·intro i bd hi
   obtain ⟨k,g,hk,_,bd0,ho,hp⟩:=hlent i bd hi
   have hc:Bf β ks i=β k:=by simp [Bf,hk]
   rw [hc]
   refine toB_sound h hob hos (fun b hbS=>⟨hbS.1,?_,fun j o hj hl => ?_⟩) (h.ob k _ ho) hp
   ·rintro (hA|⟨k',o,ho',hl,_,_,hblk⟩)
    ·exact hbS.2.1 hA
    ·exact hbS.2.2 k' o ho' hl hblk
   ·simp only [Bq] at hj
    cases hjj:(os.map (·.2))[j]? with
    | none=>simp [hjj] at hj
    | some bd' =>
     simp only [hjj,Option.map_some,Option.some.injEq] at hj
     subst hj
     obtain ⟨k',g',hk',_,bd0',ho',hp'⟩:=hlent j bd' hjj
     have:Bf β ks j=β k':=by simp [Bf,hk']
     rw [this]
     exact hbS.2.2 k' _ ho' ((Fi hp').2 hl)
  ·intro i bd b hi hl hblk
   obtain ⟨k,g,hk,_,bd0,ho,hp⟩:=hlent i bd hi
   have hc:Bf β ks i=β k:=by simp [Bf,hk]
   rw [hc] at hblk
   have hb1:=h.blk k _ b ho ((Fi hp).2 hl) hblk
   refine ⟨hb1.1,?_⟩
   rintro (hA|⟨k',o,ho',hl',hn1,_,hblk'⟩)
   ·exact hb1.2.1 hA
   ·exact h.inj k k' _ o b ho ho' ((Fi hp).2 hl) hl' (fun e=>hn1 (e▸List.mem_of_getElem? hk)) hblk hblk'
  ·intro i j bd bd' b hi hj hl hl' hne hblk
   obtain ⟨k,g,hk,_,bd0,ho,hp⟩:=hlent i bd hi
   obtain ⟨k',g',hk',_,bd0',ho',hp'⟩:=hlent j bd' hj
   have hc:Bf β ks i=β k:=by simp [Bf,hk]
   have hc':Bf β ks j=β k':=by simp [Bf,hk']
   rw [hc] at hblk
   rw [hc']
   have hkk:k≠k':=by
    intro e
    subst e
    have h1:=(List.getElem?_eq_some_iff.1 hk)
    have h2:=(List.getElem?_eq_some_iff.1 hk')
    obtain ⟨l1,v1⟩:=h1
    obtain ⟨l2,v2⟩:=h2
    have hpw:=List.pairwise_iff_getElem.1 hnodks
    rcases Nat.lt_or_gt_of_ne hne with hlt|hgt
    ·exact hpw i j l1 l2 hlt (v1.trans v2.symm)
    ·exact hpw j i l2 l1 hgt (v2.trans v1.symm)
   exact h.inj k k' _ _ b ho ho' ((Fi hp).2 hl) ((Fi hp').2 hl') hkk hblk
 refine ⟨_,_,hpre,?_⟩
 intro w' v β1 hpost
 have hnl:(os.map (·.2)).length=ks.length:=by simpa using hosl
 have hA:∀ (i k:Nat) g b bd,ks[i]? = some k→os[i]? = some (g,b)→outs'[i]? = some bd→Cb σ.objs wo0 k=some ⟨upG g bd,Ks m bd⟩:=by
  intro i k g b bd h1 h2 h3
  refine AaG wo0 k _ hnd ?_
  rw [← hwo]
  have:=backO_has (outs':=outs'.map (Ks m)) (bd:=Ks m bd) h1 h2 (by rw [List.getElem?_map,h3]; rfl)
  rw [upG_ren] at this
  exact List.mem_append.2 (.inl (List.mem_append.2 (.inl this)))
 have hB:∀ (j:Nat) bd,news[j]? = some bd→Cb σ.objs wo0 (key dst j)=some ⟨Bl (σ.objs (key dst j)),Ks m bd⟩:=by
  intro j bd hj
  refine AaG wo0 _ _ hnd ?_
  rw [← hwo]
  have:=AnR (ob:=ob) (dst:=dst) (s:=0) (news:=news.map (Ks m)) (j:=j) (bd:=Ks m bd) (by rw [List.getElem?_map,hj]; rfl)
  rw [Nat.zero_add,hobn j (List.getElem?_eq_some_iff.1 hj).1] at this
  exact List.mem_append.2 (.inl (List.mem_append.2 (.inr this)))
 have hC:∀ k,keep=false→k∈bs→Cb σ.objs wo0 k=some ⟨Bl (σ.objs k),.dead⟩:=by
  intro k hk hkb
  refine AaG wo0 _ _ hnd ?_
  rw [← hwo]
  refine List.mem_append.2 (.inr ?_)
  simp only [hk,cond_false]
  rw [deadO_mem]
  exact ⟨hkb,by rw [hobb k ((hbmem k).1 hkb)]⟩
 have hcase:∀ k,(∃ (i:Nat) (g:Nat) (b bd:Body),ks[i]? = some k∧os[i]? = some (g,b)∧outs'[i]? = some bd) ∨
   (k∉ks∧∃ (j:Nat) (bd:Body),news[j]? = some bd∧k=key dst j) ∨
   (k∉ks∧(∀ j,j<news.length→k≠key dst j)∧keep=false∧k∈bs) ∨
   (k∉ks∧(∀ j,j<news.length→k≠key dst j)∧(keep=false→k∉bs)∧Cb σ.objs wo0 k=σ.objs k):=by
  intro k
  have hnd2:=hnd
  rw [← hwo] at hnd2
  simp only [Cm,List.map_append] at hnd2
  rw [← Cm,← Cm,← Cm,hwkeys] at hnd2
  obtain ⟨hn12,hn3,hdis3⟩:=List.nodup_append.1 hnd2
  obtain ⟨hn1,hn2,hdis2⟩:=List.nodup_append.1 hn12
  by_cases hk:k∈ks
  ·left
   obtain ⟨i,hi,hik⟩:=List.getElem_of_mem hk
   have hki:ks[i]? = some k:=by rw [List.getElem?_eq_getElem hi,hik]
   obtain ⟨g,bd,q1,_⟩:=hosg i k hki
   have hlt:i<outs'.length:=by omega
   exact ⟨i,g,bd,outs'[i],hki,q1,List.getElem?_eq_getElem hlt⟩
  ·right
   by_cases hj:∃ j,j<news.length∧k=key dst j
   ·left
    obtain ⟨j,hj1,hj2⟩:=hj
    exact ⟨hk,j,news[j],List.getElem?_eq_getElem hj1,hj2⟩
   ·right
    have hj':∀ j,j<news.length→k≠key dst j:=fun j h1 h2=>hj ⟨j,h1,h2⟩
    by_cases hkb:keep=false∧k∈bs
    ·exact .inl ⟨hk,hj',hkb.1,hkb.2⟩
    ·refine .inr ⟨hk,hj',fun h1 h2=>hkb ⟨h1,h2⟩,Ni wo0 ?_⟩
     rw [← Cm,← hwo]
     simp only [Cm,List.map_append,List.mem_append,not_or]
     rw [← Cm,← Cm,hwkeys]
     refine ⟨⟨hk,fun hm => ?_⟩,fun hm => ?_⟩
     ·rw [Cm] at hm
      obtain ⟨p,hp,hpk⟩:=List.mem_map.1 hm
      obtain ⟨k0,o0⟩:=p
      obtain ⟨j,bd,q1,q2,_⟩:=newO_mem hp
      simp at hpk
      subst hpk
      rw [Nat.zero_add] at q2
      exact hj' j (by simpa using (List.getElem?_eq_some_iff.1 q1).1) q2
     ·cases keep with
      | true=>simp at hm
      | false =>
       simp only [cond_false] at hm
       obtain ⟨p,hp,hpk⟩:=List.mem_map.1 hm
       obtain ⟨k0,o0⟩:=p
       simp at hpk
       subst hpk
       exact hkb ⟨rfl,(deadO_mem.1 hp).1⟩
 let β2:Bi:=fun k=>if k∈ks then β k else if 1000+8*dst≤k∧k<1000+8*dst+news.length then β1 (ks.length+(k-(1000+8*dst))) else β k
 have b2A:∀ k,k∈ks→β2 k=β k:=fun k hk=>by simp only [β2,hk,if_true]
 have b2B:∀ j,j<news.length→key dst j∉ks→β2 (key dst j)=β1 (ks.length+j):=by
  intro j hj hk
  simp only [β2,hk,if_false]
  rw [if_pos (by simp only [key]; omega)]
  congr 1
  simp only [key]
  omega
 have b2D:∀ k,k∉ks→(∀ j,j<news.length→k≠key dst j)→β2 k=β k:=by
  intro k hk hj
  simp only [β2,hk,if_false]
  rw [if_neg]
  rintro ⟨h1,h2⟩
  exact hj (k-(1000+8*dst)) (by omega) (by simp only [key]; omega)
 have hloc:∀ (i k:Nat) bd,ks[i]? = some k→outs'[i]? = some bd→bd.live→β1 i=β k:=by
  intro i k bd hk hbd hl
  rw [hpost.loc i bd (by rw [hnl]; exact (List.getElem?_eq_some_iff.1 hk).1) hbd hl]
  simp [Bf,hk]
 have hosm:∀ (i g:Nat) b,os[i]? = some (g,b)→(os.map (·.2))[i]? = some b:=fun i g b h=>by simp [h]
 have hnewblk:∀ (j:Nat) bd b,news[j]? = some bd→bd.live→(β1 (ks.length+j)).block=some b→b<w'.heap.size∧(w.heap.size≤b∨∃ k0 o0 g0,σ.objs k0=some o0∧o0.body.live∧(β k0).block=some b∧Cb σ.objs wo0 k0=some ⟨g0,.dead⟩):=by
  intro j bd b hj hl hb
  have:=hpost.blk (ks.length+j) bd b (by rw [List.getElem?_append_right (by omega)]; rw [show ks.length+j-outs'.length=j by omega]; exact hj) hl hb
  refine ⟨this.1,?_⟩
  rcases this.2 with h1|h1|⟨i,bd0,i1,i2,i3,i4⟩
  ·rw [hnl] at h1; omega
  ·exact .inl h1
  ·right
   obtain ⟨k0,g0,hk0,q1,bd1,q2,q3⟩:=hlent i bd0 i1
   exact ⟨k0,_,_,q2,(Fi q3).2 i2,by simpa [Bf,hk0] using i4,hA i k0 g0 bd0 .dead hk0 q1 i3⟩
 have hg:Grows β β2 σ.objs (Cb σ.objs wo0):=by
  intro k o ho
  rcases hcase k with ⟨i,g,b,bd,h1,h2,h3⟩|⟨hk,j,bd,hj,rfl⟩|⟨hk,hj,hkp,hkb⟩|⟨hk,hj,_,hD⟩
  ·refine ⟨_,hA i k g b bd h1 h2 h3,?_⟩
   obtain ⟨k',g',q1,q2,bd0,q3,q4⟩:=hlent i b (hosm i g b h2)
   rw [h1] at q1
   injection q1 with q1
   subst q1
   rw [h2] at q2
   injection q2 with q2
   injection q2 with q2 _
   subst q2
   rw [ho] at q3
   injection q3 with q3
   subst q3
   by_cases hl:bd.live
   ·exact ⟨by rw [AnG hl]; exact Nat.le_refl _,fun _=>⟨b2A k (List.mem_of_getElem? h1),ApO (ApO (toB_same q4) (hsame i b bd (hosm i _ b h2) h3 hl)) Agf⟩⟩
   ·have hd:bd = .dead:=by cases bd <;> first|rfl|exact absurd trivial hl
    subst hd
    exact ⟨Nat.le_succ _,fun e=>by simp [upG] at e⟩
  ·refine ⟨_,hB j bd hj,?_⟩
   rw [ho]
   exact ⟨by simp [Bl],fun e=>by simp [Bl] at e⟩
  ·refine ⟨_,hC k hkp hkb,?_⟩
   rw [ho]
   exact ⟨by simp [Bl],fun e=>by simp [Bl] at e⟩
  ·exact ⟨o,by rw [hD]; exact ho,Nat.le_refl _,fun _=>⟨b2D k hk hj,o.body.same_refl⟩⟩
 have hS:∀ b,Al cx.Av β σ.objs w b→Al cx.Av β2 (Cb σ.objs wo0) w' b:=by
  intro b hb
  refine ⟨Nat.lt_of_lt_of_le hb.1 hpost.kept.size,hb.2.1,fun k o ho hl => ?_⟩
  rcases hcase k with ⟨i,g,b',bd,h1,h2,h3⟩|⟨hk,j,bd,hj,rfl⟩|⟨hk,hj,hkp,hkb⟩|⟨hk,hj,_,hD⟩
  ·rw [b2A k (List.mem_of_getElem? h1)]
   obtain ⟨k',g',q1,q2,bd0,q3,q4⟩:=hlent i b' (hosm i g b' h2)
   rw [h1] at q1
   injection q1 with q1
   subst q1
   rw [hA i k g b' bd h1 h2 h3] at ho
   injection ho with ho
   subst ho
   have hl:=renB_live.1 hl
   exact hb.2.2 k _ q3 ((Fi q4).2 ((ApP (hsame i b' bd (hosm i g b' h2) h3 hl)).2 hl))
  ·rw [hB j bd hj] at ho
   injection ho with ho
   subst ho
   rw [b2B j (List.getElem?_eq_some_iff.1 hj).1 hk]
   intro e
   rcases (hnewblk j bd b hj (renB_live.1 hl) e).2 with h0|⟨k0,o0,g0,i1,i2,i3,_⟩
   ·have:=hb.1
    omega
   ·exact hb.2.2 k0 o0 i1 i2 i3
  ·rw [hC k hkp hkb] at ho
   injection ho with ho
   subst ho
   exact hl.elim
  ·rw [hD] at ho
   rw [b2D k hk hj]
   exact hb.2.2 k o ho hl
 have houtB:∀ b,(∃ (k:Nat) (bd:Body),(os.map (·.2))[k]? = some bd∧bd.live∧(Bf β ks k).block=some b)→∃ k o,σ.objs k=some o∧o.body.live∧k∈ks∧(β k).block=some b:=by
  rintro b ⟨i,bd,hi,hl,hblk⟩
  obtain ⟨k,g,hk,_,bd0,ho,hp⟩:=hlent i bd hi
  have hc:Bf β ks i=β k:=by simp [Bf,hk]
  rw [hc] at hblk
  exact ⟨k,_,ho,(Fi hp).2 hl,List.mem_of_getElem? hk,hblk⟩
 have hw:∀ b,Al cx.Av β σ.objs w b→w'.heap[b]? = w.heap[b]? := by
  intro b hb
  refine hpost.kept.block b hb.1 fun hout => ?_
  obtain ⟨k,o,ho,hl,_,hblk⟩:=houtB b hout
  exact hb.2.2 k o ho hl hblk
 have hS1:(keep=false∨bs = [])→∀ b,Al (Qg cx β σ.objs ks bs) β1 (Bq (outs'++news)) w' b→Al cx.Av β2 (Cb σ.objs wo0) w' b:=by
  intro hkb b hb
  refine ⟨hb.1,fun hA'=>hb.2.1 (.inl hA'),fun k o ho hl => ?_⟩
  rcases hcase k with ⟨i,g,b',bd,h1,h2,h3⟩|⟨hk,j,bd,hj,rfl⟩|⟨hk,hj,hkp,hkb'⟩|⟨hk,hj,hn,hD⟩
  ·rw [hA i k g b' bd h1 h2 h3] at ho
   injection ho with ho
   subst ho
   rw [b2A k (List.mem_of_getElem? h1),← hloc i k bd h1 h3 (renB_live.1 hl)]
   exact hb.2.2 i ⟨0,bd⟩ (by simp only [Bq]; rw [List.getElem?_append_left (List.getElem?_eq_some_iff.1 h3).1,h3]; rfl) (renB_live.1 hl)
  ·rw [hB j bd hj] at ho
   injection ho with ho
   subst ho
   rw [b2B j (List.getElem?_eq_some_iff.1 hj).1 hk]
   exact hb.2.2 (ks.length+j) ⟨0,bd⟩ (by simp only [Bq]; rw [List.getElem?_append_right (by omega),show ks.length+j-outs'.length=j by omega,hj]; rfl) (renB_live.1 hl)
  ·rw [hC k hkp hkb'] at ho
   injection ho with ho
   subst ho
   exact hl.elim
  ·rw [hD] at ho
   rw [b2D k hk hj]
   intro e
   refine hb.2.1 (.inr ⟨k,o,ho,hl,hk,?_,e⟩)
   rcases hkb with h0|h0
   ·exact hn h0
   ·rw [h0]; simp
 have hkeep:keep=false∨bs = []∨(news = []∧(∀ bd∈outs',bd.flatB=true)∧res.scalar=true)∨((∀ bd∈outs'++news,bd.flatR=true)∧res.scalR=true∧All (AbZ (outs'++news))):=by
  cases old with
  | true =>
   simp only [Bool.or_eq_true,Bool.not_eq_true',Bool.and_eq_true,List.isEmpty_iff] at hold
   rcases hold with (h1|h1)|h1
   ·exact .inl h1
   ·exact .inr (.inl h1)
   ·exact .inr (.inr (.inl ⟨h1.1.1,by have:=h1.1.2; rw [List.all_eq_true] at this; exact this,h1.2⟩))
  | false =>
   simp only [Bool.false_or,Bool.and_eq_true,List.all_eq_true] at c6
   exact .inr (.inr (.inr ⟨c6.1,c6.2,hobl⟩))
 have hmm:∀ i o,Bq (outs'++news) i=some o→o.gen=0∧∀ k g,m[i]? = some (k,g)→∃ o'',Cb σ.objs wo0 k=some o''∧g≤o''.gen∧(o''.gen=g→β2 k=β1 i∧o.body.same o''.body):=by
  rw [← hmdef]
  obtain ⟨bl,bg⟩:=backM_get (ks:=ks) (os:=os) hosl
  intro i o ho
  simp only [Bq] at ho
  cases hoo:(outs'++news)[i]? with
  | none=>simp [hoo] at ho
  | some bd =>
   simp only [hoo,Option.map_some,Option.some.injEq] at ho
   subst ho
   refine ⟨rfl,fun k g hm => ?_⟩
   by_cases hi:i<ks.length
   ·rw [List.getElem?_append_left (by omega)] at hm
    obtain ⟨m1,b,m2⟩:=bg i k g hm
    rw [List.getElem?_append_left (by omega)] at hoo
    by_cases hl:bd.live
    ·exact ⟨_,hA i k g b bd m1 m2 hoo,by rw [AnG hl]; exact Nat.le_refl _,fun _=>⟨by rw [b2A k (List.mem_of_getElem? m1),hloc i k bd m1 hoo hl],Agf⟩⟩
    ·have hd:bd = .dead:=by cases bd <;> first|rfl|exact absurd trivial hl
     subst hd
     exact ⟨_,hA i k g b .dead m1 m2 hoo,Nat.le_succ _,fun e=>by simp [upG] at e⟩
   ·rw [List.getElem?_append_right (by omega),bl] at hm
    rw [List.getElem?_append_right (by omega),e1] at hoo
    obtain ⟨m1,m2,m3⟩:=newM_get hm
    rw [Nat.zero_add] at m1 m2
    have hknot:k∉ks:=by
     rcases hcase k with ⟨i',g',b',bd',h1,h2,h3⟩|⟨hk,_⟩|⟨hk,_⟩|⟨hk,_⟩
     ·have hnd2:=hnd
      rw [← hwo] at hnd2
      simp only [Cm,List.map_append] at hnd2
      rw [← Cm,← Cm,← Cm,hwkeys] at hnd2
      obtain ⟨hn12,_,_⟩:=List.nodup_append.1 hnd2
      obtain ⟨_,_,hdis2⟩:=List.nodup_append.1 hn12
      intro hk
      refine hdis2 k hk k ?_ rfl
      have:=AnR (ob:=ob) (dst:=dst) (s:=0) (news:=news.map (Ks m)) (j:=i-ks.length) (bd:=Ks m bd) (by rw [List.getElem?_map,hoo]; rfl)
      rw [Nat.zero_add,← m1] at this
      rw [Cm]
      exact List.mem_map.2 ⟨_,this,rfl⟩
     ·exact hk
     ·exact hk
     ·exact hk
    refine ⟨⟨g,Ks m bd⟩,?_,Nat.le_refl _,fun _=>⟨?_,Agf⟩⟩
    rotate_left
    ·rw [m1,b2B (i-ks.length) m3 (m1▸hknot)]
     congr 1
     omega
    ·rw [m1,hB (i-ks.length) bd hoo,m2,hobn _ m3]
 have hS1o:∀ (k:Nat) bd,(outs'++news)[k]? = some bd→∀ l,ObjRel β1 (Bq (outs'++news)) (Al (Qg cx β σ.objs ks bs) β1 (Bq (outs'++news)) w') w' l bd→ObjRel β2 (Cb σ.objs wo0) (Al cx.Av β2 (Cb σ.objs wo0) w') w' l (Ks m bd):=by
  intro k bd hk l hl
  rcases hkeep with h1|h1|⟨h1,h2,_⟩|⟨h1,_,h3⟩
  case inr.inr.inr =>
   have hm':=List.mem_of_getElem? hk
   exact Afh (fun _ hb=>hb) hmm (flatR_rel (h1 bd hm') (fun W n f e=>Aoi h3 (e▸hm')) hl)
  ·exact Afh (hS1 (.inl h1)) hmm hl
  ·exact Afh (hS1 (.inr h1)) hmm hl
  ·rw [h1,List.append_nil] at hk
   have hf:=h2 bd (List.mem_of_getElem? hk)
   rw [renB_flat hf]
   exact flatB_rel hf hl
 refine ⟨β2,h.step β2 _ w' hg hS hw ?_ ?_ ?_ ?_ ?_,?_,hw⟩
 ·intro k o ho
  rcases hcase k with ⟨i,g,b',bd,h1,h2,h3⟩|⟨hk,j,bd,hj,rfl⟩|⟨hk,hj,hkp,hkb'⟩|⟨hk,hj,hn,hD⟩
  ·rw [hA i k g b' bd h1 h2 h3] at ho
   injection ho with ho
   subst ho
   by_cases hl:bd.live
   case neg =>
    have hd:bd = .dead:=by cases bd <;> first|rfl|exact absurd trivial hl
    subst hd
    trivial
   rw [b2A k (List.mem_of_getElem? h1),← hloc i k bd h1 h3 hl]
   have hget:(outs'++news)[i]? = some bd:=by rw [List.getElem?_append_left (List.getElem?_eq_some_iff.1 h3).1,h3]
   exact hS1o i bd hget _ (hpost.ob i bd hget)
  ·rw [hB j bd hj] at ho
   injection ho with ho
   subst ho
   rw [b2B j (List.getElem?_eq_some_iff.1 hj).1 hk]
   have hget:(outs'++news)[ks.length+j]? = some bd:=by rw [List.getElem?_append_right (by omega),show ks.length+j-outs'.length=j by omega,hj]
   exact hS1o _ bd hget _ (hpost.ob _ bd hget)
  ·rw [hC k hkp hkb'] at ho
   injection ho with ho
   subst ho
   trivial
  ·rw [hD] at ho
   rw [b2D k hk hj]
   by_cases hl:o.body.live
   ·refine (h.ob k o ho).mono hg hS hw fun b hb => ?_
    refine hpost.kept.block b (h.blk k o b ho hl hb).1 fun hout => ?_
    obtain ⟨k',o',ho',hl',hk',hblk⟩:=houtB b hout
    exact h.inj k k' o o' b ho ho' hl hl' (fun e=>hk (e▸hk')) hb hblk
   ·cases hbd:o.body with
    | dead=>trivial
    | box cs=>simp [hbd,Body.live] at hl
    | row W n f=>simp [hbd,Body.live] at hl
    | mp z has f=>simp [hbd,Body.live] at hl
    | mq q=>simp [hbd,Body.live] at hl
 ·intro k o b ho hl hb
  rcases hcase k with ⟨i,g,b',bd,h1,h2,h3⟩|⟨hk,j,bd,hj,rfl⟩|⟨hk,hj,hkp,hkb'⟩|⟨hk,hj,hn,hD⟩
  ·rw [b2A k (List.mem_of_getElem? h1)] at hb
   obtain ⟨k',g',q1,q2,bd0,q3,q4⟩:=hlent i b' (hosm i g b' h2)
   rw [h1] at q1
   injection q1 with q1
   subst q1
   rw [hA i k g b' bd h1 h2 h3] at ho
   injection ho with ho
   subst ho
   have hl:=renB_live.1 hl
   have:=h.blk k _ b q3 ((Fi q4).2 ((ApP (hsame i b' bd (hosm i g b' h2) h3 hl)).2 hl)) hb
   exact ⟨Nat.lt_of_lt_of_le this.1 hpost.kept.size,this.2⟩
  ·rw [hB j bd hj] at ho
   injection ho with ho
   subst ho
   rw [b2B j (List.getElem?_eq_some_iff.1 hj).1 hk] at hb
   obtain ⟨n1,n2⟩:=hnewblk j bd b hj (renB_live.1 hl) hb
   have hks:=h.kept.size
   rcases n2 with n2|⟨k0,o0,g0,i1,i2,i3,_⟩
   ·exact ⟨n1,fun hA'=>by have:=h.avlt b hA'; omega,.inl (by omega)⟩
   ·exact ⟨n1,(h.blk k0 o0 b i1 i2 i3).2⟩
  ·rw [hC k hkp hkb'] at ho
   injection ho with ho
   subst ho
   exact hl.elim
  ·rw [hD] at ho
   rw [b2D k hk hj] at hb
   have:=h.blk k o b ho hl hb
   exact ⟨Nat.lt_of_lt_of_le this.1 hpost.kept.size,this.2⟩
 ·-- where each object lies: of old,or new
  have place:∀ k o b,Cb σ.objs wo0 k=some o→o.body.live→(β2 k).block=some b →
    (∃ o0,σ.objs k=some o0∧o0.body.live∧(β k).block=some b∧b<w.heap.size) ∨
    (∃ j bd,news[j]? = some bd∧bd.live∧k=key dst j∧(β1 (ks.length+j)).block=some b∧(w.heap.size≤b∨∃ k0 o0 g0,σ.objs k0=some o0∧o0.body.live∧(β k0).block=some b∧Cb σ.objs wo0 k0=some ⟨g0,.dead⟩)):=by
   intro k o b ho hl hb
   rcases hcase k with ⟨i,g,b',bd,h1,h2,h3⟩|⟨hk,j,bd,hj,rfl⟩|⟨hk,hj,hkp,hkb'⟩|⟨hk,hj,hn,hD⟩
   ·rw [b2A k (List.mem_of_getElem? h1)] at hb
    obtain ⟨k',g',q1,q2,bd0,q3,q4⟩:=hlent i b' (hosm i g b' h2)
    rw [h1] at q1
    injection q1 with q1
    subst q1
    rw [hA i k g b' bd h1 h2 h3] at ho
    injection ho with ho
    subst ho
    have hl:=renB_live.1 hl
    have hl0:=(Fi q4).2 ((ApP (hsame i b' bd (hosm i g b' h2) h3 hl)).2 hl)
    exact .inl ⟨_,q3,hl0,hb,(h.blk k _ b q3 hl0 hb).1⟩
   ·rw [hB j bd hj] at ho
    injection ho with ho
    subst ho
    rw [b2B j (List.getElem?_eq_some_iff.1 hj).1 hk] at hb
    exact .inr ⟨j,bd,hj,renB_live.1 hl,rfl,hb,(hnewblk j bd b hj (renB_live.1 hl) hb).2⟩
   ·rw [hC k hkp hkb'] at ho
    injection ho with ho
    subst ho
    exact hl.elim
   ·rw [hD] at ho
    rw [b2D k hk hj] at hb
    exact .inl ⟨o,ho,hl,hb,(h.blk k o b ho hl hb).1⟩
  intro k k' o o' b ho ho' hl hl' hne hb hb'
  rcases place k o b ho hl hb with ⟨q,q1,q2,q3,q4⟩|⟨j,bd,q1,q2,q3,q4,q5⟩
  ·rcases place k' o' b ho' hl' hb' with ⟨r,r1,r2,r3,r4⟩|⟨j',bd',r1,r2,r3,r4,r5⟩
   ·exact h.inj k k' q r b q1 r1 q2 r2 hne q3 r3
   ·rcases r5 with r5|⟨k0,o0,g0,i1,i2,i3,i4⟩
    ·omega
    ·have hk0:k≠k0:=fun e=>by
      subst e
      rw [i4] at ho
      injection ho with ho
      subst ho
      exact hl
     exact h.inj k k0 q o0 b q1 i1 q2 i2 hk0 q3 i3
  ·rcases place k' o' b ho' hl' hb' with ⟨r,r1,r2,r3,r4⟩|⟨j',bd',r1,r2,r3,r4,r5⟩
   ·rcases q5 with q5|⟨k0,o0,g0,i1,i2,i3,i4⟩
    ·omega
    ·have hk0:k'≠k0:=fun e=>by
      subst e
      rw [i4] at ho'
      injection ho' with ho'
      subst ho'
      exact hl'
     exact h.inj k' k0 r o0 b r1 i1 r2 i2 hk0 r3 i3
   ·refine hpost.inj (ks.length+j) (ks.length+j') bd bd' b ?_ ?_ q2 r2 ?_ q4 r4
    ·rw [List.getElem?_append_right (by omega),show ks.length+j-outs'.length=j by omega,q1]
    ·rw [List.getElem?_append_right (by omega),show ks.length+j'-outs'.length=j' by omega,r1]
    ·intro e
     apply hne
     rw [q3,r3]
     congr 1
     omega
 ·have hk:=h.kept
  have hp:=hpost.kept
  refine ⟨hp.os.trans hk.os,hp.tape.trans hk.tape,hp.output.trans hk.output,Nat.le_trans hk.size hp.size,fun b hb hno => ?_⟩
  rw [hp.block b (Nat.lt_of_lt_of_le hb hk.size) fun hout => ?_]
  ·exact hk.block b hb hno
  ·obtain ⟨k',o',ho',hl',hk',hblk⟩:=houtB b hout
   rcases (h.blk k' o' b ho' hl' hblk).2.2 with h1|h1
   ·omega
   ·exact hno h1
 ·intro k o hkm ho hgen
  rcases hcase k with ⟨i,g,b',bd,h1,h2,h3⟩|⟨hk,j,bd,hj,rfl⟩|⟨hk,hj,hkp,hkb'⟩|⟨hk,hj,hn,hD⟩
  ·rw [b2A k (List.mem_of_getElem? h1)]
   rw [hA i k g b' bd h1 h2 h3] at ho
   injection ho with ho
   subst ho
   obtain ⟨k',g',q1,q2,bd0,q3,q4⟩:=hlent i b' (hosm i g b' h2)
   rw [h1] at q1
   injection q1 with q1
   subst q1
   rw [h2] at q2
   injection q2 with q2
   injection q2 with q2 _
   subst q2
   have hg0:g=0:=by
    cases bd <;> simp [upG] at hgen <;> exact hgen
   exact h.oloc k _ hkm q3 hg0
  ·have:=h.mle
   unfold key at hkm
   omega
  ·rw [hC k hkp hkb'] at ho
   injection ho with ho
   subst ho
   obtain ⟨o0,ho0,_⟩:=hbsome k hkb'
   rw [ho0] at hgen
   simp [Bl] at hgen
  ·rw [hD] at ho
   rw [b2D k hk hj]
   exact h.oloc k o hkm ho hgen
 ·-- the result
  have hfull:(keep=false∨bs = [])→RelV β2 (Cb σ.objs wo0) (Al cx.Av β2 (Cb σ.objs wo0) w') w' v (renN m 3 res):=by
   intro hkb
   exact Aga (hS1 hkb) rfl hmm 3 v res hpost.res
  rcases hkeep with h1|h1|⟨h1,h2,h3⟩|⟨_,h2,_⟩
  case inr.inr.inr=>exact Aga (fun _ hb=>hb) rfl hmm 3 v res (scalR_rel h2 hpost.res)
  ·exact hfull (.inl h1)
  ·exact hfull (.inr h1)
  ·have hr:=hpost.res
   cases hres:res with
   | p x =>
    rw [hres] at hr h3
    exact .p _ _ (AjY h3 hr.inv_p)
   | und =>
    rw [hres] at hr
    generalize v=v0 at hr
    cases hr
    exact .und
   | _=>rw [hres] at h3; simp [MV.scalar] at h3
theorem AoX {f:FuncId} {args:List MV} {outs outs' news:List Body} {res y:MV} {wo:List (Nat×Obj)} {obl:List Prop} {ob:Ar} {ks:List Nat} {xs:List MV} {dst:Nat} {keep:Bool}
  (hsp:Spec P f args outs res outs' news) (h:Rel cx β σ a w) (hob:∀ k o,ob k=some o→σ.objs k=some o)
  (hobn:∀ j,j<news.length→ob (key dst j)=σ.objs (key dst j)) (hobb:∀ k,k∈xs.flatMap (bor ks)→ob k=σ.objs k)
  (he:Xe ob dst ks xs keep res outs' news=some (args,outs,y,wo,obl)) (hobl:All obl)
  (hsame:∀ (i:Nat) b b',outs[i]? = some b→outs'[i]? = some b'→b'.live→b.same b')
  (vs:Array Value) (hvs:vs.size=xs.length) (hrel:∀ (i:Nat) x,xs[i]? = some x→RelV β σ.objs (Al cx.Av β σ.objs w) w (vs.getD i undef) x) :
  Calls P f vs w fun e w'=>∃ v β',e = .returned v∧Rel cx β' ⟨σ.slots,Cb σ.objs wo⟩ a w' ∧
   RelV β' (Cb σ.objs wo) (Al cx.Av β' (Cb σ.objs wo) w') w' v y:=by
 obtain ⟨Av',β0,hpre,hpost⟩:=call_two (res:=res) (news:=news) h hob hobn hobb he hobl hsame vs hvs hrel
 refine (hsp.2 w _ _ vs hpre).mono ?_
 rintro e w' ⟨v,β1,rfl,hp⟩
 obtain ⟨β',h1,h2,_⟩:=hpost w' v β1 hp
 exact ⟨v,β',rfl,h1,h2⟩
end
end Go.Dm

namespace Go.Dm
inductive Orc where
 | no
 | pk (b:Bool)
 | skip
 | asR (y:MV) (n:Nat) (f:Nat→List PV)
 | asM (z:PV) (has:Int→Bool) (f:Int→PV)
 | ky (n:Int)
 | frz (n:Nat) (f:Nat→List PV)
 | mv
 | nat (z:Value)
 | call (f:Nat) (ks:List Nat) (keep:Bool) (res:MV) (outs' news:List Body) (sm:List Nat)
def Orc.isSkip : Orc→Bool
 | .skip=>true
 | _=>false
def Orc.bit : Orc→Bool
 | .pk b=>b
 | _=>true
def Tc (gs:List (Option Nat)) (g:Option (Nat×Bool)) (sk:Bool) (σ:St):Option (List Nat×List Prop) :=
 match g with
 | none=>bif sk then none else some ([],[])
 | some (j,want)=>match gs[j]? with
  | some (some t)=>match σ.slots t with
   | .p (.v (.bool b))=>some ([t],[b=(bif sk then !want else want)])
   | .und=>bif sk then some ([t],[]) else none
   | _=>none
  | _=>none
def AbX (dst:Nat):Nat→Nat→List Nat
 | 0,_ => []
 | n+1,j=>key dst j::AbX dst n (j+1)
def sameD (b:Body):Body→Prop
 | .dead=>True
 | .box cs=>b.same (.box cs)
 | .row W n f=>b.same (.row W n f)
 | .mp z has f=>b.same (.mp z has f)
 | .mq q=>b.same (.mq q)
theorem sameD.get {b c:Body} (h:sameD b c) (hl:c.live):b.same c:=by cases c <;> first|exact h|exact hl.elim
def Afq : List Body→List Body→List Prop
 | b::r,c::s=>sameD b c::Afq r s
 | _,_ => []
def fnOf : MV→Option (Nat×List MV)
 | .p (.fn f caps)=>some (f,caps.map .p)
 | .fn f caps=>bif Nat.blt f BND then some (f,caps) else none
 | _=>none
def Aeu (g:MV) (xs:List MV):Option (Nat×List MV):=match g with
 | .p (.fn f caps)=>some (f,xs++caps.map .p)
 | .fn f caps=>bif Nat.blt f BND then some (f,xs++caps) else some (f-BND,caps++xs)
 | _=>none
def Vy (sm:List Nat):List (Nat×Obj)→List (Nat×Obj)
 | [] => []
 | (k,o)::r=>bif elem k sm then Vy sm r else (k,o)::Vy sm r
def Aap (sm:List Nat) (ob:Ar):List (Nat×Obj)→List Prop
 | [] => []
 | (k,o)::r=>bif elem k sm then (ob k=some o)::Aap sm ob r else Aap sm ob r
theorem dropK_mem {sm:List Nat} : ∀ {l:List (Nat×Obj)} {k:Nat} {o:Obj},(k,o)∈Vy sm l↔(k,o)∈l∧k∉sm
 | [],k,o=>by simp [Vy]
 | (i,q)::r,k,o=>by
  simp only [Vy]
  cases hb:elem i sm with
  | true =>
   have hi:=(Qb i sm).1 hb
   simp only [cond_true,dropK_mem,List.mem_cons,Prod.mk.injEq]
   constructor
   ·rintro ⟨h1,h2⟩; exact ⟨.inr h1,h2⟩
   ·rintro ⟨⟨rfl,rfl⟩|h1,h2⟩
    ·exact absurd hi h2
    ·exact ⟨h1,h2⟩
  | false =>
   have hi:i∉sm:=fun h=>by rw [(Qb i sm).2 h] at hb; simp at hb
   simp only [cond_false,List.mem_cons,dropK_mem,Prod.mk.injEq]
   constructor
   ·rintro (⟨rfl,rfl⟩|⟨h1,h2⟩)
    ·exact ⟨.inl ⟨rfl,rfl⟩,hi⟩
    ·exact ⟨.inr h1,h2⟩
   ·rintro ⟨⟨rfl,rfl⟩|h1,h2⟩
    ·exact .inl ⟨rfl,rfl⟩
    ·exact .inr ⟨h1,h2⟩
theorem dropK_sub {sm:List Nat} : ∀ {l:List (Nat×Obj)},(Vy sm l).Sublist l
 | []=>List.Sublist.slnil
 | (i,q)::r=>by
  simp only [Vy]
  cases elem i sm with
  | true=>exact .cons _ dropK_sub
  | false=>exact .cons_cons _ dropK_sub
theorem Agx {sm:List Nat} {ob:Ar} : ∀ {l:List (Nat×Obj)} {k:Nat} {o:Obj},All (Aap sm ob l)→(k,o)∈l→k∈sm→ob k=some o
 | [],k,o,_,h,_=>by simp at h
 | (i,q)::r,k,o,ha,h,hk=>by
  simp only [Aap] at ha
  cases hb:elem i sm with
  | true =>
   simp only [hb,cond_true,All] at ha
   rcases List.mem_cons.1 h with e|h
   ·injection e with e1 e2
    subst e1; subst e2
    exact ha.1
   ·exact Agx ha.2 h hk
  | false =>
   simp only [hb,cond_false] at ha
   rcases List.mem_cons.1 h with e|h
   ·injection e with e1 e2
    subst e1
    rw [(Qb k sm).2 hk] at hb
    simp at hb
   ·exact Agx ha h hk
theorem Aps {sm:List Nat} {ob objs:Ar} {wo:List (Nat×Obj)} (hn:(Ce wo).Nodup) (hob:∀ k o,ob k=some o→objs k=some o) (h:All (Aap sm ob wo)):Cb objs (Vy sm wo)=Cb objs wo:=by
 funext k
 have hn2:(Ce (Vy sm wo)).Nodup:=by
  rw [Cm] at hn ⊢
  exact hn.sublist (dropK_sub.map _)
 by_cases hk:k∈Ce wo
 ·rw [Cm] at hk
  obtain ⟨p,hp,rfl⟩:=List.mem_map.1 hk
  obtain ⟨k,o⟩:=p
  rw [AaG wo k o hn hp]
  by_cases hs:k∈sm
  ·rw [Ni]
   ·exact hob _ _ (Agx h hp hs)
   ·intro hm
    obtain ⟨p,hp',e⟩:=List.mem_map.1 hm
    obtain ⟨k',o'⟩:=p
    simp only at e
    subst e
    exact (dropK_mem.1 hp').2 hs
  ·exact AaG _ k o hn2 (dropK_mem.2 ⟨hp,hs⟩)
 ·rw [Cm] at hk
  rw [Ni wo hk,Ni _ (fun hm=>hk ((dropK_sub.map _).subset hm))]
theorem AlZ {ob:Ar} {dst:Nat} {ks:List Nat} {xs:List MV} {keep:Bool} {res:MV} {outs' news:List Body} {a:List MV} {b:List Body} {y:MV} {wo:List (Nat×Obj)} {obl:List Prop}
  (h:Xe ob dst ks xs keep res outs' news=some (a,b,y,wo,obl)):(Ce wo).Nodup:=by
 unfold Xe at h
 split at h
 ·rename_i args os h1 h2
  simp only at h
  rw [Bool.cond_eq_ite] at h
  split at h
  ·rename_i hb
   simp only [Option.some.injEq,Prod.mk.injEq] at h
   obtain ⟨_,_,_,rfl,_⟩:=h
   simp only [Bool.and_eq_true] at hb
   exact AeL _ hb.1.1.2
  ·simp at h
 ·simp at h
def dcall (P:Program) (op:Op) (dst:Nat) (f:Nat) (ks:List Nat) (keep:Bool) (res:MV) (outs' news:List Body) (sm:List Nat) (σ:St):Option (List Nat×Eff) :=
 match op with
 | .call ⟨.value fop,args,_⟩ =>
  match Aeu (ev σ fop) (args.toList.map (ev σ)) with
  | some (f',xs) =>
   bif Nat.beq f' f then
    let ro:=ks++xs.flatMap (bor ks)++AbX dst news.length 0
    match Xe (only ro σ.objs) dst ks xs keep res outs' news with
    | some (args',outs,y,wo,ob)=>some (ro,y,Vy sm wo,Spec P f args' outs res outs' news::(Afq outs outs'++(Aap sm (only ro σ.objs) wo++ob)))
    | none=>none
   else none
  | none=>none
 | _=>none
def NatRun (P:Program) (f:Nat) (vs:Array Value) (z:Value):Prop:=z.oneCell'=true∧∀ w:World,(callFunc f vs).run P w = .ok (.value z) w
def Aau : List MV→Option (List Value)
 | []=>some []
 | .p (.v x)::r=>match Aau r with
  | some s=>some (x::s)
  | none=>none
 | _=>none
theorem AjE : ∀ {l:List MV} {vs:List Value},Aau l=some vs→l=vs.map (fun x=>MV.p (.v x))
 | [],vs,h=>by simp [Aau] at h; subst h; rfl
 | x::r,vs,h=>by
  unfold Aau at h
  split at h
  ·simp at *
  ·rename_i q r' heq
   injection heq with h1 h2
   subst h1; subst h2
   split at h
   ·rename_i s hs
    simp only [Option.some.injEq] at h
    subst h
    rw [List.map_cons,← AjE hs]
   ·simp at h
  ·simp at h
def dstep (P:Program) (T:Ty) (nt:Nat) (gs:List (Option Nat)) (o:Oper) (x:Orc) (σ:St):Option (Rec×List Prop) :=
 match Tc gs o.guard x.isSkip σ with
 | none=>none
 | some (gt,gobl) =>
  bif (match o.dst with|some t=>Nat.blt t nt|none=>true)&&Hi o.op then
   match x with
   | .skip=>some (⟨gt,[],o.dst.toList.map fun t=>(t,MV.und),[]⟩,gobl)
   | .call f ks keep res outs' news sm =>
    match dcall P o.op (o.dst.getD 0) f ks keep res outs' news sm σ with
    | some (ro,y,wo,obl)=>some (⟨gt++Mi o.op,ro,o.dst.toList.map fun t=>(t,y),wo⟩,gobl++obl)
    | none=>none
   | .asR y' n' f' =>
    match Bx T o.op (o.dst.getD 0) true (only (Ik o.op (o.dst.getD 0) (o.op.operands.toList.map (ev σ))) σ.objs) (o.op.operands.toList.map (ev σ)) with
    | some (y,[(k,⟨g,.row W n f⟩)],obl)=>some (⟨gt++Mi o.op,Ik o.op (o.dst.getD 0) (o.op.operands.toList.map (ev σ)),o.dst.toList.map fun t=>(t,y'),[(k,⟨g,.row W n' f'⟩)]⟩,gobl++(obl ++ [y=y',n=n'∧∀ i,i<n→f i=f' i]))
    | _=>none
   | .asM z' has' f' =>
    match Bx T o.op (o.dst.getD 0) true (only (Ik o.op (o.dst.getD 0) (o.op.operands.toList.map (ev σ))) σ.objs) (o.op.operands.toList.map (ev σ)) with
    | some (y,[(k,⟨g,.mp z has f⟩)],obl)=>some (⟨gt++Mi o.op,Ik o.op (o.dst.getD 0) (o.op.operands.toList.map (ev σ)),o.dst.toList.map fun t=>(t,y),[(k,⟨g,.mp z' has' f'⟩)]⟩,gobl++(obl ++ [AeE z has f z' has' f']))
    | _=>none
   | .frz n' f' =>
    match Bx T o.op (o.dst.getD 0) true (only (Ik o.op (o.dst.getD 0) (o.op.operands.toList.map (ev σ))) σ.objs) (o.op.operands.toList.map (ev σ)),o.dst with
    | some (.own k' g' 0 len,[(k,⟨g,.row W n f⟩)],obl),some t=>bif Nat.beq k' k&&Nat.beq g' g&&Nat.beq len n then
     some (⟨gt++Mi o.op,Ik o.op (o.dst.getD 0) (o.op.operands.toList.map (ev σ)),[(t,.p (.sl .unk W n' f'))],[(k,⟨g+1,.dead⟩)]⟩,gobl++(obl ++ [n=n'∧∀ i,i<n→f i=f' i])) else none
    | _,_=>none
   | .mv =>
    match Bx T o.op (o.dst.getD 0) true (only (Ik o.op (o.dst.getD 0) (o.op.operands.toList.map (ev σ))) σ.objs) (o.op.operands.toList.map (ev σ)),o.dst with
    | some (.own k' g' 0 len,[(k,⟨g,.row W n f⟩)],obl),some t=>bif Nat.beq k' k&&Nat.beq g' g && !Nat.beq (key t 0) k then
     some (⟨gt++Mi o.op,key t 0::Ik o.op (o.dst.getD 0) (o.op.operands.toList.map (ev σ)),[(t,.own (key t 0) (Bl (σ.objs (key t 0))) 0 len)],[(k,⟨g+1,.dead⟩),(key t 0,⟨Bl (σ.objs (key t 0)),.row W n f⟩)]⟩,gobl++(obl ++ [len=n])) else none
    | _,_=>none
   | .ky n =>
    match o.op,o.op.operands.toList.map (ev σ) with
    | .entryStore _ _ _ _,[x,s,v]=>match AaX n (only x.keys σ.objs) x s v with
     | some (y,wo,obl)=>some (⟨gt++Mi o.op,x.keys,o.dst.toList.map fun t=>(t,y),wo⟩,gobl++obl)
     | none=>none
    | _,_=>none
   | .nat z =>
    match o.op with
    | .call ⟨.value fop,args,_⟩=>match fnOf (ev σ fop),Aau (args.toList.map (ev σ)) with
     | some (f,[]),some vs=>some (⟨gt++Mi o.op,[],o.dst.toList.map fun t=>(t,MV.p (.v z)),[]⟩,gobl ++ [NatRun P f vs.toArray z])
     | _,_=>none
    | _=>none
   | x =>
    match Bx T o.op (o.dst.getD 0) x.bit (only (Ik o.op (o.dst.getD 0) (o.op.operands.toList.map (ev σ))) σ.objs) (o.op.operands.toList.map (ev σ)) with
    | some (y,wo,obl)=>some (⟨gt++Mi o.op,Ik o.op (o.dst.getD 0) (o.op.operands.toList.map (ev σ)),o.dst.toList.map fun t=>(t,y),wo⟩,gobl++obl)
    | none=>none
  else none
def drun (P:Program) (T:Ty) (nt:Nat) (gs:List (Option Nat)):List Oper→List Orc→St→Option (List Rec×List Prop×St)
 | [],[],σ=>some ([],[],σ)
 | o::os,x::xs,σ=>match dstep P T nt gs o x σ with
  | some (r,obl)=>match drun P T nt gs os xs (Fh σ r) with
   | some (rs,obls,σ')=>some (r::rs,obl++obls,σ')
   | none=>none
  | none=>none
 | _,_,_=>none
theorem All_append {l m:List Prop} : All (l++m)↔All l∧All m:=by
 induction l with
 | nil=>simp [All]
 | cons q r ih=>simp [All,ih,and_assoc]
theorem sameL_get : ∀ (l m:List Body),All (Afq l m)→∀ (i:Nat) b c,l[i]? = some b→m[i]? = some c→c.live→b.same c:=by
 intro l
 induction l with
 | nil=>intro m _ i b c h; simp at h
 | cons x r ih =>
  intro m h i b c hb hc hl
  cases m with
  | nil=>simp at hc
  | cons y s =>
   simp only [Afq,All] at h
   cases i with
   | zero=>simp at hb hc; subst hb; subst hc; exact h.1.get hl
   | succ i=>exact ih s h.2 i b c (by simpa using hb) (by simpa using hc) hl
theorem AoG (dst:Nat):∀ (n s j:Nat),j<n→key dst (s+j)∈AbX dst n s:=by
 intro n
 induction n with
 | zero=>intro s j h; omega
 | succ n ih =>
  intro s j h
  simp only [AbX,List.mem_cons]
  cases j with
  | zero=>left; rfl
  | succ j =>
   right
   have:=ih (s+1) j (by omega)
   rwa [show s+1+j=s+(j+1) by omega] at this
theorem AoJ {P:Program} {op:Op} {dst f:Nat} {ks:List Nat} {keep:Bool} {res:MV} {outs' news:List Body} {sm:List Nat} {σ τ:St} {ro:List Nat} {e:Eff}
  (h:dcall P op dst f ks keep res outs' news sm σ=some (ro,e)) (hs:∀ t∈Mi op,τ.slots t=σ.slots t) (ho:∀ k∈ro,τ.objs k=σ.objs k) :
  dcall P op dst f ks keep res outs' news sm τ=some (ro,e):=by
 have hev:∀ x∈op.operands.toList,ev τ x=ev σ x:=by
  intro x hx
  cases x with
  | tmp t=>exact hs t (List.mem_filterMap.2 ⟨.tmp t,hx,rfl⟩)
  | _=>rfl
 unfold dcall at h ⊢
 split at h
 ·rename_i fop args ats
  have h1:ev τ fop=ev σ fop:=hev fop (by simp [Op.operands,Call.operands])
  have h2:args.toList.map (ev τ)=args.toList.map (ev σ):=List.map_congr_left fun x hx=>hev x (by simp [Op.operands,Call.operands]; right; simpa using hx)
  rw [h1,h2]
  split at h
  ·rename_i f' caps hf
   cases hb:Nat.beq f' f with
   | false=>simp [hb] at h
   | true =>
    simp only [hb,cond_true] at h
    split at h
    ·rename_i args' outs y wo obl0 hc
     simp only [Option.some.injEq,Prod.mk.injEq] at h
     obtain ⟨rfl,rfl⟩:=h
     simp only [hf,hb,cond_true]
     rw [Pq ho,hc]
    ·simp at h
  ·simp at h
 ·simp at h
section
variable {P : Program} {T:Ty} {nt:Nat}
theorem AdI {op:Op} (h:Hi op=true):∀ x∈op.operands.toList,An x=true:=by
 simp only [Hi,Bool.and_eq_true,List.all_eq_true] at h
 exact h.2
theorem Mv {op:Op} (h:Hi op=true):Ael op=false:=by
 simp only [Hi,Bool.and_eq_true] at h
 cases hb:Ael op with
 | false=>rfl
 | true=>rw [hb] at h; simp at h
theorem dcall_wp {cx:Cx P} {β:Bi} {σ:St} {a:Act} {w:World} {o:Oper} (hc:Hi o.op=true) (h:Rel cx β σ a w) (hd:∀ t,o.dst=some t→t<cx.nt)
  {f:Nat} {ks:List Nat} {keep:Bool} {res:MV} {outs' news:List Body} {sm:List Nat} {ro:List Nat} {y:MV} {wo:List (Nat×Obj)} {obl:List Prop}
  (he:dcall P o.op (o.dst.getD 0) f ks keep res outs' news sm σ=some (ro,y,wo,obl)) (ho:All obl) (Q:Exit→Act→World→Prop) :
  o.wp P a w (fun a' w'=>∃ β',Rel cx β' (Fh σ ⟨[],[],o.dst.toList.map fun t=>(t,y),wo⟩) a' w') Q:=by
 have hall:=AdI hc
 unfold dcall at he
 split at he
 case h_2=>simp at he
 rename_i fop args ats hop
 split at he
 case h_2=>simp at he
 rename_i f' xs hf
 cases hb:Nat.beq f' f with
 | false=>simp [hb] at he
 | true =>
 have ef:=Nat.eq_of_beq_eq_true hb
 subst ef
 simp only [hb,cond_true] at he
 split at he
 case h_2=>simp at he
 rename_i args' outs y0 wo0 obl0 hce
 simp only [Option.some.injEq,Prod.mk.injEq] at he
 obtain ⟨rfl,rfl,rfl,rfl⟩:=he
 simp only [All,All_append] at ho
 obtain ⟨hsp,hsame,hkeepS,hobl0⟩:=ho
 have hops:∀ x∈args,An x=true:=fun x hx=>hall x (by rw [hop]; simp [Op.operands,Call.operands,hx])
 have rf:=Ba h fop (hall fop (by rw [hop]; simp [Op.operands,Call.operands]))
 have hargs:∀ (i:Nat) x,(args.toList.map (ev σ))[i]? = some x→RelV β σ.objs (Al cx.Av β σ.objs w) w ((args.map a.eval).getD i undef) x:=by
  intro i x hx
  rw [List.getElem?_map] at hx
  cases hq:args.toList[i]? with
  | none=>simp [hq] at hx
  | some q =>
   simp [hq] at hx
   subst hx
   have hq':args[i]? = some q:=by simpa using hq
   have:(args.map a.eval).getD i undef=a.eval q:=by simp [Array.getD_eq_getD_getElem?,hq']
   rw [this]
   exact Ba h q (hops q (Array.mem_of_getElem? hq'))
 have happ:∀ {us vs:Array Value} {l m:List MV},us.size=l.length→(∀ (i:Nat) x,l[i]? = some x→RelV β σ.objs (Al cx.Av β σ.objs w) w (us.getD i undef) x) →
   (∀ (i:Nat) x,m[i]? = some x→RelV β σ.objs (Al cx.Av β σ.objs w) w (vs.getD i undef) x)→∀ (i:Nat) x,(l++m)[i]? = some x→RelV β σ.objs (Al cx.Av β σ.objs w) w ((us++vs).getD i undef) x:=by
  intro us vs l m hsz h1 h2 i x hx
  by_cases hi:i<l.length
  ·rw [List.getElem?_append_left hi] at hx
   have:=h1 i x hx
   rw [Array.getD_eq_getD_getElem?,Array.getElem?_append_left (by omega),← Array.getD_eq_getD_getElem?]
   exact this
  ·rw [List.getElem?_append_right (by omega)] at hx
   have:=h2 _ x hx
   rw [Array.getD_eq_getD_getElem?,Array.getElem?_append_right (by omega),← Array.getD_eq_getD_getElem?,hsz]
   exact this
 obtain ⟨us,husz,hur,hinv⟩:∃ us:Array Value,us.size=xs.length∧(∀ (i:Nat) x,xs[i]? = some x→RelV β σ.objs (Al cx.Av β σ.objs w) w (us.getD i undef) x) ∧
   ((∃ cvs:Array Value,a.eval fop = .func (.func f') #[] cvs∧us=args.map a.eval++cvs)∨∃ cvs:Array Value,a.eval fop = .func (.func f') cvs #[]∧us=cvs++args.map a.eval):=by
  unfold Aeu at hf
  split at hf
  ·rename_i g cs hev
   simp only [Option.some.injEq,Prod.mk.injEq] at hf
   obtain ⟨rfl,rfl⟩:=hf
   rw [hev] at rf
   have rp:=rf.inv_p
   generalize a.eval fop=v at rp
   cases rp with
   | fn _ _ vs hl hr =>
    refine ⟨args.map a.eval++vs,by simp [hl],happ (by simp) hargs (fun i x hx => ?_),.inl ?_⟩
    ·rw [List.getElem?_map] at hx
     cases hq:cs[i]? with
     | none=>simp [hq] at hx
     | some q=>simp [hq] at hx; subst hx; exact .p _ _ (hr i q hq)
    ·exact ⟨vs,rfl,rfl⟩
  ·rename_i g cs hev
   rw [hev] at rf
   generalize a.eval fop=v at rf
   cases rf with
   | fn _ _ vs hl hr =>
    cases hb2:Nat.blt g BND with
    | true =>
     simp only [hb2,cond_true,Option.some.injEq,Prod.mk.injEq] at hf
     obtain ⟨rfl,rfl⟩:=hf
     refine ⟨args.map a.eval++vs,by simp [hl],happ (by simp) hargs hr,.inl ?_⟩
     exact ⟨vs,Agq hb2,rfl⟩
    | false =>
     simp only [hb2,cond_false,Option.some.injEq,Prod.mk.injEq] at hf
     obtain ⟨rfl,rfl⟩:=hf
     refine ⟨vs++args.map a.eval,by simp [hl],happ hl hr hargs,.inr ⟨vs,?_,rfl⟩⟩
     rw [fnV_ge hb2]
  ·simp at hf
 have hcalls:=AoX hsp h (fun k o=>Cj) (fun j hj=>Iz (by
   refine List.mem_append.2 (.inr ?_)
   have:=AoG (o.dst.getD 0) news.length 0 j hj
   rwa [Nat.zero_add] at this)) (fun k hk=>Iz (List.mem_append.2 (.inl (List.mem_append.2 (.inr hk))))) hce hobl0 (sameL_get _ _ hsame)
  us husz hur
 obtain ⟨fn,hfn,hname,hbody⟩:=hsp.1
 have hrun:(execOp a.eval o).run P w = .ok (.enter f' us) w:=by
  unfold execOp
  rw [hop]
  rcases hinv with ⟨cvs,h1,h2⟩|⟨cvs,h1,h2⟩
  ·subst h2
   simp [resolve,Deferred.ofValue,h1,invoke,callFunc,hfn,hname]
   intro hn
   rw [hn] at hbody
   simp at hbody
  ·subst h2
   simp [resolve,Deferred.ofValue,h1,invoke,callFunc,hfn,hname]
   intro hn
   rw [hn] at hbody
   simp at hbody
 unfold Oper.wp
 rw [hrun]
 simp only [Oper.upon]
 refine hcalls.mono ?_
 rintro e w' ⟨v,β',rfl,hrel,hv⟩
 have hdrop:=Aps (objs:=σ.objs) (AlZ hce) (fun _ _=>Cj) hkeepS
 rw [← hdrop] at hrel hv
 exact ⟨β',AaW hrel o.dst hd v _ hv⟩
theorem Jh {ops:Array Oper} {o:Oper} {i:Nat} (hi:ops[i]? = some o) {cx:Cx P} {β:Bi} {σ:St} {a:Act} {w:World} (h:Rel cx β σ a w)
  {sk:Bool} {gt:List Nat} {gobl:List Prop} (hg:Tc (ops.toList.map (·.dst)) o.guard sk σ=some (gt,gobl)) (ho:All gobl) :
  Region.wanted o (yielded ops a.tmps) = !sk:=by
 unfold Tc at hg
 unfold Region.wanted
 split at hg
 ·rename_i hgd
  cases sk with
  | true=>simp at hg
  | false=>simp [hgd]
 ·rename_i j want hgd
  rw [hgd]
  split at hg
  ·rename_i t hgs
   have hdst:(ops[j]?).bind (·.dst)=some t:=by
    rw [List.getElem?_map] at hgs
    cases hq:ops.toList[j]? with
    | none=>simp [hq] at hgs
    | some q =>
     simp [hq] at hgs
     have:ops[j]? = some q:=by simpa using hq
     simp [this,hgs]
   have hslot:=h.sl t
   split at hg
   ·rename_i b hsl
    simp only [Option.some.injEq,Prod.mk.injEq] at hg
    obtain ⟨rfl,rfl⟩:=hg
    simp only [All,and_true] at ho
    rw [hsl] at hslot
    obtain ⟨e,_⟩:=hslot.inv_v
    have:a.tmps[t]? = some (.bool b):=by
     rw [Array.getD_eq_getD_getElem?] at e
     cases hq:a.tmps[t]? with
     | none=>simp [hq,undef] at e
     | some q=>simp [hq] at e; rw [e]
    simp only [yielded,hdst,Option.bind_some,this]
    subst ho
    cases sk <;> cases want <;> rfl
   ·rename_i hsl
    cases sk with
    | false=>simp at hg
    | true =>
     rw [hsl] at hslot
     have hund:a.tmps.getD t undef=undef:=by
      generalize a.tmps.getD t undef=v at hslot
      cases hslot
      rfl
     simp only [yielded,hdst,Option.bind_some]
     rw [Array.getD_eq_getD_getElem?] at hund
     cases hq:a.tmps[t]? with
     | none=>rfl
     | some q =>
      simp [hq] at hund
      subst hund
      rfl
   ·simp at hg
  ·simp at hg
theorem Hw {gs:List (Option Nat)} {g:Option (Nat×Bool)} {sk:Bool} {σ τ:St} {gt:List Nat} {gobl:List Prop} (h:Tc gs g sk σ=some (gt,gobl))
  (hs:∀ t∈gt,τ.slots t=σ.slots t):Tc gs g sk τ=some (gt,gobl):=by
 unfold Tc at h ⊢
 split at h
 ·exact h
 ·rename_i j want
  split at h
  ·rename_i t hgs
   try simp only [hgs]
   split at h
   ·rename_i b hsl
    simp only [Option.some.injEq,Prod.mk.injEq] at h
    obtain ⟨rfl,rfl⟩:=h
    rw [hs t (by simp),hsl]
   ·rename_i hsl
    cases sk with
    | false=>simp at h
    | true =>
     simp only [cond_true,Option.some.injEq,Prod.mk.injEq] at h
     obtain ⟨rfl,rfl⟩:=h
     rw [hs t (by simp),hsl]
     rfl
   ·simp at h
  ·simp at h
theorem Rel.bodyAs {cx:Cx P} {β:Bi} {σ:St} {a:Act} {w:World} (h:Rel cx β σ a w) {k g:Nat} {b0 b1:Body} (ho:σ.objs k=some ⟨g,b0⟩) (hs:b0.same b1) (hlv:b0.live↔b1.live)
  (hr:∀ β objs S l,ObjRel β objs S w l b0→ObjRel β objs S w l b1):Rel cx β ⟨σ.slots,Bj σ.objs k ⟨g,b1⟩⟩ a w:=by
 have hcase:∀ j o',Bj σ.objs k ⟨g,b1⟩ j=some o'→(j=k∧o'=⟨g,b1⟩)∨(j≠k∧σ.objs j=some o'):=by
  intro j o' hj
  by_cases e:j=k
  ·subst e; rw [Bb] at hj; injection hj with hj; exact .inl ⟨rfl,hj.symm⟩
  ·rw [Cc _ _ e] at hj; exact .inr ⟨e,hj⟩
 have hold:∀ j o',Bj σ.objs k ⟨g,b1⟩ j=some o'→∃ o,σ.objs j=some o∧o.gen=o'.gen∧(o.body.live↔o'.body.live):=by
  intro j o' hj
  rcases hcase j o' hj with ⟨rfl,rfl⟩|⟨_,hj⟩
  ·exact ⟨_,ho,rfl,hlv⟩
  ·exact ⟨_,hj,rfl,Iff.rfl⟩
 have hg:Grows β β σ.objs (Bj σ.objs k ⟨g,b1⟩):=by
  intro j o hj
  by_cases e:j=k
  ·subst e
   rw [ho] at hj; injection hj with hj; subst hj
   exact ⟨_,Bb _ _ _,Nat.le_refl _,fun _=>⟨rfl,hs⟩⟩
  ·exact ⟨o,by rw [Cc _ _ e]; exact hj,Nat.le_refl _,fun _=>⟨rfl,Body.same_refl _⟩⟩
 have hS:∀ b,Al cx.Av β σ.objs w b→Al cx.Av β (Bj σ.objs k ⟨g,b1⟩) w b:=by
  intro b hb
  refine ⟨hb.1,hb.2.1,fun j o' hj hl => ?_⟩
  obtain ⟨o,q1,_,q3⟩:=hold j o' hj
  exact hb.2.2 j o q1 (q3.2 hl)
 refine ⟨h.nd,h.sz,fun t=>(h.sl t).mono hg hS (fun _ _=>rfl),fun j o' hj => ?_,fun j o' b hj hl hb => ?_,fun j j' o o' b hj hj' hl hl' hne hb => ?_,h.kept,h.avo,h.avlt,h.mle,fun j o' hjm hj hgen => ?_⟩
 ·rcases hcase j o' hj with ⟨rfl,rfl⟩|⟨_,hj⟩
  ·exact hr _ _ _ _ ((h.ob j _ ho).mono hg hS (fun _ _=>rfl) (fun _ _=>rfl))
  ·exact (h.ob j o' hj).mono hg hS (fun _ _=>rfl) (fun _ _=>rfl)
 ·obtain ⟨o,q1,_,q3⟩:=hold j o' hj
  exact h.blk j o b q1 (q3.2 hl) hb
 ·obtain ⟨p,q1,_,q3⟩:=hold j o hj
  obtain ⟨p',r1,_,r3⟩:=hold j' o' hj'
  exact h.inj j j' p p' b q1 r1 (q3.2 hl) (r3.2 hl') hne hb
 ·obtain ⟨o,q1,q2,_⟩:=hold j o' hj
  exact h.oloc j o hjm q1 (by rw [q2]; exact hgen)
theorem Rel.rowAs {cx:Cx P} {β:Bi} {σ:St} {a:Act} {w:World} (h:Rel cx β σ a w) {k g W n:Nat} {f f':Nat→List PV} (ho:σ.objs k=some ⟨g,.row W n f⟩) (hf:∀ i,i<n→f i=f' i) :
  Rel cx β ⟨σ.slots,Bj σ.objs k ⟨g,.row W n f'⟩⟩ a w:=by
 refine h.bodyAs (b1 := .row W n f') ho ⟨rfl,rfl⟩ Iff.rfl fun β objs S l q => ?_
 rcases q with q|⟨b,o,cap,cur,e,q0,q1,q2,q3,q4⟩
 ·exact .inl q
 ·refine .inr ⟨b,o,cap,cur,e,q0,q1,q2,q3,fun i hi => ?_⟩
  rw [← hf i hi]
  exact q4 i hi
theorem Rel.mapAs {cx:Cx P} {β:Bi} {σ:St} {a:Act} {w:World} (h:Rel cx β σ a w) {k g:Nat} {z z':PV} {has has':Int→Bool} {f f':Int→PV} (ho:σ.objs k=some ⟨g,.mp z has f⟩) (hf:AeE z has f z' has' f') :
  Rel cx β ⟨σ.slots,Bj σ.objs k ⟨g,.mp z' has' f'⟩⟩ a w:=by
 refine h.bodyAs (b1 := .mp z' has' f') ho trivial Iff.rfl fun β objs S l q => ?_
 obtain ⟨h1,h2,h3⟩:=hf
 subst h1
 obtain ⟨b,es,clock,q0,q1,q2,q3,q4⟩:=q
 exact ⟨b,es,clock,q0,q1,q2,h3 q3,fun i e n he hn=>h2 n _ _ _ (q4 i e n he hn)⟩
theorem Aqg {cx:Cx P} {β:Bi} {σ:St} {a:Act} {w:World} (h:Rel cx β σ a w) {t k g W n:Nat} {f:Nat→List PV} (ho:σ.objs k=some ⟨g,.row W n f⟩) (ht:σ.slots t = .own k g 0 n) :
  Rel cx β ⟨Cd σ.slots t (.p (.sl .unk W n f)),Bj σ.objs k ⟨g+1,.dead⟩⟩ a w:=by
 have hg:Grows β β σ.objs (Bj σ.objs k ⟨g+1,.dead⟩):=by
  intro j o hj
  by_cases e:j=k
  ·subst e
   rw [ho] at hj; injection hj with hj; subst hj
   exact ⟨_,Bb _ _ _,Nat.le_succ _,fun e=>absurd e (by simp)⟩
  ·exact ⟨o,by rw [Cc _ _ e]; exact hj,Nat.le_refl _,fun _=>⟨rfl,Body.same_refl _⟩⟩
 have hold:∀ j o',Bj σ.objs k ⟨g+1,.dead⟩ j=some o'→o'.body.live→j≠k∧σ.objs j=some o':=by
  intro j o' hj hl
  by_cases e:j=k
  ·subst e; rw [Bb] at hj; injection hj with hj; subst hj; exact absurd hl (by simp [Body.live])
  ·rw [Cc _ _ e] at hj; exact ⟨e,hj⟩
 have hS:∀ b,Al cx.Av β σ.objs w b→Al cx.Av β (Bj σ.objs k ⟨g+1,.dead⟩) w b:=fun b hb=>⟨hb.1,hb.2.1,fun j o' hj hl=>hb.2.2 j o' (hold j o' hj hl).2 hl⟩
 have hSk:∀ b,(β k).block=some b→Al cx.Av β (Bj σ.objs k ⟨g+1,.dead⟩) w b:=by
  intro b hb
  have hblk:=h.blk k _ b ho trivial hb
  exact ⟨hblk.1,hblk.2.1,fun j o' hj hl=>h.inj k j _ o' b ho (hold j o' hj hl).2 trivial hl (Ne.symm (hold j o' hj hl).1) hb⟩
 refine ⟨h.nd,h.sz,fun t' => ?_,fun j o' hj => ?_,fun j o' b hj hl hb => ?_,fun j j' o o' b hj hj' hl hl' hne hb => ?_,h.kept,h.avo,h.avlt,h.mle,fun j o' hjm hj hgen => ?_⟩
 ·show RelV β _ _ w _ (Cd σ.slots t (.p (.sl .unk W n f)) t')
  by_cases htt:t'=t
  ·subst htt
   have hr:=h.sl t'
   rw [ht] at hr
   simp only [Cd,Ch,cond_true]
   generalize a.tmps.getD t' undef=v at hr
   cases hr with
   | own _ _ _ _ base c hk =>
    have hown:=hk.get ho
    obtain ⟨hle,hl⟩:=hown
    refine .p _ _ ?_
    rcases h.ob k _ ho with ⟨hl',hn0⟩|⟨b,o,cap,cur,e',hl',hheap,hcap,hnn,hrow⟩
    ·rw [hl'] at hl
     obtain ⟨hbase,rfl,_,rfl⟩:=hl
     rcases hbase with rfl|⟨bb,oo,rfl⟩
     ·exact .slnil _ _ _ (by simp)
     ·exact .sl _ _ _ _ _ _ _ (fun _ _=>undef) (by simp) (Nat.le_refl _) (fun e=>by simp at e) (fun i hi=>by omega) (fun i j hi=>by omega) (fun i j hi=>by omega) (fun i j x hi=>by omega)
    ·rw [hl'] at hl
     obtain ⟨b',o',rfl,hcc,hadr⟩:=hl
     by_cases hlen0:n=0
     ·subst hlen0
      exact .sl _ _ _ _ _ _ _ (fun _ _=>undef) (by simp) (Nat.zero_le _) (fun e=>by simp at e) (fun i hi=>by omega) (fun i j hi=>by omega) (fun i j hi=>by omega) (fun i j x hi=>by omega)
     ·obtain ⟨rfl,rfl⟩:=hadr (by omega)
      have hSb:=hSk b' (by rw [hl']; rfl)
      have hcell:∀ j,w.cell? (at_ b' j)=cur[j]? := fun j=>cell_of_row w b' j cur e' (0,0) hheap
      have hgetc:∀ i j,i<n→j<W→∃ u,cur[o+0*W+(i*W+j)]? = some u∧u.oneCell'=true:=by
       intro i j hi hj
       obtain ⟨q1,q2⟩:=hrow i (by omega)
       obtain ⟨u,u1,u2,_⟩:=q2 j (f i)[j] (List.getElem?_eq_getElem (by omega))
       exact ⟨u,by rw [← u1]; congr 1; omega,u2⟩
      refine .sl _ _ _ _ _ _ _ (fun i j=>cur.getD (o+0*W+(i*W+j)) undef) (by simp) (by omega) (fun _=>hSb) (fun i hi=>(hrow i hi).1) (fun i j hi hj => ?_) (fun i j hi hj => ?_) (fun i j x hi hx => ?_)
      ·obtain ⟨u,u1,_⟩:=hgetc i j hi hj
       rw [hcell,Array.getD_eq_getD_getElem?,u1]
       rfl
      ·obtain ⟨u,u1,u2⟩:=hgetc i j hi hj
       rw [Array.getD_eq_getD_getElem?,u1]
       exact u2
      ·obtain ⟨q1,q2⟩:=hrow i hi
       obtain ⟨u,u1,u2,u3⟩:=q2 j x hx
       have e2:cur[o+0*W+(i*W+j)]? = some u:=by rw [← u1]; congr 1; omega
       rw [Array.getD_eq_getD_getElem?,e2]
       exact u3.mono hS (fun _ _=>rfl)
  ·simp only [Cd,De htt,cond_false]
   exact (h.sl t').mono hg hS (fun _ _=>rfl)
 ·by_cases e:j=k
  ·have hj:Bj σ.objs k ⟨g+1,.dead⟩ j=some o':=hj
   subst e; rw [Bb] at hj; injection hj with hj; subst hj; trivial
  ·have hj:Bj σ.objs k ⟨g+1,.dead⟩ j=some o':=hj
   rw [Cc _ _ e] at hj
   exact (h.ob j o' hj).mono hg hS (fun _ _=>rfl) (fun _ _=>rfl)
 ·exact h.blk j o' b (hold j o' hj hl).2 hl hb
 ·exact h.inj j j' o o' b (hold j o hj hl).2 (hold j' o' hj' hl').2 hl hl' hne hb
 ·by_cases e:j=k
  ·have hj:Bj σ.objs k ⟨g+1,.dead⟩ j=some o':=hj
   subst e; rw [Bb] at hj; injection hj with hj; subst hj; simp at hgen
  ·have hj:Bj σ.objs k ⟨g+1,.dead⟩ j=some o':=hj
   rw [Cc _ _ e] at hj
   exact h.oloc j o' hjm hj hgen
theorem AaF (objs:Ar) (k:Nat) (o o':Obj):Bj (Bj objs k o) k o'=Bj objs k o':=by
 funext j
 by_cases e:j=k
 ·subst e; rw [Bb,Bb]
 ·rw [Cc _ _ e,Cc _ _ e,Cc _ _ e]
theorem Rel.moveRow {cx:Cx P} {β:Bi} {σ:St} {a:Act} {w:World} (h:Rel cx β σ a w) {t k g W n kd:Nat} {f:Nat→List PV} (ho:σ.objs k=some ⟨g,.row W n f⟩) (ht:σ.slots t = .own k g 0 n) (hne:kd≠k) (hkd:1000≤kd) :
  Rel cx (Fo β kd (β k)) ⟨Cd σ.slots t (.own kd (Bl (σ.objs kd)) 0 n),Bj (Bj σ.objs k ⟨g+1,.dead⟩) kd ⟨Bl (σ.objs kd),.row W n f⟩⟩ a w:=by
 have hcase:∀ j o',Bj (Bj σ.objs k ⟨g+1,.dead⟩) kd ⟨Bl (σ.objs kd),.row W n f⟩ j=some o'→(j=kd∧o'=⟨Bl (σ.objs kd),.row W n f⟩)∨(j≠kd∧j=k∧o'=⟨g+1,.dead⟩)∨(j≠kd∧j≠k∧σ.objs j=some o'):=by
  intro j o' hj
  by_cases e:j=kd
  ·subst e; rw [Bb] at hj; injection hj with hj; exact .inl ⟨rfl,hj.symm⟩
  ·rw [Cc _ _ e] at hj
   by_cases e2:j=k
   ·subst e2; rw [Bb] at hj; injection hj with hj; exact .inr (.inl ⟨e,rfl,hj.symm⟩)
   ·rw [Cc _ _ e2] at hj; exact .inr (.inr ⟨e,e2,hj⟩)
 have hg:Grows β (Fo β kd (β k)) σ.objs (Bj (Bj σ.objs k ⟨g+1,.dead⟩) kd ⟨Bl (σ.objs kd),.row W n f⟩):=by
  intro j o hj
  by_cases e:j=kd
  ·subst e
   rw [hj]
   exact ⟨_,Bb _ _ _,by simp [Bl],fun e=>by simp [Bl] at e⟩
  ·by_cases e2:j=k
   ·subst e2
    rw [ho] at hj; injection hj with hj; subst hj
    exact ⟨⟨g+1,.dead⟩,by rw [Cc _ _ e,Bb],Nat.le_succ _,fun e=>absurd e (by simp)⟩
   ·exact ⟨o,by rw [Cc _ _ e,Cc _ _ e2]; exact hj,Nat.le_refl _,fun _=>⟨by rw [Ic _ _ e],Body.same_refl _⟩⟩
 have hlive:∀ j o',Bj (Bj σ.objs k ⟨g+1,.dead⟩) kd ⟨Bl (σ.objs kd),.row W n f⟩ j=some o'→o'.body.live→∃ i o,σ.objs i=some o∧o.body.live∧Fo β kd (β k) j=β i∧((j=kd∧i=k)∨(j≠kd∧j≠k∧i=j)):=by
  intro j o' hj hl
  rcases hcase j o' hj with ⟨rfl,rfl⟩|⟨_,rfl,rfl⟩|⟨e1,e2,hj'⟩
  ·exact ⟨k,_,ho,trivial,Db _ _ _,.inl ⟨rfl,rfl⟩⟩
  ·exact hl.elim
  ·exact ⟨j,o',hj',hl,Ic _ _ e1,.inr ⟨e1,e2,rfl⟩⟩
 have hS:∀ b,Al cx.Av β σ.objs w b→Al cx.Av (Fo β kd (β k)) (Bj (Bj σ.objs k ⟨g+1,.dead⟩) kd ⟨Bl (σ.objs kd),.row W n f⟩) w b:=by
  intro b hb
  refine ⟨hb.1,hb.2.1,fun j o' hj hl => ?_⟩
  obtain ⟨i,o,q1,q2,q3,_⟩:=hlive j o' hj hl
  rw [q3]
  exact hb.2.2 i o q1 q2
 refine ⟨h.nd,h.sz,fun t' => ?_,fun j o' hj => ?_,fun j o' b hj hl hb => ?_,fun j j' o o' b hj hj' hl hl' hne' hb => ?_,h.kept,h.avo,h.avlt,h.mle,fun j o' hjm hj hgen => ?_⟩
 ·show RelV _ _ _ w _ (Cd σ.slots t (.own kd (Bl (σ.objs kd)) 0 n) t')
  by_cases htt:t'=t
  ·subst htt
   have hr:=h.sl t'
   rw [ht] at hr
   simp only [Cd,Ch,cond_true]
   generalize a.tmps.getD t' undef=v at hr
   cases hr with
   | own _ _ _ _ base c hk =>
    have hown:=hk.get ho
    exact .own _ _ _ _ _ _ ⟨_,Bb _ _ _,Nat.le_refl _,fun _=>by rw [Db]; exact hown⟩
  ·simp only [Cd,De htt,cond_false]
   exact (h.sl t').mono hg hS (fun _ _=>rfl)
 ·rcases hcase j o' hj with ⟨rfl,rfl⟩|⟨_,rfl,rfl⟩|⟨e1,e2,hj'⟩
  ·rw [Db]
   exact (h.ob k _ ho).mono hg hS (fun _ _=>rfl) (fun _ _=>rfl)
  ·trivial
  ·rw [Ic _ _ e1]
   exact (h.ob j o' hj').mono hg hS (fun _ _=>rfl) (fun _ _=>rfl)
 ·obtain ⟨i,o,q1,q2,q3,_⟩:=hlive j o' hj hl
  rw [q3] at hb
  exact h.blk i o b q1 q2 hb
 ·obtain ⟨i,p,q1,q2,q3,q4⟩:=hlive j o hj hl
  obtain ⟨i',p',r1,r2,r3,r4⟩:=hlive j' o' hj' hl'
  rw [q3] at hb
  rw [r3]
  refine h.inj i i' p p' b q1 r1 q2 r2 ?_ hb
  rcases q4 with ⟨rfl,rfl⟩|⟨a1,a2,rfl⟩ <;> rcases r4 with ⟨rfl,rfl⟩|⟨b1,b2,rfl⟩
  ·exact absurd rfl hne'
  ·exact Ne.symm b2
  ·exact a2
  ·exact hne'
 ·rcases hcase j o' hj with ⟨rfl,rfl⟩|⟨_,rfl,rfl⟩|⟨e1,e2,hj'⟩
  ·have:=h.mle; omega
  ·simp at hgen
  ·rw [Ic _ _ e1]
   exact h.oloc j o' hjm hj' hgen
theorem AmP (hT:Gi P T) {ops:Array Oper} {i:Nat} {o:Oper} (hi:ops[i]? = some o) {x:Orc} {σ:St} {r:Rec} {obl:List Prop}
  (h:dstep P T nt (ops.toList.map (·.dst)) o x σ=some (r,obl)) (ho:All obl):OpOK P nt ops i r σ:=by
 intro cx β τ a w Q hnt hrel hrs hro
 unfold dstep at h
 split at h
 case h_1=>simp at h
 rename_i gt gobl hg
 cases hb:((match o.dst with|some t=>Nat.blt t nt|none=>true)&&Hi o.op) with
 | false=>simp [hb] at h
 | true =>
 simp only [hb,cond_true] at h
 simp only [Bool.and_eq_true] at hb
 obtain ⟨hb1,hb2⟩:=hb
 have hd:∀ t,o.dst=some t→t<cx.nt:=by
  intro t ht
  rw [ht] at hb1
  simp only at hb1
  rw [hnt]
  exact Nat.le_of_ble_eq_true hb1
 have hdst:∀ t,o.dst=some t→t=o.dst.getD 0:=fun t ht=>by simp [ht]
 unfold wpOpIn
 rw [hi]
 simp only
 split at h
 ·-- skipped
  simp only [Option.some.injEq,Prod.mk.injEq] at h
  obtain ⟨rfl,rfl⟩:=h
  have hg':=Hw hg hrs
  have hw:=Jh hi hrel hg' ho
  simp only [Orc.isSkip,Bool.not_true] at hw
  rw [if_neg (by simp [hw])]
  exact ⟨fun _ _=>trivial,β,AaW hrel o.dst hd undef .und .und⟩
 ·rename_i f ks keep res outs' news sm
  split at h
  case h_2=>simp at h
  rename_i ro y wo obl1 hc
  simp only [Option.some.injEq,Prod.mk.injEq] at h
  obtain ⟨rfl,rfl⟩:=h
  rw [All_append] at ho
  have hg':=Hw hg (fun t ht=>hrs t (List.mem_append.2 (.inl ht)))
  have hw:=Jh hi hrel hg' ho.1
  simp only [Orc.isSkip,Bool.not_false] at hw
  rw [if_pos hw]
  refine Mj (Mv hb2) ?_
  have hc':=AoJ hc (fun t ht=>hrs t (List.mem_append.2 (.inr ht))) hro
  exact dcall_wp hb2 hrel hd hc' ho.2 Q
 ·rename_i y' n' f'
  split at h
  case h_2=>simp at h
  rename_i y k g W n f obl1 hc
  simp only [Option.some.injEq,Prod.mk.injEq] at h
  obtain ⟨rfl,rfl⟩:=h
  rw [All_append,All_append] at ho
  obtain ⟨ho1,ho2,ho3,⟨ho4,ho5⟩,_⟩:=ho
  subst ho3
  subst ho4
  have hg':=Hw hg (fun t ht=>hrs t (List.mem_append.2 (.inl ht)))
  have hw:=Jh hi hrel hg' ho1
  simp only [Orc.isSkip,Bool.not_false] at hw
  rw [if_pos hw]
  refine Mj (Mv hb2) ?_
  have hev:=Wv (op:=o.op) (σ:=σ) (τ:=τ) (fun t ht=>hrs t (List.mem_append.2 (.inr ht)))
  refine Oper.wp_mono ?_ (AgS hT hb2 hdst true hrel hd (y:=y) (wo := [(k,⟨g,.row W n f⟩)]) (obl:=obl1) (by
   rw [hev,Pq (objs':=σ.objs) hro]
   exact hc) ho2 Q)
  ·rintro a' w' ⟨β',hr⟩
   have hobj:(Fh τ ⟨[],[],o.dst.toList.map fun t=>(t,y),[(k,⟨g,.row W n f⟩)]⟩).objs k=some ⟨g,.row W n f⟩:=Bb _ _ _
   have:=hr.rowAs hobj ho5
   refine ⟨β',?_⟩
   have e:Bj (Fh τ ⟨[],[],o.dst.toList.map fun t=>(t,y),[(k,⟨g,.row W n f⟩)]⟩).objs k ⟨g,.row W n f'⟩=Bj τ.objs k ⟨g,.row W n f'⟩:=AaF _ _ _ _
   rw [e] at this
   exact this
 ·rename_i z' has' f'
  split at h
  case h_2=>simp at h
  rename_i y k g z has f obl1 hc
  simp only [Option.some.injEq,Prod.mk.injEq] at h
  obtain ⟨rfl,rfl⟩:=h
  rw [All_append,All_append] at ho
  obtain ⟨ho1,ho2,ho3,_⟩:=ho
  have hg':=Hw hg (fun t ht=>hrs t (List.mem_append.2 (.inl ht)))
  have hw:=Jh hi hrel hg' ho1
  simp only [Orc.isSkip,Bool.not_false] at hw
  rw [if_pos hw]
  refine Mj (Mv hb2) ?_
  have hev:=Wv (op:=o.op) (σ:=σ) (τ:=τ) (fun t ht=>hrs t (List.mem_append.2 (.inr ht)))
  refine Oper.wp_mono ?_ (AgS hT hb2 hdst true hrel hd (y:=y) (wo := [(k,⟨g,.mp z has f⟩)]) (obl:=obl1) (by
   rw [hev,Pq (objs':=σ.objs) hro]
   exact hc) ho2 Q)
  ·rintro a' w' ⟨β',hr⟩
   have hobj:(Fh τ ⟨[],[],o.dst.toList.map fun t=>(t,y),[(k,⟨g,.mp z has f⟩)]⟩).objs k=some ⟨g,.mp z has f⟩:=Bb _ _ _
   have:=hr.mapAs hobj ho3
   refine ⟨β',?_⟩
   have e:Bj (Fh τ ⟨[],[],o.dst.toList.map fun t=>(t,y),[(k,⟨g,.mp z has f⟩)]⟩).objs k ⟨g,.mp z' has' f'⟩=Bj τ.objs k ⟨g,.mp z' has' f'⟩:=AaF _ _ _ _
   rw [e] at this
   exact this
 ·rename_i n' f'
  split at h
  case h_2=>simp at h
  rename_i od k' g' len k g W n f obl1 t hc hot
  cases hbb:(Nat.beq k' k&&Nat.beq g' g&&Nat.beq len n) with
  | false=>simp [hbb] at h
  | true =>
  simp only [hbb,cond_true,Option.some.injEq,Prod.mk.injEq] at h
  obtain ⟨rfl,rfl⟩:=h
  simp only [Bool.and_eq_true] at hbb
  obtain ⟨⟨e1,e2⟩,e3⟩:=hbb
  have e1:=Nat.eq_of_beq_eq_true e1
  have e2:=Nat.eq_of_beq_eq_true e2
  have e3:=Nat.eq_of_beq_eq_true e3
  subst e1; subst e2; subst e3
  rw [All_append,All_append] at ho
  obtain ⟨ho1,ho2,⟨ho3,ho4⟩,_⟩:=ho
  subst ho3
  have hg':=Hw hg (fun t ht=>hrs t (List.mem_append.2 (.inl ht)))
  have hw:=Jh hi hrel hg' ho1
  simp only [Orc.isSkip,Bool.not_false] at hw
  rw [if_pos hw]
  refine Mj (Mv hb2) ?_
  have hev:=Wv (op:=o.op) (σ:=σ) (τ:=τ) (fun t ht=>hrs t (List.mem_append.2 (.inr ht)))
  refine Oper.wp_mono ?_ (AgS hT hb2 hdst true hrel hd (y := .own k' g' 0 len) (wo := [(k',⟨g',.row W len f⟩)]) (obl:=obl1) (by
   rw [hev,Pq (objs':=σ.objs) hro]
   exact hc) ho2 Q)
  ·rintro a' w' ⟨β',hr⟩
   rw [hot] at hr
   have hobj:(Fh τ ⟨[],[],[(t,.own k' g' 0 len)],[(k',⟨g',.row W len f⟩)]⟩).objs k'=some ⟨g',.row W len f⟩:=Bb _ _ _
   have hsl:(Fh τ ⟨[],[],[(t,.own k' g' 0 len)],[(k',⟨g',.row W len f⟩)]⟩).slots t = .own k' g' 0 len:=by simp [Fh,Nd,Cd,Ch]
   have hr2:Rel cx β' (Fh τ ⟨[],[],[(t,.own k' g' 0 len)],[(k',⟨g',.row W len f⟩)]⟩) a' w':=hr
   have hr3:=hr2.rowAs hobj ho4
   have hfr:=Aqg (t:=t) hr3 (Bb _ _ _) hsl
   refine ⟨β',?_⟩
   have e4:Bj (Bj (Fh τ ⟨[],[],[(t,.own k' g' 0 len)],[(k',⟨g',.row W len f⟩)]⟩).objs k' ⟨g',.row W len f'⟩) k' ⟨g'+1,.dead⟩=Bj τ.objs k' ⟨g'+1,.dead⟩:=by rw [AaF]; exact AaF _ _ _ _
   have e5:Cd (Fh τ ⟨[],[],[(t,.own k' g' 0 len)],[(k',⟨g',.row W len f⟩)]⟩).slots t (.p (.sl .unk W len f'))=Cd τ.slots t (.p (.sl .unk W len f')):=by
    funext j
    simp only [Fh,Nd,Cd]
    cases Nat.beq j t <;> rfl
   rw [e4,e5] at hfr
   exact hfr
 ·split at h
  case h_2=>simp at h
  rename_i od k' g' len k g W n f obl1 t hc hot
  cases hbb:(Nat.beq k' k&&Nat.beq g' g && !Nat.beq (key t 0) k) with
  | false=>simp [hbb] at h
  | true =>
  simp only [hbb,cond_true,Option.some.injEq,Prod.mk.injEq] at h
  obtain ⟨rfl,rfl⟩:=h
  simp only [Bool.and_eq_true,Bool.not_eq_true'] at hbb
  obtain ⟨⟨e1,e2⟩,e4⟩:=hbb
  have e1:=Nat.eq_of_beq_eq_true e1
  have e2:=Nat.eq_of_beq_eq_true e2
  rw [All_append,All_append] at ho
  have e3:=ho.2.2.1
  subst e1; subst e2; subst e3
  have hne:key t 0≠k':=fun e=>by rw [e,Nat.beq_refl] at e4; simp at e4
  have hg':=Hw hg (fun t ht=>hrs t (List.mem_append.2 (.inl ht)))
  have hw:=Jh hi hrel hg' ho.1
  simp only [Orc.isSkip,Bool.not_false] at hw
  rw [if_pos hw]
  refine Mj (Mv hb2) ?_
  have hev:=Wv (op:=o.op) (σ:=σ) (τ:=τ) (fun t ht=>hrs t (List.mem_append.2 (.inr ht)))
  refine Oper.wp_mono ?_ (AgS hT hb2 hdst true hrel hd (y := .own k' g' 0 len) (wo := [(k',⟨g',.row W len f⟩)]) (obl:=obl1) (by
   rw [hev,Pq (objs':=σ.objs) (fun k hk=>hro k (List.mem_cons_of_mem _ hk))]
   exact hc) ho.2.1 Q)
  ·rintro a' w' ⟨β',hr⟩
   rw [hot] at hr
   have hobj:(Fh τ ⟨[],[],[(t,.own k' g' 0 len)],[(k',⟨g',.row W len f⟩)]⟩).objs k'=some ⟨g',.row W len f⟩:=Bb _ _ _
   have hsl:(Fh τ ⟨[],[],[(t,.own k' g' 0 len)],[(k',⟨g',.row W len f⟩)]⟩).slots t = .own k' g' 0 len:=by simp [Fh,Nd,Cd,Ch]
   have hr2:Rel cx β' (Fh τ ⟨[],[],[(t,.own k' g' 0 len)],[(k',⟨g',.row W len f⟩)]⟩) a' w':=hr
   have hm:=hr2.moveRow (t:=t) hobj hsl hne (by simp only [key]; omega)
   refine ⟨Fo β' (key t 0) (β' k'),?_⟩
   have e6:(Fh τ ⟨[],[],[(t,.own k' g' 0 len)],[(k',⟨g',.row W len f⟩)]⟩).objs (key t 0)=σ.objs (key t 0):=by
    have:=hro (key t 0) (by simp)
    rw [← this]
    exact Cc _ _ hne
   rw [e6] at hm
   have e7:Bj (Fh τ ⟨[],[],[(t,.own k' g' 0 len)],[(k',⟨g',.row W len f⟩)]⟩).objs k' ⟨g'+1,.dead⟩=Bj τ.objs k' ⟨g'+1,.dead⟩:=AaF _ _ _ _
   rw [e7] at hm
   have e5:Cd (Fh τ ⟨[],[],[(t,.own k' g' 0 len)],[(k',⟨g',.row W len f⟩)]⟩).slots t (.own (key t 0) (Bl (σ.objs (key t 0))) 0 len)=Cd τ.slots t (.own (key t 0) (Bl (σ.objs (key t 0))) 0 len):=by
    funext j
    simp only [Fh,Nd,Cd]
    cases Nat.beq j t <;> rfl
   rw [e5] at hm
   exact hm
 ·rename_i n
  split at h
  case h_2=>simp at h
  rename_i t1 q1 q2 q3 x s v hop hev0
  split at h
  case h_2=>simp at h
  rename_i y wo obl1 hc
  simp only [Option.some.injEq,Prod.mk.injEq] at h
  obtain ⟨rfl,rfl⟩:=h
  rw [All_append] at ho
  have hg':=Hw hg (fun t ht=>hrs t (List.mem_append.2 (.inl ht)))
  have hw:=Jh hi hrel hg' ho.1
  simp only [Orc.isSkip,Bool.not_false] at hw
  rw [if_pos hw]
  refine Mj (Mv hb2) ?_
  have hev:=Wv (op:=o.op) (σ:=σ) (τ:=τ) (fun t ht=>hrs t (List.mem_append.2 (.inr ht)))
  obtain ⟨od,op,ot,opos,oafter,oguard⟩:=o
  simp only at hop hev hev0 hb2 hdst hd hi ⊢
  subst hop
  simp only [Op.operands,List.map_cons,List.map_nil,List.cons.injEq,and_true] at hev hev0
  obtain ⟨e1,e2,e3⟩:=hev
  obtain ⟨e4,e5,e6⟩:=hev0
  have hall:∀ x∈(Op.operands (.entryStore t1 q1 q2 q3)).toList,An x=true:=AdI hb2
  obtain ⟨w',β',hr,hrel2,rfl⟩:=Alp (P:=P) (t:=t1) hrel (hall q1 (by simp [Op.operands])) (hall q2 (by simp [Op.operands])) (hall q3 (by simp [Op.operands])) (ob:=only x.keys τ.objs) (fun k o=>Cj)
   (by rw [e1,e2,e3,e4,e5,e6,Pq (objs':=σ.objs) hro]; exact hc) ho.2
  unfold Oper.wp
  simp only [execOp,Sem.run_bind,hr,Result.andThen_ok,Sem.run_pure,Oper.upon]
  exact ⟨β',AaW hrel2 od hd undef .und .und⟩
 ·rename_i z
  split at h
  case h_2=>simp at h
  rename_i fop args ats hop
  split at h
  case h_2=>simp at h
  rename_i f vs hf hv
  simp only [Option.some.injEq,Prod.mk.injEq] at h
  obtain ⟨rfl,rfl⟩:=h
  rw [All_append] at ho
  have hg':=Hw hg (fun t ht=>hrs t (List.mem_append.2 (.inl ht)))
  have hw:=Jh hi hrel hg' ho.1
  simp only [Orc.isSkip,Bool.not_false] at hw
  rw [if_pos hw]
  refine Mj (Mv hb2) ?_
  have hev:=Wv (op:=o.op) (σ:=σ) (τ:=τ) (fun t ht=>hrs t (List.mem_append.2 (.inr ht)))
  have hall:=AdI hb2
  have hevx:∀ x∈o.op.operands.toList,ev τ x=ev σ x:=List.map_inj_left.mp hev
  obtain ⟨hz1,hz2⟩:=ho.2.1
  have hm1:fop∈o.op.operands.toList:=by rw [hop]; simp [Op.operands,Call.operands]
  have hm2:∀ x∈args,x∈o.op.operands.toList:=fun x hx=>by rw [hop]; simp [Op.operands,Call.operands,hx]
  have hfv:a.eval fop = .func (.func f) #[] #[]:=by
   have rf:=Ba hrel fop (hall fop hm1)
   rw [hevx fop hm1] at rf
   unfold fnOf at hf
   split at hf
   ·rename_i g cs hq
    simp only [Option.some.injEq,Prod.mk.injEq,List.map_eq_nil_iff] at hf
    obtain ⟨rfl,rfl⟩:=hf
    rw [hq] at rf
    have rp:=rf.inv_p
    generalize a.eval fop=v at rp
    cases rp with
    | fn _ _ vs hl hr =>
     have:vs = #[]:=Array.eq_empty_of_size_eq_zero hl
     rw [this]
   ·rename_i g cs hq
    cases hb3:Nat.blt g BND with
    | false=>simp [hb3] at hf
    | true =>
    simp only [hb3,cond_true,Option.some.injEq,Prod.mk.injEq] at hf
    obtain ⟨rfl,rfl⟩:=hf
    rw [hq] at rf
    generalize a.eval fop=v at rf
    cases rf with
    | fn _ _ vs hl hr =>
     have:vs = #[]:=Array.eq_empty_of_size_eq_zero hl
     rw [this,Agq hb3]
   ·simp at hf
  have hargs:args.map a.eval=vs.toArray:=by
   have hl:=AjE hv
   have h1:args.toList.map a.eval=vs:=by
    have hlen:args.toList.length=vs.length:=by have:=congrArg List.length hl; simpa using this
    refine List.ext_getElem (by simpa using hlen) fun i h3 h4 => ?_
    have h3:i<args.toList.length:=by simpa using h3
    have hmem:args.toList[i]∈args:=by simp
    have r1:=Ba hrel args.toList[i] (hall _ (hm2 _ hmem))
    rw [hevx _ (hm2 _ hmem)] at r1
    have h5:=congrArg (fun l=>l[i]?) hl
    simp only [List.getElem?_map,List.getElem?_eq_getElem h3,List.getElem?_eq_getElem h4,Option.map_some,Option.some.injEq] at h5
    rw [h5] at r1
    rw [List.getElem_map]
    exact r1.inv_v.1
   rw [← h1]
   exact Array.ext' (by rw [Array.toList_map])
  have hrun:(execOp a.eval o).run P w = .ok (.value z) w:=by
   unfold execOp
   rw [hop]
   simp [resolve,Deferred.ofValue,hfv,invoke,hargs,hz2]
  unfold Oper.wp
  rw [hrun]
  simp only [Oper.upon]
  exact ⟨β,AaW hrel o.dst hd z _ (.mk_v hz1)⟩
 ·rename_i hn1 hn2 hn3 hn4 hn5 hn6 hn7 hn8
  split at h
  case h_2=>simp at h
  rename_i y wo obl1 hc
  simp only [Option.some.injEq,Prod.mk.injEq] at h
  obtain ⟨rfl,rfl⟩:=h
  rw [All_append] at ho
  have hg':=Hw hg (fun t ht=>hrs t (List.mem_append.2 (.inl ht)))
  have hw:=Jh hi hrel hg' ho.1
  have hsk:x.isSkip=false:=by
   cases x with
   | skip=>exact absurd rfl hn1
   | _=>rfl
  rw [hsk] at hw
  simp only [Bool.not_false] at hw
  rw [if_pos hw]
  refine Mj (Mv hb2) ?_
  have hev:=Wv (op:=o.op) (σ:=σ) (τ:=τ) (fun t ht=>hrs t (List.mem_append.2 (.inr ht)))
  refine AgS hT hb2 hdst x.bit hrel hd (y:=y) (wo:=wo) (obl:=obl1) ?_ ho.2 Q
  rw [hev,Pq (objs':=σ.objs) hro]
  exact hc
theorem AlA {gs:List (Option Nat)} : ∀ (os:List Oper) (xs:List Orc) (σ:St) (recs:List Rec) (obl:List Prop) (σ':St),drun P T nt gs os xs σ=some (recs,obl,σ')→All obl →
  recs.length=os.length∧(∀ (i:Nat) o r,os[i]? = some o→recs[i]? = some r→∃ x obl',dstep P T nt gs o x (Cy σ (fun j=>recs.getD j ⟨[],[],[],[]⟩) (fun _=>true) i)=some (r,obl')∧All obl') ∧
  σ'=Cy σ (fun j=>recs.getD j ⟨[],[],[],[]⟩) (fun _=>true) os.length:=by
 intro os
 induction os with
 | nil =>
  intro xs σ recs obl σ' h ho
  cases xs with
  | nil =>
   simp [drun] at h
   obtain ⟨rfl,rfl,rfl⟩:=h
   exact ⟨rfl,fun i o r h=>by simp at h,rfl⟩
  | cons x xs=>simp [drun] at h
 | cons o os ih =>
  intro xs σ recs obl σ' h ho
  cases xs with
  | nil=>simp [drun] at h
  | cons x xs =>
   simp only [drun] at h
   split at h
   case h_2=>simp at h
   rename_i r obl1 hs
   split at h
   case h_2=>simp at h
   rename_i rs obls σ1 hr
   simp only [Option.some.injEq,Prod.mk.injEq] at h
   obtain ⟨rfl,rfl,rfl⟩:=h
   rw [All_append] at ho
   obtain ⟨h1,h2,h3⟩:=ih xs (Fh σ r) rs obls σ1 hr ho.2
   have hshift:∀ i,Cy σ (fun j=>(r::rs).getD j ⟨[],[],[],[]⟩) (fun _=>true) (i+1)=Cy (Fh σ r) (fun j=>rs.getD j ⟨[],[],[],[]⟩) (fun _=>true) i:=by
    intro i
    induction i with
    | zero=>simp [Cy]
    | succ i ihh =>
     rw [Cy,ihh]
     simp [Cy]
   refine ⟨by simp [h1],fun i o' r' ho' hr' => ?_,?_⟩
   ·cases i with
    | zero =>
     simp at ho' hr'
     subst ho'; subst hr'
     exact ⟨x,obl1,by simpa [Cy] using hs,ho.1⟩
    | succ i =>
     rw [hshift i]
     exact h2 i o' r' (by simpa using ho') (by simpa using hr')
   ·rw [h3,List.length_cons,hshift]
theorem AiU (hT:Gi P T) {ops:Array Oper} {id:Nat} {xs:List Orc} {σ σ':St} {recs:List Rec} {obl:List Prop}
  (h:drun P T nt (ops.toList.map (·.dst)) ops.toList xs σ=some (recs,obl,σ')) (ho:All obl) {cx:Cx P} (hnt:cx.nt=nt) {β:Bi} {a:Act} {w:World}
  (hrel:Rel cx β σ a w) {Q:Exit→Act→World→Prop} (hQ:∀ β a w,Rel cx β σ' a w→Q .normal a w):(Code.region id ops false).wpIn (fen cx.rd) 0 P Q a w:=by
 obtain ⟨h1,h2,h3⟩:=AlA _ _ _ _ _ _ h ho
 have hops:∀ i,i<ops.size→OpOK P nt ops i (recs.getD i ⟨[],[],[],[]⟩) (Cy σ (fun j=>recs.getD j ⟨[],[],[],[]⟩) (fun _=>true) i):=by
  intro i hi
  have hlt:i<recs.length:=by rw [h1]; simpa using hi
  obtain ⟨x,obl',q1,q2⟩:=h2 i ops[i] recs[i] (by simp [hi]) (List.getElem?_eq_getElem hlt)
  have:=AmP hT (ops:=ops) (i:=i) (Array.getElem?_eq_getElem hi) q1 q2
  simpa [List.getElem?_eq_getElem hlt] using this
 refine wpIn_region ?_
 have key:∀ (n i:Nat) (β:Bi) (a:Act) (w:World),n+i=ops.size→Rel cx β (Cy σ (fun j=>recs.getD j ⟨[],[],[],[]⟩) (fun _=>true) i) a w →
   wpOpsIn (fen cx.rd) 0 P ops Q (List.range' i n) a w:=by
  intro n
  induction n with
  | zero =>
   intro i β a w hi hr
   have:i=ops.toList.length:=by simpa using hi
   subst this
   simp only [List.range'_zero,wpOpsIn]
   exact hQ β a w (by rw [h3]; exact hr)
  | succ n ih =>
   intro i β a w hi hr
   rw [List.range'_succ,wpOpsIn_cons]
   refine wpOpIn_mono ?_ (hops i (by omega) cx β _ a w Q hnt hr (fun _ _=>rfl) (fun _ _=>rfl))
   rintro a' w' ⟨β',hr'⟩
   exact ih (i+1) β' a' w' (by omega) (by simpa [Cy] using hr')
 have:=key ops.size 0 β a w (by omega) hrel
 rwa [← List.range_eq_range'] at this
def backs : List (List Nat)→Nat→Bool
 | [],_=>true
 | ps::r,i=>ps.all (fun p=>Nat.blt p i)&&backs r (i+1)
theorem AoS : ∀ (l:List (List Nat)) (s:Nat),backs l s=true→∀ (j:Nat) ps,l[j]? = some ps→∀ p∈ps,p<s+j:=by
 intro l
 induction l with
 | nil=>intro s _ j ps h; simp at h
 | cons q r ih =>
  intro s h j ps hj p hp
  simp only [backs,Bool.and_eq_true,List.all_eq_true] at h
  cases j with
  | zero=>simp at hj; subst hj; exact Nat.le_of_ble_eq_true (h.1 p hp)
  | succ j =>
   have:=ih (s+1) h.2 j ps (by simpa using hj) p hp
   omega
theorem AiJ (hT:Gi P T) (hm:P.follows .mixedOrders=true) {ops:Array Oper} {id:Nat} {xs:List Orc} {σ σ':St} {recs:List Rec} {obl:List Prop}
  (h:drun P T nt (ops.toList.map (·.dst)) ops.toList xs σ=some (recs,obl,σ')) (ho:All obl)
  (hind:indep [] recs (masks (ops.toList.map Jb) [])=true) (hbk:backs (ops.toList.map Jb) 0=true)
  {cx:Cx P} (hnt:cx.nt=nt) {β:Bi} {a:Act} {w:World}
  (hrel:Rel cx β σ a w) {Q:Exit→Act→World→Prop} (hQ:∀ β a w,Rel cx β σ' a w→Q .normal a w):(Code.region id ops true).wpIn (fen cx.rd) 0 P Q a w:=by
 obtain ⟨h1,h2,h3⟩:=AlA _ _ _ _ _ _ h ho
 have hops:∀ i,i<ops.size→OpOK P nt ops i (recs.getD i ⟨[],[],[],[]⟩) (Cy σ (fun j=>recs.getD j ⟨[],[],[],[]⟩) (fun _=>true) i):=by
  intro i hi
  have hlt:i<recs.length:=by rw [h1]; simpa using hi
  obtain ⟨x,obl',q1,q2⟩:=h2 i ops[i] recs[i] (by simp [hi]) (List.getElem?_eq_getElem hlt)
  have:=AmP hT (ops:=ops) (i:=i) (Array.getElem?_eq_getElem hi) q1 q2
  simpa [List.getElem?_eq_getElem hlt] using this
 have hpr:∀ (j:Nat) ps,(ops.toList.map Jb)[j]? = some ps→Li ops j=ps:=by
  intro j ps hj
  rw [List.getElem?_map] at hj
  cases hq:ops.toList[j]? with
  | none=>simp [hq] at hj
  | some q =>
   simp [hq] at hj
   have:ops[j]? = some q:=by simpa using hq
   simp [Li,this,hj]
 have hpr':∀ j,j<ops.size→(ops.toList.map Jb)[j]? = some (Li ops j):=by
  intro j hj
  simp [Li,hj]
 refine wpIn_region_any hm ?_
 refine wpAny_run (nt:=nt) hnt σ (fun j=>recs.getD j ⟨[],[],[],[]⟩) hops ?_ ?_ ?_ ops.size _ β a _ (by simp) ?_ ?_ ?_
 ·intro i j hij hj
  have hjl:j<recs.length:=by rw [h1]; simpa using hj
  have hil:i<recs.length:=by omega
  have hml:=indep_len _ _ _ hind
  obtain ⟨m,hm⟩:∃ m,(masks (ops.toList.map Jb) [])[j]? = some m:=⟨_,List.getElem?_eq_getElem (by omega)⟩
  rcases AoQ recs [] _ hind i j recs[j] recs[i] m (by simpa using hij) (by simp [hil]) (List.getElem?_eq_getElem hjl) hm with hb|hb
  ·left
   exact Apf (Li ops) (ops.toList.map Jb) [] (fun j ps hj=>by simpa using hpr j ps hj) (fun j i m hj=>by simp at hj) j i m hm hb
  ·right
   simpa [hil,hjl] using hb
 ·intro j hj p hp
  have:=AoS _ 0 hbk j (Li ops j) (hpr' j hj) p hp
  omega
 ·intro β a w hr
  exact hQ β a w (by rw [h3]; simpa using hr)
 ·simp [cnt]
  exact Nat.le_trans (List.countP_le_length) (by simp)
 ·intro j hj
  exfalso
  rw [Array.getD_eq_getD_getElem?] at hj
  by_cases hjs:j<ops.size
  ·simp [hjs] at hj
  ·simp [hjs] at hj
 ·have:Cy σ (fun j=>recs.getD j ⟨[],[],[],[]⟩) (fun i=>(Array.replicate ops.size false).getD i false) ops.size=σ:=by
   have:∀ n,Cy σ (fun j=>recs.getD j ⟨[],[],[],[]⟩) (fun i=>(Array.replicate ops.size false).getD i false) n=σ:=by
    intro n
    induction n with
    | zero=>rfl
    | succ n ih =>
     simp only [Cy]
     rw [if_neg,ih]
     rw [Array.getD_eq_getD_getElem?]
     by_cases hjs:n<ops.size
     ·simp [hjs]
     ·simp [hjs]
   exact this _
  rw [this]
  exact hrel.drew
end
end Go.Dm

namespace Go.Dm
def Ae (sl:List (Nat×MV)) (ob:List (Nat×Obj)):St:=⟨fun t=>(assoc sl t).getD .any,assoc ob⟩
def fix1 (cur:Nat→Option Nat):MV→MV
 | .own k g off len=>match cur k with
  | some g0=>bif Nat.beq g0 g then .own k 0 off len else .any
  | none => .any
 | .ref k g off=>match cur k with
  | some g0=>bif Nat.beq g0 g then .ref k 0 off else .any
  | none => .any
 | .eref k g i off=>match cur k with
  | some g0=>bif Nat.beq g0 g then .eref k 0 i off else .any
  | none => .any
 | .mref k g=>match cur k with
  | some g0=>bif Nat.beq g0 g then .mref k 0 else .any
  | none => .any
 | .p x => .p x
 | .fptr cs => .fptr cs
 | .und => .und
 | _ => .any
def fixN (cur:Nat→Option Nat):Nat→MV→MV
 | 0,x=>fix1 cur x
 | d+1,.agg cs => .agg (cs.map (fixN cur d))
 | d+1,.tup cs => .tup (cs.map (fixN cur d))
 | d+1,.fn f cs => .fn f (cs.map (fixN cur d))
 | _+1,x=>fix1 cur x
def fixB (cur:Nat→Option Nat):Body→Body
 | .box cs => .box (cs.map (fixN cur 1))
 | b=>b
def AcS (cur:Nat→Option Nat) (objs:Ar):List Nat→List (Nat×Obj)
 | [] => []
 | k::r=>match cur k,objs k with
  | some _,some o=>(k,⟨0,fixB cur o.body⟩)::AcS cur objs r
  | _,_=>AcS cur objs r
def AcM (lk:List Nat) (objs:Ar):Nat→Option Nat:=fun k =>
 bif elem k lk then (match objs k with
  | some o=>bif Nat.ble 1000 k||Nat.beq o.gen 0 then some o.gen else none
  | none=>none) else none
def pickS (cur:Nat→Option Nat) (slots:Nat→MV):List Nat→List (Nat×MV)
 | [] => []
 | t::r=>(t,fixN cur 2 (slots t))::pickS cur slots r
def Ki (ls lk:List Nat) (σ:St):List (Nat×MV):=pickS (AcM lk σ.objs) σ.slots ls
def Gz (lk:List Nat) (σ:St):List (Nat×Obj):=AcS (AcM lk σ.objs) σ.objs lk
theorem fixB_same (cur:Nat→Option Nat) (b:Body):b.same (fixB cur b):=by cases b <;> simp [fixB,Body.same]
theorem Adk (cur:Nat→Option Nat) (b:Body):(fixB cur b).live↔b.live:=by cases b <;> simp [fixB,Body.live]
theorem AaD {α:Type} {l:List (Nat×α)} {k:Nat} {x:α} (h:assoc l k=some x):(k,x)∈l:=by
 induction l with
 | nil=>simp [assoc] at h
 | cons p r ih =>
  obtain ⟨j,y⟩:=p
  simp only [assoc] at h
  cases hb:Nat.beq k j with
  | true =>
   simp [hb] at h
   subst h
   rw [Nat.eq_of_beq_eq_true hb]
   simp
  | false =>
   simp [hb] at h
   exact List.mem_cons_of_mem _ (ih h)
theorem normO_mem {cur:Nat→Option Nat} {objs:Ar} {lk:List Nat} {k:Nat} {o':Obj} (h:(k,o')∈AcS cur objs lk) :
  ∃ g o,cur k=some g∧objs k=some o∧o'=⟨0,fixB cur o.body⟩:=by
 induction lk with
 | nil=>simp [AcS] at h
 | cons j r ih =>
  simp only [AcS] at h
  split at h
  ·rename_i g o h1 h2
   rcases List.mem_cons.1 h with h|h
   ·injection h with e1 e2
    subst e1
    exact ⟨g,o,h1,h2,e2⟩
   ·exact ih h
  ·exact ih h
theorem normO_has {cur:Nat→Option Nat} {objs:Ar} {lk:List Nat} {k g:Nat} {o:Obj} (hk:k∈lk) (h1:cur k=some g) (h2:objs k=some o) :
  assoc (AcS cur objs lk) k=some ⟨0,fixB cur o.body⟩:=by
 induction lk with
 | nil=>simp at hk
 | cons j r ih =>
  simp only [AcS]
  by_cases hj:k=j
  ·subst hj
   simp only [h1,h2,assoc,Ch,cond_true]
  ·have hr:k∈r:=by simpa [hj] using hk
   split
   ·simp only [assoc,De hj,cond_false]
    exact ih hr
   ·exact ih hr
theorem AeS {lk:List Nat} {objs:Ar} {k g:Nat} (h:AcM lk objs k=some g):k∈lk∧∃ o,objs k=some o∧o.gen=g∧(1000≤k∨o.gen=0):=by
 unfold AcM at h
 cases he:elem k lk with
 | false=>simp [he] at h
 | true =>
  simp only [he,cond_true] at h
  refine ⟨(Qb k lk).1 he,?_⟩
  split at h
  ·rename_i o ho
   cases hb:(Nat.ble 1000 k||Nat.beq o.gen 0) with
   | false=>simp [hb] at h
   | true =>
    simp [hb] at h
    refine ⟨o,ho,h,?_⟩
    rcases (Bool.or_eq_true _ _).mp hb with h1|h1
    ·exact .inl (Nat.le_of_ble_eq_true h1)
    ·exact .inr (Nat.eq_of_beq_eq_true h1)
  ·simp at h
theorem AlJ {β:Bi} {objs objs':Ar} {S S':Nat→Prop} {w:World} {cur:Nat→Option Nat} (hS:∀ b,S b→S' b)
  (hm:∀ k g,cur k=some g→∃ o o',objs k=some o∧o.gen=g∧objs' k=some o'∧o'.gen=0∧o.body.same o'.body) :
  ∀ (d:Nat) (v:Value) (x:MV),RelV β objs S w v x→RelV β objs' S' w v (fixN cur d x):=by
 have known:∀ (k g:Nat) (F:Loc→Body→Prop),(∀ l b c,F l b→b.same c→F l c)→cur k=some g→Known β objs k g F→Known β objs' k 0 F:=by
  intro k g F hF hc hk
  obtain ⟨o,ho,hle,hf⟩:=hk
  obtain ⟨o1,o',h1,h2,h3,h4,h5⟩:=hm k g hc
  rw [ho] at h1
  injection h1 with h1
  subst h1
  exact ⟨o',h3,by omega,fun _=>hF _ _ _ (hf h2) h5⟩
 have one:∀ (v:Value) (x:MV),RelV β objs S w v x→RelV β objs' S' w v (fix1 cur x):=by
  intro v x h
  cases h with
  | p _ _ h=>exact .p _ _ (h.mono hS (fun _ _=>rfl))
  | own k g off len base c h =>
   simp only [fix1]
   split
   ·rename_i g0 hc
    cases hb:Nat.beq g0 g with
    | false=>exact .any _
    | true =>
     have:=Nat.eq_of_beq_eq_true hb
     subst this
     exact .own _ _ _ _ _ _ (known k g0 _ (fun _ _ _ h hs=>OwnAt.same h hs) hc h)
   ·exact .any _
  | ref k g off b h =>
   simp only [fix1]
   split
   ·rename_i g0 hc
    cases hb:Nat.beq g0 g with
    | false=>exact .any _
    | true =>
     have:=Nat.eq_of_beq_eq_true hb
     subst this
     exact .ref _ _ _ _ (known k g0 _ (fun _ _ _ h _=>h) hc h)
   ·exact .any _
  | eref k g i off b oo h =>
   simp only [fix1]
   split
   ·rename_i g0 hc
    cases hb:Nat.beq g0 g with
    | false=>exact .any _
    | true =>
     have:=Nat.eq_of_beq_eq_true hb
     subst this
     exact .eref _ _ _ _ _ _ (known k g0 _ (fun _ _ _ h hs=>ERefAt.same h hs) hc h)
   ·exact .any _
  | fptr cs b o hs c hc h1 hr=>exact .fptr _ _ _ (hS _ hs) c hc h1 (fun j x hx=>(hr j x hx).mono hS (fun _ _=>rfl))
  | mref k g b h =>
   simp only [fix1]
   split
   ·rename_i g0 hc
    cases hb:Nat.beq g0 g with
    | false=>exact .any _
    | true =>
     have:=Nat.eq_of_beq_eq_true hb
     subst this
     exact .mref _ _ _ (known k g0 _ (fun _ _ _ h _=>h) hc h)
   ·exact .any _
  | und=>exact .und
  | _=>exact .any _
 intro d
 induction d with
 | zero=>exact one
 | succ d ih =>
  intro v x h
  cases h with
  | agg cs vs hl hr h1 =>
   refine .agg _ _ (by simpa using hl) (fun i y hy => ?_) (fun i y hy => ?_)
   ·rw [List.getElem?_map] at hy
    cases hq:cs[i]? with
    | none=>simp [hq] at hy
    | some q=>simp [hq] at hy; subst hy; exact ih _ _ (hr i q hq)
   ·rw [List.getElem?_map] at hy
    cases hq:cs[i]? with
    | none=>simp [hq] at hy
    | some q=>exact h1 i q hq
  | tup cs vs hl hr =>
   refine .tup _ _ (by simpa using hl) (fun i y hy => ?_)
   rw [List.getElem?_map] at hy
   cases hq:cs[i]? with
   | none=>simp [hq] at hy
   | some q=>simp [hq] at hy; subst hy; exact ih _ _ (hr i q hq)
  | fn f cs vs hl hr =>
   refine .fn _ _ _ (by simpa using hl) (fun i y hy => ?_)
   rw [List.getElem?_map] at hy
   cases hq:cs[i]? with
   | none=>simp [hq] at hy
   | some q=>simp [hq] at hy; subst hy; exact ih _ _ (hr i q hq)
  | p _ _ h=>exact one _ _ (.p _ _ h)
  | own i g off len base c h=>exact one _ _ (.own _ _ _ _ _ _ h)
  | ref i g off b h=>exact one _ _ (.ref _ _ _ _ h)
  | eref i g ix off b oo h=>exact one _ _ (.eref _ _ _ _ _ _ h)
  | fptr cs b o hs c hc h1 hr=>exact one _ _ (.fptr _ _ _ hs c hc h1 hr)
  | mref i g b h=>exact one _ _ (.mref _ _ _ h)
  | und=>exact one _ _ .und
  | any v=>exact one _ _ (.any v)
theorem pickS_get {cur:Nat→Option Nat} {slots:Nat→MV} {ls:List Nat} {t:Nat} : assoc (pickS cur slots ls) t=some (fixN cur 2 (slots t))∨assoc (pickS cur slots ls) t=none:=by
 induction ls with
 | nil=>exact .inr rfl
 | cons j r ih =>
  simp only [pickS,assoc]
  cases hb:Nat.beq t j with
  | true=>rw [Nat.eq_of_beq_eq_true hb]; exact .inl rfl
  | false=>exact ih
section
variable {P : Program} {T:Ty} {cx:Cx P} {β:Bi} {σ:St} {a:Act} {w:World}
theorem Rel.norm (h:Rel cx β σ a w) (ls lk:List Nat):Rel cx β (Ae (Ki ls lk σ) (Gz lk σ)) a w:=by
 have hob:∀ k o',assoc (Gz lk σ) k=some o'→∃ o,σ.objs k=some o∧AcM lk σ.objs k=some o.gen∧o'=⟨0,fixB (AcM lk σ.objs) o.body⟩:=by
  intro k o' ho
  obtain ⟨g,o,h1,h2,h3⟩:=normO_mem (AaD ho)
  obtain ⟨_,o1,q1,q2,_⟩:=AeS h1
  rw [h2] at q1
  injection q1 with q1
  subst q1
  exact ⟨o,h2,by rw [h1,q2],h3⟩
 have hS:∀ b,Al cx.Av β σ.objs w b→Al cx.Av β (assoc (Gz lk σ)) w b:=by
  intro b hb
  refine ⟨hb.1,hb.2.1,fun k o' ho hl => ?_⟩
  obtain ⟨o,h1,h2,rfl⟩:=hob k o' ho
  exact hb.2.2 k o h1 ((Adk _ _).1 hl)
 have hm:∀ k g,AcM lk σ.objs k=some g→∃ o o',σ.objs k=some o∧o.gen=g∧assoc (Gz lk σ) k=some o'∧o'.gen=0∧o.body.same o'.body:=by
  intro k g hc
  obtain ⟨hk,o,h1,h2,_⟩:=AeS hc
  exact ⟨o,_,h1,h2,normO_has hk hc h1,rfl,fixB_same _ _⟩
 refine ⟨h.nd,h.sz,fun t => ?_,fun k o' ho => ?_,fun k o' b ho hl hb => ?_,fun k k' o o' b ho ho' hl hl' hne hb => ?_,h.kept,h.avo,h.avlt,h.mle,fun k o' hk ho hg => ?_⟩
 ·simp only [Ae,Ki]
  rcases pickS_get (cur:=AcM lk σ.objs) (slots:=σ.slots) (ls:=ls) (t:=t) with e|e
  ·rw [e]; exact AlJ hS hm 2 _ _ (h.sl t)
  ·rw [e]; exact .any _
 ·obtain ⟨o,h1,h2,rfl⟩:=hob k o' ho
  have:=h.ob k o h1
  cases hbd:o.body with
  | dead=>trivial
  | mq q=>rw [hbd] at this; exact QRel.mono hS (fun _ _=>rfl) (fun _ _=>rfl) this
  | row W n f =>
   rw [hbd] at this
   rcases this with q|⟨b,oo,cap,cur,e,rfl',q1,q2,q3,q4⟩
   ·exact .inl q
   ·exact .inr ⟨b,oo,cap,cur,e,rfl',q1,q2,q3,fun i hi=>⟨(q4 i hi).1,(q4 i hi).2.mono hS (fun _ _=>rfl)⟩⟩
  | mp z has f =>
   rw [hbd] at this
   obtain ⟨b,es,clock,q0,q1,q2,q3,q4⟩:=this
   exact ⟨b,es,clock,q0,q1,q2,q3,fun i e n he hn=>(q4 i e n he hn).mono hS (fun _ _=>rfl)⟩
  | box cs =>
   rw [hbd] at this
   obtain ⟨b,cur,e,q0,q1,q2,q3⟩:=this
   refine ⟨b,cur,e,q0,q1,by simpa [fixB] using q2,fun j x hx => ?_⟩
   rw [List.getElem?_map] at hx
   cases hq:cs[j]? with
   | none=>simp [hq] at hx
   | some q =>
    simp [hq] at hx
    subst hx
    obtain ⟨u,u1,u2,u3⟩:=q3 j q hq
    exact ⟨u,u1,u2,AlJ hS hm 1 _ _ u3⟩
 ·obtain ⟨o,h1,h2,rfl⟩:=hob k o' ho
  exact h.blk k o b h1 ((Adk _ _).1 hl) hb
 ·obtain ⟨q,h1,h2,rfl⟩:=hob k o ho
  obtain ⟨r,g1,g2,rfl⟩:=hob k' o' ho'
  exact h.inj k k' q r b h1 g1 ((Adk _ _).1 hl) ((Adk _ _).1 hl') hne hb
 ·obtain ⟨o,h1,h2,rfl⟩:=hob k o' ho
  obtain ⟨_,o1,q1,q2,q3⟩:=AeS h2
  rw [h1] at q1
  injection q1 with q1
  subst q1
  refine h.oloc k o hk h1 ?_
  rcases q3 with q3|q3
  ·have:=h.mle; omega
  ·exact q3
def DWP (P:Program) (cx:Cx P) (c:Code) (σ:St) (Q:Exit→St→Prop):Prop :=
 ∀ β a w,Rel cx β σ a w→c.wpIn (fen cx.rd) 0 P (fun e a' w'=>∃ β' σ',Q e σ'∧Rel cx β' σ' a' w') a w
variable {Q : Exit→St→Prop}
theorem DWP.mono {c:Code} {Q':Exit→St→Prop} (h:DWP P cx c σ Q) (hq:∀ e σ,Q e σ→Q' e σ):DWP P cx c σ Q' :=
 fun β a w hr=>wpIn_mono (h β a w hr) fun _ _ _ ⟨β',σ',q,r⟩=>⟨β',σ',hq _ _ q,r⟩
def thenQ (P:Program) (cx:Cx P) (c:Code) (Q:Exit→St→Prop):Exit→St→Prop
 | .normal,σ=>DWP P cx c σ Q
 | e,σ=>Q e σ
theorem DWP.seq {x y:Code} (h:DWP P cx x σ (thenQ P cx y Q)):DWP P cx (.seq x y) σ Q:=by
 intro β a w hr
 refine wpIn_seq (wpIn_mono (h β a w hr) ?_)
 rintro e a' w' ⟨β',σ',q,r⟩
 cases e with
 | normal=>exact q β' a' w' r
 | _=>exact ⟨β',σ',q,r⟩
theorem DWP.skip (h:Q .normal σ):DWP P cx .skip σ Q:=fun β a w hr=>wpIn_skip ⟨β,σ,h,hr⟩
theorem DWP.ret (h:Q .ret σ):DWP P cx .ret σ Q:=fun β a w hr=>wpIn_ret ⟨β,σ,h,hr⟩
theorem DWP.exit {id:Nat} (h:Q (.exit id) σ):DWP P cx (.exit id) σ Q:=fun β a w hr=>wpIn_exit ⟨β,σ,h,hr⟩
theorem DWP.cond {c:Operand} {x y:Code} {b:Bool} (hk:An c=true) (hc:ev σ c = .p (.v (.bool b))) (h1:b=true→DWP P cx x σ Q) (h2:b=false→DWP P cx y σ Q) :
  DWP P cx (.cond c x y) σ Q:=by
 intro β a w hr
 have:=Ba hr c hk
 rw [hc] at this
 exact wpIn_cond_split this.inv_v.1 (fun e=>h1 e β a w hr) (fun e=>h2 e β a w hr)
def Ng (id:Nat) (Q:Exit→St→Prop):Exit→St→Prop
 | .exit id',σ=>if id'=id then Q .normal σ else Q (.exit id') σ
 | e,σ=>Q e σ
theorem DWP.block {id:Nat} {c:Code} (h:DWP P cx c σ (Ng id Q)):DWP P cx (.block id c) σ Q:=by
 intro β a w hr
 refine wpIn_block (wpIn_mono (h β a w hr) ?_)
 rintro e a' w' ⟨β',σ',q,r⟩
 cases e with
 | exit id' =>
  simp only [Ng] at q
  simp only [Exit.inBlock]
  split
  ·rename_i e; rw [if_pos e] at q; exact ⟨β',σ',q,r⟩
  ·rename_i e; rw [if_neg e] at q; exact ⟨β',σ',q,r⟩
 | _=>exact ⟨β',σ',q,r⟩
theorem Qk {rd:Option Nat} {ι:Type} {R:Exit→Act→World→Prop} {c:Code} (I:ι→Act→World→Prop) (μ:ι→Nat) (i:ι) (h₀ : I i a w)
  (round:∀ i a w,I i a w→c.wpIn (fen rd) 0 P (Exit.then (fun a' w'=>∃ j,I j a' w'∧μ j<μ i) R) a w):(Code.loop c).wpIn (fen rd) 0 P R a w:=by
 intro b k cs hro hb hr
 have key:∀ n i a w,μ i=n→I i a w →
   ∃ e a' w',R e a' w'∧ArrivesIn (Machine.fenced P (fen rd)) P (lone (b.atR a (.code c :: .inLoop c::k)) cs w) b k cs e a' w':=by
  intro n
  induction n using Nat.strongRecOn with
  | _ n ih =>
   intro i a w hn hI
   obtain ⟨e,a₁,w₁,hq,harr⟩:=round i a w hI b (.inLoop c::k) cs hro hb hr
   cases e with
   | normal =>
    obtain ⟨j,hI₁,hlt⟩:=hq
    obtain ⟨e₂,a₂,w₂,hq₂,harr₂⟩:=ih (μ j) (hn▸hlt) j a₁ w₁ rfl hI₁
    exact ⟨e₂,a₂,w₂,hq₂,.of_steps (StepsIn.trans harr (.one (fenced_calm hb hr rfl) stepR_inLoop)) harr₂⟩
   | exit id=>exact ⟨_,a₁,w₁,hq,.pass (x := .inLoop c) rfl (fun _ _ => .inl (by simp)) harr⟩
   | goto l=>exact ⟨_,a₁,w₁,hq,.pass (x := .inLoop c) rfl (fun _ _ => .inl (by simp)) harr⟩
   | ret=>exact ⟨_,a₁,w₁,hq,.pass (x := .inLoop c) rfl (fun _ _ => .inl (by simp)) harr⟩
   | panic ch=>exact ⟨_,a₁,w₁,hq,.pass (x := .inLoop c) rfl (fun _ _ => .inl (by simp)) harr⟩
   | outgrown=>exact ⟨_,a₁,w₁,hq,.pass (x := .inLoop c) rfl (fun _ _ => .inl (by simp)) harr⟩
 obtain ⟨e,a',w',hq,harr⟩:=key _ i a w rfl h₀
 exact ⟨e,a',w',hq,.of_steps (.one (fenced_calm hb hr rfl) stepR_loop) harr⟩
def loopQ {ι:Type} (I:ι→St) (pre:ι→Prop) (μ:ι→Nat) (i:ι) (Q:Exit→St→Prop):Exit→St→Prop
 | .normal,σ=>∃ j,pre j∧σ=I j∧μ j<μ i
 | e,σ=>Q e σ
theorem DWP.loop {ι:Type} {c:Code} (I:ι→St) (pre:ι→Prop) (μ:ι→Nat) (i:ι) (hp:pre i) (h0:σ=I i)
  (round:∀ i,pre i→DWP P cx c (I i) (loopQ I pre μ i Q)):DWP P cx (.loop c) σ Q:=by
 intro β a w hr
 subst h0
 refine Qk (ι:=ι) (fun i a w=>pre i∧∃ β,Rel cx β (I i) a w) μ i ⟨hp,β,hr⟩ ?_
 rintro i a w ⟨hp,β,hr⟩
 refine wpIn_mono (round i hp β a w hr) ?_
 rintro e a' w' ⟨β',σ',q,r⟩
 cases e with
 | normal =>
  obtain ⟨j,h1,h2,h3⟩:=q
  subst h2
  exact ⟨j,⟨h1,β',r⟩,h3⟩
 | _=>exact ⟨β',σ',q,r⟩
def dreg (P:Program) (T:Ty) (nt:Nat) (ops:Array Oper) (xs:List Orc) (ls lk:List Nat) (draw:Bool) (σ:St):Option (List (Nat×MV)×List (Nat×Obj)×List Prop) :=
 match drun P T nt (ops.toList.map (·.dst)) ops.toList xs σ with
 | some (recs,obl,σ') =>
  bif !draw||(indep [] recs (masks (ops.toList.map Jb) [])&&backs (ops.toList.map Jb) 0) then some (Ki ls lk σ',Gz lk σ',obl) else none
 | none=>none
theorem DWP.region (hT:Gi P T) (hm:P.follows .mixedOrders=true) {ops:Array Oper} {id:Nat} {draw:Bool} {xs:List Orc} {ls lk:List Nat} {sl:List (Nat×MV)} {ob:List (Nat×Obj)} {obl:List Prop}
  (h:dreg P T cx.nt ops xs ls lk draw σ=some (sl,ob,obl)) (ho:All obl) (hQ:Q .normal (Ae sl ob)):DWP P cx (.region id ops draw) σ Q:=by
 unfold dreg at h
 split at h
 case h_2=>simp at h
 rename_i recs obl' σ' hd
 cases hb:(!draw||(indep [] recs (masks (ops.toList.map Jb) [])&&backs (ops.toList.map Jb) 0)) with
 | false=>simp [hb] at h
 | true =>
 simp only [hb,cond_true,Option.some.injEq,Prod.mk.injEq] at h
 obtain ⟨rfl,rfl,rfl⟩:=h
 intro β a w hr
 have hfin:∀ β a w,Rel cx β σ' a w→∃ β' σ'',Q .normal σ''∧Rel cx β' σ'' a w:=fun β a w hr=>⟨β,_,hQ,hr.norm ls lk⟩
 cases draw with
 | false=>exact AiU hT hd ho rfl hr hfin
 | true =>
  simp only [Bool.not_true,Bool.false_or,Bool.and_eq_true] at hb
  exact AiJ hT hm hd ho hb.1 hb.2 rfl hr hfin
end
end Go.Dm

namespace Go.Dm
structure Same (S:Nat→Prop) (w w':World):Prop where
 cell:∀ b o v,S b→w.cell? (at_ b o)=some v→w'.cell? (at_ b o)=some v
 map:∀ b es c,S b→w.heap[b]? = some (.map es c)→w'.heap[b]? = some (.map es c)
theorem Rep.move {S S':Nat→Prop} {w w':World} (hS:∀ b,S b→S' b) (hw:Same S w w') {v:Value} {x:PV} (h:Rep S w v x):Rep S' w' v x:=by
 induction h with
 | v x h=>exact .v x h
 | slnil fl W f h=>exact .slnil fl W f h
 | sl fl W n cap b o f c hfl hcap hs hlen hc h1 hr ih =>
  exact .sl fl W n cap b o f c hfl hcap (fun hn=>hS _ (hs hn)) hlen (fun i j hi hj=>hw.cell _ _ _ (hs (by omega)) (hc i j hi hj)) h1 ih
 | fn f caps vs hl hr ih=>exact .fn f caps vs hl ih
 | agg cs vs hl hr h1 ih=>exact .agg cs vs hl ih h1
 | tup cs vs hl hr ih=>exact .tup cs vs hl ih
 | mp z has f b clock es hs hh hk hz hr ih=>exact .mp z has f b clock es (hS _ hs) (hw.map _ _ _ hs hh) hk hz ih
 | ptr cs b o hs c hc h1 hr ih=>exact .ptr cs b o (hS _ hs) c (fun j hj=>hw.cell _ _ _ hs (hc j hj)) h1 ih
theorem RelV.move {β:Bi} {objs:Ar} {S S':Nat→Prop} {w w':World} (hS:∀ b,S b→S' b) (hw:Same S w w') {v:Value} {x:MV} (h:RelV β objs S w v x):RelV β objs S' w' v x:=by
 induction h with
 | p v x h=>exact .p v x (h.move hS hw)
 | own k g off len base c h=>exact .own k g off len base c h
 | ref k g off b h=>exact .ref k g off b h
 | eref k g i off b oo h=>exact .eref k g i off b oo h
 | fptr cs b o hs c hc h1 hr=>exact .fptr cs b o (hS _ hs) c (fun j hj=>hw.cell _ _ _ hs (hc j hj)) h1 (fun j x hx=>(hr j x hx).move hS hw)
 | agg cs vs hl hr h1 ih=>exact .agg cs vs hl ih h1
 | tup cs vs hl hr ih=>exact .tup cs vs hl ih
 | fn f caps vs hl hr ih=>exact .fn f caps vs hl ih
 | mref k g b h=>exact .mref k g b h
 | und=>exact .und
 | any v=>exact .any v
theorem ObjRel.move {β:Bi} {objs:Ar} {S S':Nat→Prop} {w w':World} (hS:∀ b,S b→S' b) (hw:Same S w w') {l:Loc} {bd:Body} (hl:bd.live)
  (hb:∀ b,l.block=some b→w'.heap[b]? = w.heap[b]?) (h:ObjRel β objs S w l bd):ObjRel β objs S' w' l bd:=by
 cases bd with
 | box cs =>
  obtain ⟨b,cur,e,rfl,h1,h2,h3⟩:=h
  refine ⟨b,cur,e,rfl,by rw [hb b rfl,h1],h2,fun j x hx => ?_⟩
  obtain ⟨u,g1,g2,g3⟩:=h3 j x hx
  exact ⟨u,g1,g2,g3.move hS hw⟩
 | row W n f =>
  rcases h with h|⟨b,o,cap,cur,e,rfl,h1,h2,h3,h4⟩
  ·exact .inl h
  ·refine .inr ⟨b,o,cap,cur,e,rfl,by rw [hb b rfl,h1],h2,h3,fun i hi=>⟨(h4 i hi).1,fun j x hx => ?_⟩⟩
   obtain ⟨u,g1,g2,g3⟩:=(h4 i hi).2 j x hx
   exact ⟨u,g1,g2,g3.move hS hw⟩
 | mp z has f =>
  obtain ⟨b,es,clock,rfl,h1,h2,h3,h4⟩:=h
  exact ⟨b,es,clock,rfl,by rw [hb b rfl,h1],h2,h3,fun i e n he hn=>(h4 i e n he hn).move hS hw⟩
 | mq q =>
  cases q with
  | clk z has f born clock =>
   obtain ⟨b,es,rfl,h1,h2,h3,h4,h5⟩:=h
   exact ⟨b,es,rfl,by rw [hb b rfl,h1],h2,h3,fun i e n he hn=>(h4 i e n he hn).move hS hw,h5⟩
  | it f rem cur =>
   obtain ⟨b,bm,es,clock,since,seen,c0,has,rfl,h1,h2,h3,h4,h5,h6,h7,h8,h9⟩:=h
   exact ⟨b,bm,es,clock,since,seen,c0,has,rfl,by rw [hb b rfl,h1],hS _ h2,hw.map _ _ _ h2 h3,h4,h5,h6,fun i e n he hn=>(h7 i e n he hn).move hS hw,h8,h9⟩
  | pm z has f =>
   obtain ⟨b,es,clock,rfl,h1,h2,h3,h4⟩:=h
   exact ⟨b,es,clock,rfl,by rw [hb b rfl,h1],h2,h3,fun i e a c he hn=>(h4 i e a c he hn).move hS hw⟩
  | sit s pos =>
   obtain ⟨b,rfl,h1⟩:=h
   exact ⟨b,rfl,by rw [hb b rfl,h1]⟩
 | dead=>trivial
structure Shut (n0:Nat) (w w':World):Prop where
 os:w'.os=w.os
 tape:w'.tape=w.tape
 output:w'.output=w.output
 size:w'.heap.size=w.heap.size
 block:∀ b,(b<n0∨w.heap[b]? ≠ some (.deferred (some [])))→w'.heap[b]? = w.heap[b]?
theorem Shut.refl (n0:Nat) (w:World):Shut n0 w w:=⟨rfl,rfl,rfl,rfl,fun _ _=>rfl⟩
theorem Shut.trans {n0:Nat} {a b c:World} (h:Shut n0 a b) (k:Shut n0 b c):Shut n0 a c :=
 ⟨k.os.trans h.os,k.tape.trans h.tape,k.output.trans h.output,k.size.trans h.size,fun i hi=>by
  have e:=h.block i hi
  rw [k.block i (by rcases hi with hi|hi; exact .inl hi; exact .inr (by rw [e]; exact hi)),e]⟩
theorem Shut.put {n0:Nat} {w:World} {D:Nat} (h0:n0≤D) (h1:w.heap[D]? = some (.deferred (some []))) (o:Go.Obj):Shut n0 w (w.putObj D o):=by
 refine ⟨rfl,rfl,rfl,by simp [World.putObj],fun b hb => ?_⟩
 by_cases h:b=D
 ·subst h
  rcases hb with hb|hb
  ·omega
  ·exact absurd h1 hb
 ·exact World.putObj_heap_other h
theorem Rel.shut {P:Program} {cx:Cx P} {β:Bi} {σ:St} {a:Act} {w w':World} (h:Rel cx β σ a w) (hs:Shut cx.w0.heap.size w w'):Rel cx β σ { a with defers := [] } w':=by
 have hS:∀ b,Al cx.Av β σ.objs w b→Al cx.Av β σ.objs w' b:=fun b hb=>⟨by rw [hs.size]; exact hb.1,hb.2.1,hb.2.2⟩
 have hsame:Same (Al cx.Av β σ.objs w) w w':=by
  refine ⟨fun b o v _ hc => ?_,fun b es c _ hm => ?_⟩
  ·rw [World.cell?_of_block (hs.block b (.inr fun e=>by simp [World.cell?,at_,e] at hc))]
   exact hc
  ·rw [hs.block b (.inr fun e=>by rw [e] at hm; simp at hm)]
   exact hm
 have hlive:∀ k o b,σ.objs k=some o→o.body.live→(β k).block=some b→w'.heap[b]? = w.heap[b]? := by
  intro k o b ho hl hb
  by_cases h0:b<cx.w0.heap.size
  ·exact hs.block b (.inl h0)
  ·refine hs.block b (.inr fun e => ?_)
   have:=h.mark_safe (Nat.le_of_not_lt h0) e (fun _ _ _ e=>by simp at e) (fun _ _ e=>by simp at e) (fun _ _ _ _ e=>by simp at e) (fun _ _ e=>by simp at e)
   exact this.2.2 k o ho hl hb
 refine ⟨Marked.nil,h.sz,fun t=>(h.sl t).move hS hsame,fun k o ho => ?_,fun k o b ho hl hb => ?_,h.inj,?_,h.avo,h.avlt,h.mle,h.oloc⟩
 ·by_cases hl:o.body.live
  ·exact (h.ob k o ho).move hS hsame hl fun b hb=>hlive k o b ho hl hb
  ·cases hbd:o.body with
   | dead=>trivial
   | box cs=>simp [hbd,Body.live] at hl
   | row W n f=>simp [hbd,Body.live] at hl
   | mp z has f=>simp [hbd,Body.live] at hl
   | mq q=>simp [hbd,Body.live] at hl
 ·have:=h.blk k o b ho hl hb
  exact ⟨by rw [hs.size]; exact this.1,this.2⟩
 ·have hk:=h.kept
  refine ⟨hs.os.trans hk.os,hs.tape.trans hk.tape,hs.output.trans hk.output,by rw [hs.size]; exact hk.size,fun b hb hno => ?_⟩
  rw [hs.block b (.inl hb)]
  exact hk.block b hb hno
theorem Amo {F:Fence} {n:Nat} {P:Program} {fn:Func} {tmps:Array Value} {R:Ending→World→Prop} {w0:World} : ∀ (ds:List Deferred) (w:World),Marked w0 ds w →
  (∀ w',Shut w0.heap.size w w'→∃ v,(results fn tmps).run P w' = .ok v w'∧R (.returned v) w')→LeavesInM F n P fn tmps R ds .returning w:=by
 intro ds
 induction ds with
 | nil=>intro w _ h; exact h w (Shut.refl _ _)
 | cons d ds ih =>
  intro w hm h
  obtain ⟨D,hd,h0,h1⟩:=hm.mark d (by simp)
  have hnd:=hm.nodup
  rw [List.nodup_cons] at hnd
  refine ⟨by simp,.inl ⟨D,w.putObj D (.deferred none),by rw [hd],run_takeDeferred h1,ih _ ⟨hnd.2,fun d' hd' => ?_⟩ fun w' hw'=>h w' ((Shut.put h0 h1 _).trans hw')⟩⟩
  obtain ⟨D',e',g0,g1⟩:=hm.mark d' (by simp [hd'])
  refine ⟨D',e',g0,?_⟩
  have hne:D≠D':=fun e=>hnd.1 (by rw [hd,e,← e']; exact hd')
  rw [World.putObj_heap_other (Ne.symm hne)]
  exact g1
theorem fen_wpIn {r:Option Nat} {n m:Nat} {P:Program} {c:Code} {Q:Exit→Act→World→Prop} {a:Act} {w:World} (h:c.wpIn (fen r) n P Q a w):c.wpIn (fen r) m P Q a w :=
 fun b k cs hro hb _=>h b k cs hro hb (Ank r _)
end Go.Dm

namespace Go.Dm
def toR (ob:Ar) (ks:List Nat):MV→Option MV
 | .tup cs=>match Sm (toC ob ks) cs with
  | some ds=>match pures ds with
   | some ps=>some (.p (.tup ps))
   | none=>some (.tup ds)
  | none=>none
 | x=>toC ob ks x
def rv (T:Ty) (σ:St):ResultVar→Option MV
 | .tmp t=>some (σ.slots t)
 | .cell t ty=>match Tm T ty σ.objs (σ.slots t) with
  | some (y,_,[])=>some y
  | _=>none
def rvs (T:Ty) (σ:St):List ResultVar→Option (List MV)
 | []=>some []
 | r::rs=>match rv T σ r,rvs T σ rs with
  | some y,some ys=>some (y::ys)
  | _,_=>none
def one : List MV→MV
 | [x]=>x
 | l => .tup l
def upN : Nat→Nat→List Nat
 | 0,_ => []
 | n+1,i=>i::upN n (i+1)
def Px : Nat→List (Nat×Body)→Bool
 | 0,_=>true
 | _+1,[]=>false
 | n+1,(g,.dead)::r=>Px n r
 | n+1,(g,_)::r=>Nat.beq g 0&&Px n r
def Wb (m:Nat) (ob:Ar):Ar:=fun k=>match ob k with
 | some o=>some o
 | none=>bif Nat.blt k m then some ⟨1,.dead⟩ else none
def fin0 (T:Ty) (results:List ResultVar) (m:Nat) (ex:List Nat) (σ:St):Option (MV×List Body) :=
 match rvs T σ results with
 | some ys=>match toR σ.objs (upN m 0++ex) (one ys),Oa σ.objs (upN m 0++ex) with
  | some res,some os=>bif Px m os&&Acg (upN m 0++ex)&&ex.all (fun k=>Nat.ble 1000 k)&&Nat.ble m 1000 then some (res,os.map (·.2)) else none
  | _,_=>none
 | none=>none
def fin (T:Ty) (results:List ResultVar) (m:Nat) (ex:List Nat) (σ:St):Option (MV×List Body):=fin0 T results m ex ⟨σ.slots,Wb m σ.objs⟩
def finQ (T:Ty) (results:List ResultVar) (m:Nat) (res:MV) (bs:List Body):Exit→St→Prop
 | .ret,σ=>∃ ex,fin T results m ex σ=some (res,bs)
 | .normal,σ=>∃ ex,fin T results m ex σ=some (res,bs)
 | _,_=>False
theorem Alh (n:Nat):∀ (s i:Nat),i<n→(upN n s)[i]? = some (s+i):=by
 induction n with
 | zero=>intro s i h; omega
 | succ n ih =>
  intro s i h
  cases i with
  | zero=>simp [upN]
  | succ i =>
   simp only [upN,List.getElem?_cons_succ]
   rw [ih (s+1) i (by omega)]
   congr 1
   omega
theorem Aby (n:Nat):∀ s,(upN n s).length=n:=by
 induction n with
 | zero=>intro s; rfl
 | succ n ih=>intro s; simp [upN,ih]
theorem AmR : ∀ (n:Nat) (l:List (Nat×Body)),Px n l=true→∀ i g b,i<n→l[i]? = some (g,b)→b.live→g=0:=by
 intro n
 induction n with
 | zero=>intro l _ i g b h; omega
 | succ n ih =>
  intro l h i g b hi hl hv
  cases l with
  | nil=>simp [Px] at h
  | cons p r =>
   obtain ⟨g',b'⟩:=p
   cases i with
   | zero =>
    simp at hl
    obtain ⟨rfl,rfl⟩:=hl
    cases b' with
    | dead=>exact hv.elim
    | _=>simp only [Px,Bool.and_eq_true] at h; exact Nat.eq_of_beq_eq_true h.1
   | succ i =>
    have h2:Px n r=true:=by
     cases b' with
     | dead=>exact h
     | _=>simp only [Px,Bool.and_eq_true] at h; exact h.2
    exact ih r h2 i g b (by omega) (by simpa using hl) hv
def AhF (tmps:Array Value):ResultVar→Sem Value
 | .tmp t=>pure (tmps.getD t undef)
 | .cell q t=>do loadVar t (← asAddr (tmps.getD q undef))
theorem AoV (fn:Func) (tmps:Array Value):results fn tmps=(do
  let vs ← fn.results.mapM (AhF tmps)
  pure (if h:vs.size=1 then vs[0] else .tuple vs)):=by
 unfold results
 have:(AhF tmps)=(fun
  | .tmp t=>pure (tmps.getD t undef)
  | .cell a t=>do loadVar t (← asAddr (tmps.getD a undef))):=by
  funext r
  cases r <;> rfl
 rw [this]
 rfl
section
variable {P : Program} {T:Ty}
theorem run_rv (hT:Gi P T) {cx:Cx P} {β:Bi} {σ:St} {a:Act} {w:World} (h:Rel cx β σ a w) {r:ResultVar} {y:MV} (hr:rv T σ r=some y) :
  ∃ v,(AhF a.tmps r).run P w = .ok v w∧RelV β σ.objs (Al cx.Av β σ.objs w) w v y:=by
 cases r with
 | tmp t =>
  simp [rv] at hr
  subst hr
  exact ⟨_,rfl,h.sl t⟩
 | cell q t =>
  simp only [rv] at hr
  split at hr
  ·rename_i y' wo he
   simp at hr
   subst hr
   obtain ⟨v,h1,h2,_⟩:=AjA (P:=P) (ob:=σ.objs) (ox := .tmp q) hT.ok h rfl (fun _ _ h=>h) he trivial
   have hptr:∃ p,a.tmps.getD q undef = .pointer (some p):=by
    have hs:=h.sl q
    unfold Tm at he
    split at he
    ·simp at he
    ·split at he
     ·rename_i k g off hp
      have hp':σ.slots q = .ref k g off:=hp
      rw [hp'] at hs
      obtain ⟨b,hv,_⟩:=hs.inv_ref
      exact ⟨_,hv⟩
     ·rename_i k g ix off hp
      have hp':σ.slots q = .eref k g ix off:=hp
      rw [hp'] at hs
      obtain ⟨b,oo,hv,_⟩:=hs.inv_eref
      exact ⟨_,hv⟩
     ·rename_i cs hp
      have hp':σ.slots q = .fptr cs:=hp
      rw [hp'] at hs
      obtain ⟨b,o,c,hv,_⟩:=hs.inv_fptr
      exact ⟨_,hv⟩
     ·simp at he
   obtain ⟨p,hp⟩:=hptr
   refine ⟨v,?_,h2⟩
   have h1':(Instr.loadAt t (a.tmps.getD q undef)).run P w = .ok v w:=h1
   simp only [AhF]
   rw [hp] at h1' ⊢
   simpa [Instr.loadAt,Instr.sureAddr,asAddr] using h1'
  ·simp at hr
theorem run_rvs (hT:Gi P T) {cx:Cx P} {β:Bi} {σ:St} {a:Act} {w:World} (h:Rel cx β σ a w):∀ (rs:List ResultVar) (ys:List MV),rvs T σ rs=some ys →
  ∃ vs:List Value,(rs.mapM (m:=Sem) (AhF a.tmps)).run P w = .ok vs w∧vs.length=ys.length ∧
   ∀ (i:Nat) v y,vs[i]? = some v→ys[i]? = some y→RelV β σ.objs (Al cx.Av β σ.objs w) w v y:=by
 intro rs
 induction rs with
 | nil=>intro ys hr; simp [rvs] at hr; subst hr; exact ⟨[],by simp,rfl,fun i v y h=>by simp at h⟩
 | cons r rs ih =>
  intro ys hr
  simp only [rvs] at hr
  split at hr
  ·rename_i y ys' h1 h2
   simp at hr
   subst hr
   obtain ⟨v,hv,hrel⟩:=run_rv hT h h1
   obtain ⟨vs,hvs,hl,hrels⟩:=ih ys' h2
   refine ⟨v::vs,?_,by simp [hl],fun i u z hu hz => ?_⟩
   ·rw [List.mapM_cons,Sem.run_bind,hv]
    simp [hvs]
   ·cases i with
    | zero=>simp at hu hz; subst hu; subst hz; exact hrel
    | succ i=>exact hrels i u z (by simpa using hu) (by simpa using hz)
  ·simp at hr
theorem Aod (hT:Gi P T) {cx:Cx P} {β:Bi} {σ:St} {a:Act} {w:World} (h:Rel cx β σ a w) {fn:Func} {ys:List MV} (hr:rvs T σ fn.results.toList=some ys) :
  ∃ v,(results fn a.tmps).run P w = .ok v w∧RelV β σ.objs (Al cx.Av β σ.objs w) w v (Dm.one ys):=by
 obtain ⟨vs,h1,h2,h3⟩:=run_rvs hT h _ _ hr
 refine ⟨if hh:vs.toArray.size=1 then vs.toArray[0] else .tuple vs.toArray,?_,?_⟩
 ·rw [AoV,Sem.run_bind]
  have:(fn.results.mapM (m:=Sem) (AhF a.tmps)).run P w = .ok vs.toArray w:=by
   rw [Array.mapM_eq_mapM_toList]
   simp [h1]
  rw [this]
  rfl
 ·by_cases hv:vs.length=1
  ·obtain ⟨u,rfl⟩:∃ u,vs = [u]:=by
    match vs,hv with
    | [u],_=>exact ⟨u,rfl⟩
   obtain ⟨z,rfl⟩:∃ z,ys = [z]:=by
    match ys,h2 with
    | [z],_=>exact ⟨z,rfl⟩
   exact h3 0 u z rfl rfl
  ·rw [dif_neg (by simpa using hv)]
   have:Dm.one ys = .tup ys:=by
    match ys,h2,hv with
    | [],_,_=>rfl
    | [z],h2,hv=>exact absurd h2 hv
    | _::_::_,_,_=>rfl
   rw [this]
   refine .tup _ _ (by simpa using h2) (fun i y hy => ?_)
   have hlt:i<vs.length:=by rw [h2]; exact (List.getElem?_eq_some_iff.1 hy).1
   have:=h3 i vs[i] y (List.getElem?_eq_getElem hlt) hy
   simpa [Array.getD_eq_getD_getElem?,hlt] using this
theorem toR_sound {cx:Cx P} {β:Bi} {σ:St} {a:Act} {w:World} (h:Rel cx β σ a w) {ks:List Nat} {os:List (Nat×Body)} (hos:Oa σ.objs ks=some os)
  {v:Value} {x y:MV} (rx:RelV β σ.objs (Al cx.Av β σ.objs w) w v x) (hy:toR σ.objs ks x=some y) :
  RelV (Bf β ks) (Bq (os.map (·.2))) (Al cx.Av (Bf β ks) (Bq (os.map (·.2))) w) w v y:=by
 have weak:∀ (bs:List Nat) (v:Value) (z:MV),RelV (Bf β ks) (Bq (os.map (·.2))) (Al (Qg cx β σ.objs ks bs) (Bf β ks) (Bq (os.map (·.2))) w) w v z →
   RelV (Bf β ks) (Bq (os.map (·.2))) (Al cx.Av (Bf β ks) (Bq (os.map (·.2))) w) w v z:=by
  intro bs v z hz
  refine hz.mono (Grows.refl _ _) (fun b hb=>⟨hb.1,fun hA=>hb.2.1 (.inl hA),hb.2.2⟩) (fun _ _=>rfl)
 have single:∀ (v:Value) (x y:MV),RelV β σ.objs (Al cx.Av β σ.objs w) w v x→toC σ.objs ks x=some y →
   RelV (Bf β ks) (Bq (os.map (·.2))) (Al cx.Av (Bf β ks) (Bq (os.map (·.2))) w) w v y:=fun v x y rx hy =>
  weak (bor ks x) v y (AlP h (fun _ _ h=>h) hos rx hy (fun k hk=>hk))
 unfold toR at hy
 split at hy
 ·rename_i cs
  cases rx with
  | tup _ vs hl hr =>
   split at hy
   ·rename_i ds hds
    obtain ⟨m1,m2⟩:=Xd cs ds hds
    have hall:∀ (i:Nat) z,ds[i]? = some z→RelV (Bf β ks) (Bq (os.map (·.2))) (Al cx.Av (Bf β ks) (Bq (os.map (·.2))) w) w (vs.getD i undef) z:=by
     intro i z hz
     obtain ⟨q,hq,hqz⟩:=m2 i z hz
     exact single _ _ _ (hr i q hq) hqz
    split at hy
    ·rename_i ps hps
     simp at hy; subst hy
     have hds':=Fw hps
     refine .p _ _ (.tup _ _ (by rw [hl,← m1,hds']; simp) (fun i q hq => ?_))
     exact (hall i (.p q) (by rw [hds',List.getElem?_map,hq]; rfl)).inv_p
    ·simp at hy; subst hy
     exact .tup _ _ (by rw [hl,m1]) hall
   ·simp at hy
 ·exact single _ _ _ rx hy
theorem toR_body {cx:Cx P} {β:Bi} {σ:St} {a:Act} {w:World} (h:Rel cx β σ a w) {ks:List Nat} {os:List (Nat×Body)} {bs:List Body} (hos:Oa σ.objs ks=some os) (hbs:os.map (·.2)=bs)
  (hS:∀ b,Al cx.Av β σ.objs w b→Al cx.Av (Bf β ks) (Bq bs) w b)
  {l:Loc} {b c:Body} (hr:ObjRel β σ.objs (Al cx.Av β σ.objs w) w l b) (hb:toB σ.objs ks b=some c):ObjRel (Bf β ks) (Bq bs) (Al cx.Av (Bf β ks) (Bq bs) w) w l c:=by
 subst hbs
 cases b with
 | box cs =>
  simp only [toB] at hb
  split at hb <;> simp at hb
  rename_i ds hds
  subst hb
  obtain ⟨m1,m2⟩:=Xd cs ds hds
  obtain ⟨bl,cur,e,rfl,h1,h2,h3⟩:=hr
  refine ⟨bl,cur,e,rfl,h1,by rw [m1]; exact h2,fun j y hy => ?_⟩
  obtain ⟨x,hx,hxy⟩:=m2 j y hy
  obtain ⟨u,u1,u2,u3⟩:=h3 j x hx
  refine ⟨u,u1,u2,?_⟩
  exact (Akz (bs := []) h (fun _ _ h=>h) hos u3 hxy).mono (Grows.refl _ _) (fun b hb=>⟨hb.1,fun hA=>hb.2.1 (.inl hA),hb.2.2⟩) (fun _ _=>rfl)
 | row W n f =>
  simp only [toB,Option.some.injEq] at hb
  subst hb
  rcases hr with hr|⟨b,o,cap,cur,e,rfl,h1,h2,h3,h4⟩
  ·exact .inl hr
  ·exact .inr ⟨b,o,cap,cur,e,rfl,h1,h2,h3,fun i hi=>⟨(h4 i hi).1,(h4 i hi).2.mono hS (fun _ _=>rfl)⟩⟩
 | mp z has f =>
  simp only [toB,Option.some.injEq] at hb
  subst hb
  obtain ⟨b,es,clock,rfl,h1,h2,h3,h4⟩:=hr
  exact ⟨b,es,clock,rfl,h1,h2,h3,fun i e n he hn=>(h4 i e n he hn).mono hS (fun _ _=>rfl)⟩
 | mq q=>simp [toB] at hb
 | dead=>simp [toB] at hb; subst hb; trivial
def cxOf {P:Program} (w:World) (Av:Nat→Prop) (β:Bi) (outs:List Body) (nt:Nat) (rd:Option Nat) (gl:GlOK P (fun b=>∃ (k:Nat) (bd:Body),outs[k]? = some bd∧bd.live∧(β k).block=some b) w):Cx P :=
 { w0:=w,Av:=Av,out:=fun b=>∃ (k:Nat) (bd:Body),outs[k]? = some bd∧bd.live∧(β k).block=some b,nt:=nt,m:=outs.length,β0:=β,rd:=rd,gl:=gl }
theorem init_rel {P:Program} {w:World} {Av:Nat→Prop} {β:Bi} {vs:Array Value} {args:List MV} {outs:List Body} {nt:Nat} (rd:Option Nat) (hle:args.length≤nt) (hm:outs.length≤1000) (hpre:Pre P w Av β outs vs args) :
  Rel (cxOf w Av β outs nt rd hpre.gl) β ⟨fun t=>(args[t]?).getD .any,Bq outs⟩ { tmps:=vs++Array.replicate (nt-vs.size) undef,defers := [] } w:=by
 have hobjs:∀ k o,Bq outs k=some o→∃ bd,outs[k]? = some bd∧o=⟨0,bd⟩:=by
  intro k o ho
  simp only [Bq] at ho
  cases hq:outs[k]? with
  | none=>simp [hq] at ho
  | some bd=>simp [hq] at ho; exact ⟨bd,rfl,ho.symm⟩
 refine ⟨Marked.nil,?_,fun t => ?_,fun k o ho => ?_,fun k o b ho hl hbk => ?_,fun k k' o o' b ho ho' hl hl' hne hbk => ?_,Kept.refl _ _,fun b hA hout => ?_,hpre.av,hm,fun k o hk ho hg=>rfl⟩
 ·have:=hpre.len
  show (vs++Array.replicate (nt-vs.size) undef).size=nt
  simp
  omega
 ·show RelV β (Bq outs) (Al Av β (Bq outs) w) w ((vs++Array.replicate (nt-vs.size) undef).getD t undef) ((args[t]?).getD .any)
  by_cases ht:t<args.length
  ·have:args[t]? = some args[t]:=List.getElem?_eq_getElem ht
   rw [this]
   have hr:=hpre.args t _ this
   have hlt:t<vs.size:=by rw [hpre.len]; exact ht
   have e1:(vs++Array.replicate (nt-vs.size) undef).getD t undef=vs.getD t undef:=by
    rw [Array.getD_eq_getD_getElem?,Array.getElem?_append_left hlt,Array.getD_eq_getD_getElem?]
   simp only [Option.getD_some]
   rw [e1]
   exact hr
  ·rw [List.getElem?_eq_none (by omega)]
   exact .any _
 ·obtain ⟨bd,h3,rfl⟩:=hobjs k o ho
  exact hpre.ob k bd h3
 ·obtain ⟨bd,h3,rfl⟩:=hobjs k o ho
  have:=hpre.blk k bd b h3 hl hbk
  exact ⟨this.1,this.2,.inr ⟨k,bd,h3,hl,hbk⟩⟩
 ·obtain ⟨bd,h3,rfl⟩:=hobjs k o ho
  obtain ⟨bd',h4,rfl⟩:=hobjs k' o' ho'
  exact hpre.inj k k' bd bd' b h3 h4 hl hl' hne hbk
 ·obtain ⟨k,bd,h3,h4,h5⟩:=hout
  exact (hpre.blk k bd b h3 h4 h5).2 hA
theorem Rel.fill {cx:Cx P} {β:Bi} {σ:St} {a:Act} {w:World} (h:Rel cx β σ a w) (m:Nat):Rel cx β ⟨σ.slots,Wb m σ.objs⟩ a w:=by
 have hg:Grows β β σ.objs (Wb m σ.objs):=fun k o ho=>⟨o,by simp [Wb,ho],Nat.le_refl _,fun _=>⟨rfl,o.body.same_refl⟩⟩
 have hback:∀ k o,Wb m σ.objs k=some o→σ.objs k=some o∨o=⟨1,.dead⟩:=by
  intro k o ho
  simp only [Wb] at ho
  cases hk:σ.objs k with
  | some q=>rw [hk] at ho; exact .inl ho
  | none =>
   rw [hk] at ho
   cases hb:Nat.blt k m with
   | true=>simp [hb] at ho; exact .inr ho.symm
   | false=>simp [hb] at ho
 have hS:∀ b,Al cx.Av β σ.objs w b→Al cx.Av β (Wb m σ.objs) w b:=by
  intro b hb
  refine ⟨hb.1,hb.2.1,fun k o ho hl => ?_⟩
  rcases hback k o ho with e|rfl
  ·exact hb.2.2 k o e hl
  ·exact hl.elim
 refine ⟨h.nd,h.sz,fun t=>(h.sl t).mono hg hS (fun _ _=>rfl),fun k o ho => ?_,fun k o b ho hl hb => ?_,fun k k' o o' b ho ho' hl hl' hne hb => ?_,h.kept,h.avo,h.avlt,h.mle,fun k o hk ho hgen => ?_⟩
 ·rcases hback k o ho with e|rfl
  ·exact (h.ob k o e).mono hg hS (fun _ _=>rfl) (fun _ _=>rfl)
  ·trivial
 ·rcases hback k o ho with e|rfl
  ·exact h.blk k o b e hl hb
  ·exact hl.elim
 ·rcases hback k o ho with e|rfl
  ·rcases hback k' o' ho' with e'|rfl
   ·exact h.inj k k' o o' b e e' hl hl' hne hb
   ·exact hl'.elim
  ·exact hl.elim
 ·rcases hback k o ho with e|rfl
  ·exact h.oloc k o hk e hgen
  ·simp at hgen
theorem done_rel (hT:Gi P T) {w:World} {Av:Nat→Prop} {β:Bi} {outs outs' news:List Body} {gl:GlOK P (fun b=>∃ (k:Nat) (bd:Body),outs[k]? = some bd∧bd.live∧(β k).block=some b) w} {res:MV} {nt:Nat} {rd:Option Nat} {fn:Func} {rs:List ResultVar} (hrs:rs=fn.results.toList) (hlen:outs'.length=outs.length)
  {β':Bi} {σ0:St} {a':Act} {w':World} (hr0:Rel (cxOf w Av β outs nt rd gl) β' σ0 a' w') {ex:List Nat} (hfin:fin T rs outs.length ex σ0=some (res,outs'++news)) :
  ∃ v,(results fn a'.tmps).run P w' = .ok v w'∧∃ β'',Post w Av β outs w' β'' v res outs' news:=by
 have hr:=hr0.fill outs.length
 unfold fin at hfin
 generalize (⟨σ0.slots,Wb outs.length σ0.objs⟩:St)=σ' at hr hfin
 unfold fin0 at hfin
 split at hfin
 case h_2=>simp at hfin
 rename_i ys hys
 split at hfin
 case h_2=>simp at hfin
 rename_i res0 os hres hos
 cases hbb:(Px outs.length os&&Acg (upN outs.length 0++ex)&&ex.all (fun k=>Nat.ble 1000 k)&&Nat.ble outs.length 1000) with
 | false=>simp only [hbb,cond_false] at hfin; simp at hfin
 | true =>
 simp only [hbb,cond_true,Option.some.injEq,Prod.mk.injEq] at hfin
 obtain ⟨rfl,hbodies⟩:=hfin
 simp only [Bool.and_eq_true] at hbb
 obtain ⟨⟨⟨z1,z2⟩,z3⟩,z4⟩:=hbb
 have hnd:=AeL _ z2
 have hm1000:outs.length≤1000:=Nat.le_of_ble_eq_true z4
 rw [List.all_eq_true] at z3
 subst hrs
 obtain ⟨v,hv1,hv2⟩:=Aod hT hr hys
 have hv3:=toR_sound hr hos hv2 hres
 rw [hbodies] at hv3
 obtain ⟨hosl,hosg⟩:=AdN _ os hos
 refine ⟨v,hv1,Bf β' (upN outs.length 0++ex),?_⟩
 have hlk:(upN outs.length 0++ex).length=outs.length+ex.length:=by simp [Aby]
 have hobj:∀ (i:Nat) bd,(outs'++news)[i]? = some bd→∃ k g,(upN outs.length 0++ex)[i]? = some k∧(∃ bd0,σ'.objs k=some ⟨g,bd0⟩∧toB σ'.objs (upN outs.length 0++ex) bd0=some bd)∧Bf β' (upN outs.length 0++ex) i=β' k∧(i<outs.length→k=i∧(bd.live→g=0))∧(outs.length≤i→1000≤k):=by
  intro i bd hi
  rw [← hbodies,List.getElem?_map] at hi
  cases ho:os[i]? with
  | none=>simp [ho] at hi
  | some p =>
   have hlt:i<(upN outs.length 0++ex).length:=by rw [← hosl]; exact (List.getElem?_eq_some_iff.1 ho).1
   obtain ⟨g,bd',q1,bd0,q2,q3⟩:=hosg i _ (List.getElem?_eq_getElem hlt)
   rw [ho] at q1
   injection q1 with q1
   subst q1
   simp [ho] at hi
   subst hi
   refine ⟨_,g,List.getElem?_eq_getElem hlt,⟨bd0,q2,q3⟩,?_,fun hi' => ?_,fun hi' => ?_⟩
   ·unfold Bf
    rw [List.getD_eq_getElem?_getD,List.getElem?_eq_getElem hlt]
    rfl
   ·refine ⟨?_,fun hl=>AmR _ _ z1 i g bd' hi' ho hl⟩
    have e2:(upN outs.length 0++ex)[i]? = some i:=by
     rw [List.getElem?_append_left (by rw [Aby]; exact hi'),Alh _ _ _ hi',Nat.zero_add]
    rw [List.getElem?_eq_getElem hlt] at e2
    injection e2 with e2
   ·have e2:(upN outs.length 0++ex)[i]? = ex[i-outs.length]? := by
     rw [List.getElem?_append_right (by rw [Aby]; exact hi'),Aby]
    rw [List.getElem?_eq_getElem hlt] at e2
    exact Nat.le_of_ble_eq_true (z3 _ (List.mem_of_getElem? e2.symm))
 have hinjk:∀ (i j k:Nat),(upN outs.length 0++ex)[i]? = some k→(upN outs.length 0++ex)[j]? = some k→i=j:=by
  intro i j k hi hj
  obtain ⟨l1,v1⟩:=List.getElem?_eq_some_iff.1 hi
  obtain ⟨l2,v2⟩:=List.getElem?_eq_some_iff.1 hj
  have hpw:=List.pairwise_iff_getElem.1 hnd
  rcases Nat.lt_trichotomy i j with hlt|heq|hgt
  ·exact absurd (v1.trans v2.symm) (hpw i j l1 l2 hlt)
  ·exact heq
  ·exact absurd (v2.trans v1.symm) (hpw j i l2 l1 hgt)
 have hSafe:∀ b,Al Av β' σ'.objs w' b→Al Av (Bf β' (upN outs.length 0++ex)) (Bq (outs'++news)) w' b:=by
  intro b hbS
  refine ⟨hbS.1,hbS.2.1,fun i o ho hl => ?_⟩
  simp only [Bq] at ho
  cases hq:(outs'++news)[i]? with
  | none=>simp [hq] at ho
  | some bd =>
   simp only [hq,Option.map_some,Option.some.injEq] at ho
   subst ho
   obtain ⟨k,g,_,⟨bd0,q2,q3⟩,q4,_⟩:=hobj i bd hq
   rw [q4]
   exact hbS.2.2 k _ q2 ((Fi q3).2 hl)
 refine ⟨hr.kept,fun k bd hk hbd hl => ?_,hlen,hv3,fun i bd hi => ?_,fun i bd b hi hl hbk => ?_,fun i j bd bd' b hi hj hl hl' hne hbk => ?_⟩
 ·obtain ⟨k',g,q1,⟨bd0,q2,q3⟩,q4,q5,_⟩:=hobj k bd (by rw [List.getElem?_append_left (by omega),hbd])
  obtain ⟨rfl,q6⟩:=q5 hk
  have:=q6 hl
  subst this
  rw [q4]
  exact hr.oloc k' _ hk q2 rfl
 ·obtain ⟨k,g,q1,⟨bd0,q2,q3⟩,q4,_⟩:=hobj i bd hi
  rw [q4]
  exact toR_body hr hos hbodies hSafe (hr.ob k _ q2) q3
 ·obtain ⟨k,g,q1,⟨bd0,q2,q3⟩,q4,q5,q6⟩:=hobj i bd hi
  rw [q4] at hbk
  have hB:=hr.blk k _ b q2 ((Fi q3).2 hl) hbk
  refine ⟨hB.1,?_⟩
  by_cases hi':i<outs.length
  ·exact .inl hi'
  ·right
   rcases hB.2.2 with h3|⟨k0,bd0,h3,h4,h5⟩
   ·exact .inl h3
   ·have hk0:k0<outs.length:=(List.getElem?_eq_some_iff.1 h3).1
    have hklt:k0<(outs'++news).length:=by simp; omega
    obtain ⟨k',g',r1,⟨bd0',r2,r3⟩,r4,r5,_⟩:=hobj k0 (outs'++news)[k0] (List.getElem?_eq_getElem hklt)
    obtain ⟨rfl,r6⟩:=r5 hk0
    have hkk:(outs'++news)[k']? = some (outs'++news)[k']:=List.getElem?_eq_getElem hklt
    generalize (outs'++news)[k']=bk at hkk r3 r6
    by_cases hlv:bk.live
    case neg =>
     have hd:bk = .dead:=by cases bk <;> first|rfl|exact absurd trivial hlv
     subst hd
     rw [List.getElem?_append_left (by omega)] at hkk
     exact .inr ⟨k',bd0,h3,h4,hkk,h5⟩
    exfalso
    have:=r6 hlv
    subst this
    have hol:=hr.oloc k' _ hk0 r2 rfl
    refine hr.inj k k' _ _ b q2 r2 ((Fi q3).2 hl) ((Fi r3).2 hlv) (fun e => ?_) hbk (by rw [hol]; exact h5)
    have:=q6 (by omega)
    omega
 ·obtain ⟨k,g,q1,⟨bd0,q2,q3⟩,q4,_⟩:=hobj i bd hi
  obtain ⟨k',g',r1,⟨bd0',r2,r3⟩,r4,_⟩:=hobj j bd' hj
  rw [q4] at hbk
  rw [r4]
  refine hr.inj k k' _ _ b q2 r2 ((Fi q3).2 hl) ((Fi r3).2 hl') (fun e=>hne ?_) hbk
  subst e
  exact hinjk i j k q1 r1
theorem spec_of_r (hT:Gi P T) {f:FuncId} {fn:Func} {c:Code} (hf:P.funcs[f]? = some fn) (hname:fn.name ≠ "runtime.NumGoroutine") (hb:fn.body=some c)
  {args:List MV} {outs:List Body} {res:MV} {outs' news:List Body} (hlen:outs'.length=outs.length)
  {sl:List (Nat×MV)} {ob:List (Nat×Obj)} (hle:args.length≤fn.ntmps) (hm:outs.length≤1000)
  (h1:Ki (upN args.length 0) (upN outs.length 0) ⟨fun t=>(args[t]?).getD .any,Bq outs⟩=sl)
  (h2:Gz (upN outs.length 0) ⟨fun t=>(args[t]?).getD .any,Bq outs⟩=ob)
  (hd:∀ cx:Cx P,cx.nt=fn.ntmps→cx.rd=none→DWP P cx c (Ae sl ob) (finQ T fn.results.toList outs.length res (outs'++news))) :
  Spec P f args outs res outs' news:=by
 refine ⟨⟨fn,hf,hname,by rw [hb]; rfl⟩,fun w Av β vs hpre => ?_⟩
 refine (callsIn_wide (n:=1)).1 (callsIn_of_wp_marks hf hb trivial ?_ rfl)
 have hrel:=init_rel (nt:=fn.ntmps) none hle hm hpre
 have hrel':=hrel.norm (upN args.length 0) (upN outs.length 0)
 rw [h1,h2] at hrel'
 refine wpIn_mono (fen_wpIn (r:=none) (m:=1) (hd (cxOf w Av β outs fn.ntmps none hpre.gl) rfl rfl β _ w hrel')) ?_
 rintro e a' w' ⟨β',σ',hq,hr⟩
 have done:(∃ ex,fin T fn.results.toList outs.length ex σ'=some (res,outs'++news))→LeavesInM Fence.wide 1 P fn a'.tmps (fun e w'=>∃ v' β'',e = .returned v'∧Post w Av β outs w' β'' v' res outs' news) a'.defers .returning w':=by
  rintro ⟨ex,hfin⟩
  refine Amo (w0:=w) _ _ hr.nd fun w2 hw2 => ?_
  obtain ⟨v,h1,β'',h2⟩:=done_rel hT rfl hlen (hr.shut hw2) hfin
  exact ⟨v,h1,v,β'',rfl,h2⟩
 cases e with
 | ret=>exact done hq
 | normal=>exact done hq
 | _=>exact hq.elim
theorem spec_of (hT:Gi P T) {f:FuncId} {fn:Func} {c:Code} (hf:P.funcs[f]? = some fn) (hname:fn.name ≠ "runtime.NumGoroutine") (hb:fn.body=some c)
  {args:List MV} {outs:List Body} {res:MV} {outs' news:List Body} (hlen:outs'.length=outs.length)
  {sl:List (Nat×MV)} {ob:List (Nat×Obj)} (hle:args.length≤fn.ntmps) (hm:outs.length≤1000)
  (h1:Ki (upN args.length 0) (upN outs.length 0) ⟨fun t=>(args[t]?).getD .any,Bq outs⟩=sl)
  (h2:Gz (upN outs.length 0) ⟨fun t=>(args[t]?).getD .any,Bq outs⟩=ob)
  (hd:∀ cx:Cx P,cx.nt=fn.ntmps→DWP P cx c (Ae sl ob) (finQ T fn.results.toList outs.length res (outs'++news))) :
  Spec P f args outs res outs' news:=spec_of_r hT hf hname hb hlen hle hm h1 h2 fun cx hn _=>hd cx hn
end
end Go.Dm

namespace Go.Dm
def MLe (x y:MV):Prop:=∀ β objs S w v,RelV β objs S w v x→RelV β objs S w v y
theorem PLe.rfl {x:PV} : PLe x x:=fun _ _ _ h=>h
theorem MLe.rfl {x:MV} : MLe x x:=fun _ _ _ _ _ h=>h
theorem MLe.of_eq {x y:MV} (h:x=y):MLe x y:=h▸MLe.rfl
theorem MLe.p {x y:PV} (h:PLe x y):MLe (.p x) (.p y):=fun _ _ _ _ _ q => .p _ _ (h _ _ _ q.inv_p)
theorem PLe.sl {fl fl':Fl} {W n n':Nat} {f g:Nat→List PV} (hfl:fl' = .unk∨fl'=fl) (hn:n=n') (h:∀ i,i<n→f i=g i):PLe (.sl fl W n f) (.sl fl' W n' g):=by
 subst hn
 intro S w v q
 cases q with
 | slnil _ _ _ h1=>exact .slnil _ _ _ (by rcases hfl with rfl|rfl; simp; exact h1)
 | sl _ _ _ cap b o _ c h1 h2 h3 h4 h5 h6 h7 =>
  refine .sl _ _ _ cap b o _ c ?_ h2 h3 (fun i hi=>by rw [← h i hi]; exact h4 i hi) h5 h6 (fun i j x hi hx=>h7 i j x hi (by rw [h i hi]; exact hx))
  rcases hfl with rfl|rfl
  ·exact ⟨by simp,by simp⟩
  ·exact h1
theorem PLe.empty {fl fl':Fl} {W W':Nat} {f g:Nat→List PV} (hfl:fl' = .unk∨fl'=fl):PLe (.sl fl W 0 f) (.sl fl' W' 0 g):=by
 intro S w v q
 cases q with
 | slnil _ _ _ h1=>exact .slnil _ _ _ (by rcases hfl with rfl|rfl; simp; exact h1)
 | sl _ _ _ cap b o _ c h1 h2 h3 h4 h5 h6 h7 =>
  refine .sl _ _ _ cap b o _ c ?_ h2 (fun e=>absurd (Eq.refl 0) e) (fun i hi=>by omega) (fun i j hi=>by omega) (fun i j hi=>by omega) (fun i j x hi=>by omega)
  rcases hfl with rfl|rfl
  ·exact ⟨by simp,by simp⟩
  ·exact h1
inductive MLes : List MV→List MV→Prop where
 | nil:MLes [] []
 | cons {x y:MV} {l m:List MV} (h:MLe x y) (t:MLes l m):MLes (x::l) (y::m)
theorem MLes.get {l m:List MV} (h:MLes l m):l.length=m.length∧∀ (i:Nat) y,m[i]? = some y→∃ x,l[i]? = some x∧MLe x y:=by
 induction h with
 | nil=>exact ⟨rfl,fun i y h=>by simp at h⟩
 | cons h t ih =>
  refine ⟨by simp [ih.1],fun i y hy => ?_⟩
  cases i with
  | zero=>simp at hy; subst hy; exact ⟨_,rfl,h⟩
  | succ i=>exact ih.2 i y (by simpa using hy)
inductive BLe : Body→Body→Prop where
 | rfl {b:Body} : BLe b b
 | box {l m:List MV} (h:MLes l m):BLe (.box l) (.box m)
 | row {W n n':Nat} {f g:Nat→List PV} (hn:n=n') (h:∀ i,i<n→f i=g i):BLe (.row W n f) (.row W n' g)
 | mp {z z':PV} {has has':Int→Bool} {f f':Int→PV} (h:AeE z has f z' has' f'):BLe (.mp z has f) (.mp z' has' f')
 | clk {z z':PV} {has has':Int→Bool} {f f':Int→PV} {born:Int→Nat} {clock:Nat} (h:AeE z has f z' has' f'):BLe (.mq (.clk z has f born clock)) (.mp z' has' f')
 | it {f:Int→PV} {rem:Int→Bool} {cur:Option Int} : BLe (.mq (.it f rem cur)) (.mq (.it f rem none))
theorem BLe.same {b c:Body} (h:BLe b c):b.same c:=by
 cases h with
 | rfl=>exact b.same_refl
 | box=>trivial
 | row hn=>exact ⟨Eq.refl _,hn⟩
 | mp=>trivial
 | clk=>trivial
 | it=>trivial
theorem BLe.rel {b c:Body} (h:BLe b c) {β:Bi} {objs:Ar} {S:Nat→Prop} {w:World} {l:Loc} (q:ObjRel β objs S w l b):ObjRel β objs S w l c:=by
 cases h with
 | rfl=>exact q
 | box hm =>
  obtain ⟨h1,h2⟩:=hm.get
  obtain ⟨b,cur,e,q0,q1,q2,q3⟩:=q
  refine ⟨b,cur,e,q0,q1,by rw [q2,h1],fun j y hy => ?_⟩
  obtain ⟨x,hx,hxy⟩:=h2 j y hy
  obtain ⟨u,u1,u2,u3⟩:=q3 j x hx
  exact ⟨u,u1,u2,hxy _ _ _ _ _ u3⟩
 | row hn hf =>
  subst hn
  rcases q with q|⟨b,o,cap,cur,e,q0,q1,q2,q3,q4⟩
  ·exact .inl q
  ·refine .inr ⟨b,o,cap,cur,e,q0,q1,q2,q3,fun i hi => ?_⟩
   rw [← hf i hi]
   exact q4 i hi
 | mp hm =>
  obtain ⟨h1,h2,h3⟩:=hm
  subst h1
  obtain ⟨b,es,clock,q0,q1,q2,q3,q4⟩:=q
  exact ⟨b,es,clock,q0,q1,q2,h3 q3,fun i e n he hn=>h2 n _ _ _ (q4 i e n he hn)⟩
 | clk hm =>
  obtain ⟨h1,h2,h3⟩:=hm
  subst h1
  obtain ⟨b,es,q0,q1,q2,q3,q4,_⟩:=q
  exact ⟨b,es,_,q0,q1,q2,h3 q3,fun i e n he hn=>h2 n _ _ _ (q4 i e n he hn)⟩
 | it =>
  obtain ⟨b,bm,es,clock,since,seen,c0,has,q0,q1,q2,q3,q4,q5,q6,q7,q8,_⟩:=q
  exact ⟨b,bm,es,clock,since,seen,c0,has,q0,q1,q2,q3,q4,q5,q6,q7,q8,fun n hn=>by simp at hn⟩
section
variable {P : Program} {T:Ty} {cx:Cx P} {β:Bi} {σ:St} {a:Act} {w:World} {Q:Exit→St→Prop}
theorem Rel.leF {sl sl':List (Nat×MV)} {ob ob':List (Nat×Obj)} (hs:∀ t,MLe ((assoc sl t).getD .any) ((assoc sl' t).getD .any))
  (ho:∀ t,(assoc ob t=none∧assoc ob' t=none)∨∃ g b c,assoc ob t=some ⟨g,b⟩∧assoc ob' t=some ⟨g,c⟩∧BLe b c) (h:Rel cx β (Ae sl ob) a w):Rel cx β (Ae sl' ob') a w:=by
 have back:∀ k o',assoc ob' k=some o'→∃ b,assoc ob k=some ⟨o'.gen,b⟩∧BLe b o'.body:=by
  intro k o' hk
  rcases ho k with ⟨_,h2⟩|⟨g,b,c,h1,h2,h3⟩
  ·rw [hk] at h2; simp at h2
  ·rw [hk] at h2
   injection h2 with h2
   subst h2
   exact ⟨b,h1,h3⟩
 have hg:Grows β β (assoc ob) (assoc ob'):=by
  intro k o hk
  rcases ho k with ⟨h1,_⟩|⟨g,b,c,h1,h2,h3⟩
  ·rw [hk] at h1; simp at h1
  ·rw [hk] at h1
   injection h1 with h1
   subst h1
   exact ⟨_,h2,Nat.le_refl _,fun _=>⟨rfl,h3.same⟩⟩
 have hS:∀ b,Al cx.Av β (assoc ob) w b→Al cx.Av β (assoc ob') w b:=by
  intro b hb
  refine ⟨hb.1,hb.2.1,fun k o' hk hl => ?_⟩
  obtain ⟨bd,h1,h2⟩:=back k o' hk
  exact hb.2.2 k _ h1 ((ApP h2.same).2 hl)
 refine ⟨h.nd,h.sz,fun t => ?_,fun k o' hk => ?_,fun k o' b hk hl hb => ?_,fun k k' o o' b hk hk' hl hl' hne hb => ?_,h.kept,h.avo,h.avlt,h.mle,fun k o' hkm hk hgen => ?_⟩
 ·exact hs t _ _ _ _ _ ((h.sl t).mono hg hS (fun _ _=>rfl))
 ·obtain ⟨bd,h1,h2⟩:=back k o' hk
  exact h2.rel ((h.ob k _ h1).mono hg hS (fun _ _=>rfl) (fun _ _=>rfl))
 ·obtain ⟨bd,h1,h2⟩:=back k o' hk
  exact h.blk k _ b h1 ((ApP h2.same).2 hl) hb
 ·obtain ⟨bd,h1,h2⟩:=back k o hk
  obtain ⟨bd',h1',h2'⟩:=back k' o' hk'
  exact h.inj k k' _ _ b h1 h1' ((ApP h2.same).2 hl) ((ApP h2'.same).2 hl') hne hb
 ·obtain ⟨bd,h1,h2⟩:=back k o' hk
  exact h.oloc k _ hkm h1 hgen
def KQ (P:Program) (cx:Cx P):List Code→(Exit→St→Prop)→Exit→St→Prop
 | [],Q=>Q
 | c::r,Q=>thenQ P cx c (KQ P cx r Q)
def DW (P:Program) (cx:Cx P) (cs:List Code) (σ:St) (Q:Exit→St→Prop):Prop:=KQ P cx cs Q .normal σ
theorem DW.start {c:Code} (h:DW P cx [c] σ Q):DWP P cx c σ Q:=h
theorem DW.seq {x y:Code} {r:List Code} (h:DW P cx (x::y::r) σ Q):DW P cx (.seq x y::r) σ Q:=DWP.seq (P:=P) (cx:=cx) (Q:=KQ P cx r Q) h
theorem DW.skip {r:List Code} (h:DW P cx r σ Q):DW P cx (.skip::r) σ Q:=DWP.skip (Q:=KQ P cx r Q) h
theorem KQ_ret {r:List Code} (h:Q .ret σ):KQ P cx r Q .ret σ:=by
 induction r with
 | nil=>exact h
 | cons c r ih=>exact ih
theorem Th {r:List Code} {id:Nat} (h:Q (.exit id) σ):KQ P cx r Q (.exit id) σ:=by
 induction r with
 | nil=>exact h
 | cons c r ih=>exact ih
theorem DW.ret {r:List Code} (h:Q .ret σ):DW P cx (.ret::r) σ Q:=DWP.ret (Q:=KQ P cx r Q) (KQ_ret h)
theorem DW.exit {r:List Code} {id:Nat} (h:Q (.exit id) σ):DW P cx (.exit id::r) σ Q:=DWP.exit (Q:=KQ P cx r Q) (Th h)
theorem DW.cond {c:Operand} {x y:Code} {r:List Code} (b:Bool) (hk:An c=true) (hc:ev σ c = .p (.v (.bool b))) (h1:b=true→DW P cx (x::r) σ Q) (h2:b=false→DW P cx (y::r) σ Q) :
  DW P cx (.cond c x y::r) σ Q:=DWP.cond (Q:=KQ P cx r Q) hk hc h1 h2
theorem DW.block {id:Nat} {c:Code} {r:List Code} (h:DW P cx [c] σ (Ng id (KQ P cx r Q))):DW P cx (.block id c::r) σ Q:=DWP.block (Q:=KQ P cx r Q) h
theorem DW.done (h:Q .normal σ):DW P cx [] σ Q:=h
theorem Vc {id:Nat} (h:Q .normal σ):Ng id Q (.exit id) σ:=by simp [Ng,h]
theorem Acv {id id':Nat} (hne:id'≠id) (h:Q (.exit id') σ):Ng id Q (.exit id') σ:=by simp [Ng,hne,h]
theorem retOK {results:List ResultVar} {m:Nat} {res:MV} {bs bs':List Body} (ex:List Nat) (res':MV) (h:fin T results m ex σ=some (res',bs')) (e:res'=res) (e2:bs'=bs):finQ T results m res bs .ret σ:=by
 subst e; subst e2; exact ⟨ex,h⟩
theorem endOK {results:List ResultVar} {m:Nat} {res:MV} {bs bs':List Body} (ex:List Nat) (res':MV) (h:fin T results m ex σ=some (res',bs')) (e:res'=res) (e2:bs'=bs):finQ T results m res bs .normal σ:=by
 subst e; subst e2; exact ⟨ex,h⟩
def eqIf (P:Program) (t:Nat):Bool→Prop
 | true=>Vr P t
 | false=>True
def AllT (P:Program):Ty→Prop
 | []=>True
 | (t,i)::r=>(TyFact P t i∧eqIf P t i.eq)∧AllT P r
theorem AlE {T:Ty} (h:AllT P T) (h1:T.all (fun p=>p.2.zero.all fun c=>c.oneCell')=true)
  (h2:T.all (fun p=>match p.2.kd with | .struct fs=>fs.all (fun q=>(Dm.assoc T q.2).isSome)|_=>true)=true):Gi P T:=by
 have hall:∀ (T:Ty),AllT P T→∀ p∈T,TyFact P p.1 p.2∧eqIf P p.1 p.2.eq:=by
  intro T
  induction T with
  | nil=>intro _ p hp; simp at hp
  | cons q r ih =>
   intro h p hp
   obtain ⟨t,i⟩:=q
   rcases List.mem_cons.1 hp with rfl|hp
   ·exact h.1
   ·exact ih h.2 p hp
 rw [List.all_eq_true] at h1 h2
 refine ⟨fun t i ht=>(hall T h _ (AaD ht)).1,fun t i ht=>h1 _ (AaD ht),fun t fs s b z q ht => ?_,fun t i ht he => ?_⟩
 ·have:=h2 _ (AaD ht)
  exact this
 ·have:=(hall T h _ (AaD ht)).2
  simp only [he,eqIf] at this
  exact this
end
abbrev vi (n:Int):PV := .v (.int .i64 n)
abbrev vb (b:Bool):PV := .v (.bool b)
abbrev vs (s:ByteArray):PV := .v (.string s)
def elems {α:Type} (enc:α→List PV) (d:α) (L:List α):Nat→List PV:=fun i=>enc (L.getD i d)
def Gy {α:Type} (W:Nat) (enc:α→List PV) (d:α) (L:List α):PV := .sl .unk W L.length (elems enc d L)
def Ads {α:Type} (W:Nat) (enc:α→List PV) (d:α) (L:List α):Body := .row W L.length (elems enc d L)
end Go.Dm

namespace Go.Dm
section
variable {P : Program} {T:Ty} {cx:Cx P} {σ:St} {Q:Exit→St→Prop}
def RegTo (P:Program) (cx:Cx P) (ops:Array Oper) (draw:Bool) (σ:St) (sl2:List (Nat×MV)) (ob2:List (Nat×Obj)):Prop :=
 ∀ (id:Nat) (r:List Code) (Q:Exit→St→Prop),DW P cx r (Ae sl2 ob2) Q→DW P cx (.region id ops draw::r) σ Q
theorem DW.regJ {ops:Array Oper} {id:Nat} {draw:Bool} {r:List Code} {sl2:List (Nat×MV)} {ob2:List (Nat×Obj)} (h:RegTo P cx ops draw σ sl2 ob2) (hQ:DW P cx r (Ae sl2 ob2) Q) :
  DW P cx (.region id ops draw::r) σ Q:=h id r Q hQ
end
theorem Adl {n:Int} (h1 : -9223372036854775808≤n) (h2:n≤9223372036854775807):IntKind.i64.wrap n=n:=by
 exact IntWalk.i64_in n ⟨h1,h2⟩
def Cg (n:Int):List PV := [vi n]
def Xw (s:ByteArray):List PV := [vs s]
end Go.Dm

namespace Go.Dm
section
variable {α σ R:Type}
def Az (body:Nat→α→σ→(σ→R)→R) (done:σ→R):List α→Nat→σ→R
 | [],_,s=>done s
 | x::r,k,s=>body k x s (fun s'=>Az body done r (k+1) s')
end
inductive Ad1 (k:Nat):MV→MV→Prop where
 | rfl (x:MV):Ad1 k x x
 | nil (W:Nat) (f:Nat→List PV):Ad1 k (.p (.sl .nil W 0 f)) (.own k 0 0 0)
inductive AdL (k:Nat):List MV→List MV→Prop where
 | rfl (l:List MV):AdL k l l
 | cons {x y:MV} {r s:List MV} (h:Ad1 k x y) (t:AdL k r s):AdL k (x::r) (y::s)
inductive Ad (k:Nat):MV→MV→Prop where
 | one {x y:MV} (h:Ad1 k x y):Ad k x y
 | agg {r s:List MV} (h:AdL k r s):Ad k (.agg r) (.agg s)
inductive AdS (k:Nat):List (Nat×MV)→List (Nat×MV)→Prop where
 | rfl (l:List (Nat×MV)):AdS k l l
 | cons {t:Nat} {x y:MV} {r s:List (Nat×MV)} (h:Ad k x y) (q:AdS k r s):AdS k ((t,x)::r) ((t,y)::s)
inductive AdO (k:Nat):List (Nat×Obj)→List (Nat×Obj)→Prop where
 | rfl (l:List (Nat×Obj)):AdO k l l
 | keep {j:Nat} {o:Obj} {r s:List (Nat×Obj)} (q:AdO k r s):AdO k ((j,o)::r) ((j,o)::s)
 | box {j g:Nat} {cs ds:List MV} {r s:List (Nat×Obj)} (h:AdL k cs ds) (q:AdO k r s):AdO k ((j,⟨g,.box cs⟩)::r) ((j,⟨g,.box ds⟩)::s)
theorem AdL.get {k:Nat} {l m:List MV} (h:AdL k l m):l.length=m.length∧∀ (i:Nat) y,m[i]? = some y→∃ x,l[i]? = some x∧Ad1 k x y:=by
 induction h with
 | rfl l=>exact ⟨Eq.refl _,fun i y hy=>⟨y,hy,.rfl y⟩⟩
 | cons h t ih =>
  refine ⟨by simp [ih.1],fun i y hy => ?_⟩
  cases i with
  | zero=>simp at hy; subst hy; exact ⟨_,Eq.refl _,h⟩
  | succ i=>exact ih.2 i y (by simpa using hy)
theorem AdS.get {k:Nat} {l m:List (Nat×MV)} (h:AdS k l m) (t:Nat):Ad k ((assoc l t).getD .any) ((assoc m t).getD .any):=by
 induction h with
 | rfl l=>exact .one (.rfl _)
 | @cons t' x y r s h q ih =>
  simp only [assoc]
  cases Nat.beq t t' with
  | true=>exact h
  | false=>exact ih
theorem AdO.get {k:Nat} {l m:List (Nat×Obj)} (h:AdO k l m) (j:Nat):(assoc l j=none∧assoc m j=none)∨(∃ o,assoc l j=some o∧assoc m j=some o) ∨
  ∃ g cs ds,assoc l j=some ⟨g,.box cs⟩∧assoc m j=some ⟨g,.box ds⟩∧AdL k cs ds:=by
 induction h with
 | rfl l =>
  cases hq:assoc l j with
  | none=>exact .inl ⟨Eq.refl _,Eq.refl _⟩
  | some o=>exact .inr (.inl ⟨o,Eq.refl _,Eq.refl _⟩)
 | @keep i o r s q ih =>
  simp only [assoc]
  cases Nat.beq j i with
  | true=>exact .inr (.inl ⟨_,Eq.refl _,Eq.refl _⟩)
  | false=>exact ih
 | @box i g cs ds r s h q ih =>
  simp only [assoc]
  cases Nat.beq j i with
  | true=>exact .inr (.inr ⟨_,_,_,Eq.refl _,Eq.refl _,h⟩)
  | false=>exact ih
section
variable {P : Program} {T:Ty} {cx:Cx P} {β:Bi} {σ:St} {a:Act} {w:World} {Q:Exit→St→Prop}
theorem Ad1.sound {k:Nat} {x y:MV} (h:Ad1 k x y) {objs:Ar} {S:Nat→Prop} {v:Value} (hl:β k = .nilrow) {W:Nat} {f:Nat→List PV} (ho:objs k=some ⟨0,.row W 0 f⟩) (hr:RelV β objs S w v x):RelV β objs S w v y:=by
 cases h with
 | rfl=>exact hr
 | nil W' f' =>
  have hp:=hr.inv_p
  generalize hx:PV.sl .nil W' 0 f'=px at hp
  cases hp with
  | slnil=>exact .own k 0 0 0 none 0 ⟨_,ho,Nat.le_refl _,fun _=>by simp [OwnAt,hl]⟩
  | sl fl _ n cap b o _ c hfl=>injection hx with h1; exact absurd h1.symm hfl.1
  | _=>simp at hx
theorem Ad.sound {k:Nat} {x y:MV} (h:Ad k x y) {objs:Ar} {S:Nat→Prop} {v:Value} (hl:β k = .nilrow) {W:Nat} {f:Nat→List PV} (ho:objs k=some ⟨0,.row W 0 f⟩) (hr:RelV β objs S w v x):RelV β objs S w v y:=by
 cases h with
 | one h=>exact h.sound hl ho hr
 | agg h =>
  obtain ⟨hlen,hget⟩:=h.get
  cases hr with
  | agg _ vs hs hr h1 =>
   refine .agg _ vs (by rw [hs,hlen]) (fun i y hy => ?_) (fun i y hy => ?_)
   ·obtain ⟨x,hx,hxy⟩:=hget i y hy
    exact hxy.sound hl ho (hr i x hx)
   ·obtain ⟨x,hx,hxy⟩:=hget i y hy
    exact h1 i x hx
theorem Rel.adopt {k W:Nat} {f:Nat→List PV} {sl sl':List (Nat×MV)} {ob ob':List (Nat×Obj)} (hk:1000≤k) (hn:assoc ob k=none) (hs:AdS k sl sl') (ho:AdO k ob ob')
  (h:Rel cx β (Ae sl ob) a w):Rel cx (Fo β k .nilrow) (Ae sl' ((k,⟨0,.row W 0 f⟩)::ob')) a w:=by
 have hm:=h.mle
 have h1:=h.upd1 k ⟨0,.row W 0 f⟩ .nilrow w (fun o hoo=>by rw [show (Ae sl ob).objs k=assoc ob k from rfl,hn] at hoo; simp at hoo)
  (fun b _ hb=>by simp [Loc.block] at hb) (fun b _ hb=>by simp [Loc.block] at hb) (fun _ _ _=>rfl) (Nat.le_refl _) rfl rfl rfl (fun hkm=>by omega) (.inl ⟨rfl,rfl⟩)
 have hloc:Fo β k .nilrow k = .nilrow:=Db _ _ _
 have hcase:∀ j,(Bj (assoc ob) k ⟨0,.row W 0 f⟩ j=none∧assoc ((k,⟨0,.row W 0 f⟩)::ob') j=none) ∨
   (∃ o,Bj (assoc ob) k ⟨0,.row W 0 f⟩ j=some o∧assoc ((k,⟨0,.row W 0 f⟩)::ob') j=some o) ∨
   ∃ g cs ds,Bj (assoc ob) k ⟨0,.row W 0 f⟩ j=some ⟨g,.box cs⟩∧assoc ((k,⟨0,.row W 0 f⟩)::ob') j=some ⟨g,.box ds⟩∧AdL k cs ds:=by
  intro j
  by_cases hj:j=k
  ·subst hj
   exact .inr (.inl ⟨_,Bb _ _ _,by simp [assoc,Ch]⟩)
  ·rw [Cc _ _ hj,show assoc ((k,⟨0,.row W 0 f⟩)::ob') j=assoc ob' j by simp [assoc,De hj]]
   exact ho.get j
 have hback:∀ j o',assoc ((k,⟨0,.row W 0 f⟩)::ob') j=some o'→∃ o,Bj (assoc ob) k ⟨0,.row W 0 f⟩ j=some o∧o.gen=o'.gen∧(o.body.live↔o'.body.live) ∧
   (o=o'∨∃ g cs ds,o=⟨g,.box cs⟩∧o'=⟨g,.box ds⟩∧AdL k cs ds):=by
  intro j o' hj
  rcases hcase j with ⟨_,q⟩|⟨o,q1,q2⟩|⟨g,cs,ds,q1,q2,q3⟩
  ·rw [q] at hj; simp at hj
  ·rw [q2] at hj; injection hj with hj; subst hj
   exact ⟨o,q1,rfl,Iff.rfl,.inl rfl⟩
  ·rw [q2] at hj; injection hj with hj; subst hj
   exact ⟨_,q1,rfl,Iff.rfl,.inr ⟨g,cs,ds,rfl,rfl,q3⟩⟩
 have hgrow:Grows (Fo β k .nilrow) (Fo β k .nilrow) (Bj (assoc ob) k ⟨0,.row W 0 f⟩) (assoc ((k,⟨0,.row W 0 f⟩)::ob')):=by
  intro j o hj
  rcases hcase j with ⟨q,_⟩|⟨o1,q1,q2⟩|⟨g,cs,ds,q1,q2,q3⟩
  ·rw [q] at hj; simp at hj
  ·rw [q1] at hj; injection hj with hj; subst hj
   exact ⟨_,q2,Nat.le_refl _,fun _=>⟨rfl,Body.same_refl _⟩⟩
  ·rw [q1] at hj; injection hj with hj; subst hj
   exact ⟨_,q2,Nat.le_refl _,fun _=>⟨rfl,trivial⟩⟩
 have hS:∀ b,Al cx.Av (Fo β k .nilrow) (Bj (assoc ob) k ⟨0,.row W 0 f⟩) w b→Al cx.Av (Fo β k .nilrow) (assoc ((k,⟨0,.row W 0 f⟩)::ob')) w b:=by
  intro b hb
  refine ⟨hb.1,hb.2.1,fun j o' hj hlive => ?_⟩
  obtain ⟨o,q1,_,q3,_⟩:=hback j o' hj
  exact hb.2.2 j o q1 (q3.2 hlive)
 have hnew:assoc ((k,(⟨0,.row W 0 f⟩:Obj))::ob') k=some ⟨0,.row W 0 f⟩:=by simp [assoc,Ch]
 refine ⟨h1.nd,h1.sz,fun t => ?_,fun j o' hj => ?_,fun j o' b hj hlive hb => ?_,fun j j' o o' b hj hj' hl hl' hne hb => ?_,h1.kept,h1.avo,h1.avlt,h1.mle,fun j o' hjm hj hg => ?_⟩
 ·have:=(h1.sl t).mono hgrow hS (fun _ _=>rfl)
  exact (hs.get t).sound hloc hnew this
 ·obtain ⟨o,q1,_,_,q4⟩:=hback j o' hj
  have hob:=(h1.ob j o q1).mono hgrow hS (fun _ _=>rfl) (fun _ _=>rfl)
  rcases q4 with rfl|⟨g,cs,ds,rfl,rfl,hA⟩
  ·exact hob
  ·obtain ⟨b,cur,e,p1,p2,p3,p4⟩:=hob
   obtain ⟨hlen,hget⟩:=hA.get
   refine ⟨b,cur,e,p1,p2,by rw [p3,hlen],fun i y hy => ?_⟩
   obtain ⟨x,hx,hxy⟩:=hget i y hy
   obtain ⟨u,u1,u2,u3⟩:=p4 i x hx
   exact ⟨u,u1,u2,hxy.sound hloc hnew u3⟩
 ·obtain ⟨o,q1,_,q3,_⟩:=hback j o' hj
  exact h1.blk j o b q1 (q3.2 hlive) hb
 ·obtain ⟨p,q1,_,q3,_⟩:=hback j o hj
  obtain ⟨p',r1,_,r3,_⟩:=hback j' o' hj'
  exact h1.inj j j' p p' b q1 r1 (q3.2 hl) (r3.2 hl') hne hb
 ·obtain ⟨o,q1,q2,_,_⟩:=hback j o' hj
  exact h1.oloc j o hjm q1 (by rw [q2]; exact hg)
end
end Go.Dm

namespace Go.Dm
section
variable {α : Type} {W:Nat} {enc:α→List PV} {d:α}
end
section
variable {P : Program} {f:FuncId} {outs outs' news:List Body} {res:MV}
theorem Spec.args {xs bs:List MV} (h:Spec P f bs outs res outs' news) (hle:MLes xs bs):Spec P f xs outs res outs' news:=by
 obtain ⟨h1,h2⟩:=hle.get
 refine ⟨h.1,fun w Av β vs hp=>h.2 w Av β vs ⟨hp.gl,hp.av,by rw [hp.len,h1],fun i x hx => ?_,hp.ob,hp.blk,hp.inj⟩⟩
 obtain ⟨y,hy,hle⟩:=h2 i x hx
 exact hle _ _ _ _ _ (hp.args i y hy)
theorem Spec.unk {W n:Nat} {g:Nat→List PV} {r:List MV} (h1:n=0→Spec P f (.p (.sl .nil W 0 g)::r) outs res outs' news) (h2:Spec P f (.p (.sl .nn W n g)::r) outs res outs' news) :
  Spec P f (.p (.sl .unk W n g)::r) outs res outs' news:=by
 refine ⟨h2.1,fun w Av β vs hp => ?_⟩
 have h0:=hp.args 0 _ rfl
 have hrest:∀ x:PV,Rep (Al Av β (Bq outs) w) w (vs.getD 0 undef) x→Pre P w Av β outs vs (.p x::r):=fun x hx =>
  ⟨hp.gl,hp.av,hp.len,fun i y hy=>by
   cases i with
   | zero=>simp at hy; subst hy; exact .p _ _ hx
   | succ i=>exact hp.args (i+1) y (by simpa using hy),hp.ob,hp.blk,hp.inj⟩
 have hr:=h0.inv_p
 generalize hv:vs.getD 0 undef=v at hr
 cases hr with
 | slnil _ _ _ _=>exact (h1 rfl).2 w Av β vs (hrest _ (by rw [hv]; exact .slnil _ _ _ (by simp)))
 | sl _ _ _ cap b o _ c q1 q2 q3 q4 q5 q6 q7=>exact h2.2 w Av β vs (hrest _ (by rw [hv]; exact .sl _ _ _ cap b o _ c ⟨by simp,by simp⟩ q2 q3 q4 q5 q6 q7))
end
structure IMap (α:Type) where
 has:Int→Bool
 get:Int→α
def IMap.empty {α:Type} (d:α):IMap α:=⟨fun _=>false,fun _=>d⟩
def IMap.set {α:Type} (m:IMap α) (n:Int) (v:α):IMap α:=⟨Ay m.has n true,Ay m.get n v⟩
def Cu {α:Type} (enc:α→PV) (z:PV) (m:IMap α):Body := .mp z m.has (fun n=>enc (m.get n))
theorem AdQ {α:Type} (m:IMap α) (n j:Int) (v:α):(m.set n v).get j=if j=n then v else m.get j:=rfl
end Go.Dm

namespace Go.Dm
section
variable {α σ R:Type}
theorem bind_open {x:Option α} {k:α→Option R} {r:R} (h:x.bind k=some r):∃ a,x=some a∧k a=some r:=by
 cases x with
 | none=>simp at h
 | some a=>exact ⟨a,rfl,h⟩
theorem Aph {p:Prop} [Decidable p] {x:Option R} {r:R} (h:(if p then x else none)=some r):p∧x=some r:=by
 by_cases hp:p
 ·rw [if_pos hp] at h; exact ⟨hp,h⟩
 ·rw [if_neg hp] at h; simp at h
theorem if_t {b:Bool} {x y:Option R} {r:R} (hb:b=true) (h:(if b=true then x else y)=some r):x=some r:=by
 rw [if_pos hb] at h; exact h
theorem if_f {b:Bool} {x y:Option R} {r:R} (hb:b=false) (h:(if b=true then x else y)=some r):y=some r:=by
 rw [if_neg (by simp [hb])] at h; exact h
def Fm : Nat:=1099511627776
def whileO (body:σ→(σ→Option R)→Option R):Nat→σ→Option R
 | 0,_=>none
 | m+1,s=>body s (whileO body m)
def forO (body:Int→σ→(σ→Option R)→Option R) (done:σ→Option R):Nat→Int→σ→Option R
 | 0,_,s=>done s
 | m+1,i,s=>body i s (forO body done m (i+1))
end
section
variable {P : Program} {T:Ty} {cx:Cx P} {β:Bi} {σ:St} {a:Act} {w:World} {Q:Exit→St→Prop}
def Conv (cx:Cx P) (σ τ:St):Prop:=∀ β a w,Rel cx β σ a w→∃ β',Rel cx β' τ a w
theorem Conv.refl : Conv cx σ σ:=fun β _ _ h=>⟨β,h⟩
theorem Conv.trans {τ υ:St} (h:Conv cx σ τ) (k:Conv cx τ υ):Conv cx σ υ:=fun β a w r=>by
 obtain ⟨β',r'⟩:=h β a w r
 exact k β' a w r'
theorem Conv.of_eq {τ:St} (h:σ=τ):Conv cx σ τ:=h▸Conv.refl
theorem Aqw {c:Code} {r:List Code} {τ:St} (h:Conv cx σ τ) (k:DW P cx (c::r) τ Q):DW P cx (c::r) σ Q:=fun β a w hr=>by
 obtain ⟨β',r'⟩:=h β a w hr
 exact k β' a w r'
theorem Conv.adopt (k W:Nat) (f:Nat→List PV) {sl sl':List (Nat×MV)} {ob ob':List (Nat×Obj)} (hk:Nat.ble 1000 k=true) (hn:assoc ob k=none) (hs:AdS k sl sl') (ho:AdO k ob ob') :
  Conv cx (Ae sl ob) (Ae sl' ((k,⟨0,.row W 0 f⟩)::ob')):=fun _ _ _ hr=>⟨_,hr.adopt (Nat.le_of_ble_eq_true hk) hn hs ho⟩
def Jw {ι:Type} (cx:Cx P) (J:ι→St) (m:ι→Prop) (Q:Exit→St→Prop):Exit→St→Prop
 | .normal,σ=>∃ i,m i∧Conv cx σ (J i)
 | e,σ=>Q e σ
theorem DWP.join {ι:Type} {c:Code} (J:ι→St) (m:ι→Prop) (hj:∀ i,m i→Q .normal (J i)) (h:DWP P cx c σ (Jw cx J m Q)):DWP P cx c σ Q:=by
 intro β a w hr
 refine wpIn_mono (h β a w hr) ?_
 rintro e a' w' ⟨β',σ',q,r⟩
 cases e with
 | normal =>
  obtain ⟨i,h1,h2⟩:=q
  obtain ⟨β'',r'⟩:=h2 β' a' w' r
  exact ⟨β'',_,hj i h1,r'⟩
 | _=>exact ⟨β',σ',q,r⟩
theorem DW.join {ι:Type} {c:Code} {r:List Code} (J:ι→St) (m:ι→Prop) (hj:∀ i,m i→DW P cx r (J i) Q) (h:DW P cx [c] σ (Jw cx J m (KQ P cx r Q))):DW P cx (c::r) σ Q :=
 DWP.join (Q:=KQ P cx r Q) J m hj h
theorem DW.whileO {S R:Type} {c:Code} {r:List Code} (I:S→St) {B:S→(S→Option R)→Option R} {n:Nat} {s0:S} {res:R} (hm:Dm.whileO B n s0=some res) (h0:Conv cx σ (I s0))
  (round:∀ s N,B s N=some res→DW P cx [c] (I s) (Jw cx I (fun s'=>N s'=some res) (KQ P cx r Q))):DW P cx (.loop c::r) σ Q:=by
 intro β a w hr
 obtain ⟨β',hr'⟩:=h0 β a w hr
 refine Qk (ι:=S×Nat) (fun i a w=>Dm.whileO B i.2 i.1=some res∧∃ β,Rel cx β (I i.1) a w) (fun i=>i.2) (s0,n) ⟨hm,β',hr'⟩ ?_
 rintro ⟨s,m⟩ a w ⟨hm,β,hr⟩
 cases m with
 | zero=>simp [Dm.whileO] at hm
 | succ m =>
  refine wpIn_mono (round s (Dm.whileO B m) hm β a w hr) ?_
  rintro e a' w' ⟨β',σ',q,r⟩
  cases e with
  | normal =>
   obtain ⟨s',h1,h2⟩:=q
   obtain ⟨β'',r'⟩:=h2 β' a' w' r
   exact ⟨(s',m),⟨h1,β'',r'⟩,Nat.lt_succ_self m⟩
  | _=>exact ⟨β',σ',q,r⟩
theorem Aqn {α S R:Type} {c:Code} {r:List Code} (I:Nat→S→St) {B:Nat→α→S→(S→Option R)→Option R} {D:S→Option R} {L:List α} (d:α) {s0:S} {res:R} (hm:Az B D L 0 s0=some res)
  (h0:Conv cx σ (I 0 s0))
  (round:∀ k s N,k≤L.length→(k<L.length→B k (L.getD k d) s N=some res)→(¬ k<L.length→D s=some res)→DW P cx [c] (I k s) (Jw cx (fun s=>I (k+1) s) (fun s'=>k<L.length∧N s'=some res) (KQ P cx r Q))) :
  DW P cx (.loop c::r) σ Q:=by
 intro β a w hr
 obtain ⟨β',hr'⟩:=h0 β a w hr
 refine Qk (ι:=Nat×S) (fun i a w=>i.1≤L.length∧Az B D (L.drop i.1) i.1 i.2=some res∧∃ β,Rel cx β (I i.1 i.2) a w) (fun i=>L.length-i.1) (0,s0) ⟨Nat.zero_le _,hm,β',hr'⟩ ?_
 rintro ⟨k,s⟩ a w ⟨hk,hm,β,hr⟩
 refine wpIn_mono (round k s (fun s'=>Az B D (L.drop (k+1)) (k+1) s') hk (fun hlt => ?_) (fun hge => ?_) β a w hr) ?_
 ·have hm':Az B D (L.drop k) k s=some res:=hm
  rw [List.drop_eq_getElem_cons hlt] at hm'
  have e:L.getD k d=L[k]:=by simp [hlt]
  rw [e]
  exact hm'
 ·have hm':Az B D (L.drop k) k s=some res:=hm
  rw [List.drop_eq_nil_of_le (by omega)] at hm'
  exact hm'
 ·rintro e a' w' ⟨β',σ',q,r⟩
  cases e with
  | normal =>
   obtain ⟨s',⟨h1,h2⟩,h3⟩:=q
   obtain ⟨β'',r'⟩:=h3 β' a' w' r
   exact ⟨(k+1,s'),⟨h1,h2,β'',r'⟩,by simp only; omega⟩
  | _=>exact ⟨β',σ',q,r⟩
theorem DW.forO {S R:Type} {c:Code} {r:List Code} (I:Int→S→St) {B:Int→S→(S→Option R)→Option R} {D:S→Option R} {lo hi:Int} {s0:S} {res:R} (hm:Dm.forO B D (hi-lo).toNat lo s0=some res)
  (h0:Conv cx σ (I lo s0))
  (round:∀ k s N,lo≤k→(k<hi→B k s N=some res)→(¬ k<hi→D s=some res)→DW P cx [c] (I k s) (Jw cx (fun s=>I (k+1) s) (fun s'=>k<hi∧N s'=some res) (KQ P cx r Q))) :
  DW P cx (.loop c::r) σ Q:=by
 intro β a w hr
 obtain ⟨β',hr'⟩:=h0 β a w hr
 refine Qk (ι:=Int×S) (fun i a w=>lo≤i.1∧Dm.forO B D (hi-i.1).toNat i.1 i.2=some res∧∃ β,Rel cx β (I i.1 i.2) a w) (fun i=>(hi-i.1).toNat) (lo,s0) ⟨Int.le_refl _,hm,β',hr'⟩ ?_
 rintro ⟨k,s⟩ a w ⟨hk,hm,β,hr⟩
 have hm':Dm.forO B D (hi-k).toNat k s=some res:=hm
 refine wpIn_mono (round k s (fun s'=>Dm.forO B D (hi-(k+1)).toNat (k+1) s') hk (fun hlt => ?_) (fun hge => ?_) β a w hr) ?_
 ·rw [show (hi-k).toNat=(hi-(k+1)).toNat+1 by omega] at hm'
  exact hm'
 ·rw [show (hi-k).toNat=0 by omega] at hm'
  exact hm'
 ·rintro e a' w' ⟨β',σ',q,r⟩
  cases e with
  | normal =>
   obtain ⟨s',⟨h1,h2⟩,h3⟩:=q
   obtain ⟨β'',r'⟩:=h3 β' a' w' r
   have hk':lo≤k:=hk
   exact ⟨(k+1,s'),⟨by simp only; omega,h2,β'',r'⟩,by simp only; omega⟩
  | _=>exact ⟨β',σ',q,r⟩
end
def frz1 (ob:Ar) (k:Nat):MV→MV
 | .own j g off len=>bif Nat.beq j k then (match Hf ob k g with
  | some (W,_,f) => .p (.sl .unk W len (shF off f))
  | none => .any) else .own j g off len
 | .mref j g=>bif Nat.beq j k then (match Km ob k g with
  | some (z,has,f) => .p (.mp z has f)
  | none => .any) else .mref j g
 | .ref j g off=>bif Nat.beq j k then (match Yn ob k g with
  | some cs=>match pures (cs.drop off) with
   | some ps => .p (.ptr ps)
   | none => .any
  | none => .any) else .ref j g off
 | .eref j g i off=>bif Nat.beq j k then .any else .eref j g i off
 | .p x => .p x
 | .fptr cs => .fptr cs
 | .und => .und
 | _ => .any
def mkFn (f:FuncId) (ds:List MV):MV:=match pures ds with
 | some ps=>bif Nat.blt f BND then .p (.fn f ps) else .fn f ds
 | none => .fn f ds
def frzN (ob:Ar) (k:Nat):Nat→MV→MV
 | 0,x=>frz1 ob k x
 | d+1,.agg cs => .agg (cs.map (frzN ob k d))
 | d+1,.tup cs => .tup (cs.map (frzN ob k d))
 | d+1,.fn f cs=>mkFn f (cs.map (frzN ob k d))
 | _+1,x=>frz1 ob k x
def AaY (ob:Ar) (k:Nat):Body→Body
 | .box cs => .box (cs.map (frzN ob k 1))
 | b=>b
def frzS (ob:Ar) (k:Nat):List (Nat×MV)→List (Nat×MV)
 | [] => []
 | (t,x)::r=>(t,frzN ob k 2 x)::frzS ob k r
def frzO (ob:Ar) (k:Nat):List (Nat×Obj)→List (Nat×Obj)
 | [] => []
 | (j,o)::r=>bif Nat.beq j k then frzO ob k r else (j,⟨o.gen,AaY ob k o.body⟩)::frzO ob k r
theorem frzB_same (ob:Ar) (k:Nat) (b:Body):b.same (AaY ob k b):=by cases b <;> simp [AaY,Body.same]
theorem AaR (ob:Ar) (k:Nat) (b:Body):(AaY ob k b).live↔b.live:=by cases b <;> simp [AaY,Body.live]
theorem frzS_get (ob:Ar) (k:Nat) (sl:List (Nat×MV)) (t:Nat):(assoc (frzS ob k sl) t).getD .any=frzN ob k 2 ((assoc sl t).getD .any):=by
 induction sl with
 | nil=>rfl
 | cons p r ih =>
  obtain ⟨j,x⟩:=p
  simp only [frzS,assoc]
  cases Nat.beq t j with
  | true=>rfl
  | false=>exact ih
theorem frzO_get (ob:Ar) (k:Nat) (l:List (Nat×Obj)) (j:Nat):(j=k∧assoc (frzO ob k l) j=none)∨(j≠k∧assoc (frzO ob k l) j=(assoc l j).map fun o=>⟨o.gen,AaY ob k o.body⟩):=by
 induction l with
 | nil=>by_cases h:j=k <;> simp [frzO,assoc,h]
 | cons p r ih =>
  obtain ⟨i,o⟩:=p
  simp only [frzO]
  cases hik:Nat.beq i k with
  | true =>
   have e:=Nat.eq_of_beq_eq_true hik
   subst e
   simp only [cond_true]
   rcases ih with ih|⟨h1,h2⟩
   ·exact .inl ih
   ·refine .inr ⟨h1,?_⟩
    simp only [assoc]
    rw [De h1]
    exact h2
  | false =>
   simp only [cond_false,assoc]
   have hne:i≠k:=fun e=>by rw [e,Ch] at hik; simp at hik
   cases hji:Nat.beq j i with
   | true =>
    have e:=Nat.eq_of_beq_eq_true hji
    subst e
    exact .inr ⟨hne,rfl⟩
   | false=>simpa using ih
section
variable {P : Program} {T:Ty} {cx:Cx P} {β:Bi} {σ:St} {a:Act} {w:World} {Q:Exit→St→Prop}
theorem RelV.mkFn {objs:Ar} {S:Nat→Prop} {v:Value} {f:FuncId} {ds:List MV} (h:RelV β objs S w v (.fn f ds)):RelV β objs S w v (mkFn f ds):=by
 unfold Go.Dm.mkFn
 split
 ·rename_i ps hp
  have hcs:=Fw hp
  cases hb:Nat.blt f BND with
  | false=>exact h
  | true =>
  cases h with
  | fn _ _ vs hl hr =>
   rw [Agq hb]
   refine .p _ _ (.fn _ _ _ (by rw [hl,hcs]; simp) (fun i x hx => ?_))
   exact (hr i (.p x) (by rw [hcs,List.getElem?_map,hx]; rfl)).inv_p
 ·exact h
theorem frz_sound {objs objs':Ar} {S S':Nat→Prop} {k:Nat} (hS:∀ b,S b→S' b)
  (hother:∀ j o,j≠k→objs j=some o→∃ o',objs' j=some o'∧o'.gen=o.gen∧o.body.same o'.body)
  (hrow:∀ g W n f off len base c,objs k=some ⟨g,.row W n f⟩→OwnAt (β k) (.row W n f) off len base c→Rep S' w (.slice base len c) (.sl .unk W len (shF off f)))
  (hmap:∀ g z has f b,objs k=some ⟨g,.mp z has f⟩→β k = .box b→Rep S' w (.map (some b)) (.mp z has f))
  (hbox:∀ g cs ps off b,objs k=some ⟨g,.box cs⟩→β k = .box b→pures (cs.drop off)=some ps→Rep S' w (.pointer (some (at_ b off))) (.ptr ps)) :
  ∀ (d:Nat) (v:Value) (x:MV),RelV β objs S w v x→RelV β objs' S' w v (frzN objs k d x):=by
 have known:∀ (j g:Nat) (F:Loc→Body→Prop),(∀ l b c,F l b→b.same c→F l c)→j≠k→Known β objs j g F→Known β objs' j g F:=by
  intro j g F hF hj hk
  obtain ⟨o,ho,hle,hf⟩:=hk
  obtain ⟨o',h1,h2,h3⟩:=hother j o hj ho
  exact ⟨o',h1,by omega,fun e=>hF _ _ _ (hf (by omega)) h3⟩
 have hne:∀ j,Nat.beq j k=false→j≠k:=fun j hb e=>by rw [e,Ch] at hb; simp at hb
 have one:∀ (v:Value) (x:MV),RelV β objs S w v x→RelV β objs' S' w v (frz1 objs k x):=by
  intro v x h
  cases h with
  | p _ _ h=>exact .p _ _ (h.mono hS (fun _ _=>rfl))
  | own j g off len base c h =>
   simp only [frz1]
   cases hb:Nat.beq j k with
   | false=>exact .own _ _ _ _ _ _ (known j g _ (fun _ _ _ h hs=>OwnAt.same h hs) (hne j hb) h)
   | true =>
    have e:=Nat.eq_of_beq_eq_true hb
    subst e
    simp only [cond_true]
    split
    ·rename_i W n f hg
     have ho:=Es hg
     obtain ⟨o,ho',hle,hf⟩:=h
     rw [ho] at ho'
     injection ho' with ho'
     subst ho'
     exact .p _ _ (hrow _ _ _ _ _ _ _ _ ho (hf rfl))
    ·exact .any _
  | ref j g off b h =>
   simp only [frz1]
   cases hb:Nat.beq j k with
   | true =>
    have e:=Nat.eq_of_beq_eq_true hb
    subst e
    simp only [cond_true]
    split
    ·rename_i cs hg
     split
     ·rename_i ps hp
      have ho:=Vn hg
      obtain ⟨o,ho',hle,hf⟩:=h
      rw [ho] at ho'
      injection ho' with ho'
      subst ho'
      exact .p _ _ (hbox _ _ _ _ _ ho (hf rfl) hp)
     ·exact .any _
    ·exact .any _
   | false=>exact .ref _ _ _ _ (known j g _ (fun _ _ _ h _=>h) (hne j hb) h)
  | eref j g i off b oo h =>
   simp only [frz1]
   cases hb:Nat.beq j k with
   | true=>exact .any _
   | false=>exact .eref _ _ _ _ _ _ (known j g _ (fun _ _ _ h hs=>ERefAt.same h hs) (hne j hb) h)
  | fptr cs b o hs c hc h1 hr=>exact .fptr _ _ _ (hS _ hs) c hc h1 (fun j x hx=>(hr j x hx).mono hS (fun _ _=>rfl))
  | mref j g b h =>
   simp only [frz1]
   cases hb:Nat.beq j k with
   | false=>exact .mref _ _ _ (known j g _ (fun _ _ _ h _=>h) (hne j hb) h)
   | true =>
    have e:=Nat.eq_of_beq_eq_true hb
    subst e
    simp only [cond_true]
    split
    ·rename_i z has f hg
     have ho:=Ra hg
     obtain ⟨o,ho',hle,hf⟩:=h
     rw [ho] at ho'
     injection ho' with ho'
     subst ho'
     exact .p _ _ (hmap _ _ _ _ _ ho (hf rfl))
    ·exact .any _
  | und=>exact .und
  | _=>exact .any _
 intro d
 induction d with
 | zero=>exact one
 | succ d ih =>
  intro v x h
  cases h with
  | agg cs vs hl hr h1 =>
   refine .agg _ _ (by simpa using hl) (fun i y hy => ?_) (fun i y hy => ?_)
   ·rw [List.getElem?_map] at hy
    cases hq:cs[i]? with
    | none=>simp [hq] at hy
    | some q=>simp [hq] at hy; subst hy; exact ih _ _ (hr i q hq)
   ·rw [List.getElem?_map] at hy
    cases hq:cs[i]? with
    | none=>simp [hq] at hy
    | some q=>exact h1 i q hq
  | tup cs vs hl hr =>
   refine .tup _ _ (by simpa using hl) (fun i y hy => ?_)
   rw [List.getElem?_map] at hy
   cases hq:cs[i]? with
   | none=>simp [hq] at hy
   | some q=>simp [hq] at hy; subst hy; exact ih _ _ (hr i q hq)
  | fn f cs vs hl hr =>
   refine RelV.mkFn (.fn _ _ _ (by simpa using hl) (fun i y hy => ?_))
   rw [List.getElem?_map] at hy
   cases hq:cs[i]? with
   | none=>simp [hq] at hy
   | some q=>simp [hq] at hy; subst hy; exact ih _ _ (hr i q hq)
  | p _ _ h=>exact one _ _ (.p _ _ h)
  | own i g off len base c h=>exact one _ _ (.own _ _ _ _ _ _ h)
  | ref i g off b h=>exact one _ _ (.ref _ _ _ _ h)
  | eref i g ix off b oo h=>exact one _ _ (.eref _ _ _ _ _ _ h)
  | fptr cs b o hs c hc h1 hr=>exact one _ _ (.fptr _ _ _ hs c hc h1 hr)
  | mref i g b h=>exact one _ _ (.mref _ _ _ h)
  | und=>exact one _ _ .und
  | any v=>exact one _ _ (.any v)
theorem ApY (k:Nat) {sl':Nat→MV} {ob':Ar} (hsl:∀ t,sl' t=frzN σ.objs k 2 (σ.slots t)) (hF:∀ j,(j=k∧ob' j=none)∨(j≠k∧ob' j=(σ.objs j).map fun o=>⟨o.gen,AaY σ.objs k o.body⟩))
  (h:Rel cx β σ a w):Rel cx β ⟨sl',ob'⟩ a w:=by
 have hob:∀ j o',ob' j=some o'→j≠k∧∃ o,σ.objs j=some o∧o'=⟨o.gen,AaY σ.objs k o.body⟩:=by
  intro j o' hj
  rcases hF j with ⟨_,h2⟩|⟨h1,h2⟩
  ·rw [h2] at hj; simp at hj
  ·rw [h2] at hj
   cases hq:σ.objs j with
   | none=>simp [hq] at hj
   | some o=>simp [hq] at hj; exact ⟨h1,o,rfl,hj.symm⟩
 have hother:∀ j o,j≠k→σ.objs j=some o→∃ o',ob' j=some o'∧o'.gen=o.gen∧o.body.same o'.body:=by
  intro j o hj ho
  rcases hF j with ⟨h1,_⟩|⟨_,h2⟩
  ·exact absurd h1 hj
  ·exact ⟨⟨o.gen,AaY σ.objs k o.body⟩,by rw [h2,ho]; rfl,rfl,frzB_same _ _ _⟩
 have hS:∀ b,Al cx.Av β σ.objs w b→Al cx.Av β (ob') w b:=by
  intro b hb
  refine ⟨hb.1,hb.2.1,fun j o' hj hlive => ?_⟩
  obtain ⟨_,o,q1,rfl⟩:=hob j o' hj
  exact hb.2.2 j o q1 ((AaR _ _ _).1 hlive)
 have hSk:∀ o b,σ.objs k=some o→o.body.live→(β k).block=some b→Al cx.Av β (ob') w b:=by
  intro o b ho hl hb
  have hblk:=h.blk k o b ho hl hb
  refine ⟨hblk.1,hblk.2.1,fun j o' hj hlive => ?_⟩
  obtain ⟨hjk,q,q1,rfl⟩:=hob j o' hj
  exact h.inj k j o q b ho q1 hl ((AaR _ _ _).1 hlive) (Ne.symm hjk) hb
 have hrow:∀ g W n f off len base c,σ.objs k=some ⟨g,.row W n f⟩→OwnAt (β k) (.row W n f) off len base c→Rep (Al cx.Av β (ob') w) w (.slice base len c) (.sl .unk W len (shF off f)):=by
  intro g W n f off len base c ho1 hown
  obtain ⟨hle,hl⟩:=hown
  rcases h.ob k _ ho1 with ⟨hl',hn0⟩|⟨b,o,cap,cur,e',hl',hheap,hcap,hnn,hrow⟩
  ·rw [hl'] at hl
   obtain ⟨hbase,rfl,rfl,rfl⟩:=hl
   rcases hbase with rfl|⟨bb,oo,rfl⟩
   ·exact .slnil _ _ _ (by simp)
   ·exact .sl _ _ _ _ _ _ _ (fun _ _=>undef) (by simp) (Nat.le_refl _) (fun e=>by simp at e) (fun i hi=>by omega) (fun i j hi=>by omega) (fun i j hi=>by omega) (fun i j x hi=>by omega)
  ·rw [hl'] at hl
   obtain ⟨b',o',rfl,hcc,hadr⟩:=hl
   by_cases hlen0:len=0
   ·subst hlen0
    exact .sl _ _ _ _ _ _ _ (fun _ _=>undef) (by simp) (Nat.zero_le _) (fun e=>by simp at e) (fun i hi=>by omega) (fun i j hi=>by omega) (fun i j hi=>by omega) (fun i j x hi=>by omega)
   ·obtain ⟨rfl,rfl⟩:=hadr (by omega)
    have hSb:=hSk _ b' ho1 trivial (by rw [hl']; rfl)
    have hcell:∀ j,w.cell? (at_ b' j)=cur[j]? := fun j=>cell_of_row w b' j cur e' (0,0) hheap
    have hgetc:∀ i j,i<len→j<W→∃ u,cur[o+off*W+(i*W+j)]? = some u∧u.oneCell'=true:=by
     intro i j hi hj
     obtain ⟨q1,q2⟩:=hrow (off+i) (by omega)
     obtain ⟨u,u1,u2,_⟩:=q2 j (f (off+i))[j] (List.getElem?_eq_getElem (by omega))
     exact ⟨u,by rw [← u1]; congr 1; rw [Nat.add_mul]; omega,u2⟩
    refine .sl _ _ _ _ _ _ _ (fun i j=>cur.getD (o+off*W+(i*W+j)) undef) (by simp) (by omega) (fun _=>hSb) (fun i hi => ?_) (fun i j hi hj => ?_) (fun i j hi hj => ?_) (fun i j x hi hx => ?_)
    ·rw [Yb]; exact (hrow (off+i) (by omega)).1
    ·obtain ⟨u,u1,_⟩:=hgetc i j hi hj
     rw [hcell,Array.getD_eq_getD_getElem?,u1]
     rfl
    ·obtain ⟨u,u1,u2⟩:=hgetc i j hi hj
     rw [Array.getD_eq_getD_getElem?,u1]
     exact u2
    ·rw [Yb] at hx
     obtain ⟨u,u1,u2,u3⟩:=(hrow (off+i) (by omega)).2 j x hx
     have e2:o+(off+i)*W+j=o+off*W+(i*W+j):=by rw [Nat.add_mul]; omega
     rw [← e2,Array.getD_eq_getD_getElem?,u1]
     exact u3.mono hS (fun _ _=>rfl)
 have hmap:∀ g z has f b,σ.objs k=some ⟨g,.mp z has f⟩→β k = .box b→Rep (Al cx.Av β (ob') w) w (.map (some b)) (.mp z has f):=by
  intro g z has f b ho1 hl
  obtain ⟨b1,es,clock,hl1,hh,hm,hz,hr⟩:=h.ob k _ ho1
  rw [hl] at hl1
  injection hl1 with hl1
  subst hl1
  exact .mp _ _ _ _ _ _ (hSk _ b ho1 trivial (by rw [hl]; rfl)) hh hm hz (fun i e n he hn=>(hr i e n he hn).mono hS (fun _ _=>rfl))
 have hbox:∀ g cs ps off b,σ.objs k=some ⟨g,.box cs⟩→β k = .box b→pures (cs.drop off)=some ps→Rep (Al cx.Av β ob' w) w (.pointer (some (at_ b off))) (.ptr ps):=by
  intro g cs ps off b ho1 hl hp
  obtain ⟨b1,cur,e,hl1,hh,hsz,hr⟩:=h.ob k _ ho1
  rw [hl] at hl1
  injection hl1 with hl1
  subst hl1
  have hcs:=Fw hp
  have hcell:∀ j x,ps[j]? = some x→∃ u,cur[off+j]? = some u∧u.oneCell'=true∧Rep (Al cx.Av β σ.objs w) w u x:=by
   intro j x hx
   have h1:cs[off+j]? = some (.p x):=by
    have:=congrArg (fun l=>l[j]?) hcs
    simp only [List.getElem?_drop,List.getElem?_map,hx,Option.map_some] at this
    exact this
   obtain ⟨u,u1,u2,u3⟩:=hr (off+j) _ h1
   exact ⟨u,u1,u2,u3.inv_p⟩
  have hc2:∀ j,w.cell? (at_ b j)=cur[j]? := fun j=>cell_of_row w b j cur e (0,0) hh
  refine .ptr ps b off (hSk _ b ho1 trivial (by rw [hl]; rfl)) (fun j=>cur.getD (off+j) undef) (fun j hj => ?_) (fun j hj => ?_) (fun j x hx => ?_)
  ·obtain ⟨u,u1,_⟩:=hcell j ps[j] (List.getElem?_eq_getElem hj)
   rw [hc2,u1,Array.getD_eq_getD_getElem?,u1]
   rfl
  ·obtain ⟨u,u1,u2,_⟩:=hcell j ps[j] (List.getElem?_eq_getElem hj)
   rw [Array.getD_eq_getD_getElem?,u1]
   exact u2
  ·obtain ⟨u,u1,_,u3⟩:=hcell j x hx
   rw [Array.getD_eq_getD_getElem?,u1]
   exact u3.mono hS (fun _ _=>rfl)
 have snd:=frz_sound (β:=β) (w:=w) (objs:=σ.objs) (objs':=ob') (k:=k) hS hother hrow hmap hbox
 refine ⟨h.nd,h.sz,fun t => ?_,fun j o' ho => ?_,fun j o' b ho hl hb => ?_,fun j j' o o' b ho ho' hl hl' hne hb => ?_,h.kept,h.avo,h.avlt,h.mle,fun j o' hj ho hg => ?_⟩
 ·show RelV β ob' _ w _ (sl' t)
  rw [hsl t]
  exact snd 2 _ _ (h.sl t)
 ·obtain ⟨hjk,o,h1,rfl⟩:=hob j o' ho
  have:=h.ob j o h1
  cases hbd:o.body with
  | dead=>trivial
  | mq q=>rw [hbd] at this; exact QRel.mono hS (fun _ _=>rfl) (fun _ _=>rfl) this
  | row W n f =>
   rw [hbd] at this
   rcases this with q|⟨b,oo,cap,cur,e,rfl',q1,q2,q3,q4⟩
   ·exact .inl q
   ·exact .inr ⟨b,oo,cap,cur,e,rfl',q1,q2,q3,fun i hi=>⟨(q4 i hi).1,(q4 i hi).2.mono hS (fun _ _=>rfl)⟩⟩
  | mp z has f =>
   rw [hbd] at this
   obtain ⟨b,es,clock,q0,q1,q2,q3,q4⟩:=this
   exact ⟨b,es,clock,q0,q1,q2,q3,fun i e n he hn=>(q4 i e n he hn).mono hS (fun _ _=>rfl)⟩
  | box cs =>
   rw [hbd] at this
   obtain ⟨b,cur,e,q0,q1,q2,q3⟩:=this
   refine ⟨b,cur,e,q0,q1,by simpa [AaY] using q2,fun i x hx => ?_⟩
   rw [List.getElem?_map] at hx
   cases hq:cs[i]? with
   | none=>simp [hq] at hx
   | some q =>
    simp [hq] at hx
    subst hx
    obtain ⟨u,u1,u2,u3⟩:=q3 i q hq
    exact ⟨u,u1,u2,snd 1 _ _ u3⟩
 ·obtain ⟨_,o,h1,rfl⟩:=hob j o' ho
  exact h.blk j o b h1 ((AaR _ _ _).1 hl) hb
 ·obtain ⟨_,q,h1,rfl⟩:=hob j o ho
  obtain ⟨_,r,g1,rfl⟩:=hob j' o' ho'
  exact h.inj j j' q r b h1 g1 ((AaR _ _ _).1 hl) ((AaR _ _ _).1 hl') hne hb
 ·obtain ⟨_,o,h1,rfl⟩:=hob j o' ho
  exact h.oloc j o hj h1 hg
theorem Rel.freeze (k:Nat) {sl:List (Nat×MV)} {ob:List (Nat×Obj)} (h:Rel cx β (Ae sl ob) a w):Rel cx β (Ae (frzS (assoc ob) k sl) (frzO (assoc ob) k ob)) a w :=
 ApY k (fun t=>frzS_get _ _ _ _) (fun j=>frzO_get _ _ _ _) h
theorem Conv.freeze (k:Nat) {sl:List (Nat×MV)} {ob:List (Nat×Obj)} : Conv cx (Ae sl ob) (Ae (frzS (assoc ob) k sl) (frzO (assoc ob) k ob)):=fun _ _ _ hr=>⟨_,hr.freeze k⟩
def Akf : List Nat→List (Nat×MV)×List (Nat×Obj)→List (Nat×MV)×List (Nat×Obj)
 | [],s=>s
 | k::r,(sl,ob)=>Akf r (frzS (assoc ob) k sl,frzO (assoc ob) k ob)
theorem ApS (ks:List Nat):∀ {sl sl':List (Nat×MV)} {ob ob':List (Nat×Obj)},Akf ks (sl,ob)=(sl',ob')→Conv cx (Ae sl ob) (Ae sl' ob'):=by
 induction ks with
 | nil =>
  intro sl sl' ob ob' h
  simp only [Akf,Prod.mk.injEq] at h
  obtain ⟨rfl,rfl⟩:=h
  exact .refl
 | cons k r ih =>
  intro sl sl' ob ob' h
  exact (Conv.freeze k).trans (ih h)
end
end Go.Dm

namespace Go.Dm
abbrev w64 (n:Int):Int:=IntKind.i64.wrap n
def kand (k:IntKind) (a b:Int):Int:=k.wrap ((BitVec.ofInt k.bits a &&& BitVec.ofInt k.bits b).toNat)
def kor (k:IntKind) (a b:Int):Int:=k.wrap ((BitVec.ofInt k.bits a ||| BitVec.ofInt k.bits b).toNat)
def kxor (k:IntKind) (a b:Int):Int:=k.wrap ((BitVec.ofInt k.bits a ^^^ BitVec.ofInt k.bits b).toNat)
def He (k:IntKind) (a b:Int):Int:=k.wrap ((BitVec.ofInt k.bits a &&& ~~~(BitVec.ofInt k.bits b)).toNat)
def kshl (k:IntKind) (a b:Int):Int:=k.wrap (a*2 ^ (min b.toNat k.bits))
def kshr (k:IntKind) (a b:Int):Int:=a.fdiv (2 ^ (min b.toNat k.bits))
def Wt (a b:Int):Int:=if b<a then b else a
def maxI (a b:Int):Int:=if a<b then b else a
def Cp (a b:ByteArray):Bool:=a.toList==b.toList
theorem w64_succ {k n:Nat} (h:k<n) (hn:n≤9223372036854775807):IntKind.i64.wrap ((k:Int)+1)=((k+1:Nat):Int):=by
 rw [Adl (by omega) (by omega)]
 omega
theorem Og {i hi:Int} {lo:Int} (hlo : -9223372036854775808≤lo) (h0:lo≤i) (h:i<hi) (hh:hi≤9223372036854775807):IntKind.i64.wrap (i+1)=i+1 :=
 Adl (by omega) (by omega)
section
variable {α : Type} {W:Nat} {enc:α→List PV} {d:α}
structure RowIs (enc:α→List PV) (d:α) (n:Nat) (f:Nat→List PV) (L:List α):Prop where
 len:n=L.length
 get:∀ i,i<n→f i=enc (L.getD i d)
theorem RowIs.elems {L:List α} : RowIs enc d L.length (elems enc d L) L:=⟨rfl,fun _ _=>rfl⟩
theorem Aqs {n m:Nat} {f g:Nat→List PV} {L M:List α} (h:RowIs enc d n f L) (k:RowIs enc d m g M):RowIs enc d (n+m) (Rg n f g) (L++M):=by
 refine ⟨by simp [h.len,k.len],fun i hi => ?_⟩
 have e1:=h.len
 by_cases hlt:i<n
 ·have hb:Nat.blt i n=true:=Nat.ble_eq_true_of_le hlt
  simp only [Rg,hb,cond_true]
  rw [h.get i hlt]
  simp [List.getD_eq_getElem?_getD,List.getElem?_append_left (show i<L.length by omega)]
 ·have hb:Nat.blt i n=false:=by
   cases hb:Nat.blt i n with
   | false=>rfl
   | true=>exact absurd (Nat.le_of_ble_eq_true hb) hlt
  simp only [Rg,hb,cond_false]
  rw [k.get (i-n) (by omega)]
  simp [List.getD_eq_getElem?_getD,List.getElem?_append_right (show L.length≤i by omega),e1]
theorem RowIs.upd {n i:Nat} {f:Nat→List PV} {L:List α} {c:List PV} (h:RowIs enc d n f L) (x:α) (hc:c=enc x):RowIs enc d n (Cd f i c) (L.set i x):=by
 subst hc
 have e1:=h.len
 refine ⟨by simp [h.len],fun j hj => ?_⟩
 by_cases hji:j=i
 ·subst hji
  simp [Cd,Ch,List.getD_eq_getElem?_getD,show j<L.length by omega]
 ·simp only [Cd,De hji,cond_false]
  rw [h.get j hj]
  simp [List.getD_eq_getElem?_getD,List.getElem?_set_ne (Ne.symm hji)]
theorem RowIs.take {n len:Nat} {f:Nat→List PV} {L:List α} (h:RowIs enc d n f L) (hle:len≤n):RowIs enc d len f (L.take len):=by
 have e1:=h.len
 refine ⟨by simp; omega,fun i hi => ?_⟩
 rw [h.get i (by omega)]
 simp [List.getD_eq_getElem?_getD,List.getElem?_take,hi]
theorem RowIs.nil {f:Nat→List PV} : RowIs enc d 0 f []:=⟨rfl,fun i hi=>absurd hi (Nat.not_lt_zero i)⟩
theorem RowIs.lit {n:Nat} {f:Nat→List PV} (L:List α) (hn:n=L.length) (h:∀ i,i<n→f i=enc (L.getD i d)):RowIs enc d n f L:=⟨hn,h⟩
def Hj (L:List α) (a n:Nat) (x:α):List α:=L.take a++(List.replicate n x++L.drop (a+n))
def AhW (L:List α) (a n:Nat) (M:List α):List α:=L.take a++(M.take n++L.drop (a+n))
theorem inR_true {a b j:Nat} (h1:a≤j) (h2:j<b):inR a b j=true:=by
 simp [inR,Nat.ble_eq_true_of_le h1,Nat.blt,Nat.ble_eq_true_of_le h2]
theorem inR_false {a b j:Nat} (h:¬ (a≤j∧j<b)):inR a b j=false:=by
 cases hb:inR a b j with
 | false=>rfl
 | true =>
  simp only [inR,Bool.and_eq_true] at hb
  exact absurd ⟨Nat.le_of_ble_eq_true hb.1,Nat.le_of_ble_eq_true hb.2⟩ h
theorem RowIs.over {n a m:Nat} {f g:Nat→List PV} {L M:List α} {q:Nat} (h:RowIs enc d n f L) (k:RowIs enc d q g M) (hm:m≤q) (hle:a+m≤n):RowIs enc d n (Ns f a m g) (AhW L a m M):=by
 have e1:=h.len
 have e2:=k.len
 refine ⟨by simp [AhW]; omega,fun i hi => ?_⟩
 by_cases hin:a≤i∧i<a+m
 ·simp only [Ns,inR_true hin.1 hin.2,cond_true]
  rw [k.get (i-a) (by omega)]
  unfold AhW
  simp only [List.getD_eq_getElem?_getD]
  rw [List.getElem?_append_right (by simp; omega),List.getElem?_append_left (by simp; omega),List.getElem?_take]
  simp [show min a L.length=a by omega,show i-a<m by omega]
 ·simp only [Ns,inR_false hin,cond_false]
  rw [h.get i hi]
  unfold AhW
  simp only [List.getD_eq_getElem?_getD]
  by_cases hlt:i<a
  ·rw [List.getElem?_append_left (by simp; omega),List.getElem?_take]
   simp [hlt]
  ·rw [List.getElem?_append_right (by simp; omega),List.getElem?_append_right (by simp; omega),List.getElem?_drop]
   congr 2
   simp
   congr 1
   omega
theorem RowIs.fill {n a m:Nat} {f:Nat→List PV} {L:List α} {zs:List PV} (h:RowIs enc d n f L) (x:α) (hz:zs=enc x) (hle:a+m≤n):RowIs enc d n (Ns f a m (fun _=>zs)) (Hj L a m x):=by
 subst hz
 have k:RowIs enc d m (fun _=>enc x) (List.replicate m x):=⟨by simp,fun i hi=>by simp [List.getD_eq_getElem?_getD,hi]⟩
 have:=h.over k (Nat.le_refl m) hle
 refine ⟨?_,?_⟩
 ·have:=this.len
  simp [AhW,Hj] at this ⊢
  omega
 ·intro i hi
  rw [this.get i hi]
  simp [AhW,Hj]
theorem BLe.typed {n:Nat} {f:Nat→List PV} {L:List α} (h:RowIs enc d n f L):BLe (.row W n f) (Ads W enc d L) := .row h.len h.get
theorem PLe.typed {fl:Fl} {n:Nat} {f:Nat→List PV} {L:List α} (h:RowIs enc d n f L):PLe (.sl fl W n f) (Gy W enc d L) := .sl (.inl (Eq.refl _)) h.len h.get
theorem MLe.typed {fl:Fl} {n:Nat} {f:Nat→List PV} {L:List α} (h:RowIs enc d n f L):MLe (.p (.sl fl W n f)) (.p (Gy W enc d L)) := .p (PLe.typed h)
theorem Aqt {W':Nat} {fl:Fl} {f:Nat→List PV} : PLe (.sl fl W' 0 f) (Gy W enc d ([]:List α)) := .empty (.inl (Eq.refl _))
theorem Aqj {k g off n:Nat} {L:List α} {f:Nat→List PV} (h:RowIs enc d n f L):MLe (.own k g off n) (.own k g off L.length) := .of_eq (by rw [h.len])
end
section
variable {P : Program} {T:Ty} {cx:Cx P} {σ:St} {Q:Exit→St→Prop}
end
end Go.Dm
