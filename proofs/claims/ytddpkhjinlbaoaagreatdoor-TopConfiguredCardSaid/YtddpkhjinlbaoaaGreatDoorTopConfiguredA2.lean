/- Texts of the proof of TopConfigured: the data machine, the models of the Go functions, their contracts. -/
import Derived.Test.YtddpkhjinlbaoaaGreatDoorTopConfiguredA1
import Derived.WalkKit
import Derived.ProofKit
import Derived.OpenShut
import Derived.ReadAgain
import Derived.Maps.RangeRun
import Derived.RangeFuncSeq
import Derived.Lib.ItoaNum
import Derived.Lib.Join
import Derived.Lib.Strings
import Derived.Lib.Bytealg
import Derived.Lib.IndexMore
import Derived.Lib.Split
import Derived.KernelRfl
set_option linter.unusedVariables false
set_option linter.unusedSimpArgs false
namespace Go.Dm
abbrev vk (k:IntKind) (n:Int):PV := .v (.int k n)
def encK (k:IntKind) (n:Int):List PV := [vk k n]
def bs (l:List UInt8):ByteArray:=ByteArray.mk l.toArray
def Dt (s:ByteArray):List Int:=(List.range s.size).map fun i=>((Br s i:Nat):Int)
theorem Kc (s:ByteArray):(Dt s).length=s.size:=by simp [Dt]
theorem RowIs.bytes {s:ByteArray} : RowIs (encK .u8) 0 s.size (AgU s) (Dt s):=by
 refine ⟨(Kc s).symm,fun i hi => ?_⟩
 simp [AgU,encK,Dt,List.getD_eq_getElem?_getD,hi]
theorem Aqq {α:Type} {enc:α→List PV} {d:α} {n:Nat} {f:Nat→List PV} {L:List α} (h:RowIs enc d n f L):n=L.length∧∀ i,i<n→f i=(Dm.elems enc d L) i:=⟨h.len,h.get⟩
theorem Aqf {α:Type} {enc:α→List PV} {d:α} {n j off:Nat} {f:Nat→List PV} {L:List α} {ps:List PV} (h:RowIs enc d n f L) (hj:j<n) (x:α) (hc:setRange (enc (L.getD j d)) off ps=enc x) :
  RowIs enc d n (Cd f j (setRange (f j) off ps)) (L.set j x):=by
 have e:=h.get j hj
 rw [e]
 exact h.upd x hc
section
variable {P : Program} {T:Ty} {cx:Cx P} {σ:St} {Q:Exit→St→Prop}
theorem AeT {ι:Type} {J:ι→St} {m:ι→Prop} (i:ι) (h1:m i) (h2:Conv cx σ (J i)):DW P cx [] σ (Jw cx J m Q):=⟨i,h1,h2⟩
theorem joinKQ {ι:Type} {J:ι→St} {m:ι→Prop} (i:ι) (h1:m i) (h2:Conv cx σ (J i)):KQ P cx [] (Jw cx J m Q) .normal σ:=⟨i,h1,h2⟩
theorem blockDone {ι:Type} {J:ι→St} {m:ι→Prop} {id:Nat} (i:ι) (h1:m i) (h2:Conv cx σ (J i)):DW P cx [] σ (Ng id (KQ P cx [] (Jw cx J m Q))):=⟨i,h1,h2⟩
theorem Xn {ι:Type} {J:ι→St} {m:ι→Prop} {id:Nat} (h:Q (.exit id) σ):Jw cx J m Q (.exit id) σ:=h
end
abbrev slI (L:List Int):PV:=Gy 1 Cg 0 L
abbrev roI (L:List Int):Body:=Ads 1 Cg 0 L
abbrev elI (L:List Int):Nat→List PV:=elems Cg 0 L
abbrev slS (L:List ByteArray):PV:=Gy 1 Xw ByteArray.empty L
abbrev roS (L:List ByteArray):Body:=Ads 1 Xw ByteArray.empty L
abbrev pm (l:List PV):List MV:=l.map .p
abbrev bx (cs:List MV):Obj:=⟨0,.box cs⟩
abbrev ob0 (b:Body):Obj:=⟨0,b⟩
abbrev pI (n:Int):MV := .p (vi n)
abbrev pB (b:Bool):MV := .p (vb b)
abbrev pS (s:ByteArray):MV := .p (vs s)
abbrev ow (k n:Nat):MV := .own k 0 0 n
abbrev rr (k:Nat):MV := .ref k 0 0
abbrev pT : Orc := .pk true
abbrev pF : Orc := .pk false
def sk : Nat→List Orc→List Orc
 | 0,l=>l
 | n+1,l => .skip::sk n l
theorem tt : true=true:=rfl
theorem ff : false=false:=rfl
abbrev an2 {p q:Prop} (h:p) (k:q):p∧p∧q:=⟨h,h,k⟩
abbrev an3 {p q:Prop} (h:p) (k:q):p∧p∧p∧q:=⟨h,h,h,k⟩
abbrev an4 {p q:Prop} (h:p) (k:q):p∧p∧p∧p∧q:=⟨h,h,h,h,k⟩
abbrev an5 {p q:Prop} (h:p) (k:q):p∧p∧p∧p∧p∧q:=⟨h,h,h,h,h,k⟩
abbrev an6 {p q:Prop} (h:p) (k:q):p∧p∧p∧p∧p∧p∧q:=⟨h,h,h,h,h,h,k⟩
abbrev an {p q:Prop} (h:p) (k:q):p∧q:=⟨h,k⟩
theorem nn0 (k:Nat):(0:Int)≤((k:Nat):Int):=Int.natCast_nonneg k
theorem ltc {k n:Nat} (h:k<n):((k:Nat):Int)<((n:Nat):Int):=Int.ofNat_lt.2 h
def nn : Nat→List Orc→List Orc
 | 0,l=>l
 | n+1,l => .no::nn n l
def Ho (ps:List (Nat×MV)):List (Nat×MV)→List (Nat×MV)
 | [] => []
 | (t,x)::r=>(t,(assoc ps t).getD x)::Ho ps r
def Io (qs:List (Nat×Body)):List (Nat×Obj)→List (Nat×Obj)
 | [] => []
 | (k,o)::r=>(k,⟨o.gen,(assoc qs k).getD o.body⟩)::Io qs r
inductive SP (sl:List (Nat×MV)):List (Nat×MV)→Prop where
 | nil:SP sl []
 | cons {t:Nat} {x y:MV} {ps:List (Nat×MV)} (e:assoc sl t=some y) (h:MLe x y) (r:SP sl ps):SP sl ((t,x)::ps)
inductive OP (ob:List (Nat×Obj)):List (Nat×Body)→Prop where
 | nil:OP ob []
 | cons {t g:Nat} {x y:Body} {ps:List (Nat×Body)} (e:assoc ob t=some ⟨g,y⟩) (h:BLe x y) (r:OP ob ps):OP ob ((t,x)::ps)
theorem Apx (ps sl:List (Nat×MV)) (t:Nat):assoc (Ho ps sl) t=(assoc sl t).map fun x=>(assoc ps t).getD x:=by
 induction sl with
 | nil=>rfl
 | cons p r ih =>
  obtain ⟨k,x⟩:=p
  simp only [Ho,assoc]
  cases hb:Nat.beq t k with
  | true=>have:=Nat.eq_of_beq_eq_true hb; subst this; rfl
  | false=>exact ih
theorem Apu (qs:List (Nat×Body)) (ob:List (Nat×Obj)) (t:Nat):assoc (Io qs ob) t=(assoc ob t).map fun o=>⟨o.gen,(assoc qs t).getD o.body⟩:=by
 induction ob with
 | nil=>rfl
 | cons p r ih =>
  obtain ⟨k,x⟩:=p
  simp only [Io,assoc]
  cases hb:Nat.beq t k with
  | true=>have:=Nat.eq_of_beq_eq_true hb; subst this; rfl
  | false=>exact ih
theorem SP.get {sl ps:List (Nat×MV)} (h:SP sl ps) {t:Nat} {x:MV} (hx:assoc ps t=some x):∃ y,assoc sl t=some y∧MLe x y:=by
 induction h with
 | nil=>simp [assoc] at hx
 | @cons k x' y ps e h r ih =>
  simp only [assoc] at hx
  cases hb:Nat.beq t k with
  | true =>
   have:=Nat.eq_of_beq_eq_true hb
   subst this
   simp only [hb,cond_true,Option.some.injEq] at hx
   subst hx
   exact ⟨y,e,h⟩
  | false =>
   simp only [hb,cond_false] at hx
   exact ih hx
theorem OP.get {ob:List (Nat×Obj)} {ps:List (Nat×Body)} (h:OP ob ps) {t:Nat} {x:Body} (hx:assoc ps t=some x):∃ g y,assoc ob t=some ⟨g,y⟩∧BLe x y:=by
 induction h with
 | nil=>simp [assoc] at hx
 | @cons k g x' y ps e h r ih =>
  simp only [assoc] at hx
  cases hb:Nat.beq t k with
  | true =>
   have:=Nat.eq_of_beq_eq_true hb
   subst this
   simp only [hb,cond_true,Option.some.injEq] at hx
   subst hx
   exact ⟨g,y,e,h⟩
  | false =>
   simp only [hb,cond_false] at hx
   exact ih hx
theorem SP.le {sl ps:List (Nat×MV)} (h:SP sl ps) (t:Nat):MLe ((assoc (Ho ps sl) t).getD .any) ((assoc sl t).getD .any):=by
 rw [Apx]
 cases hs:assoc sl t with
 | none=>exact .rfl
 | some y =>
  cases hp:assoc ps t with
  | none=>exact .rfl
  | some x =>
   obtain ⟨z,hz,hle⟩:=h.get hp
   rw [hs] at hz
   injection hz with hz
   subst hz
   exact hle
theorem OP.le {ob:List (Nat×Obj)} {ps:List (Nat×Body)} (h:OP ob ps) (t:Nat):(assoc (Io ps ob) t=none∧assoc ob t=none)∨∃ g b c,assoc (Io ps ob) t=some ⟨g,b⟩∧assoc ob t=some ⟨g,c⟩∧BLe b c:=by
 rw [Apu]
 cases hs:assoc ob t with
 | none=>exact .inl ⟨rfl,rfl⟩
 | some o =>
  right
  cases hp:assoc ps t with
  | none=>exact ⟨o.gen,o.body,o.body,rfl,rfl,.rfl⟩
  | some x =>
   obtain ⟨g,z,hz,hle⟩:=h.get hp
   rw [hs] at hz
   injection hz with hz
   subst hz
   exact ⟨g,x,z,rfl,rfl,hle⟩
section
variable {P : Program} {T:Ty} {cx:Cx P} {σ:St} {Q:Exit→St→Prop}
theorem Aqx {sl:List (Nat×MV)} {ob:List (Nat×Obj)} (ps:List (Nat×MV)) (qs:List (Nat×Body)) (h:(Ki (Ce sl) (Ce ob) σ,Gz (Ce ob) σ)=(Ho ps sl,Io qs ob)) (hs:SP sl ps) (ho:OP ob qs) :
  Conv cx σ (Ae sl ob):=fun β a w r=>by
 have h1:=congrArg Prod.fst h
 have h2:=congrArg Prod.snd h
 simp only at h1 h2
 have:=r.norm (Ce sl) (Ce ob)
 rw [h1,h2] at this
 exact ⟨β,this.leF hs.le ho.le⟩
def AhM (P:Program) (T:Ty) (nt:Nat) (ops:Array Oper) (xs:List Orc) (ls lk:List Nat) (draw:Bool) (σ:St):Option ((List (Nat×MV)×List (Nat×Obj))×Prop) :=
 match dreg P T nt ops xs ls lk draw σ with
 | some (sl,ob,obl)=>some ((sl,ob),All obl)
 | none=>none
theorem DW.rn {nt:Nat} (hT:Gi P T) (hm:P.follows .mixedOrders=true) (hnt:cx.nt=nt) {ops:Array Oper} {id:Nat} {draw:Bool} {r:List Code} (xs:List Orc) (sl:List (Nat×MV)) (ob:List (Nat×Obj))
  (ps:List (Nat×MV)) (qs:List (Nat×Body)) {q:Prop} (hq:q) (h:AhM P T nt ops xs (Ce sl) (Ce ob) draw σ=some ((Ho ps sl,Io qs ob),q)) (hs:SP sl ps) (ho:OP ob qs)
  (hQ:DW P cx r (Ae sl ob) Q):DW P cx (.region id ops draw::r) σ Q:=by
 unfold AhM at h
 split at h
 case h_2=>simp at h
 rename_i sl' ob' obl hd
 simp only [Option.some.injEq,Prod.mk.injEq] at h
 obtain ⟨⟨rfl,rfl⟩,rfl⟩:=h
 subst hnt
 intro β a w hr
 have:=DWP.region (id:=id) (Q:=fun e σ'=>e = .normal∧σ'=Ae (Ho ps sl) (Io qs ob)) hT hm hd hq ⟨rfl,rfl⟩ β a w hr
 refine wpIn_mono this ?_
 rintro e a' w' ⟨β',σ',⟨rfl,rfl⟩,r'⟩
 exact ⟨β',_,hQ,r'.leF hs.le ho.le⟩
theorem DW.rk {nt:Nat} (hT:Gi P T) (hm:P.follows .mixedOrders=true) (hnt:cx.nt=nt) {ops:Array Oper} {id:Nat} {draw:Bool} {r:List Code} (xs:List Orc) (sl:List (Nat×MV)) (ob:List (Nat×Obj))
  {q:Prop} (hq:q) (h:AhM P T nt ops xs (Ce sl) (Ce ob) draw σ=some ((sl,ob),q)) (hQ:DW P cx r (Ae sl ob) Q):DW P cx (.region id ops draw::r) σ Q:=by
 unfold AhM at h
 split at h
 case h_2=>simp at h
 rename_i sl' ob' obl hd
 simp only [Option.some.injEq,Prod.mk.injEq] at h
 obtain ⟨⟨rfl,rfl⟩,rfl⟩:=h
 subst hnt
 intro β a w hr
 exact DWP.region (id:=id) (Q:=KQ P cx r Q) hT hm hd hq hQ β a w hr
theorem RegTo.rn {nt:Nat} (hT:Gi P T) (hm:P.follows .mixedOrders=true) (hnt:cx.nt=nt) {ops:Array Oper} {draw:Bool} {sl:List (Nat×MV)} {ob:List (Nat×Obj)} (xs:List Orc)
  (ps:List (Nat×MV)) {q:Prop} (hq:q) (h:AhM P T nt ops xs (Ce sl) (Ce ob) draw σ=some ((Ho ps sl,ob),q)) (hs:SP sl ps):RegTo P cx ops draw σ sl ob :=
 fun id r Q hQ=>DW.rn (id:=id) hT hm hnt xs sl ob ps [] hq (by
  have:∀ (l:List (Nat×Obj)),Io [] l=l:=by
   intro l
   induction l with
   | nil=>rfl
   | cons p r ih=>obtain ⟨k,o⟩:=p; simp [Io,ih,assoc]
  rw [this]
  exact h) hs .nil hQ
end
end Go.Dm

namespace Go.Dm
open Go.ChangeShapes Go.WideShapes Go.ChangeAt Go.RowKit
theorem Kept.sameAt {W W':World} (h:Kept (fun _=>False) W W') {p:MemPlace} (hp:p.block<W.heap.size):W.sameAt W' p:=by
 cases p with
 | cell b off=>exact World.cell?_of_block (h.block b hp id)
 | map b=>exact h.block b hp id
theorem Kept.but {W W':World} (h:Kept (fun _=>False) W W') (may:MemPlace→Prop):W.keptBut W' may:=by
 refine ⟨h.os,h.output,fun i hi=>?_⟩
 have:=h.block i hi id
 rw [this]
 cases W.heap[i]? with
 | none=>rfl
 | some o=>cases o<;> simp
section
variable {H : Type} {enc:TypeId×Value→H} {P:Program}
theorem Ahf {W W':World} (h:Kept (fun _=>False) W W') {base:Nat} {sp:Nat→Bool} {held:Bool} : ∀ {ts:List TypeId} {vs:List Value} {ds:List (DataW H)} {ps:List MemPlace},
  DataW.TrodAll enc P W base sp held ts vs ds ps→DataW.TrodAll enc P W' base sp held ts vs ds ps
 | [],_,_,_,hh=>by
  obtain ⟨rfl,rfl,rfl⟩:=trodAll_nil hh
  exact trodAll_mk0
 | t::ts,vs,ds,ps,hh=>by
  have hlt:=hh.lt
  obtain ⟨v,vs1,d,ds1,a,b,rfl,rfl,rfl,h1,h2⟩:=trodAll_cons hh
  obtain ⟨n,hn⟩:=h1
  exact ⟨a,b,⟨n,DataW.trod_carry n _ _ _ hn (fun p hp=>h.sameAt (hlt p (List.mem_append_left _ hp)))⟩,Ahf h h2,rfl⟩
theorem law_post {f:Func} {s:ChangeSpec} {apart fresh handsOn again:Bool} {W W':World} {args:Array Value} {ds gs:List (DataW H)} {before:List MemPlace} {tb:TypeId}
  (K:Kids P (· < P.types.size)) (full:∀ t e,t<P.types.size→P.underlying t=some (.slice e)→0<P.cellsOf e) (hts:∀ t∈f.params.toList,t<P.types.size)
  (hv:s.vars = []) (hrt:f.resultTypes = #[tb]) (htb:P.underlying tb=some .bool)
  (hW:DataW.Whole enc P f.params.toList s.vars apart W args.toList ds gs before)
  (hfn:s.fn H ds = { results := [.lit (.bool true)],args:=ds })
  (hk:Kept (fun _=>False) W W'):s.post enc P f apart fresh handsOn again W args (.bool true) W':=by
 have hW':=hW
 obtain ⟨p,q,hA,hV,rfl,hz,hn⟩:=hW
 rw [hv] at hV
 obtain ⟨rfl,rfl⟩:=trodVars_none hV
 have hlt:=hA.lt
 have hres:∀ (b:Nat) (sp:Nat→Bool) (hd:Bool),DataW.TrodAll enc P W' b sp hd f.resultTypes.toList ((Value.bool true).resultList f.resultTypes.size) (s.fn H (ds ++ [])).results []:=by
  intro b sp hd
  rw [List.append_nil,hfn,hrt]
  exact trodAll_cons_mk (shut_bool htb _) trodAll_mk0
 have hargs:∀ sp:Nat→Bool,(∀ x∈p,sp x.block=true)→DataW.TrodAll enc P W' 0 sp true f.params.toList args.toList (s.fn H (ds ++ [])).args p:=by
  intro sp hsp
  rw [List.append_nil,hfn]
  exact DataW.TrodAll.respare K full hts (Ahf hk hA) hsp
 have hvars:∀ sp:Nat→Bool,DataW.TrodVars enc P W' sp s.vars (s.fn H (ds ++ [])).vars []:=by
  intro sp
  rw [List.append_nil,hfn,hv]
  rfl
 refine ⟨ds,[],p ++ [],[],p,[],hW',hres _ _ _,hargs _ (fun x hx=>by simpa using hlt x hx),hvars _,hk.but _,fun _=>⟨?_,?_⟩⟩
 ·intro j t r h1 h2
  rw [hrt] at h1 h2
  exact ok_one (f:=f) hrt rfl (okWide_bool_mk htb true) j t r (by rw [hrt]; exact h1) (by rw [hrt]; exact h2)
 ·refine ⟨_,_,([]++p) ++ [],⟨[]++p,[],trodAll_append (hargs _ (fun _ _=>rfl)) (hres _ _ _),hvars _,rfl,?_,?_⟩,?_⟩
  ·intro b off hp
   have hp':MemPlace.cell b off∈p:=by simpa using hp
   have hb:=hlt _ hp'
   have:=hz b off (by simpa using hp')
   rw [← this]
   exact World.frozen?_of_block (hk.block b hb id)
  ·intro ha
   have:=hn ha
   simpa using this
  ·intro x hx _
   simpa using hx
theorem arg_ints {r:Reach} {b0 base:Nat} {held:Bool} {W:World} {t e:TypeId} {v:Value} {d:DataW H} {ps:List MemPlace} (ht:P.underlying t=some (.slice e)) (he:P.underlying e=some (.int .i64)) (hc:P.cellsOf e=1)
  (hval:Value.okWide P W r b0 t v) (hd:DataW.Trod enc P W base (fun _=>true) held t v d ps) :
  ∃ L:List Int,(∀ n∈L,-9223372036854775808≤n∧n≤9223372036854775807)∧∀ (β:Bi) (objs:Ar) (S:Nat→Prop),(∀ p∈ps,S p.block)→RelV β objs S W v (.p (Gy 1 Cg 0 L)):=by
 obtain ⟨fuel,hf⟩:=hd
 have hok:Cell.okWide P W r b0 t v:=by simpa [Value.okWide,ht] using hval
 have hcells:∀ (b:Option Addr) (n c:Nat),v.cells.toList = [.slice b n c]→v = .slice b n c:=by
  intro b n c hvc
  cases v <;> simp [Value.cells,Cell.okWide,Cell.ok,ht] at hvc hok ⊢
  exact hvc
 rcases open_ints ht he hc hf with ⟨h1,h2⟩|⟨a,len,cap,zs,h1,hb,hle,hmax,hlen,hx,hcell,hwf⟩
 ·have:=hcells _ _ _ h1
  subst this
  exact ⟨[],by simp,fun β objs S hS => .p _ _ (.slnil _ _ _ (by simp))⟩
 ·have:=hcells _ _ _ h1
  subst this
  have hps:ps=MemPlace.row a zs.length:=by injection hx
  have hzl:zs.length=cap:=by simpa using hlen
  refine ⟨zs.take len,fun n hn => ?_,fun β objs S hS => .p _ _ ?_⟩
  ·have:=hwf n (List.mem_of_mem_take hn)
   simpa [Lit.wf,IntKind.min,IntKind.max,IntKind.signed,IntKind.bits] using this
  ·have hspot:a.spot=none:=by
    simp only [Cell.okWide,Cell.ok,ht] at hok
    exact hok.2.2.2.1
   obtain ⟨b,off,spot⟩:=a
   simp only at hspot
   subst hspot
   have hl2:(zs.take len).length=len:=by simp; omega
   unfold Gy
   rw [hl2]
   refine .sl _ _ _ cap b off _ (fun i _ => .int .i64 (zs.getD i 0)) (by simp) hle (fun hn => ?_) (fun i hi=>rfl) (fun i j hi hj => ?_) (fun i j hi hj=>rfl) (fun i j x hi hx => ?_)
   ·have:MemPlace.cell b off∈ps:=by
     rw [hps]
     exact MemPlace.mem_row.2 ⟨0,by omega,by simp⟩
    exact hS _ this
   ·obtain rfl:j=0:=by omega
    have:=hcell i (by omega)
    rw [add_plain] at this
    simpa [at_] using this
   ·have hxx:x=vi ((zs.take len).getD i 0):=by
     cases j with
     | zero=>simpa [elems,Cg] using hx.symm
     | succ j=>simp [elems,Cg] at hx
    subst hxx
    have e:(zs.take len).getD i 0=zs.getD i 0:=by simp [List.getD_eq_getElem?_getD,List.getElem?_take,hi]
    rw [e]
    exact .v _ rfl
end
end Go.Dm

namespace Go.Dm
def memN : List Nat→Nat→Bool
 | [],_=>false
 | a::r,k=>bif Nat.beq a k then true else memN r k
def delK {α:Type} (ds:List Nat):List (Nat×α)→List (Nat×α)
 | [] => []
 | (k,x)::r=>bif memN ds k then delK ds r else (k,x)::delK ds r
def insK {α:Type} (k:Nat) (x:α):List (Nat×α)→List (Nat×α)
 | [] => [(k,x)]
 | (t,y)::r=>bif Nat.beq k t then (k,x)::r else bif Nat.ble k t then (k,x)::(t,y)::r else (t,y)::insK k x r
def insA {α:Type} : List (Nat×α)→List (Nat×α)→List (Nat×α)
 | [],l=>l
 | (k,x)::r,l=>insK k x (insA r l)
def up {α:Type} (ds:List Nat) (us l:List (Nat×α)):List (Nat×α):=insA us (delK ds l)
theorem AoR {α:Type} (k:Nat) (x:α) (l:List (Nat×α)) (j:Nat):assoc (insK k x l) j=assoc ((k,x)::l) j:=by
 induction l with
 | nil=>rfl
 | cons p r ih =>
  obtain ⟨t,y⟩:=p
  rw [insK]
  cases hb:Nat.beq k t with
  | true =>
   have:=Nat.eq_of_beq_eq_true hb
   subst this
   simp only [cond_true,assoc]
   cases Nat.beq j k <;> rfl
  | false =>
   simp only [cond_false]
   cases Nat.ble k t with
   | true=>rfl
   | false =>
    simp only [cond_false,assoc] at ih ⊢
    rw [ih]
    cases h1:Nat.beq j t with
    | true =>
     have:=Nat.eq_of_beq_eq_true h1
     subst this
     cases h2:Nat.beq j k with
     | true =>
      have:=Nat.eq_of_beq_eq_true h2
      subst this
      rw [h1] at hb
      cases hb
     | false=>rfl
    | false=>rfl
theorem AbW {α:Type} (enc:α→PV) (z:PV) (m:IMap α) (n:Int) (v:α) {x:PV} (hx:PLe x (enc v)):AeE z (Ay m.has n true) (Ay (fun j=>enc (m.get j)) n x) z (m.set n v).has (fun j=>enc ((m.set n v).get j)):=by
 refine ⟨rfl,fun j => ?_,fun hz j hj => ?_⟩
 ·simp only [Ay,IMap.set]
  split
  ·exact hx
  ·exact .rfl
 ·have h1:=hz j hj
  simp only [IMap.set,Ay] at h1 hj ⊢
  split at hj
  ·simp at hj
  ·rename_i hne
   rw [if_neg hne] at h1 ⊢
   exact h1
def IMap.del {α:Type} (m:IMap α) (n:Int) (d:α):IMap α:=⟨Ay m.has n false,Ay m.get n d⟩
theorem mdel_le {α:Type} (enc:α→PV) (z:PV) (m:IMap α) (n:Int) (d:α) (hx:z=enc d):AeE z (Ay m.has n false) (Ay (fun j=>enc (m.get j)) n z) z (m.del n d).has (fun j=>enc ((m.del n d).get j)):=by
 subst hx
 have e:Ay (fun j=>enc (m.get j)) n (enc d)=fun j=>enc ((m.del n d).get j):=by
  funext j
  simp only [Ay,IMap.del]
  split <;> rfl
 rw [← e]
 exact ⟨rfl,fun j => .rfl,fun hz j hj=>hz j hj⟩
theorem mnew_le {α:Type} (enc:α→PV) (z:PV) (d:α) (hx:PLe z (enc d)):AeE z (fun _=>false) (fun _=>z) (enc d) (IMap.empty d).has (fun j=>enc ((IMap.empty d).get j)) :=
 ⟨rfl,fun _=>hx,fun _ _ _=>rfl⟩
theorem updI_at {α:Type} (f:Int→α) (n:Int) (x:α):Ay f n x n=x:=by simp [Ay]
theorem updI_nat (f:Int→Nat) (n:Int) (x:Nat):((x:Nat):Int)=((Ay f n x n:Nat):Int):=by simp [Ay]
inductive AdP where
 | s (t:Nat)
 | a (t j:Nat)
 | o (q j:Nat)
def adNil (k:Nat):MV→Option MV
 | .p (.sl .nil _ n _)=>bif Nat.beq n 0 then some (.own k 0 0 0) else none
 | _=>none
def Aca (k:Nat):Nat→List MV→Option (List MV)
 | _,[]=>none
 | 0,x::r=>match adNil k x with
  | some y=>some (y::r)
  | none=>none
 | j+1,x::r=>match Aca k j r with
  | some s=>some (x::s)
  | none=>none
def adMV (k:Nat):Option Nat→MV→Option MV
 | none,x=>adNil k x
 | some j,.agg cs=>(Aca k j cs).map .agg
 | _,_=>none
def adObj (k j:Nat):Obj→Option Obj
 | ⟨g,.box cs⟩=>(Aca k j cs).map fun ds=>⟨g,.box ds⟩
 | _=>none
def Aej (k t:Nat) (j:Option Nat):List (Nat×MV)→Option (List (Nat×MV))
 | []=>none
 | (q,x)::r=>bif Nat.beq q t then (adMV k j x).map fun y=>(q,y)::r else (Aej k t j r).map fun s=>(q,x)::s
def adBox (k q j:Nat):List (Nat×Obj)→Option (List (Nat×Obj))
 | []=>none
 | (i,o)::r=>bif Nat.beq i q then (adObj k j o).map fun p=>(i,p)::r else (adBox k q j r).map fun s=>(i,o)::s
def adOne (k:Nat) (sl:List (Nat×MV)) (ob:List (Nat×Obj)):AdP→Option (List (Nat×MV)×List (Nat×Obj))
 | .s t=>(Aej k t none sl).map fun s=>(s,ob)
 | .a t j=>(Aej k t (some j) sl).map fun s=>(s,ob)
 | .o q j=>(adBox k q j ob).map fun b=>(sl,b)
def adAll : List (AdP×Nat×Nat×(Nat→List PV))→List (Nat×MV)→List (Nat×Obj)→Option (List (Nat×MV)×List (Nat×Obj))
 | [],sl,ob=>some (sl,ob)
 | (p,k,W,f)::r,sl,ob=>bif Nat.ble 1000 k&&(assoc ob k).isNone then (adOne k sl ob p).bind fun q=>adAll r q.1 (insK k ⟨0,.row W 0 f⟩ q.2) else none
theorem AmT {k:Nat} {x y:MV} (h:adNil k x=some y):Ad1 k x y:=by
 unfold adNil at h
 split at h
 ·rename_i W n f
  cases hb:Nat.beq n 0 with
  | true =>
   rw [hb] at h
   have:=Nat.eq_of_beq_eq_true hb
   subst this
   simp only [cond_true,Option.some.injEq] at h
   subst h
   exact .nil _ _
  | false=>rw [hb] at h; simp at h
 ·simp at h
theorem AgI {k:Nat} : ∀ {j:Nat} {l m:List MV},Aca k j l=some m→AdL k l m
 | _,[],_,h=>by simp [Aca] at h
 | 0,x::r,m,h=>by
  rw [Aca] at h
  split at h
  ·rename_i y hy
   simp only [Option.some.injEq] at h
   subst h
   exact .cons (AmT hy) (.rfl _)
  ·simp at h
 | j+1,x::r,m,h=>by
  rw [Aca] at h
  split at h
  ·rename_i s hs
   simp only [Option.some.injEq] at h
   subst h
   exact .cons (.rfl _) (AgI hs)
  ·simp at h
theorem adMV_ok {k:Nat} {j:Option Nat} {x y:MV} (h:adMV k j x=some y):Ad k x y:=by
 unfold adMV at h
 split at h
 ·exact .one (AmT h)
 ·obtain ⟨ds,hd,rfl⟩:=Option.map_eq_some_iff.mp h
  exact .agg (AgI hd)
 ·simp at h
theorem Ahg {k t:Nat} {j:Option Nat} : ∀ {l m:List (Nat×MV)},Aej k t j l=some m→AdS k l m
 | [],_,h=>by simp [Aej] at h
 | (q,x)::r,m,h=>by
  rw [Aej] at h
  cases hb:Nat.beq q t with
  | true =>
   rw [hb,cond_true] at h
   obtain ⟨y,hy,rfl⟩:=Option.map_eq_some_iff.mp h
   exact .cons (adMV_ok hy) (.rfl _)
  | false =>
   rw [hb,cond_false] at h
   obtain ⟨s,hs,rfl⟩:=Option.map_eq_some_iff.mp h
   exact .cons (.one (.rfl _)) (Ahg hs)
theorem AnJ {k q j:Nat} : ∀ {l m:List (Nat×Obj)},adBox k q j l=some m→AdO k l m
 | [],_,h=>by simp [adBox] at h
 | (i,o)::r,m,h=>by
  rw [adBox] at h
  cases hb:Nat.beq i q with
  | true =>
   rw [hb,cond_true] at h
   obtain ⟨p,hp,rfl⟩:=Option.map_eq_some_iff.mp h
   unfold adObj at hp
   split at hp
   ·obtain ⟨ds,hd,rfl⟩:=Option.map_eq_some_iff.mp hp
    exact .box (AgI hd) (.rfl _)
   ·simp at hp
  | false =>
   rw [hb,cond_false] at h
   obtain ⟨s,hs,rfl⟩:=Option.map_eq_some_iff.mp h
   exact .keep (AnJ hs)
theorem mkSt_ins (sl:List (Nat×MV)) (k:Nat) (o:Obj) (ob:List (Nat×Obj)):Ae sl (insK k o ob)=Ae sl ((k,o)::ob):=by
 unfold Ae
 congr 1
 funext j
 exact AoR k o ob j
theorem Aqc {P:Program} {cx:Cx P} : ∀ (acts:List (AdP×Nat×Nat×(Nat→List PV))) {sl sl':List (Nat×MV)} {ob ob':List (Nat×Obj)},adAll acts sl ob=some (sl',ob')→Conv cx (Ae sl ob) (Ae sl' ob')
 | [],sl,sl',ob,ob',h=>by
  simp only [adAll,Option.some.injEq,Prod.mk.injEq] at h
  obtain ⟨rfl,rfl⟩:=h
  exact .refl
 | (p,k,W,f)::r,sl,sl',ob,ob',h=>by
  rw [adAll] at h
  cases hk:(Nat.ble 1000 k&&(assoc ob k).isNone) with
  | false=>rw [hk] at h; simp at h
  | true =>
   rw [hk,cond_true] at h
   obtain ⟨q,hq,h⟩:=Option.bind_eq_some_iff.mp h
   rw [Bool.and_eq_true,Option.isNone_iff_eq_none] at hk
   have a:Conv cx (Ae sl ob) (Ae q.1 (insK k ⟨0,.row W 0 f⟩ q.2)):=by
    rw [mkSt_ins]
    unfold adOne at hq
    split at hq
    ·obtain ⟨s,hs,rfl⟩:=Option.map_eq_some_iff.mp hq
     exact Conv.adopt k W f hk.1 hk.2 (Ahg hs) (AdO.rfl ob)
    ·obtain ⟨s,hs,rfl⟩:=Option.map_eq_some_iff.mp hq
     exact Conv.adopt k W f hk.1 hk.2 (Ahg hs) (AdO.rfl ob)
    ·obtain ⟨b,hb,rfl⟩:=Option.map_eq_some_iff.mp hq
     exact Conv.adopt k W f hk.1 hk.2 (AdS.rfl sl) (AnJ hb)
   exact a.trans (Aqc r h)
theorem Aqv {P:Program} {cx:Cx P} (acts:List (AdP×Nat×Nat×(Nat→List PV))) {sl sl':List (Nat×MV)} {ob ob':List (Nat×Obj)} (h:adAll acts sl ob=some (sl',ob'):=by kernel_rfl):Conv cx (Ae sl ob) (Ae sl' ob'):=Aqc acts h
theorem Conv.frz {P:Program} {cx:Cx P} (ks:List Nat) {sl sl':List (Nat×MV)} {ob ob':List (Nat×Obj)} (h:Akf ks (sl,ob)=(sl',ob'):=by kernel_rfl):Conv cx (Ae sl ob) (Ae sl' ob'):=ApS ks h
section
variable {P : Program} {T:Ty} {cx:Cx P} {σ:St} {Q:Exit→St→Prop} {R:Type}
theorem AqA {c:Code} {r:List Code} {sl0:List (Nat×MV)} {ob0:List (Nat×Obj)} (ds:List Nat) (us:List (Nat×MV)) (dk:List Nat) (uo:List (Nat×Obj)) (h:Conv cx (Ae sl0 ob0) (Ae (up ds us sl0) (up dk uo ob0))) (k:DW P cx (c::r) (Ae (up ds us sl0) (up dk uo ob0)) Q):DW P cx (c::r) (Ae sl0 ob0) Q:=Aqw h k
theorem Conv.eqK {sl0 sl:List (Nat×MV)} {ob0 ob:List (Nat×Obj)} (h:(sl0,ob0)=(sl,ob):=by kernel_rfl):Conv cx (Ae sl0 ob0) (Ae sl ob):=by
 obtain ⟨rfl,rfl⟩:=Prod.mk.inj h
 exact .refl
theorem Conv.t0 {sl:List (Nat×MV)} {ob:List (Nat×Obj)} (h:(Ki (Ce sl) (Ce ob) σ,Gz (Ce ob) σ)=(Ho [] sl,Io [] ob):=by kernel_rfl):Conv cx σ (Ae sl ob):=Aqx [] [] h .nil .nil
theorem Aq {c:Operand} {x y:Code} {r:List Code} {b:Bool} {X Y:Option R} {res:R} (hm:(if b=true then X else Y)=some res) (h1:b=true→X=some res→DW P cx (x::r) σ Q) (h2:b=false→Y=some res→DW P cx (y::r) σ Q)
  (hk:An c=true:=by kernel_rfl) (hc:ev σ c = .p (.v (.bool b)):=by kernel_rfl):DW P cx (.cond c x y::r) σ Q :=
 DW.cond b hk hc (fun e=>h1 e (if_t e hm)) (fun e=>h2 e (if_f e hm))
theorem condK {c:Operand} {x y:Code} {r:List Code} (b:Bool) (h1:b=true→DW P cx (x::r) σ Q) (h2:b=false→DW P cx (y::r) σ Q)
  (hk:An c=true:=by kernel_rfl) (hc:ev σ c = .p (.v (.bool b)):=by kernel_rfl):DW P cx (.cond c x y::r) σ Q:=DW.cond b hk hc h1 h2
theorem AhJ {c:Operand} {x y:Code} {r:List Code} {b:Bool} (hb:b=true) (h1:DW P cx (x::r) σ Q)
  (hk:An c=true:=by kernel_rfl) (hc:ev σ c = .p (.v (.bool b)):=by kernel_rfl):DW P cx (.cond c x y::r) σ Q:=DW.cond b hk hc (fun _=>h1) (fun e=>by rw [hb] at e; cases e)
theorem Fs {c:Operand} {x y:Code} {r:List Code} {b:Bool} (hb:b=false) (h1:DW P cx (y::r) σ Q)
  (hk:An c=true:=by kernel_rfl) (hc:ev σ c = .p (.v (.bool b)):=by kernel_rfl):DW P cx (.cond c x y::r) σ Q:=DW.cond b hk hc (fun e=>by rw [hb] at e; cases e) (fun _=>h1)
theorem retK {results:List ResultVar} {m:Nat} {res:MV} {bs:List Body} (bs':List Body) (ex:List Nat) (res':MV) (h:fin T results m ex σ=some (res',bs'):=by kernel_rfl) (e:res'=res:=by rfl) (e2:bs'=bs:=by rfl):finQ T results m res bs .ret σ:=retOK ex res' h e e2
theorem endK {results:List ResultVar} {m:Nat} {res:MV} {bs:List Body} (bs':List Body) (ex:List Nat) (res':MV) (h:fin T results m ex σ=some (res',bs'):=by kernel_rfl) (e:res'=res:=by rfl) (e2:bs'=bs:=by rfl):finQ T results m res bs .normal σ:=endOK ex res' h e e2
theorem Sq {x y:Code} {r:List Code} (h:DW P cx (x::y::r) σ Q):DW P cx (.seq x y::r) σ Q:=DW.seq h
theorem Sk {r:List Code} (h:DW P cx r σ Q):DW P cx (.skip::r) σ Q:=DW.skip h
theorem Bk {id:Nat} {c:Code} {r:List Code} (h:DW P cx [c] σ (Ng id (KQ P cx r Q))):DW P cx (.block id c::r) σ Q:=DW.block h
theorem jD {ι:Type} {J:ι→St} {m:ι→Prop} (i:ι) (h1:m i) (h2:Conv cx σ (J i)):DW P cx [] σ (Jw cx J m Q):=AeT i h1 h2
theorem bD {ι:Type} {J:ι→St} {m:ι→Prop} {id:Nat} (i:ι) (h1:m i) (h2:Conv cx σ (J i)):DW P cx [] σ (Ng id (KQ P cx [] (Jw cx J m Q))):=blockDone i h1 h2
theorem tv : True:=trivial
theorem go1 {p:Prop} [Decidable p] {x:Option R} {r:R} (h:(if p then x else none)=some r):p∧x=some r:=Aph h
end
end Go.Dm

namespace Go.Dm
open Go.ChangeShapes Go.WideShapes Go.ChangeAt Go.RowKit
section
variable {P : Program} {fl:Bool} {α β:Type} {t:TypeId} {n:Nat} {en:α→List PV} {good:α→Prop}
variable {H : Type} {enc:TypeId×Value→H}
end
end Go.Dm

namespace Go.Dm
structure Ak where
 id:Int
 parent:Int
 name:ByteArray
 control:Int
 kind:Int
 owner:Int
 deriving Inhabited
def Ao (x:Ak):List PV := [vi x.id,vi x.parent,vs x.name,vi x.control,vi x.kind,vi x.owner]
abbrev As : Ak:=default
abbrev Cv (L:List Ak):PV:=Gy 6 Ao (default:Ak) L
abbrev At (L:List Ak):Body:=Ads 6 Ao (default:Ak) L
abbrev elNode (L:List Ak):Nat→List PV:=elems Ao (default:Ak) L
structure Af where
 nodes:List Ak
 next:Int
 deriving Inhabited
def Ap (x:Af):List PV := [Gy 6 Ao (default:Ak) x.nodes,vi x.next]
structure Ca where
 id:Int
 process:Int
 group:Int
 user:Int
 deriving Inhabited
def Bo (x:Ca):List PV := [vi x.id,vi x.process,vi x.group,vi x.user]
abbrev Bv : Ca:=default
abbrev Aky (L:List Ca):PV:=Gy 4 Bo (default:Ca) L
abbrev Be (L:List Ca):Body:=Ads 4 Bo (default:Ca) L
abbrev elTask (L:List Ca):Nat→List PV:=elems Bo (default:Ca) L
structure Ab where
 tree:Af
 tasks:List Ca
 next:Int
 deriving Inhabited
def Aj (x:Ab):List PV := [Gy 6 Ao (default:Ak) x.tree.nodes,vi x.tree.next,Gy 4 Bo (default:Ca) x.tasks,vi x.next]
structure Ai where
 l:List Int
 atF:Int
 deriving Inhabited
def Ah (x:Ai):List PV := [Gy 1 Cg 0 x.l,vi x.atF]
def AeI (p0:List Int):Option Bool:=(some (decide (((p0.length:Nat):Int)≤600)))
def Afa : Option Af:=(some ({ nodes := [({ id:=1,parent:=0,name:=ByteArray.empty,control:=0,kind:=0,owner:=0 } : Ak)],next:=2 } : Af))
def AnD : Option Ab:=(Option.bind Afa fun r1=>(some ({ tree:=r1,tasks := [],next:=1 } : Ab)))
def Agw (p0:ByteArray) (k1:Int) (s1:Unit) (n1:Unit→Option Bool):Option Bool:=(if 0≤k1∧k1<((p0.size:Nat):Int) then (if (!((((((decide ((((Br p0 (Int.toNat k1)):Nat):Int)≥97))&&(decide ((((Br p0 (Int.toNat k1)):Nat):Int)≤122)))||((decide ((((Br p0 (Int.toNat k1)):Nat):Int)≥65))&&(decide ((((Br p0 (Int.toNat k1)):Nat):Int)≤90))))||((decide ((((Br p0 (Int.toNat k1)):Nat):Int)≥48))&&(decide ((((Br p0 (Int.toNat k1)):Nat):Int)≤57))))||((((Br p0 (Int.toNat k1)):Nat):Int)==95))||((((Br p0 (Int.toNat k1)):Nat):Int)==45))) then (some false) else (n1 ())) else none)
def Anj (s1:Unit):Option Bool:=(some true)
def Ta (p0:ByteArray) (y1:Bool):Option Bool:=(if y1 then (some false) else (if ((p0.size:Nat):Int)≤9223372036854775807 then (forO (Agw p0) Anj (Int.toNat (((p0.size:Nat):Int)-0)) 0 ()) else none))
def Xy (p0:ByteArray):Option Bool:=(if (((p0.size:Nat):Int)==0) then ((Ta p0) true) else (if (decide (((p0.size:Nat):Int)>32)) then ((Ta p0) true) else (if 0<p0.size then ((Ta p0) ((((Br p0 0):Nat):Int)==45)) else none)))
def Vh (n1:Bool→Option Bool) (y5:Bool) (y6:Bool):Option Bool:=(if y6 then (some false) else (n1 y5))
def Vi (p0:Af) (p1:Int) (k1:Int) (n1:Bool→Option Bool) (y5:Bool):Option Bool:=(if 0≤k1∧k1<((p0.nodes.length:Nat):Int) then (if ((p0.nodes.getD (Int.toNat k1) (default:Ak)).parent==(p0.nodes.getD (Int.toNat p1) (default:Ak)).parent) then (if 0≤k1∧k1<((p0.nodes.length:Nat):Int) then ((Vh n1 y5) (Cp (p0.nodes.getD (Int.toNat k1) (default:Ak)).name (p0.nodes.getD (Int.toNat p1) (default:Ak)).name)) else none) else ((Vh n1 y5) false)) else none)
def AiD (p0:Af) (p1:Int) (k1:Int) (s1:Bool) (n1:Bool→Option Bool):Option Bool:=(if s1 then ((Vi p0 p1 k1 n1) true) else (if 0≤k1∧k1<((p0.nodes.length:Nat):Int) then ((Vi p0 p1 k1 n1) ((p0.nodes.getD (Int.toNat k1) (default:Ak)).id==(p0.nodes.getD (Int.toNat p1) (default:Ak)).parent)) else none))
def AnY (s1:Bool):Option Bool:=(some s1)
def Aah (p0:Af) (p1:Int) (y1:Bool):Option Bool:=(if y1 then (some false) else (if p1≤9223372036854775807 then (forO (AiD p0 p1) AnY (Int.toNat (p1-0)) 0 false) else none))
def Adf (p0:Af) (p1:Int):Option Bool:=(if 0≤p1∧p1<((p0.nodes.length:Nat):Int) then (if (((((((p0.nodes.getD (Int.toNat p1) (default:Ak)).kind != 0)&&((p0.nodes.getD (Int.toNat p1) (default:Ak)).kind != 1))||(decide ((p0.nodes.getD (Int.toNat p1) (default:Ak)).control<0)))||(decide ((p0.nodes.getD (Int.toNat p1) (default:Ak)).control>31)))||(decide ((p0.nodes.getD (Int.toNat p1) (default:Ak)).owner<0)))||(decide ((p0.nodes.getD (Int.toNat p1) (default:Ak)).owner>1048576))) then (some false) else (if (p1==0) then (some (((((p0.nodes.getD (Int.toNat p1) (default:Ak)).id==1)&&((p0.nodes.getD (Int.toNat p1) (default:Ak)).parent==0))&&(Cp (p0.nodes.getD (Int.toNat p1) (default:Ak)).name ByteArray.empty))&&((p0.nodes.getD (Int.toNat p1) (default:Ak)).kind==0))) else (if 0≤(w64 (p1-1))∧(w64 (p1-1))<((p0.nodes.length:Nat):Int) then (if (decide ((p0.nodes.getD (Int.toNat p1) (default:Ak)).id≤(p0.nodes.getD (Int.toNat (w64 (p1-1))) (default:Ak)).id)) then ((Aah p0 p1) true) else (Option.bind (Xy (p0.nodes.getD (Int.toNat p1) (default:Ak)).name) fun r17=>((Aah p0 p1) (!r17)))) else none))) else none)
def AaS (s1:(List Int)×Int×Int) (n1:((List Int)×Int×Int)→Option (List Int)) (y2:(List Int)×Int):Option (List Int):=(n1 (y2.1,y2.2,(w64 (s1.2.2-1))))
def AlO (p0:Af) (s1:(List Int)×Int×Int) (n1:((List Int)×Int×Int)→Option (List Int)):Option (List Int):=(if (decide (s1.2.2≥0)) then (if 0≤s1.2.2∧s1.2.2<((p0.nodes.length:Nat):Int) then (if ((p0.nodes.getD (Int.toNat s1.2.2) (default:Ak)).id==s1.2.1) then (if s1.1.length+1≤1073741824 then (if 0≤s1.2.2∧s1.2.2<((p0.nodes.length:Nat):Int) then ((AaS s1 n1) ((s1.1 ++ [s1.2.1]),(p0.nodes.getD (Int.toNat s1.2.2) (default:Ak)).parent)) else none) else none) else ((AaS s1 n1) (s1.1,s1.2.1))) else none) else (some s1.1))
def Aeo (p0:Af) (p1:Int):Option (List Int):=(whileO (AlO p0) Fm ([],p1,(w64 (((p0.nodes.length:Nat):Int)-1))))
def Agn (p0:Af) (k1:Nat) (x1:Ak) (s1:Unit) (n1:Unit→Option Bool):Option Bool:=(Option.bind (Adf p0 ((k1:Nat):Int)) fun r33=>(if (!r33) then (some false) else (n1 ())))
def Ags (p0:Af) (k4:Nat) (x4:Ak) (s4:Unit) (n4:Unit→Option Bool):Option Bool:=(Option.bind (Aeo p0 x4.id) fun r50=>(if (decide (((r50.length:Nat):Int)>9)) then (some false) else (n4 ())))
def Yi (y7:Bool):Option Bool:=(some y7)
def AhA (p0:Af) (s4:Unit):Option Bool:=(if 0≤(w64 (((p0.nodes.length:Nat):Int)-1))∧(w64 (((p0.nodes.length:Nat):Int)-1))<((p0.nodes.length:Nat):Int) then (if (decide (p0.next>(p0.nodes.getD (Int.toNat (w64 (((p0.nodes.length:Nat):Int)-1))) (default:Ak)).id)) then (Yi (decide (p0.next≤2147483648))) else (Yi false)) else none)
def AgY (p0:Af) (s1:Unit):Option Bool:=(if p0.nodes.length≤9223372036854775807 then Az (Ags p0) (AhA p0) p0.nodes 0 () else none)
def Kw (p0:Af):Option Bool:=(if ((decide (((p0.nodes.length:Nat):Int)<1))||(decide (((p0.nodes.length:Nat):Int)>64))) then (some false) else (if p0.nodes.length≤9223372036854775807 then Az (Agn p0) (AgY p0) p0.nodes 0 () else none))
def AlY (p1:Int) (k1:Nat) (x1:Ca) (s1:Unit) (n1:Unit→Option (Ca×Bool)):Option (Ca×Bool):=(if (x1.id==p1) then (some (x1,(x1.process==p1))) else (n1 ()))
def AmG (s1:Unit):Option (Ca×Bool):=(some (({ id:=0,process:=0,group:=0,user:=0 } : Ca),false))
def Aag (p0:List Ca) (p1:Int):Option (Ca×Bool):=(if p0.length≤9223372036854775807 then Az (AlY p1) AmG p0 0 () else none)
def Aon (p1:Int) (k1:Nat) (x1:Ak) (s1:Unit) (n1:Unit→Option (Ak×Bool)):Option (Ak×Bool):=(if (x1.id==p1) then (some (x1,true)) else (n1 ()))
def AoD (s1:Unit):Option (Ak×Bool):=(some (({ id:=0,parent:=0,name:=ByteArray.empty,control:=0,kind:=0,owner:=0 } : Ak),false))
def Dv (p0:Af) (p1:Int):Option (Ak×Bool):=(Option.bind (Kw p0) fun r1=>(if (!r1) then (some (({ id:=0,parent:=0,name:=ByteArray.empty,control:=0,kind:=0,owner:=0 } : Ak),false)) else (if p0.nodes.length≤9223372036854775807 then Az (Aon p1) AoD p0.nodes 0 () else none)))
def Fv (p0:Af) (p1:Int):Option Bool:=(Option.bind (Dv p0 p1) fun r1=>(some r1.2))
def Cr (n1:Unit→Option Bool) (y4:Bool):Option Bool:=(if y4 then (some false) else (n1 ()))
def Ack (p0:Ab) (k1:Nat) (x1:Ca) (s1:Unit) (n1:Unit→Option Bool):Option Bool:=(Option.bind (Aag p0.tasks x1.process) fun r46=>(if (decide (x1.id<1)) then ((Cr n1) true) else (if (decide (((k1:Nat):Int)>0)) then (if 0≤(w64 (((k1:Nat):Int)-1))∧(w64 (((k1:Nat):Int)-1))<((p0.tasks.length:Nat):Int) then (if (decide ((p0.tasks.getD (Int.toNat (w64 (((k1:Nat):Int)-1))) (default:Ca)).id≥x1.id)) then ((Cr n1) true) else (Option.bind (Fv p0.tree x1.group) fun r51=>(if (!r51) then ((Cr n1) true) else (if (decide (x1.user<0)) then ((Cr n1) true) else (if (decide (x1.user>1048576)) then ((Cr n1) true) else (if (!r46.2) then ((Cr n1) true) else ((Cr n1) (r46.1.user != x1.user)))))))) else none) else (Option.bind (Fv p0.tree x1.group) fun r56=>(if (!r56) then ((Cr n1) true) else (if (decide (x1.user<0)) then ((Cr n1) true) else (if (decide (x1.user>1048576)) then ((Cr n1) true) else (if (!r46.2) then ((Cr n1) true) else ((Cr n1) (r46.1.user != x1.user))))))))))
def AgB (s1:Unit):Option Bool:=(some true)
def Jr (p0:Ab) (y1:Bool):Option Bool:=(if y1 then (some false) else (if p0.tasks.length≤9223372036854775807 then Az (Ack p0) AgB p0.tasks 0 () else none))
def Ha (p0:Ab):Option Bool:=(Option.bind (Kw p0.tree) fun r1=>(if (!r1) then ((Jr p0) true) else (if (decide (((p0.tasks.length:Nat):Int)>128)) then ((Jr p0) true) else (if (decide (p0.next<1)) then ((Jr p0) true) else (if (decide (p0.next>2147483648)) then ((Jr p0) true) else (if (decide (((p0.tasks.length:Nat):Int)>0)) then (if 0≤(w64 (((p0.tasks.length:Nat):Int)-1))∧(w64 (((p0.tasks.length:Nat):Int)-1))<((p0.tasks.length:Nat):Int) then ((Jr p0) (decide (p0.next≤(p0.tasks.getD (Int.toNat (w64 (((p0.tasks.length:Nat):Int)-1))) (default:Ca)).id))) else none) else ((Jr p0) false)))))))
def Aaf (p0:Af) (p1:Int):Option Int:=(Option.bind (Dv p0 p1) fun r1=>(if ((!r1.2)||(p1==1)) then (some 0) else (Option.bind (Dv p0 r1.1.parent) fun r4=>(if (r1.1.kind==1) then (some (He .i64 r4.1.control 6)) else (some r4.1.control)))))
def Pv (y2:Int):Option Int:=(some y2)
def Lr (r1:Ak×Bool) (y1:Int):Option Int:=(if (r1.1.kind==1) then (Pv (He .i64 y1 6)) else (Pv y1))
def Ou (p0:Af) (p1:Int):Option Int:=(Option.bind (Dv p0 p1) fun r1=>(if (!r1.2) then (some 0) else (if (p1 != 1) then (Option.bind (Aaf p0 p1) fun r4=>((Lr r1) r4)) else ((Lr r1) 31))))
def Xq (n1:(List Int)→Option (List Int)) (y3:List Int):Option (List Int):=(n1 y3)
def Ahb (p1:Int) (k1:Nat) (x1:Ca) (s1:List Int) (n1:(List Int)→Option (List Int)):Option (List Int):=(if (x1.group==p1) then (if s1.length+1≤1073741824 then ((Xq n1) (s1 ++ [x1.id])) else none) else ((Xq n1) s1))
def Anb (s1:List Int):Option (List Int):=(some s1)
def Ji (p0:Ab) (p1:Int):Option (List Int):=(Option.bind (Ha p0) fun r1=>(if (!r1) then (some []) else (if p0.tasks.length≤9223372036854775807 then Az (Ahb p1) Anb p0.tasks 0 [] else none)))
def Ll (n1:Unit→Option Bool) (y3:Bool):Option Bool:=(if y3 then (some false) else (n1 ()))
def Ago (p0:Ab) (k1:Nat) (x1:Ak) (s1:Unit) (n1:Unit→Option Bool):Option Bool:=(Option.bind (Ou p0.tree x1.id) fun r20=>(if ((He .i64 x1.control r20) != 0) then ((Ll n1) true) else (if (x1.id != 1) then (if ((kand .i64 x1.control 6) != 0) then (Option.bind (Ji p0 x1.id) fun r24=>((Ll n1) (decide (((r24.length:Nat):Int)>0)))) else ((Ll n1) false)) else ((Ll n1) false))))
def AmI (s1:Unit):Option Bool:=(some true)
def Yp (p0:Ab):Option Bool:=(Option.bind (Ha p0) fun r1=>(if (!r1) then (some false) else (if p0.tree.nodes.length≤9223372036854775807 then Az (Ago p0) AmI p0.tree.nodes 0 () else none)))
def AoI (p1:Int) (k1:Nat) (x1:Ca) (s1:Unit) (n1:Unit→Option (Ca×Bool)):Option (Ca×Bool):=(if (x1.id==p1) then (some (x1,true)) else (n1 ()))
def Aow (s1:Unit):Option (Ca×Bool):=(some (({ id:=0,process:=0,group:=0,user:=0 } : Ca),false))
def Jk (p0:Ab) (p1:Int):Option (Ca×Bool):=(Option.bind (Ha p0) fun r1=>(if (!r1) then (some (({ id:=0,process:=0,group:=0,user:=0 } : Ca),false)) else (if p0.tasks.length≤9223372036854775807 then Az (AoI p1) Aow p0.tasks 0 () else none)))
def Hg (p0:Af) (p1:Int):Option (List Int):=(Option.bind (Fv p0 p1) fun r1=>(if (!r1) then (some []) else (Option.bind (Aeo p0 p1) fun r3=>(some r3))))
def AfG (p0:Af) (k1:Nat) (x1:Int) (s1:Unit) (n1:Unit→Option (Int×Bool)):Option (Int×Bool):=(Option.bind (Dv p0 x1) fun r17=>(if (r17.1.kind != 1) then (some (x1,true)) else (n1 ())))
def Amk (s1:Unit):Option (Int×Bool):=(some (0,false))
def Nj (p0:Af) (p1:Int):Option (Int×Bool):=(Option.bind (Hg p0 p1) fun r1=>(if r1.length≤9223372036854775807 then Az (AfG p0) Amk r1 0 () else none))
def Rr (n1:(List Int)→Option (List Int)) (y3:List Int):Option (List Int):=(n1 y3)
def Adq (p1:Int) (k1:Nat) (x1:Ak) (s1:List Int) (n1:(List Int)→Option (List Int)):Option (List Int):=(if (x1.parent==p1) then (if s1.length+1≤1073741824 then ((Rr n1) (s1 ++ [x1.id])) else none) else ((Rr n1) s1))
def AjU (s1:List Int):Option (List Int):=(some s1)
def Ih (p0:Af) (p1:Int):Option (List Int):=(Option.bind (Fv p0 p1) fun r1=>(if (!r1) then (some []) else (if p0.nodes.length≤9223372036854775807 then Az (Adq p1) AjU p0.nodes 0 [] else none)))
def Aiz (p0:Af) (k1:Nat) (x1:Int) (s1:Unit) (n1:Unit→Option Int):Option Int:=(Option.bind (Dv p0 x1) fun r21=>(if (r21.1.kind==1) then (some 1) else (n1 ())))
def Aof (s1:Unit):Option Int:=(some 0)
def Rc (p0:Af) (p1:Int) (y1:Bool):Option Int:=(if y1 then (some 3) else (Option.bind (Ih p0 p1) fun r9=>(if r9.length≤9223372036854775807 then Az (Aiz p0) Aof r9 0 () else none)))
def Xm (rec:Af→Int→Option Int) (p0:Af) (p1:Int):Option Int:=(Option.bind (Dv p0 p1) fun r1=>(if (!r1.2) then (some 0) else (if (r1.1.kind==1) then (some 2) else (Option.bind (Dv p0 r1.1.parent) fun r4=>(if r4.2 then (if (r4.1.kind==1) then ((Rc p0 p1) true) else (Option.bind (rec p0 r4.1.id) fun r7=>((Rc p0 p1) (r7==3)))) else ((Rc p0 p1) false))))))
def Kq : Nat→Af→Int→Option Int
 | 0,_,_=>none
 | n+1,p0,p1=>Xm (Kq n) p0 p1
def Mu (p0:Af) (p1:Int):Option Int:=Kq Fm p0 p1
def AiP (p0:Ab) (k1:Nat) (x1:Ca) (s1:Unit) (n1:Unit→Option Bool):Option Bool:=(Option.bind (Jk p0 x1.process) fun r100=>(Option.bind (Nj p0.tree x1.group) fun r101=>(Option.bind (Nj p0.tree r100.1.group) fun r102=>(if (r101.1 != r102.1) then (some false) else (n1 ())))))
def Lk (n4:Unit→Option Bool) (y18:Bool):Option Bool:=(if y18 then (some false) else (n4 ()))
def Oc (p0:Ab) (x4:Ak) (n4:Unit→Option Bool) (r133:Ak×Bool) (y17:Bool):Option Bool:=(if y17 then (some false) else (if (x4.kind==1) then (if (r133.1.id != 1) then (if ((kand .i64 r133.1.control 6) != 0) then ((Lk n4) true) else (Option.bind (Mu p0.tree r133.1.id) fun r142=>((Lk n4) (r142==3)))) else (Option.bind (Mu p0.tree r133.1.id) fun r143=>((Lk n4) (r143==3)))) else ((Lk n4) false)))
def AiC (p0:Ab) (k4:Nat) (x4:Ak) (s4:Unit) (n4:Unit→Option Bool):Option Bool:=(Option.bind (Dv p0.tree x4.parent) fun r133=>(Option.bind (Mu p0.tree x4.id) fun r134=>(if (r134==3) then (if (x4.control != 0) then ((Oc p0 x4 n4 r133) true) else (Option.bind (Ji p0 x4.id) fun r137=>((Oc p0 x4 n4 r133) (decide (((r137.length:Nat):Int)>0))))) else ((Oc p0 x4 n4 r133) false))))
def Aoc (s4:Unit):Option Bool:=(some true)
def AiO (p0:Ab) (s1:Unit):Option Bool:=(if p0.tree.nodes.length≤9223372036854775807 then Az (AiC p0) Aoc p0.tree.nodes 0 () else none)
def Nb (p0:Ab):Option Bool:=(Option.bind (Yp p0) fun r1=>(if (!r1) then (some false) else (if p0.tasks.length≤9223372036854775807 then Az (AiP p0) (AiO p0) p0.tasks 0 () else none)))
def AbA (p0:Af) (p1:Int):Option Int:=(Option.bind (Hg p0 p1) fun r1=>(some (w64 (((r1.length:Nat):Int)-1))))
def Sg (p0:Af):Option Af:=(if p0.nodes.length≤1073741824 then (some p0) else none)
def AjK (p1:Int) (p2:ByteArray) (k1:Nat) (x1:Ak) (s1:Unit) (n1:Unit→Option (Af×Int×Int)):Option (Af×Int×Int):=(if ((x1.parent==p1)&&(Cp x1.name p2)) then (some (({ nodes := [],next:=0 } : Af),0,5)) else (n1 ()))
def Tf (p0:Af) (p1:Int) (p2:ByteArray) (y6:Bool):Option (Af×Int×Int):=(if y6 then (some (({ nodes := [],next:=0 } : Af),0,7)) else (Option.bind (Sg p0) fun r36=>(if r36.nodes.length+1≤1073741824 then (some (({ nodes:=(r36.nodes ++ [({ id:=p0.next,parent:=p1,name:=p2,control:=0,kind:=0,owner:=0 } : Ak)]),next:=(w64 (r36.next+1)) } : Af),p0.next,0)) else none)))
def Akx (p0:Af) (p1:Int) (p2:ByteArray) (s1:Unit):Option (Af×Int×Int):=(Option.bind (AbA p0 p1) fun r32=>(if (decide (r32≥8)) then ((Tf p0 p1 p2) true) else (if (decide (((p0.nodes.length:Nat):Int)≥64)) then ((Tf p0 p1 p2) true) else ((Tf p0 p1 p2) (decide (p0.next>2147483647))))))
def Abv (p0:Af) (p1:Int) (p2:ByteArray) (y1:Bool):Option (Af×Int×Int):=(if y1 then (some (({ nodes := [],next:=0 } : Af),0,1)) else (Option.bind (Fv p0 p1) fun r5=>(if (!r5) then (some (({ nodes := [],next:=0 } : Af),0,4)) else (if p0.nodes.length≤9223372036854775807 then Az (AjK p1 p2) (Akx p0 p1 p2) p0.nodes 0 () else none))))
def AeX (p0:Af) (p1:Int) (p2:ByteArray):Option (Af×Int×Int):=(Option.bind (Kw p0) fun r1=>(if (!r1) then ((Abv p0 p1 p2) true) else (Option.bind (Xy p2) fun r3=>((Abv p0 p1 p2) (!r3)))))
def Sl (p0:Ab):Option Ab:=(Option.bind (Sg p0.tree) fun r1=>(if p0.tasks.length≤1073741824 then (some ({ tree:=r1,tasks:=p0.tasks,next:=p0.next } : Ab)) else none))
def AbP (r3:Ab) (y1:Ca):Option (Ab×Int×Int):=(if r3.tasks.length+1≤1073741824 then (some (({ tree:=r3.tree,tasks:=(r3.tasks ++ [y1]),next:=(w64 (r3.next+1)) } : Ab),y1.id,0)) else none)
def Acm (p0:Ab) (p1:Ca):Option (Ab×Int×Int):=(if ((decide (((p0.tasks.length:Nat):Int)≥128))||(decide (p0.next>2147483647))) then (some (({ tree:=({ nodes := [],next:=0 } : Af),tasks := [],next:=0 } : Ab),0,7)) else (Option.bind (Sl p0) fun r3=>(if (p1.process==0) then ((AbP r3) ({ id:=p0.next,process:=p0.next,group:=p1.group,user:=p1.user } : Ca)) else ((AbP r3) ({ id:=p0.next,process:=p1.process,group:=p1.group,user:=p1.user } : Ca)))))
def So (p0:Ab) (p1:Int) (p2:Int) (y1:Bool):Option (Ab×Int×Int):=(if y1 then (some (({ tree:=({ nodes := [],next:=0 } : Af),tasks := [],next:=0 } : Ab),0,1)) else (Option.bind (Fv p0.tree p1) fun r5=>(if (!r5) then (some (({ tree:=({ nodes := [],next:=0 } : Af),tasks := [],next:=0 } : Ab),0,4)) else (Option.bind (Acm p0 ({ id:=0,process:=0,group:=p1,user:=p2 } : Ca)) fun r7=>(some (r7.1,r7.2.1,r7.2.2))))))
def Abw (p0:Ab) (p1:Int) (p2:Int):Option (Ab×Int×Int):=(Option.bind (Ha p0) fun r1=>(if (!r1) then ((So p0 p1 p2) true) else (if (decide (p2<0)) then ((So p0 p1 p2) true) else ((So p0 p1 p2) (decide (p2>1048576))))))
def AgK (p0:Ak):Option Bool:=(some ((((p0.id==1)&&(p0.parent==0))&&(Cp p0.name ByteArray.empty))&&(p0.kind==0)))
def AeJ (p0:Int):Option Bool:=(some ((((((decide (p0≥97))&&(decide (p0≤122)))||((decide (p0≥65))&&(decide (p0≤90))))||((decide (p0≥48))&&(decide (p0≤57))))||(p0==95))||(p0==45)))
def Ahz (k1:Nat) (x1:Int) (s1:Unit) (n1:Unit→Option Bool):Option Bool:=(Option.bind (AeJ x1) fun r16=>(if (!r16) then (some false) else (n1 ())))
def Si (y3:Bool):Option Bool:=(some y3)
def Ahx (p0:ByteArray) (s1:Unit):Option Bool:=(if (!(Cp p0 ByteArray.empty)) then (if (decide (((p0.size:Nat):Int)≤32)) then (if 0<p0.size then (Si ((((Br p0 0):Nat):Int) != 45)) else none) else (Si false)) else (Si false))
def AbF (p0:ByteArray):Option Bool:=(if (Dt p0).length≤9223372036854775807 then Az Ahz (Ahx p0) (Dt p0) 0 () else none)
def AiF (p1:Ak) (k1:Nat) (x1:Ak) (s1:Bool) (n1:Bool→Option Bool):Option Bool:=(if ((x1.parent==p1.parent)&&(Cp x1.name p1.name)) then (some false) else (n1 (s1||(x1.id==p1.parent))))
def Aoa (s1:Bool):Option Bool:=(some s1)
def Kx (p0:List Ak) (p1:Ak) (y1:Bool):Option Bool:=(if y1 then (some false) else (if p0.length≤9223372036854775807 then Az (AiF p1) Aoa p0 0 false else none))
def AcZ (p0:List Ak) (p1:Ak):Option Bool:=(if 0≤(w64 (((p0.length:Nat):Int)-1))∧(w64 (((p0.length:Nat):Int)-1))<((p0.length:Nat):Int) then (if (decide (p1.id≤(p0.getD (Int.toNat (w64 (((p0.length:Nat):Int)-1))) (default:Ak)).id)) then ((Kx p0 p1) true) else (Option.bind (AbF p1.name) fun r3=>(if (!r3) then ((Kx p0 p1) true) else (if (p1.kind != 0) then ((Kx p0 p1) (p1.kind != 1)) else ((Kx p0 p1) false))))) else none)
def Yr (x1:Ak) (n1:(IMap Int)→Option Bool) (y9:IMap Int):Option Bool:=(if (decide ((y9.get x1.id)>8)) then (some false) else (n1 y9))
def Gx (k1:Nat) (x1:Ak) (s1:IMap Int) (n1:(IMap Int)→Option Bool) (y8:Bool):Option Bool:=(if y8 then (some false) else (if (decide (((k1:Nat):Int)>0)) then ((Yr x1 n1) (s1.set x1.id (w64 ((s1.get x1.parent)+1)))) else ((Yr x1 n1) s1)))
def Ahl (p0:Af) (k1:Nat) (x1:Ak) (s1:IMap Int) (n1:(IMap Int)→Option Bool):Option Bool:=(if (decide (x1.control<0)) then ((Gx k1 x1 s1 n1) true) else (if ((He .i64 x1.control 31) != 0) then ((Gx k1 x1 s1 n1) true) else (if (decide (x1.owner<0)) then ((Gx k1 x1 s1 n1) true) else (if (decide (x1.owner>1048576)) then ((Gx k1 x1 s1 n1) true) else (if (decide (((k1:Nat):Int)>0)) then (if ((k1:Nat):Int)≤((p0.nodes.length:Nat):Int) then (Option.bind (AcZ (p0.nodes.take k1) x1) fun r43=>((Gx k1 x1 s1 n1) (!r43))) else none) else ((Gx k1 x1 s1 n1) false))))))
def Vu (y10:Bool):Option Bool:=(some y10)
def AgN (p0:Af) (s1:IMap Int):Option Bool:=(if 0≤(w64 (((p0.nodes.length:Nat):Int)-1))∧(w64 (((p0.nodes.length:Nat):Int)-1))<((p0.nodes.length:Nat):Int) then (if (decide (p0.next>(p0.nodes.getD (Int.toNat (w64 (((p0.nodes.length:Nat):Int)-1))) (default:Ak)).id)) then (Vu (decide (p0.next≤2147483648))) else (Vu false)) else none)
def Su (p0:Af) (y1:Bool):Option Bool:=(if y1 then (some false) else (if p0.nodes.length≤9223372036854775807 then Az (Ahl p0) (AgN p0) p0.nodes 0 (IMap.empty 0) else none))
def Mz (p0:Af):Option Bool:=(if (decide (((p0.nodes.length:Nat):Int)<1)) then ((Su p0) true) else (if (decide (((p0.nodes.length:Nat):Int)>64)) then ((Su p0) true) else (if 0<p0.nodes.length then (Option.bind (AgK (p0.nodes.getD 0 (default:Ak))) fun r4=>((Su p0) (!r4))) else none)))
def AiA (p0:Ak) (p1:Int):Option Bool:=(some (p0.id==p1))
def Tw (p1c0:Int) (k1:Nat) (x1:Ak) (s1:Unit) (n1:Unit→Option Int):Option Int:=(Option.bind (AiA x1 p1c0) fun r10=>(if r10 then (some ((k1:Nat):Int)) else (n1 ())))
def Tg (s1:Unit):Option Int:=(some (-1))
def Gw (p0:List Ak) (p1c0:Int):Option Int:=(if p0.length≤9223372036854775807 then Az (Tw p1c0) Tg p0 0 () else none)
def Add (p0:Af) (p1:Int):Option Int:=(Option.bind (Gw p0.nodes p1) fun r1=>(some r1))
def Nu (n1:(List Int)→Option (List Int)) (y3:List Int):Option (List Int):=(n1 y3)
def Abm (p1:Int) (k1:Nat) (x1:Ak) (s1:List Int) (n1:(List Int)→Option (List Int)):Option (List Int):=(if (x1.parent==p1) then (if s1.length+1≤1073741824 then ((Nu n1) (s1 ++ [x1.id])) else none) else ((Nu n1) s1))
def Aiv (s1:List Int):Option (List Int):=(some s1)
def Rw (p0:Af) (p1:Int):Option (List Int):=(if p0.nodes.length≤9223372036854775807 then Az (Abm p1) Aiv p0.nodes 0 [] else none)
def Aha (p1:Int) (k1:Nat) (x1:Int) (s1:Unit) (n1:Unit→Option Int):Option Int:=(if (p1==x1) then (some ((k1:Nat):Int)) else (n1 ()))
def Agd (s1:Unit):Option Int:=(some (-1))
def Wr (p0:List Int) (p1:Int):Option Int:=(if p0.length≤9223372036854775807 then Az (Aha p1) Agd p0 0 () else none)
def Lw (p0:List Int) (p1:Int):Option Bool:=(Option.bind (Wr p0 p1) fun r1=>(some (decide (r1≥0))))
def Aat (p0:Af) (p1:Int):Option (Ak×Bool):=(Option.bind (Add p0 p1) fun r1=>(if (decide (r1<0)) then (some (({ id:=0,parent:=0,name:=ByteArray.empty,control:=0,kind:=0,owner:=0 } : Ak),false)) else (if 0≤r1∧r1<((p0.nodes.length:Nat):Int) then (some ((p0.nodes.getD (Int.toNat r1) (default:Ak)),true)) else none)))
def Mp (y1:List Int):Option (List Int):=(some y1)
def AaM (p0:Af) (k1:Nat) (x1:Ak) (s1:(List Int)×Int) (n1:((List Int)×Int)→Option (List Int)):Option (List Int):=(Option.bind (Aat p0 s1.2) fun r9=>(if (!r9.2) then (Mp s1.1) else (if s1.1.length+1≤1073741824 then (n1 ((s1.1 ++ [s1.2]),r9.1.parent)) else none)))
def Ahn (s1:(List Int)×Int):Option (List Int):=(Mp s1.1)
def Lu (p0:Af) (p1:Int):Option (List Int):=(if p0.nodes.length≤9223372036854775807 then Az (AaM p0) Ahn p0.nodes 0 ([],p1) else none)
def AlB (p0:List Int):Option Ai:=(some ({ l:=p0,atF:=0 } : Ai))
def Pn (p0:Ai) (y1:Int):Option (Int×Ai):=(some (y1,({ l:=p0.l,atF:=(w64 (p0.atF+1)) } : Ai)))
def Bn (p0:Ai) (p1:Int):Option (Int×Ai):=(if ((decide (p0.atF≥((p0.l.length:Nat):Int)))||(decide (p1<1))) then (some (0,p0)) else (if 0≤(w64 ((w64 (p0.atF+1))-1))∧(w64 ((w64 (p0.atF+1))-1))<((p0.l.length:Nat):Int) then (if (p1:Int)≠0 then (if (decide ((Int.tmod (p0.l.getD (Int.toNat (w64 ((w64 (p0.atF+1))-1))) 0) p1)<0)) then ((Pn p0) (w64 ((Int.tmod (p0.l.getD (Int.toNat (w64 ((w64 (p0.atF+1))-1))) 0) p1)+p1))) else ((Pn p0) (Int.tmod (p0.l.getD (Int.toNat (w64 ((w64 (p0.atF+1))-1))) 0) p1))) else none) else none))
def Tz (p0:Ai):Option (ByteArray×Ai):=(Option.bind (Bn p0 6) fun r3=>(if 0≤r3.1∧r3.1<(([(bs [97]),(bs [98]),(bs [99]),(bs [119,101,98]),(bs [100,98,45,49]),(bs [88,95,57])].length:Nat):Int) then (if (Int.toNat r3.1) < [(bs [97]),(bs [98]),(bs [99]),(bs [119,101,98]),(bs [100,98,45,49]),(bs [88,95,57])].length then (some (([(bs [97]),(bs [98]),(bs [99]),(bs [119,101,98]),(bs [100,98,45,49]),(bs [88,95,57])].getD (Int.toNat r3.1) ByteArray.empty),r3.2)) else none) else none))
def Cz (p0:Ai) (p1:Int):Option (Bool×Ai):=(Option.bind (Bn p0 p1) fun r1=>(some ((r1.1==(w64 (p1-1))),r1.2)))
def Wi (n1:(List Ak)→Option (Af×Int)) (y3:List Ak):Option (Af×Int):=(n1 y3)
def AaZ (p1:Int) (k1:Nat) (x1:Ak) (s1:List Ak) (n1:(List Ak)→Option (Af×Int)):Option (Af×Int):=(if (x1.id != p1) then (if s1.length+1≤1073741824 then ((Wi n1) (s1 ++ [x1])) else none) else ((Wi n1) s1))
def AaU (p0:Af) (s1:List Ak):Option (Af×Int):=(some (({ nodes:=s1,next:=p0.next } : Af),0))
def Aao (p0:Af) (p1:Int):Option (Af×Int):=(Option.bind (Kw p0) fun r1=>(if (!r1) then (some (({ nodes := [],next:=0 } : Af),1)) else (Option.bind (Fv p0 p1) fun r3=>(if (!r3) then (some (({ nodes := [],next:=0 } : Af),4)) else (if (p1==1) then (some (({ nodes := [],next:=0 } : Af),9)) else (Option.bind (Ih p0 p1) fun r6=>(if (decide (((r6.length:Nat):Int)>0)) then (some (({ nodes := [],next:=0 } : Af),6)) else (if p0.nodes.length≤9223372036854775807 then Az (AaZ p1) (AaU p0) p0.nodes 0 [] else none))))))))
def Iw (s1:Ai×Af×Int) (n1:(Ai×Af×Int)→Option (Af×Ai)) (y3:Ai×Af):Option (Af×Ai):=(n1 (y3.1,y3.2,(w64 (s1.2.2-1))))
def Lp (s1:Ai×Af×Int) (n1:(Ai×Af×Int)→Option (Af×Ai)) (r21:ByteArray×Ai) (y4:Af):Option (Af×Ai):=(Option.bind (Cz r21.2 6) fun r24=>(if r24.1 then (Option.bind (Bn r24.2 ((y4.nodes.length:Nat):Int)) fun r26=>(if 0≤r26.1∧r26.1<((y4.nodes.length:Nat):Int) then (Option.bind (Aao y4 (y4.nodes.getD (Int.toNat r26.1) (default:Ak)).id) fun r28=>(if (r28.2==0) then ((Iw s1 n1) (r26.2,r28.1)) else ((Iw s1 n1) (r26.2,y4)))) else none)) else ((Iw s1 n1) (r24.2,y4))))
def Acz (s1:Ai×Af×Int) (n1:(Ai×Af×Int)→Option (Af×Ai)):Option (Af×Ai):=(if (decide (s1.2.2>0)) then (Option.bind (Bn s1.1 ((s1.2.1.nodes.length:Nat):Int)) fun r19=>(if 0≤r19.1∧r19.1<((s1.2.1.nodes.length:Nat):Int) then (Option.bind (Tz r19.2) fun r21=>(Option.bind (AeX s1.2.1 (s1.2.1.nodes.getD (Int.toNat r19.1) (default:Ak)).id r21.1) fun r22=>(if (r22.2.2==0) then ((Lp s1 n1 r21) r22.1) else ((Lp s1 n1 r21) s1.2.1)))) else none)) else (some (s1.2.1,s1.1)))
def Tu (p0:Ai) (p1:Int):Option (Af×Ai):=(Option.bind Afa fun r1=>(Option.bind (Bn p0 (w64 (p1+1))) fun r2=>(whileO Acz Fm (r2.2,r1,r2.1))))
def Kj (p1:Af) (r1:Bool×Ai) (y1:Bool):Option (Int×Ai):=(if y1 then (Option.bind (Bn r1.2 9) fun r4=>(some ((w64 (r4.1-1)),r4.2))) else (Option.bind (Bn r1.2 ((p1.nodes.length:Nat):Int)) fun r5=>(if 0≤r5.1∧r5.1<((p1.nodes.length:Nat):Int) then (some ((p1.nodes.getD (Int.toNat r5.1) (default:Ak)).id,r5.2)) else none)))
def Jx (p0:Ai) (p1:Af):Option (Int×Ai):=(Option.bind (Cz p0 15) fun r1=>(if r1.1 then ((Kj p1 r1) true) else ((Kj p1 r1) (((p1.nodes.length:Nat):Int)==0))))
def Jz (p0:Ai):Option (Int×Ai):=(Option.bind (Bn p0 9) fun r3=>(if 0≤r3.1∧r3.1<(([1,9,31,2,25,4,0,32,(-1)].length:Nat):Int) then (if (Int.toNat r3.1) < [1,9,31,2,25,4,0,32,(-1)].length then (some (([1,9,31,2,25,4,0,32,(-1)].getD (Int.toNat r3.1) 0),r3.2)) else none) else none))
def AeM (p0:Int):Option Bool:=(some ((decide (p0≥0))&&(decide (p0≤31))))
def AbI (s1:(List Ak)×Int) (n1:((List Ak)×Int)→Option Af) (y2:List Ak):Option Af:=(n1 (y2,(w64 (s1.2+1))))
def AjD (p1:Ak) (r1:Af) (s1:(List Ak)×Int) (n1:((List Ak)×Int)→Option Af):Option Af:=(if (decide (s1.2<((s1.1.length:Nat):Int))) then (if 0≤s1.2∧s1.2<((s1.1.length:Nat):Int) then (if (Int.toNat s1.2)<s1.1.length then (if ((s1.1.getD (Int.toNat s1.2) (default:Ak)).id==p1.id) then (if 0≤s1.2∧s1.2<((s1.1.length:Nat):Int) then (if (Int.toNat s1.2)<s1.1.length then ((AbI s1 n1) (s1.1.set (Int.toNat s1.2) p1)) else none) else none) else ((AbI s1 n1) s1.1)) else none) else none) else (some ({ nodes:=s1.1,next:=r1.next } : Af)))
def Aaa (p0:Af) (p1:Ak):Option Af:=(Option.bind (Sg p0) fun r1=>(whileO (AjD p1 r1) Fm (r1.nodes,0)))
def Agi (p0:Ab) (p3:Int) (k1:Nat) (x1:Int) (s1:Unit) (n1:Unit→Option (Ab×Int)):Option (Ab×Int):=(Option.bind (Dv p0.tree x1) fun r36=>(if ((kand .i64 r36.1.control p3) != 0) then (some (({ tree:=({ nodes := [],next:=0 } : Af),tasks := [],next:=0 } : Ab),9)) else (n1 ())))
def Oj (p0:Ab) (p2:Int) (p3:Int) (r8:Ak×Bool) (y4:Bool):Option (Ab×Int):=(if y4 then (some (({ tree:=({ nodes := [],next:=0 } : Af),tasks := [],next:=0 } : Ab),6)) else (Option.bind (Sl p0) fun r42=>(Option.bind (Aaa p0.tree ({ id:=r8.1.id,parent:=r8.1.parent,name:=r8.1.name,control:=(kor .i64 (He .i64 r8.1.control p3) p2),kind:=r8.1.kind,owner:=r8.1.owner } : Ak)) fun r43=>(some (({ tree:=r43,tasks:=r42.tasks,next:=r42.next } : Ab),0)))))
def Agb (p0:Ab) (p1:Int) (p2:Int) (p3:Int) (r8:Ak×Bool) (s1:Unit):Option (Ab×Int):=(if ((He .i64 (kand .i64 (kor .i64 (He .i64 r8.1.control p3) p2) 6) r8.1.control) != 0) then (if (p1 != 1) then (Option.bind (Ji p0 p1) fun r40=>((Oj p0 p2 p3 r8) (decide (((r40.length:Nat):Int)>0)))) else ((Oj p0 p2 p3 r8) false)) else ((Oj p0 p2 p3 r8) false))
def Jl (p0:Ab) (p1:Int) (p2:Int) (p3:Int) (y1:Bool):Option (Ab×Int):=(if y1 then (some (({ tree:=({ nodes := [],next:=0 } : Af),tasks := [],next:=0 } : Ab),1)) else (Option.bind (Dv p0.tree p1) fun r8=>(if (!r8.2) then (some (({ tree:=({ nodes := [],next:=0 } : Af),tasks := [],next:=0 } : Ab),4)) else (Option.bind (Ou p0.tree p1) fun r10=>(if ((He .i64 p2 r10) != 0) then (some (({ tree:=({ nodes := [],next:=0 } : Af),tasks := [],next:=0 } : Ab),9)) else (Option.bind (Ih p0.tree p1) fun r12=>(if r12.length≤9223372036854775807 then Az (Agi p0 p3) (Agb p0 p1 p2 p3 r8) r12 0 () else none)))))))
def AbJ (p0:Ab) (p1:Int) (p2:Int) (p3:Int):Option (Ab×Int):=(Option.bind (Yp p0) fun r1=>(if (!r1) then ((Jl p0 p1 p2 p3) true) else (Option.bind (AeM p2) fun r3=>(if (!r3) then ((Jl p0 p1 p2 p3) true) else (Option.bind (AeM p3) fun r5=>(if (!r5) then ((Jl p0 p1 p2 p3) true) else ((Jl p0 p1 p2 p3) ((kand .i64 p2 p3) != 0))))))))
def Aai (p0:Ab) (p1:Int) (p2:Int) (p3:Int):Option (Ab×Int):=(Option.bind (Nb p0) fun r1=>(if (!r1) then (some (({ tree:=({ nodes := [],next:=0 } : Af),tasks := [],next:=0 } : Ab),1)) else (Option.bind (AbJ p0 p1 p2 p3) fun r3=>(if (r3.2 != 0) then (some (({ tree:=({ nodes := [],next:=0 } : Af),tasks := [],next:=0 } : Ab),r3.2)) else (Option.bind (Nb r3.1) fun r5=>(if (!r5) then (some (({ tree:=({ nodes := [],next:=0 } : Af),tasks := [],next:=0 } : Ab),10)) else (some (r3.1,0))))))))
def Tv (r13:Ab) (r14:Af) (y2:Bool):Option (Ab×Int):=(if y2 then (some (({ tree:=({ nodes := [],next:=0 } : Af),tasks := [],next:=0 } : Ab),6)) else (some (({ tree:=r14,tasks:=r13.tasks,next:=r13.next } : Ab),0)))
def Lh (p0:Ab) (p1:Int) (r3:Ak×Bool) (y1:Bool):Option (Ab×Int):=(if y1 then (some (({ tree:=({ nodes := [],next:=0 } : Af),tasks := [],next:=0 } : Ab),10)) else (if ((kand .i64 r3.1.control 6) != 0) then (some (({ tree:=({ nodes := [],next:=0 } : Af),tasks := [],next:=0 } : Ab),9)) else (Option.bind (Sl p0) fun r13=>(Option.bind (Aaa p0.tree ({ id:=r3.1.id,parent:=r3.1.parent,name:=r3.1.name,control:=r3.1.control,kind:=1,owner:=r3.1.owner } : Ak)) fun r14=>(Option.bind (Ji p0 p1) fun r15=>(if (decide (((r15.length:Nat):Int)>0)) then ((Tv r13 r14) true) else (Option.bind (Nb ({ tree:=r14,tasks:=r13.tasks,next:=r13.next } : Ab)) fun r17=>((Tv r13 r14) (!r17)))))))))
def Xp (p0:Ab) (p1:Int):Option (Ab×Int):=(Option.bind (Nb p0) fun r1=>(if (!r1) then (some (({ tree:=({ nodes := [],next:=0 } : Af),tasks := [],next:=0 } : Ab),1)) else (Option.bind (Dv p0.tree p1) fun r3=>(if (!r3.2) then (some (({ tree:=({ nodes := [],next:=0 } : Af),tasks := [],next:=0 } : Ab),4)) else (if ((p1==1)||(r3.1.kind==1)) then (some (({ tree:=({ nodes := [],next:=0 } : Af),tasks := [],next:=0 } : Ab),9)) else (Option.bind (Dv p0.tree r3.1.parent) fun r7=>(Option.bind (Mu p0.tree r7.1.id) fun r8=>(if (r8==3) then ((Lh p0 p1 r3) true) else (if (r7.1.id != 1) then ((Lh p0 p1 r3) ((kand .i64 r7.1.control 6) != 0)) else ((Lh p0 p1 r3) false))))))))))
def Hd (y1:Ai×Ab):Option (Ab×Ai):=(some (y1.2,y1.1))
def Lo (p1:Ab) (r1:Int×Ai) (r2:Int×Ai) (y2:Bool):Option (Ab×Ai):=(if y2 then (Option.bind (Jz r2.2) fun r5=>(Option.bind (Aai p1 r1.1 r5.1 0) fun r6=>(if (r6.2==0) then (some (r6.1,r5.2)) else (Hd (r5.2,p1))))) else (if (r2.1==2) then (Option.bind (Xp p1 r1.1) fun r9=>(if (r9.2==0) then (some (r9.1,r2.2)) else (Hd (r2.2,p1)))) else (if (r2.1==3) then (Option.bind (Dv p1.tree r1.1) fun r12=>(if (r12.2&&(r1.1 != 1)) then (Option.bind (Bn r2.2 3) fun r15=>(Option.bind (Aaa p1.tree ({ id:=r12.1.id,parent:=r12.1.parent,name:=r12.1.name,control:=r12.1.control,kind:=r12.1.kind,owner:=r15.1 } : Ak)) fun r16=>(Hd (r15.2,({ tree:=r16,tasks:=p1.tasks,next:=p1.next } : Ab))))) else (Hd (r2.2,p1)))) else (Hd (r2.2,p1)))))
def Tn (p0:Ai) (p1:Ab):Option (Ab×Ai):=(Option.bind (Jx p0 p1.tree) fun r1=>(Option.bind (Bn r1.2 5) fun r2=>(if (r2.1==0) then ((Lo p1 r1 r2) (r2.1==0)) else ((Lo p1 r1 r2) (r2.1==1)))))
def Vp (p0:Ab) (p1:Int):Option Int:=(Option.bind (Nb p0) fun r1=>(if (!r1) then (some 1) else (Option.bind (Dv p0.tree p1) fun r3=>(if (!r3.2) then (some 4) else (Option.bind (Mu p0.tree p1) fun r5=>(if (r5==3) then (some 10) else (if ((p1 != 1)&&((kand .i64 r3.1.control 6) != 0)) then (some 6) else (some 0))))))))
def Ln (p1:Ab) (r1:Bool×Ai) (y1:Bool):Option (Int×Ai):=(if y1 then (Option.bind (Bn r1.2 9) fun r4=>(some ((w64 (r4.1-1)),r4.2))) else (Option.bind (Bn r1.2 ((p1.tasks.length:Nat):Int)) fun r5=>(if 0≤r5.1∧r5.1<((p1.tasks.length:Nat):Int) then (some ((p1.tasks.getD (Int.toNat r5.1) (default:Ca)).id,r5.2)) else none)))
def Lg (p0:Ai) (p1:Ab):Option (Int×Ai):=(Option.bind (Cz p0 15) fun r1=>(if r1.1 then ((Ln p1 r1) true) else ((Ln p1 r1) (((p1.tasks.length:Nat):Int)==0))))
def AbG (p0:Ab) (p1:Int):Option (Ab×Int×Int):=(Option.bind (Ha p0) fun r1=>(if (!r1) then (some (({ tree:=({ nodes := [],next:=0 } : Af),tasks := [],next:=0 } : Ab),0,1)) else (Option.bind (Jk p0 p1) fun r3=>(if (!r3.2) then (some (({ tree:=({ nodes := [],next:=0 } : Af),tasks := [],next:=0 } : Ab),0,4)) else (Option.bind (Acm p0 r3.1) fun r5=>(some (r5.1,r5.2.1,r5.2.2)))))))
def Yk (s1:(List Ca)×Int) (n1:((List Ca)×Int)→Option (Ab×Int)) (y3:List Ca):Option (Ab×Int):=(n1 (y3,(w64 (s1.2+1))))
def Yw (p1:Int) (p2:Int) (r7:Ab) (s1:(List Ca)×Int) (n1:((List Ca)×Int)→Option (Ab×Int)):Option (Ab×Int):=(if (decide (s1.2<((s1.1.length:Nat):Int))) then (if 0≤s1.2∧s1.2<((s1.1.length:Nat):Int) then (if (Int.toNat s1.2)<s1.1.length then (if ((s1.1.getD (Int.toNat s1.2) (default:Ca)).id==p1) then (if 0≤s1.2∧s1.2<((s1.1.length:Nat):Int) then (if (Int.toNat s1.2)<s1.1.length then ((Yk s1 n1) (s1.1.set (Int.toNat s1.2) ({ id:=(s1.1.getD (Int.toNat s1.2) (default:Ca)).id,process:=(s1.1.getD (Int.toNat s1.2) (default:Ca)).process,group:=p2,user:=(s1.1.getD (Int.toNat s1.2) (default:Ca)).user } : Ca))) else none) else none) else ((Yk s1 n1) s1.1)) else none) else none) else (some (({ tree:=r7.tree,tasks:=s1.1,next:=r7.next } : Ab),0)))
def Yl (p0:Ab) (p1:Int) (p2:Int) (y1:Bool):Option (Ab×Int):=(if y1 then (some (({ tree:=({ nodes := [],next:=0 } : Af),tasks := [],next:=0 } : Ab),4)) else (Option.bind (Sl p0) fun r7=>(whileO (Yw p1 p2 r7) Fm (r7.tasks,0))))
def AbL (p0:Ab) (p1:Int) (p2:Int):Option (Ab×Int):=(Option.bind (Ha p0) fun r1=>(if (!r1) then (some (({ tree:=({ nodes := [],next:=0 } : Af),tasks := [],next:=0 } : Ab),1)) else (Option.bind (Jk p0 p1) fun r3=>(if (!r3.2) then ((Yl p0 p1 p2) true) else (Option.bind (Fv p0.tree p2) fun r5=>((Yl p0 p1 p2) (!r5)))))))
def Iq (p0:Ab) (p1:Int) (p2:Int) (r3:Ca×Bool) (y1:Bool):Option (Ab×Int):=(if y1 then (some (({ tree:=({ nodes := [],next:=0 } : Af),tasks := [],next:=0 } : Ab),4)) else (Option.bind (Vp p0 p2) fun r7=>(if (r7 != 0) then (some (({ tree:=({ nodes := [],next:=0 } : Af),tasks := [],next:=0 } : Ab),r7)) else (Option.bind (Nj p0.tree p2) fun r9=>(Option.bind (Nj p0.tree r3.1.group) fun r10=>(if (r9.1 != r10.1) then (some (({ tree:=({ nodes := [],next:=0 } : Af),tasks := [],next:=0 } : Ab),9)) else (Option.bind (AbL p0 p1 p2) fun r12=>(some (r12.1,r12.2)))))))))
def Nw (p0:Ab) (p1:Int) (p2:Int):Option (Ab×Int):=(Option.bind (Nb p0) fun r1=>(if (!r1) then (some (({ tree:=({ nodes := [],next:=0 } : Af),tasks := [],next:=0 } : Ab),1)) else (Option.bind (Jk p0 p1) fun r3=>(if (!r3.2) then ((Iq p0 p1 p2 r3) true) else (Option.bind (Fv p0.tree p2) fun r5=>((Iq p0 p1 p2 r3) (!r5)))))))
def Aal (n1:(List Ca)→Option (Ab×Int)) (y3:List Ca):Option (Ab×Int):=(n1 y3)
def AdK (p1:Int) (k1:Nat) (x1:Ca) (s1:List Ca) (n1:(List Ca)→Option (Ab×Int)):Option (Ab×Int):=(if ((x1.id != p1)&&(x1.process != p1)) then (if s1.length+1≤1073741824 then ((Aal n1) (s1 ++ [x1])) else none) else ((Aal n1) s1))
def AdW (p0:Ab) (r5:Af) (s1:List Ca):Option (Ab×Int):=(some (({ tree:=r5,tasks:=s1,next:=p0.next } : Ab),0))
def Adx (p0:Ab) (p1:Int):Option (Ab×Int):=(Option.bind (Ha p0) fun r1=>(if (!r1) then (some (({ tree:=({ nodes := [],next:=0 } : Af),tasks := [],next:=0 } : Ab),1)) else (Option.bind (Jk p0 p1) fun r3=>(if (!r3.2) then (some (({ tree:=({ nodes := [],next:=0 } : Af),tasks := [],next:=0 } : Ab),4)) else (Option.bind (Sg p0.tree) fun r5=>(if p0.tasks.length≤9223372036854775807 then Az (AdK p1) (AdW p0 r5) p0.tasks 0 [] else none))))))
def Ei (s3:Ai×Ab×Int) (n3:(Ai×Ab×Int)→Option (Ab×Ai)) (y13:Ai×Ab):Option (Ab×Ai):=(n3 (y13.1,y13.2,(w64 (s3.2.2-1))))
def Fe (s3:Ai×Ab×Int) (n3:(Ai×Ab×Int)→Option (Ab×Ai)) (y16:Ai×Ab):Option (Ab×Ai):=(Option.bind (Cz y16.1 8) fun r100=>(if r100.1 then (Option.bind (Lg r100.2 y16.2) fun r102=>(Option.bind (Adx y16.2 r102.1) fun r103=>(if (r103.2==0) then ((Ei s3 n3) (r102.2,r103.1)) else ((Ei s3 n3) (r102.2,y16.2))))) else ((Ei s3 n3) (r100.2,y16.2))))
def Fg (s3:Ai×Ab×Int) (n3:(Ai×Ab×Int)→Option (Ab×Ai)) (y15:Ai×Ab):Option (Ab×Ai):=(Option.bind (Cz y15.1 4) fun r94=>(if r94.1 then (Option.bind (Lg r94.2 y15.2) fun r96=>(Option.bind (Jx r96.2 y15.2.tree) fun r97=>(Option.bind (Nw y15.2 r96.1 r97.1) fun r98=>(if (r98.2==0) then ((Fe s3 n3) (r97.2,r98.1)) else ((Fe s3 n3) (r97.2,y15.2)))))) else ((Fe s3 n3) (r94.2,y15.2))))
def Gu (s3:Ai×Ab×Int) (n3:(Ai×Ab×Int)→Option (Ab×Ai)) (r86:Int×Ai) (y14:Ab):Option (Ab×Ai):=(Option.bind (Cz r86.2 3) fun r89=>(if r89.1 then (Option.bind (Lg r89.2 y14) fun r91=>(Option.bind (AbG y14 r91.1) fun r92=>(if (r92.2.2==0) then ((Fg s3 n3) (r91.2,r92.1)) else ((Fg s3 n3) (r91.2,y14))))) else ((Fg s3 n3) (r89.2,y14))))
def Xh (s3:Ai×Ab×Int) (n3:(Ai×Ab×Int)→Option (Ab×Ai)):Option (Ab×Ai):=(if (decide (s3.2.2>0)) then (Option.bind (Jx s3.1 s3.2.1.tree) fun r83=>(Option.bind (Vp s3.2.1 r83.1) fun r84=>(if (r84 != 0) then ((Ei s3 n3) (r83.2,s3.2.1)) else (Option.bind (Bn r83.2 3) fun r86=>(Option.bind (Abw s3.2.1 r83.1 r86.1) fun r87=>(if (r87.2.2==0) then ((Gu s3 n3 r86) r87.1) else ((Gu s3 n3 r86) s3.2.1))))))) else (some (s3.2.1,s3.1)))
def Xf (p2:Int) (s1:Ai×Ab×Int) (n1:(Ai×Ab×Int)→Option (Ab×Ai)):Option (Ab×Ai):=(if (decide (s1.2.2>0)) then (Option.bind (Tn s1.1 s1.2.1) fun r57=>(n1 (r57.2,r57.1,(w64 (s1.2.2-1))))) else (Option.bind (Bn s1.1 (w64 (p2+1))) fun r58=>(whileO Xh Fm (r58.2,s1.2.1,r58.1))))
def Lx (p0:Ai) (p1:Int) (p2:Int):Option (Ab×Ai):=(Option.bind AnD fun r1=>(Option.bind (Tu p0 p1) fun r2=>(Option.bind (Bn r2.2 (w64 (p1+3))) fun r3=>(whileO (Xf p2) Fm (r3.2,({ tree:=r2.1,tasks:=r1.tasks,next:=r1.next } : Ab),r3.1)))))
def Acc (y3:Int×Int):Option Int:=(if 0≤(IntKind.u8.wrap y3.1)∧(IntKind.u8.wrap y3.1)<(((bs [0,1,2,2,3,3,3,3,4,4,4,4,4,4,4,4,5,5,5,5,5,5,5,5,5,5,5,5,5,5,5,5,6,6,6,6,6,6,6,6,6,6,6,6,6,6,6,6,6,6,6,6,6,6,6,6,6,6,6,6,6,6,6,6,7,7,7,7,7,7,7,7,7,7,7,7,7,7,7,7,7,7,7,7,7,7,7,7,7,7,7,7,7,7,7,7,7,7,7,7,7,7,7,7,7,7,7,7,7,7,7,7,7,7,7,7,7,7,7,7,7,7,7,7,7,7,7,7,8,8,8,8,8,8,8,8,8,8,8,8,8,8,8,8,8,8,8,8,8,8,8,8,8,8,8,8,8,8,8,8,8,8,8,8,8,8,8,8,8,8,8,8,8,8,8,8,8,8,8,8,8,8,8,8,8,8,8,8,8,8,8,8,8,8,8,8,8,8,8,8,8,8,8,8,8,8,8,8,8,8,8,8,8,8,8,8,8,8,8,8,8,8,8,8,8,8,8,8,8,8,8,8,8,8,8,8,8,8,8,8,8,8,8,8,8,8,8,8,8,8,8,8,8,8,8,8]).size:Nat):Int) then (some (w64 (y3.2+(w64 (((Br (bs [0,1,2,2,3,3,3,3,4,4,4,4,4,4,4,4,5,5,5,5,5,5,5,5,5,5,5,5,5,5,5,5,6,6,6,6,6,6,6,6,6,6,6,6,6,6,6,6,6,6,6,6,6,6,6,6,6,6,6,6,6,6,6,6,7,7,7,7,7,7,7,7,7,7,7,7,7,7,7,7,7,7,7,7,7,7,7,7,7,7,7,7,7,7,7,7,7,7,7,7,7,7,7,7,7,7,7,7,7,7,7,7,7,7,7,7,7,7,7,7,7,7,7,7,7,7,7,7,8,8,8,8,8,8,8,8,8,8,8,8,8,8,8,8,8,8,8,8,8,8,8,8,8,8,8,8,8,8,8,8,8,8,8,8,8,8,8,8,8,8,8,8,8,8,8,8,8,8,8,8,8,8,8,8,8,8,8,8,8,8,8,8,8,8,8,8,8,8,8,8,8,8,8,8,8,8,8,8,8,8,8,8,8,8,8,8,8,8,8,8,8,8,8,8,8,8,8,8,8,8,8,8,8,8,8,8,8,8,8,8,8,8,8,8,8,8,8,8,8,8,8,8,8,8,8,8]) (Int.toNat (IntKind.u8.wrap y3.1))):Nat):Int))))) else none)
def AcF (y2:Int×Int):Option Int:=(if (decide (y2.1≥256)) then (Acc ((kshr .u64 y2.1 8),(w64 (y2.2+8)))) else (Acc (y2.1,y2.2)))
def Acn (y1:Int×Int):Option Int:=(if (decide (y1.1≥65536)) then (AcF ((kshr .u64 y1.1 16),(w64 (y1.2+16)))) else (AcF (y1.1,y1.2)))
def Akd (p0:Int):Option Int:=(if (decide (p0≥4294967296)) then (Acn ((kshr .u64 p0 32),32)) else (Acn (p0,0)))
def Ps (p0:Int):Option Int:=(Option.bind (Akd p0) fun r1=>(some r1))
def Wk (p0:Int):Option Bool:=(some (p0 != p0))
def Nz (y1:Bool):Option Bool:=(some y1)
def Hy (p0:Int) (p1:Int):Option Bool:=(Option.bind (Wk p0) fun r1=>(if r1 then (Option.bind (Wk p1) fun r3=>(if (!r3) then (Nz true) else (Nz (decide (p0<p1))))) else (Nz (decide (p0<p1)))))
def Et (n1:(List Int)→Option (List Int)) (s4:(List Int)×Int) (n4:((List Int)×Int)→Option (List Int)) (y6:Bool):Option (List Int):=(if y6 then (if 0≤(w64 (s4.2-1))∧(w64 (s4.2-1))<((s4.1.length:Nat):Int) then (if (Int.toNat (w64 (s4.2-1)))<s4.1.length then (if 0≤s4.2∧s4.2<((s4.1.length:Nat):Int) then (if (Int.toNat s4.2)<s4.1.length then (if 0≤s4.2∧s4.2<((s4.1.length:Nat):Int) then (if (Int.toNat s4.2)<s4.1.length then (if 0≤(w64 (s4.2-1))∧(w64 (s4.2-1))<((s4.1.length:Nat):Int) then (if (Int.toNat (w64 (s4.2-1)))<s4.1.length then (n4 (((s4.1.set (Int.toNat s4.2) (s4.1.getD (Int.toNat (w64 (s4.2-1))) 0)).set (Int.toNat (w64 (s4.2-1))) (s4.1.getD (Int.toNat s4.2) 0)),(w64 (s4.2-1)))) else none) else none) else none) else none) else none) else none) else none) else none) else (n1 s4.1))
def Ld (p1:Int) (n1:(List Int)→Option (List Int)) (s4:(List Int)×Int) (n4:((List Int)×Int)→Option (List Int)):Option (List Int):=(if (decide (s4.2>p1)) then (if 0≤s4.2∧s4.2<((s4.1.length:Nat):Int) then (if (Int.toNat s4.2)<s4.1.length then (if 0≤(w64 (s4.2-1))∧(w64 (s4.2-1))<((s4.1.length:Nat):Int) then (if (Int.toNat (w64 (s4.2-1)))<s4.1.length then (Option.bind (Hy (s4.1.getD (Int.toNat s4.2) 0) (s4.1.getD (Int.toNat (w64 (s4.2-1))) 0)) fun r96=>((Et n1 s4 n4) r96)) else none) else none) else none) else none) else ((Et n1 s4 n4) false))
def Ky (p1:Int) (k1:Int) (s1:List Int) (n1:(List Int)→Option (List Int)):Option (List Int):=(whileO (Ld p1 n1) Fm (s1,k1))
def Vs (s1:List Int):Option (List Int):=(some s1)
def Fc (p0:List Int) (p1:Int) (p2:Int):Option (List Int):=(if -9223372036854775808≤(w64 (p1+1))∧p2≤9223372036854775807 then (forO (Ky p1) Vs (Int.toNat (p2-(w64 (p1+1)))) (w64 (p1+1)) p0) else none)
def Ep (p0:List Int) (p1:Int) (p2:Int) (p3:Int):Option (Int×Int×Int):=(if 0≤p2∧p2<((p0.length:Nat):Int) then (if 0≤p1∧p1<((p0.length:Nat):Int) then (Option.bind (Hy (p0.getD (Int.toNat p2) 0) (p0.getD (Int.toNat p1) 0)) fun r3=>(if r3 then (some (p2,p1,(w64 (p3+1)))) else (some (p1,p2,p3)))) else none) else none)
def Fx (p0:List Int) (p1:Int) (p2:Int) (p3:Int) (p4:Int):Option (Int×Int):=(Option.bind (Ep p0 p1 p2 p4) fun r1=>(Option.bind (Ep p0 r1.2.1 p3 r1.2.2) fun r2=>(Option.bind (Ep p0 r1.1 r2.1 r2.2.2) fun r3=>(some (r3.2.1,r3.2.2)))))
def Dc (p0:List Int) (p1:Int) (p2:Int):Option (Int×Int):=(Option.bind (Fx p0 (w64 (p1-1)) p1 (w64 (p1+1)) p2) fun r1=>(some (r1.1,r1.2)))
def Fa (y1:Int×Int):Option (Int×Int):=(if (y1.1==0) then (some (y1.2,1)) else (if (y1.1==12) then (some (y1.2,2)) else (some (y1.2,0))))
def Fb (p0:List Int) (y2:Int×Int×Int×Int):Option (Int×Int):=(Option.bind (Fx p0 y2.2.1 y2.2.2.1 y2.2.2.2 y2.1) fun r6=>(Fa (r6.2,r6.1)))
def Ft (p0:List Int) (p1:Int) (p2:Int):Option (Int×Int):=(if (decide ((w64 (p2-p1))≥8)) then (if (decide ((w64 (p2-p1))≥50)) then (Option.bind (Dc p0 (w64 (p1+(w64 ((w64 (Int.tdiv (w64 (p2-p1)) 4))*1)))) 0) fun r3=>(Option.bind (Dc p0 (w64 (p1+(w64 ((w64 (Int.tdiv (w64 (p2-p1)) 4))*2)))) r3.2) fun r4=>(Option.bind (Dc p0 (w64 (p1+(w64 ((w64 (Int.tdiv (w64 (p2-p1)) 4))*3)))) r4.2) fun r5=>((Fb p0) (r5.2,r3.1,r4.1,r5.1))))) else ((Fb p0) (0,(w64 (p1+(w64 ((w64 (Int.tdiv (w64 (p2-p1)) 4))*1)))),(w64 (p1+(w64 ((w64 (Int.tdiv (w64 (p2-p1)) 4))*2)))),(w64 (p1+(w64 ((w64 (Int.tdiv (w64 (p2-p1)) 4))*3))))))) else (Fa (0,(w64 (p1+(w64 ((w64 (Int.tdiv (w64 (p2-p1)) 4))*2)))))))
def Dj (n1:((List Int)×Int)→Option (Bool×(List Int))) (y11:(List Int)×Int):Option (Bool×(List Int)):=(n1 (y11.1,y11.2))
def Oz (n1:((List Int)×Int)→Option (Bool×(List Int))) (s12:Int) (k16:Int) (s16:List Int) (n16:(List Int)→Option (Bool×(List Int))):Option (Bool×(List Int)):=(if 0≤k16∧k16<((s16.length:Nat):Int) then (if (Int.toNat k16)<s16.length then (if 0≤(w64 (k16-1))∧(w64 (k16-1))<((s16.length:Nat):Int) then (if (Int.toNat (w64 (k16-1)))<s16.length then (Option.bind (Hy (s16.getD (Int.toNat k16) 0) (s16.getD (Int.toNat (w64 (k16-1))) 0)) fun r570=>(if (!r570) then ((Dj n1) (s16,s12)) else (if 0≤(w64 (k16-1))∧(w64 (k16-1))<((s16.length:Nat):Int) then (if (Int.toNat (w64 (k16-1)))<s16.length then (if 0≤k16∧k16<((s16.length:Nat):Int) then (if (Int.toNat k16)<s16.length then (if 0≤k16∧k16<((s16.length:Nat):Int) then (if (Int.toNat k16)<s16.length then (if 0≤(w64 (k16-1))∧(w64 (k16-1))<((s16.length:Nat):Int) then (if (Int.toNat (w64 (k16-1)))<s16.length then (n16 ((s16.set (Int.toNat k16) (s16.getD (Int.toNat (w64 (k16-1))) 0)).set (Int.toNat (w64 (k16-1))) (s16.getD (Int.toNat k16) 0))) else none) else none) else none) else none) else none) else none) else none) else none))) else none) else none) else none) else none)
def Pd (n1:((List Int)×Int)→Option (Bool×(List Int))) (s12:Int) (s16:List Int):Option (Bool×(List Int)):=((Dj n1) (s16,s12))
def Dl (p2:Int) (n1:((List Int)×Int)→Option (Bool×(List Int))) (s12:Int) (y15:List Int):Option (Bool×(List Int)):=(if (decide ((w64 (p2-s12))≥2)) then (if -9223372036854775808≤(w64 (s12+1))∧p2≤9223372036854775807 then (forO (Oz n1 s12) (Pd n1 s12) (Int.toNat (p2-(w64 (s12+1)))) (w64 (s12+1)) y15) else none) else ((Dj n1) (y15,s12)))
def Pa (p2:Int) (n1:((List Int)×Int)→Option (Bool×(List Int))) (s12:Int) (s15:(List Int)×Int) (n15:((List Int)×Int)→Option (Bool×(List Int))):Option (Bool×(List Int)):=(if (decide (s15.2≥1)) then (if 0≤s15.2∧s15.2<((s15.1.length:Nat):Int) then (if (Int.toNat s15.2)<s15.1.length then (if 0≤(w64 (s15.2-1))∧(w64 (s15.2-1))<((s15.1.length:Nat):Int) then (if (Int.toNat (w64 (s15.2-1)))<s15.1.length then (Option.bind (Hy (s15.1.getD (Int.toNat s15.2) 0) (s15.1.getD (Int.toNat (w64 (s15.2-1))) 0)) fun r524=>(if (!r524) then ((Dl p2 n1 s12) s15.1) else (if 0≤(w64 (s15.2-1))∧(w64 (s15.2-1))<((s15.1.length:Nat):Int) then (if (Int.toNat (w64 (s15.2-1)))<s15.1.length then (if 0≤s15.2∧s15.2<((s15.1.length:Nat):Int) then (if (Int.toNat s15.2)<s15.1.length then (if 0≤s15.2∧s15.2<((s15.1.length:Nat):Int) then (if (Int.toNat s15.2)<s15.1.length then (if 0≤(w64 (s15.2-1))∧(w64 (s15.2-1))<((s15.1.length:Nat):Int) then (if (Int.toNat (w64 (s15.2-1)))<s15.1.length then (n15 (((s15.1.set (Int.toNat s15.2) (s15.1.getD (Int.toNat (w64 (s15.2-1))) 0)).set (Int.toNat (w64 (s15.2-1))) (s15.1.getD (Int.toNat s15.2) 0)),(w64 (s15.2-1)))) else none) else none) else none) else none) else none) else none) else none) else none))) else none) else none) else none) else none) else ((Dl p2 n1 s12) s15.1))
def Dk (p1:Int) (p2:Int) (s1:(List Int)×Int) (n1:((List Int)×Int)→Option (Bool×(List Int))) (s12:Int) (n12:Int→Option (Bool×(List Int))) (y14:Bool):Option (Bool×(List Int)):=(if y14 then (n12 (w64 (s12+1))) else (if (s12==p2) then (some (true,s1.1)) else (if (decide ((w64 (p2-p1))<50)) then (some (false,s1.1)) else (if 0≤(w64 (s12-1))∧(w64 (s12-1))<((s1.1.length:Nat):Int) then (if (Int.toNat (w64 (s12-1)))<s1.1.length then (if 0≤s12∧s12<((s1.1.length:Nat):Int) then (if (Int.toNat s12)<s1.1.length then (if 0≤s12∧s12<((s1.1.length:Nat):Int) then (if (Int.toNat s12)<s1.1.length then (if 0≤(w64 (s12-1))∧(w64 (s12-1))<((s1.1.length:Nat):Int) then (if (Int.toNat (w64 (s12-1)))<s1.1.length then (if (decide ((w64 (s12-p1))≥2)) then (whileO (Pa p2 n1 s12) Fm (((s1.1.set (Int.toNat s12) (s1.1.getD (Int.toNat (w64 (s12-1))) 0)).set (Int.toNat (w64 (s12-1))) (s1.1.getD (Int.toNat s12) 0)),(w64 (s12-1)))) else ((Dl p2 n1 s12) ((s1.1.set (Int.toNat s12) (s1.1.getD (Int.toNat (w64 (s12-1))) 0)).set (Int.toNat (w64 (s12-1))) (s1.1.getD (Int.toNat s12) 0)))) else none) else none) else none) else none) else none) else none) else none) else none))))
def Hk (p1:Int) (p2:Int) (s1:(List Int)×Int) (n1:((List Int)×Int)→Option (Bool×(List Int))) (s12:Int) (n12:Int→Option (Bool×(List Int))):Option (Bool×(List Int)):=(if (decide (s12<p2)) then (if 0≤s12∧s12<((s1.1.length:Nat):Int) then (if (Int.toNat s12)<s1.1.length then (if 0≤(w64 (s12-1))∧(w64 (s12-1))<((s1.1.length:Nat):Int) then (if (Int.toNat (w64 (s12-1)))<s1.1.length then (Option.bind (Hy (s1.1.getD (Int.toNat s12) 0) (s1.1.getD (Int.toNat (w64 (s12-1))) 0)) fun r491=>((Dk p1 p2 s1 n1 s12 n12) (!r491))) else none) else none) else none) else none) else ((Dk p1 p2 s1 n1 s12 n12) false))
def Hu (p1:Int) (p2:Int) (k1:Int) (s1:(List Int)×Int) (n1:((List Int)×Int)→Option (Bool×(List Int))):Option (Bool×(List Int)):=(whileO (Hk p1 p2 s1 n1) Fm s1.2)
def Qd (s1:(List Int)×Int):Option (Bool×(List Int)):=(some (false,s1.1))
def Ea (p0:List Int) (p1:Int) (p2:Int):Option (Bool×(List Int)):=(forO (Hu p1 p2) Qd (Int.toNat (5-0)) 0 (p0,(w64 (p1+1))))
def AoK (p0:Int):Option Int:=(Option.bind (Ps (IntKind.u64.wrap p0)) fun r1=>(if (0:Int)≤r1 then (some (kshl .u64 1 r1)) else none))
def Apt (p0:Int):Option (Int×Int):=(some ((kxor .u64 (kxor .u64 (kxor .u64 p0 (kshl .u64 p0 13)) (kshr .u64 (kxor .u64 p0 (kshl .u64 p0 13)) 7)) (kshl .u64 (kxor .u64 (kxor .u64 p0 (kshl .u64 p0 13)) (kshr .u64 (kxor .u64 p0 (kshl .u64 p0 13)) 7)) 17)),(kxor .u64 (kxor .u64 (kxor .u64 p0 (kshl .u64 p0 13)) (kshr .u64 (kxor .u64 p0 (kshl .u64 p0 13)) 7)) (kshl .u64 (kxor .u64 (kxor .u64 p0 (kshl .u64 p0 13)) (kshr .u64 (kxor .u64 p0 (kshl .u64 p0 13)) 7)) 17))))
def Jp (y3:Bool):Option (List Int):=(if y3 then none else none)
def Jm (p1:Int) (r5:Int×Int) (y2:List Int):Option (List Int):=(if (decide (p1>0)) then (if 0≤(w64 (p1-1))∧(w64 (p1-1))<((y2.length:Nat):Int) then (if (Int.toNat (w64 (p1-1)))<y2.length then (if 0≤r5.1∧r5.1<((y2.length:Nat):Int) then (if (Int.toNat r5.1)<y2.length then (Option.bind (Hy (y2.getD (Int.toNat (w64 (p1-1))) 0) (y2.getD (Int.toNat r5.1) 0)) fun r16=>(Jp (!r16))) else none) else none) else none) else none) else (Jp false))
def Jq (p0:List Int) (p1:Int) (p2:Int) (r5:Int×Int) (y1:Unit):Option (List Int):=(if (r5.2==1) then (Option.bind (Ea p0 p1 p2) fun r8=>(if p0.length=r8.2.length then (if r8.1 then (some r8.2) else ((Jm p1 r5) r8.2)) else none)) else ((Jm p1 r5) p0))
def Pg (p0:List Int) (p1:Int) (p2:Int) (p3:Int) (s1:Unit) (n1:Unit→Option (List Int)):Option (List Int):=(if (decide ((w64 (p2-p1))≤12)) then (Option.bind (Fc p0 p1 p2) fun r2=>(if p0.length=r2.length then (some r2) else none)) else (if (p3==0) then none else (Option.bind (Ft p0 p1 p2) fun r5=>(if (r5.2==2) then none else ((Jq p0 p1 p2 r5) ())))))
def Ku (p0:List Int) (p1:Int) (p2:Int) (p3:Int):Option (List Int):=(whileO (Pg p0 p1 p2 p3) Fm ())
def Rp (p0:List Int):Option (List Int):=(Option.bind (Ps (IntKind.u64.wrap ((p0.length:Nat):Int))) fun r1=>(Option.bind (Ku p0 0 ((p0.length:Nat):Int) r1) fun r2=>(if p0.length=r2.length then (some r2) else none)))
def Pt (n4:((List Int)×Int)→Option (Nat×(List Int))) (y9:(List Int)×Int):Option (Nat×(List Int)):=(n4 (y9.1,y9.2))
def AeV (p0:List Int) (k1:Int) (k4:Int) (s4:(List Int)×Int) (n4:((List Int)×Int)→Option (Nat×(List Int))):Option (Nat×(List Int)):=(if 0≤k4∧k4<(((Fz p0.length (Int.toNat k1)):Nat):Int) then (if (Zl (Int.toNat k1) (Int.toNat k4))<s4.1.length then (if 0≤(w64 (k4-1))∧(w64 (k4-1))<(((Fz p0.length (Int.toNat k1)):Nat):Int) then (if (Zl (Int.toNat k1) (Int.toNat (w64 (k4-1))))<s4.1.length then (if ((s4.1.getD (Zl (Int.toNat k1) (Int.toNat k4)) 0) != (s4.1.getD (Zl (Int.toNat k1) (Int.toNat (w64 (k4-1)))) 0)) then (if 0≤k4∧k4<(((Fz p0.length (Int.toNat k1)):Nat):Int) then (if (Zl (Int.toNat k1) (Int.toNat k4))<s4.1.length then (if 0≤s4.2∧s4.2<((s4.1.length:Nat):Int) then (if (Int.toNat s4.2)<s4.1.length then ((Pt n4) ((s4.1.set (Int.toNat s4.2) (s4.1.getD (Zl (Int.toNat k1) (Int.toNat k4)) 0)),(w64 (s4.2+1)))) else none) else none) else none) else none) else ((Pt n4) (s4.1,s4.2))) else none) else none) else none) else none)
def AeZ (s4:(List Int)×Int):Option (Nat×(List Int)):=(if 0≤s4.2∧s4.2≤((s4.1.length:Nat):Int) then (if (Int.toNat s4.2)+(Fz s4.1.length (Int.toNat s4.2))≤s4.1.length then (if 0≤s4.2∧s4.2≤(((Hj s4.1 (Int.toNat s4.2) (Fz s4.1.length (Int.toNat s4.2)) 0).length:Nat):Int) then (some ((Int.toNat s4.2),(Hj s4.1 (Int.toNat s4.2) (Fz s4.1.length (Int.toNat s4.2)) 0))) else none) else none) else none)
def Yx (p0:List Int) (k1:Int) (s1:Unit) (n1:Unit→Option (Nat×(List Int))):Option (Nat×(List Int)):=(if 0≤k1∧k1<((p0.length:Nat):Int) then (if (Int.toNat k1)<p0.length then (if 0≤(w64 (k1-1))∧(w64 (k1-1))<((p0.length:Nat):Int) then (if (Int.toNat (w64 (k1-1)))<p0.length then (if ((p0.getD (Int.toNat k1) 0)==(p0.getD (Int.toNat (w64 (k1-1))) 0)) then (if 0≤k1∧k1≤((p0.length:Nat):Int) then (if (((Fz p0.length (Int.toNat k1)):Nat):Int)≤9223372036854775807 then (forO (AeV p0 k1) AeZ (Int.toNat ((((Fz p0.length (Int.toNat k1)):Nat):Int)-1)) 1 (p0,k1)) else none) else none) else (n1 ())) else none) else none) else none) else none)
def Afd (p0:List Int) (s1:Unit):Option (Nat×(List Int)):=(some (p0.length,p0))
def Mo (p0:List Int):Option (Nat×(List Int)):=(if (decide (((p0.length:Nat):Int)<2)) then (some (p0.length,p0)) else (if p0.length≤9223372036854775807 then (forO (Yx p0) (Afd p0) (Int.toNat (((p0.length:Nat):Int)-1)) 1 ()) else none))
def AiL (p1:List Int) (k1:Nat) (x1:Int) (s1:Unit) (n1:Unit→Option Bool):Option Bool:=(if k1<p1.length then (if (x1 != (p1.getD k1 0)) then (some false) else (n1 ())) else none)
def Aoh (s1:Unit):Option Bool:=(some true)
def Adn (p0:List Int) (p1:List Int):Option Bool:=(if (((p0.length:Nat):Int) != ((p1.length:Nat):Int)) then (some false) else (if p0.length≤9223372036854775807 then Az (AiL p1) Aoh p0 0 () else none))
end Go.Dm

namespace Go.Dm
end Go.Dm

namespace Go.Dm
def AcA (p0:Af):Option Af:=(Option.bind (Mz p0) fun r1=>(if (!r1) then (some ({ nodes := [],next:=0 } : Af)) else (some p0)))
def Aad (p0:Af) (p1:Int):Option (List Int):=(Option.bind (AcA p0) fun r1=>(Option.bind (Lu r1 p1) fun r2=>(some r2)))
def Abz (p0:Af) (p1:Int):Option Int:=(Option.bind (Aad p0 p1) fun r1=>(some (w64 (((r1.length:Nat):Int)-1))))
end Go.Dm

namespace Go.Dm
structure Frost where
 group:Int
 want:Bool
 frozen:Bool
 changes:Int
 deriving Inhabited
structure Freezer where
 frosts:List Frost
 stopped:List Int
 deriving Inhabited
def Dz (p0:List Int):Option (List Int):=(if 0+p0.length≤1073741824 then (some p0) else none)
def Zg (p0:List Int):Option (List Int):=(some [])
end Go.Dm

namespace Go.Dm
end Go.Dm

namespace Go.Dm
def req1 (k n:Nat):MV→List Prop
 | .own k' _ off len=>bif Nat.beq k' k then [off+len≤n] else []
 | .eref k' _ i _=>bif Nat.beq k' k then [i<n] else []
 | .agg _ => [False]
 | .tup _ => [False]
 | .fn _ _ => [False]
 | _ => []
def reqs (k n:Nat):List MV→List Prop
 | [] => []
 | x::r=>req1 k n x++reqs k n r
def reqV (k n:Nat):MV→List Prop
 | .agg cs=>reqs k n cs
 | .tup cs=>reqs k n cs
 | .fn _ cs=>reqs k n cs
 | x=>req1 k n x
def reqS (k n:Nat):List (Nat×MV)→List Prop
 | [] => []
 | (_,x)::r=>reqV k n x++reqS k n r
def reqB (k n:Nat):Body→List Prop
 | .box cs=>reqs k n cs
 | _ => []
def reqO (k n:Nat):List (Nat×Obj)→List Prop
 | [] => []
 | (_,o)::r=>reqB k n o.body++reqO k n r
def cutB (n:Nat):Body→Body
 | .row W _ f => .row W n f
 | b=>b
def Wo (k n:Nat):List (Nat×Obj)→List (Nat×Obj)
 | [] => []
 | (j,o)::r=>bif Nat.beq j k then (j,⟨o.gen,cutB n o.body⟩)::Wo k n r else (j,o)::Wo k n r
def rowN : Option Obj→Option Nat
 | some ⟨_,.row _ n _⟩=>some n
 | _=>none
theorem AeO (k n:Nat):∀ (l:List (Nat×Obj)) (j:Nat),assoc (Wo k n l) j=(assoc l j).map fun o=>bif Nat.beq j k then ⟨o.gen,cutB n o.body⟩ else o
 | [],j=>rfl
 | (i,o)::r,j=>by
  simp only [Wo]
  cases hb:Nat.beq i k with
  | true =>
   simp only [cond_true,assoc]
   cases hj:Nat.beq j i with
   | true =>
    have e1:=Nat.eq_of_beq_eq_true hj
    subst e1
    simp [hb]
   | false=>simpa using AeO k n r j
  | false =>
   simp only [cond_false,assoc]
   cases hj:Nat.beq j i with
   | true =>
    have e1:=Nat.eq_of_beq_eq_true hj
    subst e1
    simp [hb]
   | false=>simpa using AeO k n r j
theorem Ani {k n:Nat} : ∀ {l:List (Nat×MV)} {t:Nat} {x:MV},All (reqS k n l)→assoc l t=some x→All (reqV k n x)
 | [],t,x,_,h=>by simp [assoc] at h
 | (i,y)::r,t,x,ha,h=>by
  simp only [reqS,All_append] at ha
  simp only [assoc] at h
  cases hb:Nat.beq t i with
  | true=>simp [hb] at h; subst h; exact ha.1
  | false=>simp [hb] at h; exact Ani ha.2 h
theorem Anh {k n:Nat} : ∀ {l:List (Nat×Obj)} {t:Nat} {x:Obj},All (reqO k n l)→assoc l t=some x→All (reqB k n x.body)
 | [],t,x,_,h=>by simp [assoc] at h
 | (i,y)::r,t,x,ha,h=>by
  simp only [reqO,All_append] at ha
  simp only [assoc] at h
  cases hb:Nat.beq t i with
  | true=>simp [hb] at h; subst h; exact ha.1
  | false=>simp [hb] at h; exact Anh ha.2 h
theorem Aci {k n:Nat} : ∀ {l:List MV} {j:Nat} {x:MV},All (reqs k n l)→l[j]? = some x→All (req1 k n x)
 | [],j,x,_,h=>by simp at h
 | y::r,0,x,ha,h=>by
  simp only [reqs,All_append] at ha
  simp at h
  subst h
  exact ha.1
 | y::r,j+1,x,ha,h=>by
  simp only [reqs,All_append] at ha
  exact Aci ha.2 (by simpa using h)
section
variable {P : Program} {cx:Cx P} {β:Bi} {a:Act} {w:World}
theorem Rel.cut {k n n0:Nat} {sl:List (Nat×MV)} {ob:List (Nat×Obj)} (h:Rel cx β (Ae sl ob) a w) (hn:rowN (assoc ob k)=some n0) (hle:n≤n0) (hs:All (reqS k n sl)) (ho:All (reqO k n ob)):Rel cx β (Ae sl (Wo k n ob)) a w:=by
 obtain ⟨g0,W,f,hk⟩:∃ g0 W f,assoc ob k=some ⟨g0,.row W n0 f⟩:=by
  unfold rowN at hn
  split at hn
  ·rename_i g W m f he
   simp at hn
   subst hn
   exact ⟨g,W,f,he⟩
  ·simp at hn
 have hget:∀ j o',assoc (Wo k n ob) j=some o'→∃ o,assoc ob j=some o∧o'.gen=o.gen∧(o'.body.live↔o.body.live)∧(j≠k→o'=o)∧(j=k→o'.body = .row W n f∧o.body = .row W n0 f):=by
  intro j o' hj
  rw [AeO] at hj
  cases hq:assoc ob j with
  | none=>simp [hq] at hj
  | some o =>
   simp only [hq,Option.map_some,Option.some.injEq] at hj
   subst hj
   cases hb:Nat.beq j k with
   | true =>
    have e:=Nat.eq_of_beq_eq_true hb
    subst e
    rw [hk] at hq
    injection hq with hq
    subst hq
    exact ⟨_,rfl,rfl,by simp [cutB,Body.live],fun e=>absurd rfl e,fun _=>⟨rfl,rfl⟩⟩
   | false =>
    have e:j≠k:=fun e=>by rw [e,Ch] at hb; simp at hb
    exact ⟨o,rfl,rfl,Iff.rfl,fun _=>rfl,fun e'=>absurd e' e⟩
 have hput:∀ j o,assoc ob j=some o→∃ o',assoc (Wo k n ob) j=some o'∧o'.gen=o.gen∧(j≠k→o'=o)∧(j=k→o'.body = .row W n f∧o.body = .row W n0 f):=by
  intro j o hj
  cases hq:assoc (Wo k n ob) j with
  | none=>rw [AeO,hj] at hq; simp at hq
  | some o' =>
   obtain ⟨o1,h1,h2,_,h3,h4⟩:=hget j o' hq
   rw [hj] at h1
   injection h1 with h1
   subst h1
   exact ⟨o',rfl,h2,h3,h4⟩
 have hS:∀ b,Al cx.Av β (assoc ob) w b→Al cx.Av β (assoc (Wo k n ob)) w b:=by
  intro b hb
  refine ⟨hb.1,hb.2.1,fun j o' hj hl => ?_⟩
  obtain ⟨o,h1,_,h2,_⟩:=hget j o' hj
  exact hb.2.2 j o h1 (h2.1 hl)
 have known:∀ (j g:Nat) (F F':Loc→Body→Prop),Known β (assoc ob) j g F→(∀ l b,j≠k→F l b→F' l b)→(∀ l,j=k→F l (.row W n0 f)→F' l (.row W n f))→Known β (assoc (Wo k n ob)) j g F':=by
  rintro j g F F' ⟨o,q1,q2,q3⟩ h1 h2
  obtain ⟨o',r1,r2,r3,r4⟩:=hput j o q1
  refine ⟨o',r1,by omega,fun e => ?_⟩
  have hF:=q3 (by omega)
  by_cases e2:j=k
  ·obtain ⟨e3,e4⟩:=r4 e2
   rw [e3]
   rw [e4] at hF
   exact h2 _ e2 hF
  ·rw [r3 e2]
   exact h1 _ _ e2 hF
 have one:∀ (v:Value) (x:MV),RelV β (assoc ob) (Al cx.Av β (assoc ob) w) w v x→All (req1 k n x)→RelV β (assoc (Wo k n ob)) (Al cx.Av β (assoc (Wo k n ob)) w) w v x:=by
  intro v x hr hq
  cases hr with
  | p _ _ h=>exact .p _ _ (h.mono hS (fun _ _=>rfl))
  | own k' g off len base c h =>
   refine .own _ _ _ _ _ _ (known k' g _ _ h (fun l b _ hF=>hF) fun l e hF => ?_)
   subst e
   simp only [req1,Ch,cond_true,All,and_true] at hq
   exact ⟨hq,hF.2⟩
  | ref k' g off b h=>exact .ref _ _ _ _ (known k' g _ _ h (fun _ _ _ h=>h) fun _ _ h=>h)
  | eref k' g i off b oo h =>
   refine .eref _ _ _ _ _ _ (known k' g _ _ h (fun l b _ hF=>hF) fun l e hF => ?_)
   subst e
   simp only [req1,Ch,cond_true,All,and_true] at hq
   exact ⟨hq,hF.2⟩
  | fptr cs b o hs c hc h1 hr=>exact .fptr _ _ _ (hS _ hs) c hc h1 (fun j x hx=>(hr j x hx).mono hS (fun _ _=>rfl))
  | mref k' g b h=>exact .mref _ _ _ (known k' g _ _ h (fun _ _ _ h=>h) fun _ _ h=>h)
  | und=>exact .und
  | any v=>exact .any v
  | agg cs vs hl hr h1=>simp [req1,All] at hq
  | tup cs vs hl hr=>simp [req1,All] at hq
  | fn f cs vs hl hr=>simp [req1,All] at hq
 have all:∀ (v:Value) (x:MV),RelV β (assoc ob) (Al cx.Av β (assoc ob) w) w v x→All (reqV k n x)→RelV β (assoc (Wo k n ob)) (Al cx.Av β (assoc (Wo k n ob)) w) w v x:=by
  intro v x hr hq
  cases hr with
  | agg cs vs hl hr h1=>exact .agg _ _ hl (fun i y hy=>one _ _ (hr i y hy) (Aci hq hy)) h1
  | tup cs vs hl hr=>exact .tup _ _ hl (fun i y hy=>one _ _ (hr i y hy) (Aci hq hy))
  | fn f cs vs hl hr=>exact .fn _ _ _ hl (fun i y hy=>one _ _ (hr i y hy) (Aci hq hy))
  | p _ _ h=>exact one _ _ (.p _ _ h) hq
  | own i g off len base c h=>exact one _ _ (.own _ _ _ _ _ _ h) hq
  | ref i g off b h=>exact one _ _ (.ref _ _ _ _ h) hq
  | eref i g ix off b oo h=>exact one _ _ (.eref _ _ _ _ _ _ h) hq
  | fptr cs b o hs c hc h1 hr=>exact one _ _ (.fptr _ _ _ hs c hc h1 hr) hq
  | mref i g b h=>exact one _ _ (.mref _ _ _ h) hq
  | und=>exact one _ _ .und hq
  | any v=>exact one _ _ (.any v) hq
 refine ⟨h.nd,h.sz,fun t => ?_,fun j o' hj => ?_,fun j o' b hj hl hb => ?_,fun j j' o o' b hj hj' hl hl' hne hb => ?_,h.kept,h.avo,h.avlt,h.mle,fun j o' hjm hj hg => ?_⟩
 ·have:=h.sl t
  simp only [Ae] at this ⊢
  cases ht:assoc sl t with
  | none=>exact .any _
  | some x =>
   rw [ht] at this
   exact all _ _ this (Ani hs ht)
 ·obtain ⟨o,h1,h2,_,h3,h4⟩:=hget j o' hj
  have hr:=h.ob j o h1
  by_cases e:j=k
  ·obtain ⟨e1,e2⟩:=h4 e
   rw [e1]
   rw [e2] at hr
   rcases hr with ⟨q1,q2⟩|⟨b,oo,cap,cur,e',q0,q1,q2,q3,q4⟩
   ·exact .inl ⟨q1,by omega⟩
   ·exact .inr ⟨b,oo,cap,cur,e',q0,q1,q2,by omega,fun i hi=>⟨(q4 i (by omega)).1,(q4 i (by omega)).2.mono hS (fun _ _=>rfl)⟩⟩
  ·rw [h3 e]
   have hq:=Anh ho h1
   cases hbd:o.body with
   | dead=>trivial
   | mq q=>rw [hbd] at hr; exact QRel.mono hS (fun _ _=>rfl) (fun _ _=>rfl) hr
   | row W' n' f' =>
    rw [hbd] at hr
    rcases hr with q|⟨b,oo,cap,cur,e',q0,q1,q2,q3,q4⟩
    ·exact .inl q
    ·exact .inr ⟨b,oo,cap,cur,e',q0,q1,q2,q3,fun i hi=>⟨(q4 i hi).1,(q4 i hi).2.mono hS (fun _ _=>rfl)⟩⟩
   | mp z has f' =>
    rw [hbd] at hr
    obtain ⟨b,es,clock,q0,q1,q2,q3,q4⟩:=hr
    exact ⟨b,es,clock,q0,q1,q2,q3,fun i e n he hn=>(q4 i e n he hn).mono hS (fun _ _=>rfl)⟩
   | box cs =>
    rw [hbd] at hr hq
    obtain ⟨b,cur,e',q0,q1,q2,q3⟩:=hr
    refine ⟨b,cur,e',q0,q1,q2,fun i x hx => ?_⟩
    obtain ⟨u,u1,u2,u3⟩:=q3 i x hx
    exact ⟨u,u1,u2,one _ _ u3 (Aci hq hx)⟩
 ·obtain ⟨o,h1,h2,h3,_⟩:=hget j o' hj
  exact h.blk j o b h1 (h3.1 hl) hb
 ·obtain ⟨q,h1,_,h3,_⟩:=hget j o hj
  obtain ⟨q',r1,_,r3,_⟩:=hget j' o' hj'
  exact h.inj j j' q q' b h1 r1 (h3.1 hl) (r3.1 hl') hne hb
 ·obtain ⟨o,h1,h2,_⟩:=hget j o' hj
  exact h.oloc j o hjm h1 (by omega)
def cutQ (k n:Nat) (sl:List (Nat×MV)) (ob:List (Nat×Obj)):Option ((List (Nat×MV)×List (Nat×Obj))×Prop) :=
 match rowN (assoc ob k) with
 | some n0=>some ((sl,Wo k n ob),n≤n0∧All (reqS k n sl++reqO k n ob))
 | none=>none
theorem Conv.cut (k n:Nat) {sl sl':List (Nat×MV)} {ob ob':List (Nat×Obj)} {q:Prop} (hq:q) (h:cutQ k n sl ob=some ((sl',ob'),q):=by kernel_rfl):Conv cx (Ae sl ob) (Ae sl' ob'):=by
 intro β a w hr
 unfold cutQ at h
 split at h
 ·rename_i n0 hn
  simp only [Option.some.injEq,Prod.mk.injEq] at h
  obtain ⟨⟨rfl,rfl⟩,rfl⟩:=h
  have h2:=All_append.1 hq.2
  exact ⟨β,hr.cut hn hq.1 h2.1 h2.2⟩
 ·simp at h
end
end Go.Dm

namespace Go.Dm
def rk (k k' j:Nat):Nat:=bif Nat.beq j k then k' else j
section
variable {P : Program} {cx:Cx P} {β:Bi} {a:Act} {w:World}
end
end Go.Dm

namespace Go.Dm
open Classical
instance {α : Type} [Inhabited α]:Inhabited (IMap α):=⟨⟨fun _=>false,fun _=>default⟩⟩
noncomputable def rangeM {S R:Type} (B:Int→S→(S→Option R)→Option R) (D:S→Option R):Nat→(Int→Bool)→S→Option R
 | 0,_,_=>none
 | m+1,rem,s =>
  if (∀ n,rem n=false) then D s
  else if h:∃ r,∀ n,rem n=true→B n s (rangeM B D m (Ay rem n false))=some r then some h.choose else none
theorem Aot {S R:Type} {B:Int→S→(S→Option R)→Option R} {D:S→Option R} {m:Nat} {rem:Int→Bool} {s:S} {r:R} (h:rangeM B D (m+1) rem s=some r) :
  ((∀ n,rem n=false)→D s=some r)∧∀ n,rem n=true→B n s (rangeM B D m (Ay rem n false))=some r:=by
 rw [rangeM] at h
 by_cases h0:∀ n,rem n=false
 ·rw [if_pos h0] at h
  exact ⟨fun _=>h,fun n hn=>by rw [h0 n] at hn; simp at hn⟩
 ·rw [if_neg h0] at h
  refine ⟨fun h1=>absurd h1 h0,?_⟩
  by_cases h1:∃ r,∀ n,rem n=true→B n s (rangeM B D m (Ay rem n false))=some r
  ·rw [dif_pos h1] at h
   injection h with h
   subst h
   exact h1.choose_spec
  ·rw [dif_neg h1] at h
   simp at h
theorem AnV {S R:Type} {B:Int→S→(S→Option R)→Option R} {D:S→Option R} {rem:Int→Bool} {s:S} {r:R} (h:rangeM B D 0 rem s=some r):False:=by
 rw [rangeM] at h
 simp at h
theorem DW.rangeM {P:Program} {cx:Cx P} {σ:St} {Q:Exit→St→Prop} {S R:Type} {c:Code} {r:List Code} (I:(Int→Bool)→S→St) {B:Int→S→(S→Option R)→Option R} {D:S→Option R} {n:Nat} {rem0:Int→Bool} {s0:S} {res:R}
  (hm:Dm.rangeM B D n rem0 s0=some res) (h0:Conv cx σ (I rem0 s0))
  (round:∀ rem s (N:Int→S→Option R),(∀ n,rem n=true→B n s (N n)=some res)→((∀ n,rem n=false)→D s=some res) →
   DW P cx [c] (I rem s) (Jw cx (fun (q:Int×S)=>I (Ay rem q.1 false) q.2) (fun q=>rem q.1=true∧N q.1 q.2=some res) (KQ P cx r Q))):DW P cx (.loop c::r) σ Q:=by
 intro β a w hrel
 obtain ⟨β1,hrel1⟩:=h0 β a w hrel
 refine Qk (ι:=Nat×(Int→Bool)×S) (fun q a w=>∃ β,Rel cx β (I q.2.1 q.2.2) a w∧Dm.rangeM B D q.1 q.2.1 q.2.2=some res) (fun q=>q.1) (n,rem0,s0) ⟨β1,hrel1,hm⟩ ?_
 rintro ⟨m,rem,s⟩ a w ⟨β,hr,hmm⟩
 simp only at hr hmm
 cases m with
 | zero=>exact (AnV hmm).elim
 | succ m =>
  obtain ⟨h1,h2⟩:=Aot hmm
  refine wpIn_mono (round rem s (fun n=>Dm.rangeM B D m (Ay rem n false)) h2 h1 β a w hr) ?_
  rintro e a' w' ⟨β',σ',hq,hr'⟩
  cases e with
  | normal =>
   obtain ⟨⟨n,s'⟩,⟨hn,hN⟩,hc⟩:=hq
   obtain ⟨β2,hr2⟩:=hc β' a' w' hr'
   exact ⟨(m,Ay rem n false,s'),⟨β2,hr2,hN⟩,Nat.lt_succ_self m⟩
  | _=>exact ⟨β',σ',hq,hr'⟩
def Aev : List Oper→Option (Nat×Nat×Nat)
 | [⟨some d,.next (.tmp t) false,_,_,_,none⟩,⟨some d2,.extract (.tmp d') 0,_,_,_,none⟩]=>bif Nat.beq d d' then some (t,d,d2) else none
 | _=>none
theorem AiI {l:List Oper} {t d d2:Nat} (h:Aev l=some (t,d,d2)):∃ o0 o1:Oper,l = [o0,o1]∧o0.dst=some d∧o0.op = .next (.tmp t) false∧o0.guard=none∧o1.dst=some d2∧o1.op = .extract (.tmp d) 0∧o1.guard=none:=by
 unfold Aev at h
 split at h
 ·rename_i d0 t0 _ _ _ d20 d' _ _ _
  cases hb:Nat.beq d0 d' with
  | false=>simp [hb] at h
  | true =>
   simp only [hb,cond_true,Option.some.injEq,Prod.mk.injEq] at h
   obtain ⟨rfl,rfl,rfl⟩:=h
   have:=Nat.eq_of_beq_eq_true hb
   subst this
   exact ⟨_,_,rfl,rfl,rfl,rfl,rfl,rfl,rfl⟩
 ·simp at h
theorem Aas {o:Oper} (h:o.guard=none) (y:Nat→Option Bool):Region.wanted o y=true:=by
 unfold Region.wanted
 rw [h]
section
variable {P : Program} {cx:Cx P} {Q:Exit→St→Prop}
theorem Aql {β:Bi} {a:Act} {w:World} {sl:List (Nat×MV)} {ob:List (Nat×Obj)} {d d2:Nat} {x y:MV} {objs:Ar} (hd:assoc sl d=none)
  (h:Rel cx β ⟨Cd (Cd (Ae sl ob).slots d x) d2 y,objs⟩ a w) {ob':List (Nat×Obj)} (ho:∀ k,assoc ob' k=objs k):Rel cx β (Ae ((d2,y)::sl) ob') a w:=by
 have e:assoc ob'=objs:=funext ho
 have h':Rel cx β ⟨Cd (Cd (Ae sl ob).slots d x) d2 y,assoc ob'⟩ a w:=by rw [e]; exact h
 refine ⟨h'.nd,h'.sz,fun t => ?_,h'.ob,h'.blk,h'.inj,h'.kept,h'.avo,h'.avlt,h'.mle,h'.oloc⟩
 have hs:=h'.sl t
 show RelV β (assoc ob') _ w _ ((assoc ((d2,y)::sl) t).getD .any)
 simp only [Cd,Ae] at hs
 simp only [assoc]
 cases h2:Nat.beq t d2 with
 | true =>
  rw [h2,cond_true] at hs
  exact hs
 | false =>
  rw [h2,cond_false] at hs
  simp only [cond_false]
  cases h1:Nat.beq t d with
  | true =>
   have:=Nat.eq_of_beq_eq_true h1
   subst this
   rw [hd]
   exact .any _
  | false =>
   rw [h1,cond_false] at hs
   exact hs
theorem AjT {β:Bi} {σ:St} {a:Act} {w:World} {o:Oper} {d d2:Nat} {b:Bool} {cs:List MV} (hop:o.op = .extract (.tmp d) 0) (hdst:o.dst=some d2) (hlt:d2<cx.nt)
  (h:Rel cx β σ a w) (hs:σ.slots d = .tup (.p (.v (.bool b))::cs)) {K:Act→World→Prop} {R:Exit→Act→World→Prop} (hK:∀ a,Rel cx β ⟨Cd σ.slots d2 (.p (.v (.bool b))),σ.objs⟩ a w→K a w):o.wp P a w K R:=by
 obtain ⟨od,op,ot,opos,oafter,oguard⟩:=o
 simp only at hop hdst
 subst hop
 subst hdst
 have hr:=h.sl d
 rw [hs] at hr
 unfold Oper.wp
 have he:∃ vs:Array Value,a.tmps.getD d undef = .tuple vs∧vs[0]? = some (.bool b):=by
  generalize hv:a.tmps.getD d undef=v at hr
  cases hr with
  | tup cs' vs hl hr' =>
   refine ⟨vs,rfl,?_⟩
   have:=hr' 0 (.p (.v (.bool b))) (by simp)
   have h0:0<vs.size:=by rw [hl]; simp
   have e:=this.inv_v.1
   rw [Array.getD_eq_getD_getElem?,Array.getElem?_eq_getElem h0] at e
   simp only [Option.getD_some] at e
   rw [Array.getElem?_eq_getElem h0,e]
 obtain ⟨vs,e1,e2⟩:=he
 have e3:a.eval (.tmp d) = .tuple vs:=e1
 simp only [execOp,e3,Instr.extract,e2,Sem.run_bind,Sem.run_pure,Result.andThen_ok,Oper.upon]
 exact hK _ (AaW h (some d2) (fun t ht=>by injection ht with ht; omega) (.bool b) _ (.mk_v rfl))
theorem DW.next {ops:Array Oper} {id:Nat} {r:List Code} {nt t d d2 k:Nat} {f:Int→PV} {rem:Int→Bool} {cur:Option Int} {sl:List (Nat×MV)} {ob:List (Nat×Obj)} (hnt:cx.nt=nt)
  (hgo:∀ n,rem n=true→DW P cx r (Ae ((d2,pB true)::sl) ((k,⟨0,.mq (.it f (Ay rem n false) (some n))⟩)::ob)) Q)
  (hend:(∀ n,rem n=false)→DW P cx r (Ae ((d2,pB false)::sl) ob) Q)
  (h0:Aev ops.toList=some (t,d,d2):=by kernel_rfl) (h1:(Nat.blt d nt&&Nat.blt d2 nt && !Nat.beq t d && !Nat.beq t d2&&(assoc sl d).isNone)=true:=by kernel_rfl)
  (h2:assoc sl t=some (.ref k 0 0):=by kernel_rfl) (h3:assoc ob k=some ⟨0,.mq (.it f rem cur)⟩:=by kernel_rfl):DW P cx (.region id ops false::r) (Ae sl ob) Q:=by
 simp only [Bool.and_eq_true,Bool.not_eq_true'] at h1
 obtain ⟨⟨⟨⟨b1,b2⟩,b3⟩,b4⟩,b5⟩:=h1
 have hd:assoc sl d=none:=by simpa using b5
 have hlt1:d<cx.nt:=by rw [hnt]; exact Nat.le_of_ble_eq_true b1
 have hlt2:d2<cx.nt:=by rw [hnt]; exact Nat.le_of_ble_eq_true b2
 obtain ⟨o0,o1,hops,p1,p2,p3,p4,p5,p6⟩:=AiI h0
 have e0:ops[0]? = some o0:=by rw [← Array.getElem?_toList,hops]; rfl
 have e1:ops[1]? = some o1:=by rw [← Array.getElem?_toList,hops]; rfl
 have esz:ops.size=2:=by rw [← Array.length_toList,hops]; rfl
 show DWP P cx (.region id ops false) (Ae sl ob) (KQ P cx r Q)
 intro β a w hrel
 refine wpIn_region ?_
 rw [esz]
 show wpOpsIn (fen cx.rd) 0 P ops _ [0,1] a w
 rw [wpOpsIn_cons]
 unfold wpOpIn
 rw [e0]
 simp only
 rw [if_pos (Aas p3 _)]
 refine Mj (by rw [p2]; rfl) ?_
 have ht:(Ae sl ob).slots t = .ref k 0 0:=by simp [Ae,h2]
 have rt:=hrel.sl t
 rw [ht] at rt
 obtain ⟨b,hbv,hkn⟩:=rt.inv_ref
 have ho1:(Ae sl ob).objs k=some ⟨0,.mq (.it f rem cur)⟩:=h3
 have hl:=hkn.get ho1
 obtain ⟨b',bm,es,clock,since,seen,c0,has,hl',q1,q2,q3,q4,q5,q6,q7,q8,q9⟩:=hrel.ob k _ ho1
 rw [hl] at hl'
 injection hl' with hl'
 subst hl'
 have hborn:∀ x∈es.toList,x.born<since:=by
  intro x hx
  obtain ⟨i,hi,rfl⟩:=List.getElem_of_mem hx
  have:=q4.2.2.2.1 i es.toList[i] (by simp at hi ⊢)
  omega
 have fin:∀ (v:Bool) (cs:List MV) (vs:Value) (objs:Ar) (β2:Bi) (w2:World),Rel cx β2 ⟨(Ae sl ob).slots,objs⟩ a w2→RelV β2 objs (Al cx.Av β2 objs w2) w2 vs (.tup (.p (.v (.bool v))::cs)) →
   ∀ (ob':List (Nat×Obj)),(∀ j,assoc ob' j=objs j)→DW P cx r (Ae ((d2,pB v)::sl) ob') Q →
   wpOpsIn (fen cx.rd) 0 P ops (fun e a' w'=>∃ β' σ',KQ P cx r Q e σ'∧Rel cx β' σ' a' w') [1] (a.put (some d) vs) w2:=by
  intro v cs vs objs β2 w2 hr hv ob' hob' hcont
  rw [wpOpsIn_cons]
  unfold wpOpIn
  rw [e1]
  simp only
  rw [if_pos (Aas p6 _)]
  refine Mj (by rw [p5]; rfl) ?_
  have hr2:=AaW hr (some d) (fun t ht=>by injection ht with ht; omega) vs _ hv
  refine AjT (d:=d) (b:=v) (cs:=cs) p5 p4 hlt2 hr2 (by simp [Nd,Cd,Ch]) fun a2 hr3 => ?_
  exact ⟨β2,_,hcont,Aql (ob:=ob) (objs:=objs) hd hr3 hob'⟩
 have hexec:execOp a.eval o0=(do pure (.value (← Instr.next (.pointer (some ⟨b,0,none⟩)) false o0.type))):=by
  obtain ⟨od,op,ot,opos,oafter,oguard⟩:=o0
  simp only at p2
  subst p2
  have:a.eval (.tmp t) = .pointer (some ⟨b,0,none⟩):=hbv
  simp [execOp,this]
 unfold Oper.wp
 rw [hexec]
 rcases run_next_at (P:=P) w o0.type b bm since c0 seen es clock q1 q3 hborn (by omega) with ⟨z1,z2⟩|⟨e,he,w1,hw1,z2⟩
 ·simp only [Sem.run_bind,z2,Result.andThen_ok,Sem.run_pure,Oper.upon,p1]
  refine fin false [] _ (Ae sl ob).objs β w hrel ?_ ob (fun _=>rfl) (hend fun n => ?_)
  ·refine .tup _ _ rfl (fun i x hx => ?_)
   match i,hx with
   | 0,hx=>simp at hx; subst hx; exact .mk_v rfl
   | i+1,hx=>simp at hx
  ·cases hr:rem n with
   | false=>rfl
   | true =>
    obtain ⟨i,e,r1,r2,r3⟩:=(q8 n).1 hr
    have hmem:e∈leftOf es seen:=by
     unfold leftOf
     rw [Array.mem_filter]
     exact ⟨Array.mem_of_getElem? r1,by simpa using r3⟩
    have:=Array.eq_empty_of_size_eq_zero z1
    rw [this] at hmem
    simp at hmem
 ·simp only [Sem.run_bind,z2,Result.andThen_ok,Sem.run_pure,Oper.upon,p1]
  have hmem:e∈es∧seen.contains e.born=false:=by
   have:e∈leftOf es seen:=by simpa using he
   unfold leftOf at this
   rw [Array.mem_filter] at this
   exact ⟨this.1,by simpa using this.2⟩
  obtain ⟨i,hi⟩:=Array.mem_iff_getElem?.1 hmem.1
  obtain ⟨n,hn,_⟩:=q4.1 i e hi
  have hremn:rem n=true:=(q8 n).2 ⟨i,e,hi,hn,hmem.2⟩
  have hrel1:Rel cx β (Ae sl ob) a w1:=by
   rcases hw1 with rfl|rfl
   ·exact hrel
   ·exact hrel.drew
  have hq1:w1.heap[b]? = some (.mapIter (some bm) since seen c0):=by rcases hw1 with rfl|rfl <;> exact q1
  have hq3:w1.heap[bm]? = some (.map es clock):=by rcases hw1 with rfl|rfl <;> exact q3
  have hsf:Al cx.Av β (Ae sl ob).objs w1 bm:=by rcases hw1 with rfl|rfl <;> exact q2
  have hrep:∀ (i:Nat) (e:MapEntry) (n:Int),es[i]? = some e→e.key = .int .i64 n→Rep (Al cx.Av β (Ae sl ob).objs w1) w1 e.val (f n):=fun i e n hi hn=>(q7 i e n hi hn).mono (fun b hb=>by rcases hw1 with rfl|rfl <;> exact hb) (fun b hb=>by rcases hw1 with rfl|rfl <;> rfl)
  have hput:=hrel1.reput (bd' := .mq (.it f (Ay rem n false) (some n))) ho1 hl trivial trivial trivial hq1 (.mapIter (some bm) since (seen.push e.born) clock) fun S' w' hS hw hb objs'=>by
   refine ⟨b,bm,es,clock,since,seen.push e.born,clock,has,rfl,hb,hS _ hsf,by rw [hw _ hsf]; exact hq3,q4,q5,rfl,fun i e n hi hn=>(hrep i e n hi hn).mono hS hw,fun m => ?_,fun m hm => ?_⟩
   ·constructor
    ·intro hm
     simp only [Ay] at hm
     split at hm
     ·simp at hm
     ·rename_i hne
      obtain ⟨j,e',r1,r2,r3⟩:=(q8 m).1 hm
      refine ⟨j,e',r1,r2,?_⟩
      simp only [Array.contains_push,Bool.or_eq_false_iff] 
      refine ⟨r3,?_⟩
      simp only [beq_eq_false_iff_ne,ne_eq]
      intro hbb
      have:=q4.2.2.2.2 j i e' e r1 hi hbb
      subst this
      rw [hi] at r1
      injection r1 with r1
      subst r1
      rw [hn] at r2
      injection r2 with _ r2
      exact hne r2.symm
    ·rintro ⟨j,e',r1,r2,r3⟩
     simp only [Array.contains_push,Bool.or_eq_false_iff] at r3
     have hm:=(q8 m).2 ⟨j,e',r1,r2,r3.1⟩
     simp only [Ay]
     split
     ·rename_i hmn
      subst hmn
      have:=q4.2.2.1 j i e' e m r1 hi r2 hn
      subst this
      rw [hi] at r1
      injection r1 with r1
      subst r1
      simp at r3
     ·exact hm
   ·injection hm with hm
    subst hm
    exact ⟨rfl,i,e,hi,hn,by simp⟩
  refine fin true [.any,.any] _ _ β _ hput ?_ ((k,⟨0,.mq (.it f (Ay rem n false) (some n))⟩)::ob) (fun j=>rfl) (hgo n hremn)
  refine .tup _ _ rfl (fun i x hx => ?_)
  match i,hx with
  | 0,hx=>simp at hx; subst hx; exact .mk_v rfl
  | 1,hx=>simp at hx; subst hx; exact .any _
  | 2,hx=>simp at hx; subst hx; exact .any _
  | i+3,hx=>simp at hx
def opn (k:Nat) (born:Int→Nat) (clock:Nat):List (Nat×Obj)→List (Nat×Obj)
 | [] => []
 | (j,o)::r=>bif Nat.beq j k then (match o with
  | ⟨g,.mp z has f⟩=>(j,⟨g,.mq (.clk z has f born clock)⟩)::r
  | o=>(j,o)::r) else (j,o)::opn k born clock r
theorem opn_get {k:Nat} {born:Int→Nat} {clock:Nat} : ∀ {ob:List (Nat×Obj)} {g:Nat} {z:PV} {has:Int→Bool} {f:Int→PV},assoc ob k=some ⟨g,.mp z has f⟩ →
  ∀ j,assoc (opn k born clock ob) j=if j=k then some ⟨g,.mq (.clk z has f born clock)⟩ else assoc ob j:=by
 intro ob
 induction ob with
 | nil=>intro g z has f h; simp [assoc] at h
 | cons p r ih =>
  intro g z has f h j
  obtain ⟨i,o⟩:=p
  simp only [assoc] at h
  simp only [opn]
  cases hik:Nat.beq i k with
  | true =>
   have e:=Nat.eq_of_beq_eq_true hik
   subst e
   rw [Ch,cond_true] at h
   injection h with h
   subst h
   simp only [cond_true,assoc]
   by_cases hj:j=i
   ·subst hj
    simp [Ch]
   ·rw [De hj,if_neg hj]
    rfl
  | false =>
   have hne:k≠i:=fun e=>by subst e; rw [Ch] at hik; simp at hik
   rw [De hne,cond_false] at h
   simp only [cond_false,assoc]
   by_cases hj:j=i
   ·subst hj
    rw [if_neg (fun e=>hne e.symm),Ch]
    rfl
   ·rw [De hj,cond_false,cond_false]
    exact ih h j
def isMap : Option Obj→Bool
 | some ⟨_,.mp _ _ _⟩=>true
 | _=>false
theorem Rel.openMap {β:Bi} {a:Act} {w:World} {k:Nat} {sl:List (Nat×MV)} {ob:List (Nat×Obj)} (hm:isMap (assoc ob k)=true) (h:Rel cx β (Ae sl ob) a w) :
  ∃ born clock,Rel cx β (Ae sl (opn k born clock ob)) a w:=by
 cases ho:assoc ob k with
 | none=>rw [ho] at hm; simp [isMap] at hm
 | some o =>
  obtain ⟨g,bd⟩:=o
  rw [ho] at hm
  cases bd with
  | mp z has f =>
   have ho1:(Ae sl ob).objs k=some ⟨g,.mp z has f⟩:=ho
   obtain ⟨b,es,clock,q0,q1,q2,q3,q4⟩:=h.ob k _ ho1
   let born:Int→Nat:=fun n=>((es.toList.find? (fun e=>decide (e.key = .int .i64 n))).map (·.born)).getD 0
   have hb:∀ (i:Nat) (e:MapEntry) (n:Int),es[i]? = some e→e.key = .int .i64 n→e.born=born n:=by
    intro i e n hi hn
    show e.born=((es.toList.find? (fun e=>decide (e.key = .int .i64 n))).map (·.born)).getD 0
    cases hf:es.toList.find? (fun e=>decide (e.key = .int .i64 n)) with
    | none =>
     rw [List.find?_eq_none] at hf
     exact absurd hn (by simpa using hf e (by simpa using Array.mem_of_getElem? hi))
    | some e' =>
     have hk:=List.find?_some hf
     have hmem:=List.mem_of_find?_eq_some hf
     obtain ⟨j,hj⟩:=Array.mem_iff_getElem?.1 (by simpa using hmem:e'∈es)
     have:=q2.2.2.1 i j e e' n hi hj hn (by simpa using hk)
     subst this
     rw [hi] at hj
     injection hj with hj
     subst hj
     rfl
   have e:Ae sl (opn k born clock ob)=⟨(Ae sl ob).slots,Bj (Ae sl ob).objs k ⟨g,.mq (.clk z has f born clock)⟩⟩:=by
    show St.mk _ (assoc (opn k born clock ob))=_
    congr 1
    funext j
    rw [opn_get ho]
    simp only [Bj]
    by_cases hj:j=k
    ·subst hj; simp [Ch]
    ·rw [if_neg hj,De hj]
     rfl
   refine ⟨born,clock,?_⟩
   rw [e]
   have hS:∀ b',Al cx.Av β (Ae sl ob).objs w b'→Al cx.Av β (Bj (Ae sl ob).objs k ⟨g,.mq (.clk z has f born clock)⟩) w b':=by
    intro b' hb'
    refine ⟨hb'.1,hb'.2.1,fun j o hj hl => ?_⟩
    by_cases e:j=k
    ·subst e
     exact hb'.2.2 j _ ho1 trivial
    ·rw [Cc _ _ e] at hj
     exact hb'.2.2 j o hj hl
   have hg:Grows β β (Ae sl ob).objs (Bj (Ae sl ob).objs k ⟨g,.mq (.clk z has f born clock)⟩):=by
    intro j o hj
    by_cases e:j=k
    ·subst e
     rw [ho1] at hj; injection hj with hj; subst hj
     exact ⟨_,Bb _ _ _,Nat.le_refl _,fun _=>⟨rfl,trivial⟩⟩
    ·exact ⟨o,by rw [Cc _ _ e]; exact hj,Nat.le_refl _,fun _=>⟨rfl,Body.same_refl _⟩⟩
   have hold:∀ j o',Bj (Ae sl ob).objs k ⟨g,.mq (.clk z has f born clock)⟩ j=some o'→∃ o,(Ae sl ob).objs j=some o∧o.gen=o'.gen∧(o.body.live↔o'.body.live):=by
    intro j o' hj
    by_cases e:j=k
    ·subst e
     rw [Bb] at hj; injection hj with hj; subst hj
     exact ⟨_,ho1,rfl,Iff.rfl⟩
    ·rw [Cc _ _ e] at hj
     exact ⟨_,hj,rfl,Iff.rfl⟩
   refine ⟨h.nd,h.sz,fun t=>(h.sl t).mono hg hS (fun _ _=>rfl),fun j o' hj => ?_,fun j o' b hj hl hb => ?_,fun j j' o o' b hj hj' hl hl' hne hb => ?_,h.kept,h.avo,h.avlt,h.mle,fun j o' hjm hj hgen => ?_⟩
   ·have hj:Bj (Ae sl ob).objs k ⟨g,.mq (.clk z has f born clock)⟩ j=some o':=hj
    by_cases e:j=k
    ·subst e
     rw [Bb] at hj; injection hj with hj; subst hj
     exact ⟨b,es,q0,q1,q2,q3,fun i e n hi hn=>(q4 i e n hi hn).mono hS (fun _ _=>rfl),hb⟩
    ·rw [Cc _ _ e] at hj
     exact (h.ob j o' hj).mono hg hS (fun _ _=>rfl) (fun _ _=>rfl)
   ·obtain ⟨o,r1,_,r3⟩:=hold j o' hj
    exact h.blk j o b r1 (r3.2 hl) hb
   ·obtain ⟨p,r1,_,r3⟩:=hold j o hj
    obtain ⟨p',s1,_,s3⟩:=hold j' o' hj'
    exact h.inj j j' p p' b r1 s1 (r3.2 hl) (s3.2 hl') hne hb
   ·obtain ⟨o,r1,r2,_⟩:=hold j o' hj
    exact h.oloc j o hjm r1 (by rw [r2]; exact hgen)
  | _=>simp [isMap] at hm
theorem DW.openMap {c:Code} {r:List Code} (k:Nat) {sl:List (Nat×MV)} {ob:List (Nat×Obj)} (h:∀ born clock,DW P cx (c::r) (Ae sl (opn k born clock ob)) Q) (hm:isMap (assoc ob k)=true:=by kernel_rfl):DW P cx (c::r) (Ae sl ob) Q:=by
 intro β a w hr
 obtain ⟨born,clock,hr'⟩:=hr.openMap hm
 exact h born clock β a w hr'
end
end Go.Dm

namespace Go.Dm
structure Fd where
 min:Int
 low:Int
 high:Int
 max:Int
 swapMax:Int
 together:Bool
 deriving Inhabited
def Uj (x:Fd):List PV := [vi x.min,vi x.low,vi x.high,vi x.max,vi x.swapMax,vb x.together]
def Acx (x y:Fd):Bool:=((x.min==y.min)&&((x.low==y.low)&&((x.high==y.high)&&((x.max==y.max)&&((x.swapMax==y.swapMax)&&((x.together==y.together)&&true))))))
structure Au where
 device:Int
 weight:Int
 readPages:Int
 writePages:Int
 readOps:Int
 writeOps:Int
 target:Int
 deriving Inhabited
def Df (x:Au):List PV := [vi x.device,vi x.weight,vi x.readPages,vi x.writePages,vi x.readOps,vi x.writeOps,vi x.target]
abbrev Gm : Au:=default
abbrev Bg (L:List Au):PV:=Gy 7 Df (default:Au) L
abbrev Am (L:List Au):Body:=Ads 7 Df (default:Au) L
abbrev AiX (L:List Au):Nat→List PV:=elems Df (default:Au) L
def Aco (x y:Au):Bool:=((x.device==y.device)&&((x.weight==y.weight)&&((x.readPages==y.readPages)&&((x.writePages==y.writePages)&&((x.readOps==y.readOps)&&((x.writeOps==y.writeOps)&&((x.target==y.target)&&true)))))))
structure Ac where
 pidsMax:Int
 weight:Int
 quota:Int
 period:Int
 burst:Int
 clampMin:Int
 clampMax:Int
 cpus:List Int
 mems:List Int
 partition:Int
 memory:Fd
 devices:List Au
 deriving Inhabited
def Aa (x:Ac):List PV := [vi x.pidsMax,vi x.weight,vi x.quota,vi x.period,vi x.burst,vi x.clampMin,vi x.clampMax,Gy 1 Cg 0 x.cpus,Gy 1 Cg 0 x.mems,vi x.partition,vi x.memory.min,vi x.memory.low,vi x.memory.high,vi x.memory.max,vi x.memory.swapMax,vb x.memory.together,Gy 7 Df (default:Au) x.devices]
structure Ag where
 group:Int
 settings:Ac
 deriving Inhabited
def Eb (x:Ag):List PV := [vi x.group,vi x.settings.pidsMax,vi x.settings.weight,vi x.settings.quota,vi x.settings.period,vi x.settings.burst,vi x.settings.clampMin,vi x.settings.clampMax,Gy 1 Cg 0 x.settings.cpus,Gy 1 Cg 0 x.settings.mems,vi x.settings.partition,vi x.settings.memory.min,vi x.settings.memory.low,vi x.settings.memory.high,vi x.settings.memory.max,vi x.settings.memory.swapMax,vb x.settings.memory.together,Gy 7 Df (default:Au) x.settings.devices]
abbrev Gr : Ag:=default
abbrev Bs (L:List Ag):PV:=Gy 18 Eb (default:Ag) L
abbrev Cl (L:List Ag):Body:=Ads 18 Eb (default:Ag) L
abbrev Aji (L:List Ag):Nat→List PV:=elems Eb (default:Ag) L
structure plan where
 tree:Af
 configs:List Ag
 sets:IMap (List Int)
 partitions:IMap Bool
 deriving Inhabited
def Afp (p0:Ac):Option Ac:=(if p0.cpus.length≤1073741824 then (if p0.mems.length≤1073741824 then (if p0.devices.length≤1073741824 then (some p0) else none) else none) else none)
def Ui : Option Fd:=(some ({ min:=0,low:=0,high:=4611686018427387904,max:=4611686018427387904,swapMax:=4611686018427387904,together:=false } : Fd))
def Sy : Option (List Au):=(some [])
def Qv : Option Ac:=(Option.bind Ui fun r1=>(Option.bind Sy fun r2=>(some ({ pidsMax:=4611686018427387904,weight:=100,quota:=4611686018427387904,period:=100000,burst:=0,clampMin:=0,clampMax:=10000,cpus := [],mems := [],partition:=0,memory:=r1,devices:=r2 } : Ac))))
def AiT (p1:Int) (k1:Nat) (x1:Ag) (s1:Unit) (n1:Unit→Option Ac):Option Ac:=(if (x1.group==p1) then (Option.bind (Afp x1.settings) fun r15=>(some r15)) else (n1 ()))
def AoH (s1:Unit):Option Ac:=(Option.bind Qv fun r16=>(some r16))
def AlG (p0:List Ag) (p1:Int):Option Ac:=(if p0.length≤9223372036854775807 then Az (AiT p1) AoH p0 0 () else none)
def Cq (p0:Int) (p1:Int) (p2:Int):Option Bool:=(some ((decide (p0≥p1))&&(decide (p0≤p2))))
def Kt (y1:Bool):Option Bool:=(some y1)
def Hx (y2:Bool):Option Bool:=(some y2)
def Jn (p0:Ac):Option Bool:=(if (p0.quota==4611686018427387904) then (Option.bind (Cq p0.period 1 1000000) fun r2=>(if r2 then (Kt (p0.burst==0)) else (Kt false))) else (Option.bind (Cq p0.period 1 1000000) fun r4=>(if r4 then (Option.bind (Cq p0.quota 1 1000000) fun r6=>(if r6 then (Option.bind (Cq p0.burst 0 p0.quota) fun r8=>(Hx r8)) else (Hx false))) else (Hx false))))
def Oo (n1:Unit→Option Bool) (y3:Bool):Option Bool:=(if y3 then (some false) else (n1 ()))
def AgW (p0:List Int) (p1:Int) (k1:Nat) (x1:Int) (s1:Unit) (n1:Unit→Option Bool):Option Bool:=(if (decide (x1<0)) then ((Oo n1) true) else (if (decide (x1≥p1)) then ((Oo n1) true) else (if (decide (((k1:Nat):Int)>0)) then (if 0≤(w64 (((k1:Nat):Int)-1))∧(w64 (((k1:Nat):Int)-1))<((p0.length:Nat):Int) then ((Oo n1) (decide (x1≤(p0.getD (Int.toNat (w64 (((k1:Nat):Int)-1))) 0)))) else none) else ((Oo n1) false))))
def Anx (s1:Unit):Option Bool:=(some true)
def Kp (p0:List Int) (p1:Int):Option Bool:=(if p0.length≤9223372036854775807 then Az (AgW p0 p1) Anx p0 0 () else none)
def Ek (p0:Int) (p1:Int) (p2:Int):Option Bool:=(some (((decide (p0≥p1))&&(decide (p0≤p2)))||(p0==4611686018427387904)))
def Gl (y1:Bool):Option Bool:=(some y1)
def Fk (p0:Fd):Option Bool:=(Option.bind (Ek p0.min 0 1099511627776) fun r1=>(if r1 then (Option.bind (Ek p0.low 0 1099511627776) fun r3=>(if r3 then (Option.bind (Ek p0.high 0 1099511627776) fun r5=>(if r5 then (Option.bind (Ek p0.max 0 1099511627776) fun r7=>(if r7 then (Option.bind (Ek p0.swapMax 0 1099511627776) fun r9=>(Gl r9)) else (Gl false))) else (Gl false))) else (Gl false))) else (Gl false)))
def Bh (n1:Unit→Option Bool) (y3:Bool):Option Bool:=(if y3 then (some false) else (n1 ()))
def AaH (p0:List Au) (k1:Nat) (x1:Au) (s1:Unit) (n1:Unit→Option Bool):Option Bool:=(if (decide (x1.device<0)) then ((Bh n1) true) else (if (decide (x1.device≥8)) then ((Bh n1) true) else (if (decide (((k1:Nat):Int)>0)) then (if 0≤(w64 (((k1:Nat):Int)-1))∧(w64 (((k1:Nat):Int)-1))<((p0.length:Nat):Int) then (if (decide (x1.device≤(p0.getD (Int.toNat (w64 (((k1:Nat):Int)-1))) (default:Au)).device)) then ((Bh n1) true) else (if (decide (x1.weight<1)) then ((Bh n1) true) else (if (decide (x1.weight>10000)) then ((Bh n1) true) else (Option.bind (Ek x1.readPages 1 1073741824) fun r69=>(if (!r69) then ((Bh n1) true) else (Option.bind (Ek x1.writePages 1 1073741824) fun r71=>(if (!r71) then ((Bh n1) true) else (Option.bind (Ek x1.readOps 1 1073741824) fun r73=>(if (!r73) then ((Bh n1) true) else (Option.bind (Ek x1.writeOps 1 1073741824) fun r75=>(if (!r75) then ((Bh n1) true) else (if (decide (x1.target<0)) then ((Bh n1) true) else ((Bh n1) (decide (x1.target>1048576))))))))))))))) else none) else (if (decide (x1.weight<1)) then ((Bh n1) true) else (if (decide (x1.weight>10000)) then ((Bh n1) true) else (Option.bind (Ek x1.readPages 1 1073741824) fun r80=>(if (!r80) then ((Bh n1) true) else (Option.bind (Ek x1.writePages 1 1073741824) fun r82=>(if (!r82) then ((Bh n1) true) else (Option.bind (Ek x1.readOps 1 1073741824) fun r84=>(if (!r84) then ((Bh n1) true) else (Option.bind (Ek x1.writeOps 1 1073741824) fun r86=>(if (!r86) then ((Bh n1) true) else (if (decide (x1.target<0)) then ((Bh n1) true) else ((Bh n1) (decide (x1.target>1048576)))))))))))))))))
def AgQ (p0:List Au) (s1:Unit):Option Bool:=(some (decide (((p0.length:Nat):Int)≤8)))
def Ex (p0:List Au):Option Bool:=(if p0.length≤9223372036854775807 then Az (AaH p0) (AgQ p0) p0 0 () else none)
def Bt (y1:Bool):Option Bool:=(some y1)
def Ax (p0:Ac):Option Bool:=(if (p0.pidsMax==4611686018427387904) then (Option.bind (Cq p0.weight 1 10000) fun r21=>(if r21 then (Option.bind (Jn p0) fun r23=>(if r23 then (Option.bind (Cq p0.clampMin 0 10000) fun r25=>(if r25 then (Option.bind (Cq p0.clampMax 0 10000) fun r27=>(if r27 then (Option.bind (Kp p0.cpus 16) fun r29=>(if r29 then (Option.bind (Kp p0.mems 8) fun r31=>(if r31 then (Option.bind (Cq p0.partition 0 1) fun r33=>(if r33 then (Option.bind (Fk p0.memory) fun r35=>(if r35 then (Option.bind (Ex p0.devices) fun r37=>(Bt r37)) else (Bt false))) else (Bt false))) else (Bt false))) else (Bt false))) else (Bt false))) else (Bt false))) else (Bt false))) else (Bt false))) else (Option.bind (Cq p0.pidsMax 0 1099511627776) fun r2=>(if r2 then (Option.bind (Cq p0.weight 1 10000) fun r4=>(if r4 then (Option.bind (Jn p0) fun r6=>(if r6 then (Option.bind (Cq p0.clampMin 0 10000) fun r8=>(if r8 then (Option.bind (Cq p0.clampMax 0 10000) fun r10=>(if r10 then (Option.bind (Kp p0.cpus 16) fun r12=>(if r12 then (Option.bind (Kp p0.mems 8) fun r14=>(if r14 then (Option.bind (Cq p0.partition 0 1) fun r16=>(if r16 then (Option.bind (Fk p0.memory) fun r18=>(if r18 then (Option.bind (Ex p0.devices) fun r20=>(Bt r20)) else (Bt false))) else (Bt false))) else (Bt false))) else (Bt false))) else (Bt false))) else (Bt false))) else (Bt false))) else (Bt false))) else (Bt false))))
def Rs (n1:Unit→Option Bool) (y4:Bool):Option Bool:=(if y4 then (some false) else (n1 ()))
def AcV (p1:List Ag) (k1:Nat) (x1:Ak) (s1:Unit) (n1:Unit→Option Bool):Option Bool:=(if k1<p1.length then (if ((p1.getD k1 (default:Ag)).group != x1.id) then ((Rs n1) true) else (if k1<p1.length then (Option.bind (Ax (p1.getD k1 (default:Ag)).settings) fun r22=>((Rs n1) (!r22))) else none)) else none)
def AjJ (s1:Unit):Option Bool:=(some true)
def Mr (p0:Af) (p1:List Ag) (y1:Bool):Option Bool:=(if y1 then (some false) else (if p0.nodes.length≤9223372036854775807 then Az (AcV p1) AjJ p0.nodes 0 () else none))
def Kh (p0:Af) (p1:List Ag):Option Bool:=(Option.bind (Mz p0) fun r1=>(if (!r1) then ((Mr p0 p1) true) else ((Mr p0 p1) (((p1.length:Nat):Int) != ((p0.nodes.length:Nat):Int)))))
def Ms (y1:Bool):Option Bool:=(some y1)
def Qt (p0:Af) (p1:List Ag) (p2:List Int) (p3:Int):Option Bool:=(Option.bind (Kh p0 p1) fun r1=>(if r1 then (if (decide (((p2.length:Nat):Int)>0)) then (Option.bind (Kp p2 p3) fun r4=>(Ms r4)) else (Ms false)) else (Ms false)))
def We (p0:Ag) (p1:Int):Option Bool:=(some (p0.group==p1))
def Ez (p1c0:Int) (k1:Nat) (x1:Ag) (s1:Unit) (n1:Unit→Option Int):Option Int:=(Option.bind (We x1 p1c0) fun r10=>(if r10 then (some ((k1:Nat):Int)) else (n1 ())))
def Qs (s1:Unit):Option Int:=(some (-1))
def Ee (p0:List Ag) (p1c0:Int):Option Int:=(if p0.length≤9223372036854775807 then Az (Ez p1c0) Qs p0 0 () else none)
def Vg (p0:List Ag) (p1:Int):Option Int:=(Option.bind (Ee p0 p1) fun r1=>(some r1))
def Qc : Option Ac:=(Option.bind Ui fun r1=>(Option.bind Sy fun r2=>(some ({ pidsMax:=4611686018427387904,weight:=100,quota:=4611686018427387904,period:=100000,burst:=0,clampMin:=0,clampMax:=10000,cpus := [],mems := [],partition:=0,memory:=r1,devices:=r2 } : Ac))))
def Eu (p0:List Au):Option (List Au):=(if 0+p0.length≤1073741824 then (some p0) else none)
def Nc (p0:List Au):Option (List Au):=(some [])
def Da (p0:Ac):Option Ac:=(Option.bind (Dz p0.cpus) fun r1=>(Option.bind (Dz p0.mems) fun r2=>(Option.bind (Eu p0.devices) fun r3=>(some ({ pidsMax:=p0.pidsMax,weight:=p0.weight,quota:=p0.quota,period:=p0.period,burst:=p0.burst,clampMin:=p0.clampMin,clampMax:=p0.clampMax,cpus:=r1,mems:=r2,partition:=p0.partition,memory:=p0.memory,devices:=r3 } : Ac)))))
def Hn (p0:List Ag) (p1:Int):Option Ac:=(Option.bind (Vg p0 p1) fun r1=>(if (decide (r1<0)) then (Option.bind Qc fun r3=>(some r3)) else (if 0≤r1∧r1<((p0.length:Nat):Int) then (Option.bind (Da (p0.getD (Int.toNat r1) (default:Ag)).settings) fun r5=>(some r5)) else none)))
def Zr (p0:List Int) (p1:Int):Option Bool:=(Option.bind (Lw p0 p1) fun r1=>(some r1))
def Abb (p0:Int) (p1:List Int):Option Bool:=(Option.bind (Zr p1 p0) fun r1=>(some (!r1)))
def Jo (p1c0:List Int) (k1:Nat) (x1:Int) (s1:Unit) (n1:Unit→Option Int):Option Int:=(Option.bind (Abb x1 p1c0) fun r10=>(if r10 then (some ((k1:Nat):Int)) else (n1 ())))
def Sj (s1:Unit):Option Int:=(some (-1))
def Gj (p0:List Int) (p1c0:List Int):Option Int:=(if p0.length≤9223372036854775807 then Az (Jo p1c0) Sj p0 0 () else none)
def Fp (p0:List Int) (p1c0:List Int):Option Bool:=(Option.bind (Gj p0 p1c0) fun r1=>(some (decide (r1≥0))))
def Ve (p0:List Int) (p1:List Int):Option Bool:=(Option.bind (Fp p0 p1) fun r1=>(some (!r1)))
def Vb (p0:List Int):Option (List Int):=(Option.bind (Dz p0) fun r1=>(Option.bind (Rp r1) fun r2=>(if r1.length=r2.length then (Option.bind (Mo r2) fun r4=>(if r2.length=r4.2.length then (if r4.1≤r4.2.length then (some (r4.2.take r4.1)) else none) else none)) else none)))
def AcC (p0:Int) (p1:List Int):Option Bool:=(Option.bind (Zr p1 p0) fun r1=>(some (!r1)))
def Fj (p0:Int) (p1c0:List Int):Option Bool:=(Option.bind (AcC p0 p1c0) fun r1=>(some (!r1)))
def Fq (p1c0c0:List Int) (k1:Nat) (x1:Int) (s1:Unit) (n1:Unit→Option Int):Option Int:=(Option.bind (Fj x1 p1c0c0) fun r12=>(if r12 then (some ((k1:Nat):Int)) else (n1 ())))
def Lf (s1:Unit):Option Int:=(some (-1))
def Ec (p0:List Int) (p1c0c0:List Int):Option Int:=(if p0.length≤9223372036854775807 then Az (Fq p1c0c0) Lf p0 0 () else none)
def Ct (s1:(List Int)×Int×Int) (n1:((List Int)×Int×Int)→Option (Nat×(List Int)×(List Int))) (y2:(List Int)×Int):Option (Nat×(List Int)×(List Int)):=(n1 (y2.1,y2.2,(w64 (s1.2.2+1))))
def Dr (p1c0c0:List Int) (s1:(List Int)×Int×Int) (n1:((List Int)×Int×Int)→Option (Nat×(List Int)×(List Int))):Option (Nat×(List Int)×(List Int)):=(if (decide (s1.2.2<((s1.1.length:Nat):Int))) then (if 0≤s1.2.2∧s1.2.2<((s1.1.length:Nat):Int) then (if (Int.toNat s1.2.2)<s1.1.length then (Option.bind (Fj (s1.1.getD (Int.toNat s1.2.2) 0) p1c0c0) fun r16=>(if (!r16) then (if 0≤s1.2.1∧s1.2.1<((s1.1.length:Nat):Int) then (if (Int.toNat s1.2.1)<s1.1.length then ((Ct s1 n1) ((s1.1.set (Int.toNat s1.2.1) (s1.1.getD (Int.toNat s1.2.2) 0)),(w64 (s1.2.1+1)))) else none) else none) else ((Ct s1 n1) (s1.1,s1.2.1)))) else none) else none) else (if 0≤s1.2.1∧s1.2.1≤((s1.1.length:Nat):Int) then (if (Int.toNat s1.2.1)+(Fz s1.1.length (Int.toNat s1.2.1))≤s1.1.length then (if 0≤s1.2.1∧s1.2.1≤(((Hj s1.1 (Int.toNat s1.2.1) (Fz s1.1.length (Int.toNat s1.2.1)) 0).length:Nat):Int) then (some ((Int.toNat s1.2.1),(Hj s1.1 (Int.toNat s1.2.1) (Fz s1.1.length (Int.toNat s1.2.1)) 0),p1c0c0)) else none) else none) else none))
def Cw (p0:List Int) (p1c0c0:List Int):Option (Nat×(List Int)×(List Int)):=(Option.bind (Ec p0 p1c0c0) fun r1=>(if (r1==(-1)) then (some (p0.length,p0,p1c0c0)) else (whileO (Dr p1c0c0) Fm (p0,r1,(w64 (r1+1))))))
def Mh (p0:List Int) (p1c0:List Int):Option ((List Int)×(List Int)):=(Option.bind (Vb p0) fun r1=>(Option.bind (Cw r1 p1c0) fun r2=>(if r1.length=r2.2.1.length then (if r2.1≤r2.2.1.length then (some ((r2.2.1.take r2.1),r2.2.2)) else none) else none)))
def Ys (p0:List Int) (p1:List Int):Option (List Int):=(Option.bind (Mh p0 p1) fun r1=>(some r1.1))
def Wp (p0:Int) (p1:List Int):Option Bool:=(Option.bind (Zr p1 p0) fun r1=>(some r1))
def Ej (p0:Int) (p1c0:List Int):Option Bool:=(Option.bind (Wp p0 p1c0) fun r1=>(some (!r1)))
def Ey (p1c0c0:List Int) (k1:Nat) (x1:Int) (s1:Unit) (n1:Unit→Option Int):Option Int:=(Option.bind (Ej x1 p1c0c0) fun r12=>(if r12 then (some ((k1:Nat):Int)) else (n1 ())))
def Ju (s1:Unit):Option Int:=(some (-1))
def Dp (p0:List Int) (p1c0c0:List Int):Option Int:=(if p0.length≤9223372036854775807 then Az (Ey p1c0c0) Ju p0 0 () else none)
def Ck (s1:(List Int)×Int×Int) (n1:((List Int)×Int×Int)→Option (Nat×(List Int)×(List Int))) (y2:(List Int)×Int):Option (Nat×(List Int)×(List Int)):=(n1 (y2.1,y2.2,(w64 (s1.2.2+1))))
def Dg (p1c0c0:List Int) (s1:(List Int)×Int×Int) (n1:((List Int)×Int×Int)→Option (Nat×(List Int)×(List Int))):Option (Nat×(List Int)×(List Int)):=(if (decide (s1.2.2<((s1.1.length:Nat):Int))) then (if 0≤s1.2.2∧s1.2.2<((s1.1.length:Nat):Int) then (if (Int.toNat s1.2.2)<s1.1.length then (Option.bind (Ej (s1.1.getD (Int.toNat s1.2.2) 0) p1c0c0) fun r16=>(if (!r16) then (if 0≤s1.2.1∧s1.2.1<((s1.1.length:Nat):Int) then (if (Int.toNat s1.2.1)<s1.1.length then ((Ck s1 n1) ((s1.1.set (Int.toNat s1.2.1) (s1.1.getD (Int.toNat s1.2.2) 0)),(w64 (s1.2.1+1)))) else none) else none) else ((Ck s1 n1) (s1.1,s1.2.1)))) else none) else none) else (if 0≤s1.2.1∧s1.2.1≤((s1.1.length:Nat):Int) then (if (Int.toNat s1.2.1)+(Fz s1.1.length (Int.toNat s1.2.1))≤s1.1.length then (if 0≤s1.2.1∧s1.2.1≤(((Hj s1.1 (Int.toNat s1.2.1) (Fz s1.1.length (Int.toNat s1.2.1)) 0).length:Nat):Int) then (some ((Int.toNat s1.2.1),(Hj s1.1 (Int.toNat s1.2.1) (Fz s1.1.length (Int.toNat s1.2.1)) 0),p1c0c0)) else none) else none) else none))
def Co (p0:List Int) (p1c0c0:List Int):Option (Nat×(List Int)×(List Int)):=(Option.bind (Dp p0 p1c0c0) fun r1=>(if (r1==(-1)) then (some (p0.length,p0,p1c0c0)) else (whileO (Dg p1c0c0) Fm (p0,r1,(w64 (r1+1))))))
def Jt (p0:List Int) (p1c0:List Int):Option ((List Int)×(List Int)):=(Option.bind (Vb p0) fun r1=>(Option.bind (Co r1 p1c0) fun r2=>(if r1.length=r2.2.1.length then (if r2.1≤r2.2.1.length then (some ((r2.2.1.take r2.1),r2.2.2)) else none) else none)))
def Tl (p0:List Int) (p1:List Int):Option (List Int):=(Option.bind (Jt p0 p1) fun r1=>(some r1.1))
def Xx (p0:List Int) (p1:List Int):Option (List Int):=(Option.bind (Tl p0 p1) fun r1=>(if (decide (((r1.length:Nat):Int)>0)) then (some r1) else (Option.bind (Dz p1) fun r3=>(some r3))))
noncomputable def Jy (n1:((IMap (List Int))×(List Int)×(IMap Bool)×(List Int))→Option plan) (y5:(IMap (List Int))×(List Int)×(IMap Bool)×(List Int)):Option plan:=(n1 (y5.1,y5.2.1,y5.2.2.1,y5.2.2.2))
noncomputable def Eo (x1:Int) (s1:(IMap (List Int))×(List Int)×(IMap Bool)×(List Int)) (n1:((IMap (List Int))×(List Int)×(IMap Bool)×(List Int))→Option plan) (r77:Ac) (y6:Bool):Option plan:=(if y6 then (Option.bind (Ys s1.2.2.2 r77.cpus) fun r85=>((Jy n1) ((s1.1.set x1 r77.cpus),s1.2.1,(s1.2.2.1.set x1 true),r85))) else (if s1.2.1.length+1≤1073741824 then ((Jy n1) (s1.1,(s1.2.1 ++ [x1]),s1.2.2.1,s1.2.2.2)) else none))
noncomputable def Xb (p0:plan) (p1:Int) (k1:Nat) (x1:Int) (s1:(IMap (List Int))×(List Int)×(IMap Bool)×(List Int)) (n1:((IMap (List Int))×(List Int)×(IMap Bool)×(List Int))→Option plan):Option plan:=(Option.bind (Hn p0.configs x1) fun r77=>(if (r77.partition==1) then (if (s1.2.2.1.get p1) then (if (decide (((r77.cpus.length:Nat):Int)>0)) then (Option.bind (Ve r77.cpus s1.2.2.2) fun r81=>(if r81 then ((Eo x1 s1 n1 r77) (decide (((s1.2.2.2.length:Nat):Int)>((r77.cpus.length:Nat):Int)))) else ((Eo x1 s1 n1 r77) false))) else ((Eo x1 s1 n1 r77) false)) else ((Eo x1 s1 n1 r77) false)) else ((Eo x1 s1 n1 r77) false)))
noncomputable def Uz (p0:plan) (s1:(IMap (List Int))×(List Int)×(IMap Bool)×(List Int)) (k10:Nat) (x10:Int) (s10:IMap (List Int)) (n10:(IMap (List Int))→Option plan):Option plan:=(Option.bind (Hn p0.configs x10) fun r108=>(Option.bind (Xx r108.cpus s1.2.2.2) fun r109=>(n10 (s10.set x10 r109))))
noncomputable def Vd (rec:plan→Int→(List Int)→Option plan) (s10:IMap (List Int)) (k13:Int) (s13:(List Ak)×Int×(List Ag)×(IMap (List Int))×(IMap Bool)) (n13:((List Ak)×Int×(List Ag)×(IMap (List Int))×(IMap Bool))→Option plan):Option plan:=(Option.bind (rec ({ tree:=({ nodes:=s13.1,next:=s13.2.1 } : Af),configs:=s13.2.2.1,sets:=s13.2.2.2.1,partitions:=s13.2.2.2.2 } : plan) k13 (s10.get k13)) fun r111=>(n13 (r111.tree.nodes,r111.tree.next,r111.configs,r111.sets,r111.partitions)))
noncomputable def Vo (s13:(List Ak)×Int×(List Ag)×(IMap (List Int))×(IMap Bool)):Option plan:=(some ({ tree:=({ nodes:=s13.1,next:=s13.2.1 } : Af),configs:=s13.2.2.1,sets:=s13.2.2.2.1,partitions:=s13.2.2.2.2 } : plan))
noncomputable def Nk (rec:plan→Int→(List Int)→Option plan) (p0:plan) (p1:Int) (s1:(IMap (List Int))×(List Int)×(IMap Bool)×(List Int)) (s10:IMap (List Int)):Option plan:=(rangeM (Vd rec s10) Vo Fm s10.has (p0.tree.nodes,p0.tree.next,p0.configs,(p0.sets.set p1 s1.2.2.2),s1.2.2.1))
noncomputable def Jv (rec:plan→Int→(List Int)→Option plan) (p0:plan) (p1:Int) (s1:(IMap (List Int))×(List Int)×(IMap Bool)×(List Int)):Option plan:=(if s1.2.1.length≤9223372036854775807 then Az (Uz p0 s1) (Nk rec p0 p1 s1) s1.2.1 0 s1.1 else none)
noncomputable def Kr (rec:plan→Int→(List Int)→Option plan) (p0:plan) (p1:Int) (p2:List Int):Option plan:=(Option.bind (Rw p0.tree p1) fun r1=>(if r1.length≤9223372036854775807 then Az (Xb p0 p1) (Jv rec p0 p1) r1 0 ((IMap.empty ([]:List Int)),[],p0.partitions,p2) else none))
noncomputable def Ew:Nat→plan→Int→(List Int)→Option plan
 | 0,_,_,_=>none
 | n+1,p0,p1,p2=>Kr (Ew n) p0 p1 p2
noncomputable def Re (p0:plan) (p1:Int) (p2:List Int):Option plan:=Ew Fm p0 p1 p2
noncomputable def AcW (p0:Af) (p1:List Ag) (p2:List Int):Option plan:=(Option.bind (Dz p2) fun r1=>(Option.bind (Re ({ tree:=p0,configs:=p1,sets:=(IMap.empty ([]:List Int)),partitions:=((IMap.empty false).set 1 true) } : plan) 1 r1) fun r2=>(some ({ tree:=r2.tree,configs:=r2.configs,sets:=r2.sets,partitions:=(r2.partitions.del 1 false) } : plan))))
noncomputable def Vq (p0:Af) (p1:List Ag) (p2:List Int) (p3:Int):Option (List Int):=(Option.bind (Qt p0 p1 p2 16) fun r1=>(if (!r1) then (some []) else (Option.bind (AcW p0 p1 p2) fun r3=>(Option.bind (Dz (r3.sets.get p3)) fun r4=>(some r4)))))
def Rn (n1:(Ai×(List Int))→Option ((List Int)×Ai)) (y3:Ai×(List Int)):Option ((List Int)×Ai):=(n1 (y3.1,y3.2))
def AcR (k1:Int) (s1:Ai×(List Int)) (n1:(Ai×(List Int))→Option ((List Int)×Ai)):Option ((List Int)×Ai):=(Option.bind (Cz s1.1 3) fun r9=>(if r9.1 then (if s1.2.length+1≤1073741824 then ((Rn n1) (r9.2,(s1.2 ++ [k1]))) else none) else ((Rn n1) (r9.2,s1.2))))
def AdD (s1:Ai×(List Int)):Option ((List Int)×Ai):=(some (s1.2,s1.1))
def Mn (p0:Ai) (p1:Int):Option ((List Int)×Ai):=(if p1≤9223372036854775807 then (forO AcR AdD (Int.toNat (p1-0)) 0 (p0,[])) else none)
def Aaz (k1:Int) (s1:List Int) (n1:(List Int)→Option ((List Int)×Ai)):Option ((List Int)×Ai):=(if s1.length+1≤1073741824 then (n1 (s1 ++ [k1])) else none)
def AaA (r1:(List Int)×Ai) (s1:List Int):Option ((List Int)×Ai):=(some (s1,r1.2))
def Pp (p0:Ai) (p1:Int):Option ((List Int)×Ai):=(Option.bind (Mn p0 p1) fun r1=>(if (decide (((r1.1.length:Nat):Int)>0)) then (some (r1.1,r1.2)) else (if p1≤9223372036854775807 then (forO Aaz (AaA r1) (Int.toNat (p1-0)) 0 []) else none)))
end Go.Dm

namespace Go.Dm
def Po (p0:Ai):Option (Int×Ai):=(Option.bind (Bn p0 1000) fun r4=>(Option.bind (Bn r4.2 8) fun r5=>(if 0≤r5.1∧r5.1<(([1,100,300,10000,50,200,7,(w64 (1+r4.1))].length:Nat):Int) then (if (Int.toNat r5.1) < [1,100,300,10000,50,200,7,(w64 (1+r4.1))].length then (some (([1,100,300,10000,50,200,7,(w64 (1+r4.1))].getD (Int.toNat r5.1) 0),r5.2)) else none) else none)))
def Ht (r1:Ac) (y1:Ai×Int) (r5:Int×Ai) (y2:Ai×Int×Int) (r10:Int×Ai) (r11:Int×Ai) (r12:Int×Ai) (y3:Ai×(List Int)) (y4:Ai×(List Int)) (r19:Bool×Ai) (y5:Int):Option (Ac×Ai):=(some (({ pidsMax:=y1.2,weight:=r5.1,quota:=y2.2.1,period:=(w64 (1+r10.1)),burst:=y2.2.2,clampMin:=r11.1,clampMax:=r12.1,cpus:=y3.2,mems:=y4.2,partition:=y5,memory:=r1.memory,devices:=r1.devices } : Ac),r19.2))
def Ia (r1:Ac) (y1:Ai×Int) (r5:Int×Ai) (y2:Ai×Int×Int) (r10:Int×Ai) (r11:Int×Ai) (r12:Int×Ai) (y3:Ai×(List Int)) (y4:Ai×(List Int)):Option (Ac×Ai):=(Option.bind (Cz y4.1 3) fun r19=>(if r19.1 then ((Ht r1 y1 r5 y2 r10 r11 r12 y3 y4 r19) 1) else ((Ht r1 y1 r5 y2 r10 r11 r12 y3 y4 r19) r1.partition)))
def Hr (r1:Ac) (y1:Ai×Int) (r5:Int×Ai) (y2:Ai×Int×Int) (r10:Int×Ai) (r11:Int×Ai) (r12:Int×Ai) (y3:Ai×(List Int)):Option (Ac×Ai):=(Option.bind (Cz y3.1 2) fun r16=>(if r16.1 then (Option.bind (Mn r16.2 4) fun r18=>((Ia r1 y1 r5 y2 r10 r11 r12 y3) (r18.2,r18.1))) else ((Ia r1 y1 r5 y2 r10 r11 r12 y3) (r16.2,r1.mems))))
def Hp (r1:Ac) (y1:Ai×Int) (r5:Int×Ai) (y2:Ai×Int×Int):Option (Ac×Ai):=(Option.bind (Bn y2.1 9) fun r10=>(Option.bind (Bn r10.2 10001) fun r11=>(Option.bind (Bn r11.2 10001) fun r12=>(Option.bind (Cz r12.2 2) fun r13=>(if r13.1 then (Option.bind (Mn r13.2 6) fun r15=>((Hr r1 y1 r5 y2 r10 r11 r12) (r15.2,r15.1))) else ((Hr r1 y1 r5 y2 r10 r11 r12) (r13.2,r1.cpus)))))))
def Hv (r1:Ac) (y1:Ai×Int):Option (Ac×Ai):=(Option.bind (Po y1.1) fun r5=>(Option.bind (Cz r5.2 2) fun r6=>(if r6.1 then (Option.bind (Bn r6.2 9) fun r8=>(Option.bind (Bn r8.2 (w64 ((w64 (1+r8.1))+1))) fun r9=>((Hp r1 y1 r5) (r9.2,(w64 (1+r8.1)),r9.1)))) else ((Hp r1 y1 r5) (r6.2,r1.quota,r1.burst)))))
def Nf (p0:Ai):Option (Ac×Ai):=(Option.bind Qv fun r1=>(Option.bind (Cz p0 2) fun r2=>(if r2.1 then (Option.bind (Bn r2.2 6) fun r4=>((Hv r1) (r4.2,r4.1))) else ((Hv r1) (r2.2,r1.pidsMax)))))
def Ir (x1:Ak) (s1:Ai×(List Ag)) (n1:(Ai×(List Ag))→Option ((List Ag)×Ai)) (y3:Ai×Ac):Option ((List Ag)×Ai):=(if s1.2.length+1≤1073741824 then (n1 (y3.1,(s1.2 ++ [({ group:=x1.id,settings:=y3.2 } : Ag)]))) else none)
def Zh (k1:Nat) (x1:Ak) (s1:Ai×(List Ag)) (n1:(Ai×(List Ag))→Option ((List Ag)×Ai)):Option ((List Ag)×Ai):=(Option.bind Qv fun r15=>(Option.bind (Cz s1.1 2) fun r16=>(if r16.1 then (Option.bind (Nf r16.2) fun r18=>((Ir x1 s1 n1) (r18.2,r18.1))) else ((Ir x1 s1 n1) (r16.2,r15)))))
def Zb (s1:Ai×(List Ag)):Option ((List Ag)×Ai):=(some (s1.2,s1.1))
def Np (p0:Ai) (p1:Af):Option ((List Ag)×Ai):=(if p1.nodes.length≤9223372036854775807 then Az Zh Zb p1.nodes 0 (p0,[]) else none)
end Go.Dm

namespace Go.Dm
section
variable {P : Program} {cx:Cx P} {β:Bi} {σ:St} {a:Act} {w:World} {Q:Exit→St→Prop}
end
end Go.Dm

namespace Go.Dm
end Go.Dm

namespace Go.Dm
structure place where
 group:Int
 cpus:List Int
 alone:Bool
 deriving Inhabited
end Go.Dm

namespace Go.Dm
theorem noK {α:Type} {x:α} {p:Prop} (h:(none:Option α)=some x):p:=nomatch h
end Go.Dm

namespace Go.Dm
abbrev zaZ : Ac := { pidsMax:=0,weight:=0,quota:=0,period:=0,burst:=0,clampMin:=0,clampMax:=0,cpus := [],mems := [],partition:=0,memory:=({ min:=0,low:=0,high:=0,max:=0,swapMax:=0,together:=false } : Fd),devices := [] }
structure span where
  first:Int
  last:Int
  deriving Inhabited
def encspan (x:span):List PV := [vi x.first,vi x.last]
abbrev dspan : span:=default
abbrev slspan (L:List span):PV:=Gy 2 encspan (default:span) L
abbrev rospan (L:List span):Body:=Ads 2 encspan (default:span) L
abbrev elspan (L:List span):Nat→List PV:=elems encspan (default:span) L
def AbB : Option Bool:=some true
def Ur (p1:List Ag) (k1:Nat) (x1:Ak) (s1:List Ag) (n1:(List Ag)→Option (List Ag)):Option (List Ag):=(Option.bind (Hn p1 x1.id) fun r14=>(if s1.length+1≤1073741824 then (n1 (s1 ++ [({ group:=x1.id,settings:=r14 } : Ag)])) else none))
def Abo (s1:List Ag):Option (List Ag):=(some s1)
def Yu (p0:Af) (p1:List Ag):Option (List Ag):=(Option.bind (Mz p0) fun r1=>(if (!r1) then (some []) else (if p0.nodes.length≤9223372036854775807 then Az (Ur p1) Abo p0.nodes 0 [] else none)))
def Xu (p0:Af):Option (List Ag):=(Option.bind (Yu p0 []) fun r1=>(some r1))
def fileNames : List ByteArray := [bs [112,105,100,115,46,109,97,120],bs [99,112,117,46,119,101,105,103,104,116],bs [99,112,117,46,109,97,120],bs [99,112,117,46,109,97,120,46,98,117,114,115,116],bs [99,112,117,46,117,99,108,97,109,112,46,109,105,110],bs [99,112,117,46,117,99,108,97,109,112,46,109,97,120],bs [99,112,117,115,101,116,46,99,112,117,115],bs [99,112,117,115,101,116,46,109,101,109,115],bs [99,112,117,115,101,116,46,99,112,117,115,46,112,97,114,116,105,116,105,111,110]]
def Qi (p0:Ac):Option Unit:=(some ())
def Ol (p0:Int):Option ByteArray:=(if -9223372036854775808≤p0∧p0≤9223372036854775807 then some ⟨(Lib.itoa p0).toArray⟩ else none)
def Ef (p0:Int):Option (ByteArray×Int):=(if (p0==4611686018427387904) then (some ((bs [109,97,120]),0)) else (if ((decide (p0<0))||(decide (p0>1099511627776))) then (some (ByteArray.empty,3)) else (Option.bind (Ol p0) fun r4=>(some (r4,0)))))
def Vv (p0:Ac):Option (ByteArray×Int):=(Option.bind (Qi p0) fun r1=>(Option.bind (Ef p0.pidsMax) fun r2=>(some (r2.1,r2.2))))
def Agr (p0:Ac):Option (ByteArray×Int):=(Option.bind (some ()) fun r1=>(Option.bind (Ax p0) fun r2=>(if (!r2) then (some (ByteArray.empty,1)) else (Option.bind (Vv p0) fun r4=>(if (r4.2 != 0) then (some (ByteArray.empty,r4.2)) else (if r4.1.size+(bs [10]).size≤9223372036854775807 then (some ((r4.1++(bs [10])),0)) else none))))))
def Qy (p0:Ac):Option Unit:=(some ())
def Wj (p0:Ac):Option (ByteArray×Int):=(Option.bind (Qy p0) fun r1=>(Option.bind (Ef p0.weight) fun r2=>(some (r2.1,r2.2))))
def Agg (p0:Ac):Option (ByteArray×Int):=(Option.bind (some ()) fun r1=>(Option.bind (Ax p0) fun r2=>(if (!r2) then (some (ByteArray.empty,1)) else (Option.bind (Wj p0) fun r4=>(if (r4.2 != 0) then (some (ByteArray.empty,r4.2)) else (if r4.1.size+(bs [10]).size≤9223372036854775807 then (some ((r4.1++(bs [10])),0)) else none))))))
def Wf (p0:Ac):Option (ByteArray×Int):=(Option.bind (Ef p0.quota) fun r1=>(if (r1.2 != 0) then (some (ByteArray.empty,r1.2)) else (Option.bind (Ef p0.period) fun r3=>(if r1.1.size+(bs [32]).size≤9223372036854775807 then (if (r1.1++(bs [32])).size+r3.1.size≤9223372036854775807 then (some (((r1.1++(bs [32]))++r3.1),r3.2)) else none) else none))))
def Ahe (p0:Ac):Option (ByteArray×Int):=(Option.bind (some ()) fun r1=>(Option.bind (Ax p0) fun r2=>(if (!r2) then (some (ByteArray.empty,1)) else (Option.bind (Wf p0) fun r4=>(if (r4.2 != 0) then (some (ByteArray.empty,r4.2)) else (if r4.1.size+(bs [10]).size≤9223372036854775807 then (some ((r4.1++(bs [10])),0)) else none))))))
def Ql (p0:Ac):Option Unit:=(some ())
def Vw (p0:Ac):Option (ByteArray×Int):=(Option.bind (Ql p0) fun r1=>(Option.bind (Ef p0.burst) fun r2=>(some (r2.1,r2.2))))
def AgE (p0:Ac):Option (ByteArray×Int):=(Option.bind (some ()) fun r1=>(Option.bind (Ax p0) fun r2=>(if (!r2) then (some (ByteArray.empty,1)) else (Option.bind (Vw p0) fun r4=>(if (r4.2 != 0) then (some (ByteArray.empty,r4.2)) else (if r4.1.size+(bs [10]).size≤9223372036854775807 then (some ((r4.1++(bs [10])),0)) else none))))))
def Qm (p0:Ac):Option Unit:=(some ())
def Ev (p0:Int):Option (ByteArray×Int):=(if (p0==10000) then (some ((bs [109,97,120]),0)) else (if ((decide (p0<0))||(decide (p0>10000))) then (some (ByteArray.empty,3)) else (Option.bind (Ol (w64 (100+(Int.tmod p0 100)))) fun r4=>(Option.bind (Ol (w64 (Int.tdiv p0 100))) fun r5=>(if r5.size+(bs [46]).size≤9223372036854775807 then (if 1≤r4.size then (if (r5++(bs [46])).size+(r4.extract 1 r4.size).size≤9223372036854775807 then (some (((r5++(bs [46]))++(r4.extract 1 r4.size)),0)) else none) else none) else none)))))
def Rt (p0:Ac):Option (ByteArray×Int):=(Option.bind (Qm p0) fun r1=>(Option.bind (Ev p0.clampMin) fun r2=>(some (r2.1,r2.2))))
def Ahr (p0:Ac):Option (ByteArray×Int):=(Option.bind (some ()) fun r1=>(Option.bind (Ax p0) fun r2=>(if (!r2) then (some (ByteArray.empty,1)) else (Option.bind (Rt p0) fun r4=>(if (r4.2 != 0) then (some (ByteArray.empty,r4.2)) else (if r4.1.size+(bs [10]).size≤9223372036854775807 then (some ((r4.1++(bs [10])),0)) else none))))))
def Qp (p0:Ac):Option Unit:=(some ())
def Ro (p0:Ac):Option (ByteArray×Int):=(Option.bind (Qp p0) fun r1=>(Option.bind (Ev p0.clampMax) fun r2=>(some (r2.1,r2.2))))
def Ahp (p0:Ac):Option (ByteArray×Int):=(Option.bind (some ()) fun r1=>(Option.bind (Ax p0) fun r2=>(if (!r2) then (some (ByteArray.empty,1)) else (Option.bind (Ro p0) fun r4=>(if (r4.2 != 0) then (some (ByteArray.empty,r4.2)) else (if r4.1.size+(bs [10]).size≤9223372036854775807 then (some ((r4.1++(bs [10])),0)) else none))))))
def Qr (p0:Ac):Option Unit:=(some ())
def AhC (p0:List ByteArray) (p1:ByteArray):Option ByteArray:=(if p0.length≤140737488355328∧(Lib.join (p0.map (·.data.toList)) p1.data.toList).length≤140737488355328 then some ⟨(Lib.join (p0.map (·.data.toList)) p1.data.toList).toArray⟩ else none)
def Zv (s1:(List ByteArray)×Int) (n1:((List ByteArray)×Int)→Option (ByteArray×Int)) (s3:Int) (y10:ByteArray):Option (ByteArray×Int):=(if s1.1.length+1≤1073741824 then (n1 ((s1.1 ++ [y10]),(w64 (s3+1)))) else none)
def Abd (p0:List Int) (s1:(List ByteArray)×Int) (n1:((List ByteArray)×Int)→Option (ByteArray×Int)) (s3:Int) (n3:Int→Option (ByteArray×Int)) (y9:Bool):Option (ByteArray×Int):=(if y9 then (n3 (w64 (s3+1))) else (if 0≤s1.2∧s1.2<((p0.length:Nat):Int) then (Option.bind (Ol (p0.getD (Int.toNat s1.2) 0)) fun r58=>(if (decide (s3>s1.2)) then (if 0≤s3∧s3<((p0.length:Nat):Int) then (Option.bind (Ol (p0.getD (Int.toNat s3) 0)) fun r61=>(if (bs [45]).size+r61.size≤9223372036854775807 then (if r58.size+((bs [45])++r61).size≤9223372036854775807 then ((Zv s1 n1 s3) (r58++((bs [45])++r61))) else none) else none)) else none) else ((Zv s1 n1 s3) r58))) else none))
def Amq (p0:List Int) (s1:(List ByteArray)×Int) (n1:((List ByteArray)×Int)→Option (ByteArray×Int)) (s3:Int) (n3:Int→Option (ByteArray×Int)):Option (ByteArray×Int):=(if (decide ((w64 (s3+1))<((p0.length:Nat):Int))) then (if 0≤(w64 (s3+1))∧(w64 (s3+1))<((p0.length:Nat):Int) then (if 0≤s3∧s3<((p0.length:Nat):Int) then ((Abd p0 s1 n1 s3 n3) ((p0.getD (Int.toNat (w64 (s3+1))) 0)==(w64 ((p0.getD (Int.toNat s3) 0)+1)))) else none) else none) else ((Abd p0 s1 n1 s3 n3) false))
def Wa (p0:List Int) (s1:(List ByteArray)×Int) (n1:((List ByteArray)×Int)→Option (ByteArray×Int)) (y6:Bool):Option (ByteArray×Int):=(if y6 then (some (ByteArray.empty,1)) else (whileO (Amq p0 s1 n1) Fm s1.2))
def Ama (p0:List Int) (s1:(List ByteArray)×Int) (n1:((List ByteArray)×Int)→Option (ByteArray×Int)):Option (ByteArray×Int):=(if (decide (s1.2<((p0.length:Nat):Int))) then (if 0≤s1.2∧s1.2<((p0.length:Nat):Int) then (if (decide ((p0.getD (Int.toNat s1.2) 0)<0)) then ((Wa p0 s1 n1) true) else (if (decide (s1.2>0)) then (if 0≤s1.2∧s1.2<((p0.length:Nat):Int) then (if 0≤(w64 (s1.2-1))∧(w64 (s1.2-1))<((p0.length:Nat):Int) then ((Wa p0 s1 n1) (decide ((p0.getD (Int.toNat s1.2) 0)≤(p0.getD (Int.toNat (w64 (s1.2-1))) 0)))) else none) else none) else ((Wa p0 s1 n1) false))) else none) else (Option.bind (AhC s1.1 (bs [44])) fun r68=>(some (r68,0))))
def Va (p0:List Int):Option (ByteArray×Int):=(whileO (Ama p0) Fm ([],0))
def Vx (p0:Ac):Option (ByteArray×Int):=(Option.bind (Qr p0) fun r1=>(Option.bind (Va p0.cpus) fun r2=>(some (r2.1,r2.2))))
def Ahd (p0:Ac):Option (ByteArray×Int):=(Option.bind (some ()) fun r1=>(Option.bind (Ax p0) fun r2=>(if (!r2) then (some (ByteArray.empty,1)) else (Option.bind (Vx p0) fun r4=>(if (r4.2 != 0) then (some (ByteArray.empty,r4.2)) else (if r4.1.size+(bs [10]).size≤9223372036854775807 then (some ((r4.1++(bs [10])),0)) else none))))))
def Qu (p0:Ac):Option Unit:=(some ())
def Wg (p0:Ac):Option (ByteArray×Int):=(Option.bind (Qu p0) fun r1=>(Option.bind (Va p0.mems) fun r2=>(some (r2.1,r2.2))))
def Agk (p0:Ac):Option (ByteArray×Int):=(Option.bind (some ()) fun r1=>(Option.bind (Ax p0) fun r2=>(if (!r2) then (some (ByteArray.empty,1)) else (Option.bind (Wg p0) fun r4=>(if (r4.2 != 0) then (some (ByteArray.empty,r4.2)) else (if r4.1.size+(bs [10]).size≤9223372036854775807 then (some ((r4.1++(bs [10])),0)) else none))))))
def Gs (p0:Ac):Option (ByteArray×Int):=(if (p0.partition==1) then (some ((bs [114,111,111,116]),0)) else (some ((bs [109,101,109,98,101,114]),0)))
def Ahu (p0:Ac):Option (ByteArray×Int):=(Option.bind (some ()) fun r1=>(Option.bind (Ax p0) fun r2=>(if (!r2) then (some (ByteArray.empty,1)) else (Option.bind (Gs p0) fun r4=>(if (r4.2 != 0) then (some (ByteArray.empty,r4.2)) else (if r4.1.size+(bs [10]).size≤9223372036854775807 then (some ((r4.1++(bs [10])),0)) else none))))))
def Yd (p0:Ac) (p1:ByteArray):Option (ByteArray×Int):=(if p1.data = #[112,105,100,115,46,109,97,120] then (Agr p0) else (if p1.data = #[99,112,117,46,119,101,105,103,104,116] then (Agg p0) else (if p1.data = #[99,112,117,46,109,97,120] then (Ahe p0) else (if p1.data = #[99,112,117,46,109,97,120,46,98,117,114,115,116] then (AgE p0) else (if p1.data = #[99,112,117,46,117,99,108,97,109,112,46,109,105,110] then (Ahr p0) else (if p1.data = #[99,112,117,46,117,99,108,97,109,112,46,109,97,120] then (Ahp p0) else (if p1.data = #[99,112,117,115,101,116,46,99,112,117,115] then (Ahd p0) else (if p1.data = #[99,112,117,115,101,116,46,109,101,109,115] then (Agk p0) else (if p1.data = #[99,112,117,115,101,116,46,99,112,117,115,46,112,97,114,116,105,116,105,111,110] then (Ahu p0) else none)))))))))
def Sf (p0:ByteArray) (p1:ByteArray):Option ByteArray:=(if p0.size≤9223372036854775807 then some ⟨(Lib.trimSuffix p0.data.toList p1.data.toList).toArray⟩ else none)
def Ge (p0:ByteArray):Option ByteArray:=(Option.bind (Sf p0 (bs [10])) fun r1=>(some r1))
def Abj (p0:ByteArray) (p1:Int):Option Int:=some (Lib.indexByte p0.data.toList p1.toNat.toUInt8)
def AjC (p0:ByteArray) (s1:Nat) (n1:Nat→Option Bool):Option Bool:=(if (decide (s1<p0.size)) then (if ((decide ((((Utf8.decode p0 s1).1:Nat):Int)<48))||(decide ((((Utf8.decode p0 s1).1:Nat):Int)>57))) then (some false) else (n1 (s1+(Utf8.decode p0 s1).2))) else (some (!(Cp p0 ByteArray.empty))))
def Vz (p0:ByteArray):Option Bool:=(whileO (AjC p0) Fm 0)
def Ald (p0:ByteArray) (p1:Int) (s1:Nat×Int) (n1:(Nat×Int)→Option Int):Option Int:=(if (decide (s1.1<p0.size)) then (n1 ((s1.1+(Utf8.decode p0 s1.1).2),(Wt (w64 ((w64 (10*s1.2))+(w64 (IntKind.i32.wrap ((((Utf8.decode p0 s1.1).1:Nat):Int)-48))))) p1))) else (some s1.2))
def Yo (p0:ByteArray) (p1:Int):Option Int:=(whileO (Ald p0 p1) Fm (0,0))
def Tx (y1:ByteArray×Int):Option (Int×Int):=(Option.bind (Vz y1.1) fun r7=>(if (!r7) then (some (0,2)) else (Option.bind (Yo y1.1 1099511627777) fun r9=>(if (0:Int)≤y1.2 then (if (decide (r9>(kshr .i64 1099511627776 y1.2))) then (some (0,3)) else (if (0:Int)≤y1.2 then (some ((kshl .i64 r9 y1.2),0)) else none)) else none))))
def Er (p0:ByteArray):Option (Int×Int):=(if (Cp p0 (bs [109,97,120])) then (some (4611686018427387904,0)) else (if (!(Cp p0 ByteArray.empty)) then (if 0≤(w64 (((p0.size:Nat):Int)-1))∧(w64 (((p0.size:Nat):Int)-1))<((p0.size:Nat):Int) then (Option.bind (Abj (bs [75,77,71,84]) (((Br p0 (Int.toNat (w64 (((p0.size:Nat):Int)-1)))):Nat):Int)) fun r4=>(if (decide (r4≥0)) then (if 0≤(w64 (((p0.size:Nat):Int)-1))∧(w64 (((p0.size:Nat):Int)-1))≤((p0.size:Nat):Int) then (Tx ((p0.extract 0 (Int.toNat (w64 (((p0.size:Nat):Int)-1)))),(w64 (10*(w64 (r4+1)))))) else none) else (Tx (p0,0)))) else none) else (Tx (p0,0))))
def Rv (p0:Ac) (p1:ByteArray):Option (Int×Ac):=(Option.bind (Er p1) fun r1=>(if (r1.2 != 0) then (some (r1.2,p0)) else (Option.bind (Qi p0) fun r4=>(some (0,({ pidsMax:=r1.1,weight:=p0.weight,quota:=p0.quota,period:=p0.period,burst:=p0.burst,clampMin:=p0.clampMin,clampMax:=p0.clampMax,cpus:=p0.cpus,mems:=p0.mems,partition:=p0.partition,memory:=p0.memory,devices:=p0.devices } : Ac))))))
def Afy (p0:Ac) (p2:ByteArray):Option (Ac×Int):=(Option.bind (some ()) fun r1=>(Option.bind (Ax p0) fun r2=>(if (!r2) then (some (zaZ,1)) else (if (decide (((p2.size:Nat):Int)>4096)) then (some (zaZ,7)) else (Option.bind (Da p0) fun r5=>(Option.bind (Ge p2) fun r9=>(Option.bind (Rv r5 r9) fun r10=>(if (r10.1 != 0) then (some (zaZ,r10.1)) else (Option.bind (Ax r10.2) fun r12=>(if (!r12) then (some (zaZ,3)) else (some (r10.2,0))))))))))))
def Sa (p0:Ac) (p1:ByteArray):Option (Int×Ac):=(Option.bind (Er p1) fun r1=>(if (r1.2 != 0) then (some (r1.2,p0)) else (if ((r1.1==4611686018427387904)&&true) then (some (2,p0)) else (Option.bind (Qy p0) fun r5=>(some (0,({ pidsMax:=p0.pidsMax,weight:=r1.1,quota:=p0.quota,period:=p0.period,burst:=p0.burst,clampMin:=p0.clampMin,clampMax:=p0.clampMax,cpus:=p0.cpus,mems:=p0.mems,partition:=p0.partition,memory:=p0.memory,devices:=p0.devices } : Ac)))))))
def Afu (p0:Ac) (p2:ByteArray):Option (Ac×Int):=(Option.bind (some ()) fun r1=>(Option.bind (Ax p0) fun r2=>(if (!r2) then (some (zaZ,1)) else (if (decide (((p2.size:Nat):Int)>4096)) then (some (zaZ,7)) else (Option.bind (Da p0) fun r5=>(Option.bind (Ge p2) fun r9=>(Option.bind (Sa r5 r9) fun r10=>(if (r10.1 != 0) then (some (zaZ,r10.1)) else (Option.bind (Ax r10.2) fun r12=>(if (!r12) then (some (zaZ,3)) else (some (r10.2,0))))))))))))
def Qn (p0:ByteArray) (p1:ByteArray):Option (List ByteArray):=(if p0.size<4294967281∧1≤p1.size then some (Lib.splitB p1 0 (Lib.countB p0 p1) p0) else none)
def Qf (y3:Ac):Option (Int×Ac):=(some (0,y3))
def Py (r12:Int×Int) (y2:Ac):Option (Int×Ac):=(if ((r12.1==4611686018427387904)||(decide (y2.burst>r12.1))) then (Qf ({ pidsMax:=y2.pidsMax,weight:=y2.weight,quota:=r12.1,period:=y2.period,burst:=0,clampMin:=y2.clampMin,clampMax:=y2.clampMax,cpus:=y2.cpus,mems:=y2.mems,partition:=y2.partition,memory:=y2.memory,devices:=y2.devices } : Ac)) else (Qf ({ pidsMax:=y2.pidsMax,weight:=y2.weight,quota:=r12.1,period:=y2.period,burst:=y2.burst,clampMin:=y2.clampMin,clampMax:=y2.clampMax,cpus:=y2.cpus,mems:=y2.mems,partition:=y2.partition,memory:=y2.memory,devices:=y2.devices } : Ac)))
def Ix (p0:Ac) (r1:List ByteArray) (y1:Bool):Option (Int×Ac):=(if y1 then (some (2,p0)) else (if 0<r1.length then (if 0<r1.length then (Option.bind (Er (r1.getD 0 ByteArray.empty)) fun r12=>(if (r12.2 != 0) then (some (r12.2,p0)) else (if (((r1.length:Nat):Int)==2) then (if 1<r1.length then (if 1<r1.length then (Option.bind (Er (r1.getD 1 ByteArray.empty)) fun r17=>(if (r17.2 != 0) then (some (r17.2,p0)) else (if (r17.1==4611686018427387904) then (some (2,p0)) else ((Py r12) ({ pidsMax:=p0.pidsMax,weight:=p0.weight,quota:=p0.quota,period:=r17.1,burst:=p0.burst,clampMin:=p0.clampMin,clampMax:=p0.clampMax,cpus:=p0.cpus,mems:=p0.mems,partition:=p0.partition,memory:=p0.memory,devices:=p0.devices } : Ac))))) else none) else none) else ((Py r12) p0)))) else none) else none))
def Ud (p0:Ac) (p1:ByteArray):Option (Int×Ac):=(Option.bind (Qn p1 (bs [32])) fun r1=>(if (decide (((r1.length:Nat):Int)>2)) then ((Ix p0 r1) true) else (if (((r1.length:Nat):Int)==2) then (if 0<r1.length then (if 0<r1.length then (if (Cp (r1.getD 0 ByteArray.empty) ByteArray.empty) then ((Ix p0 r1) true) else (if 1<r1.length then (if 1<r1.length then ((Ix p0 r1) (Cp (r1.getD 1 ByteArray.empty) ByteArray.empty)) else none) else none)) else none) else none) else ((Ix p0 r1) false))))
def AfL (p0:Ac) (p2:ByteArray):Option (Ac×Int):=(Option.bind (some ()) fun r1=>(Option.bind (Ax p0) fun r2=>(if (!r2) then (some (zaZ,1)) else (if (decide (((p2.size:Nat):Int)>4096)) then (some (zaZ,7)) else (Option.bind (Da p0) fun r5=>(Option.bind (Ge p2) fun r9=>(Option.bind (Ud r5 r9) fun r10=>(if (r10.1 != 0) then (some (zaZ,r10.1)) else (Option.bind (Ax r10.2) fun r12=>(if (!r12) then (some (zaZ,3)) else (some (r10.2,0))))))))))))
def Rq (p0:Ac) (p1:ByteArray):Option (Int×Ac):=(Option.bind (Er p1) fun r1=>(if (r1.2 != 0) then (some (r1.2,p0)) else (if ((r1.1==4611686018427387904)&&true) then (some (2,p0)) else (Option.bind (Ql p0) fun r5=>(some (0,({ pidsMax:=p0.pidsMax,weight:=p0.weight,quota:=p0.quota,period:=p0.period,burst:=r1.1,clampMin:=p0.clampMin,clampMax:=p0.clampMax,cpus:=p0.cpus,mems:=p0.mems,partition:=p0.partition,memory:=p0.memory,devices:=p0.devices } : Ac)))))))
def AfJ (p0:Ac) (p2:ByteArray):Option (Ac×Int):=(Option.bind (some ()) fun r1=>(Option.bind (Ax p0) fun r2=>(if (!r2) then (some (zaZ,1)) else (if (decide (((p2.size:Nat):Int)>4096)) then (some (zaZ,7)) else (Option.bind (Da p0) fun r5=>(Option.bind (Ge p2) fun r9=>(Option.bind (Rq r5 r9) fun r10=>(if (r10.1 != 0) then (some (zaZ,r10.1)) else (Option.bind (Ax r10.2) fun r12=>(if (!r12) then (some (zaZ,3)) else (some (r10.2,0))))))))))))
def AdX (p0:ByteArray) (p1:ByteArray):Option (ByteArray×ByteArray×Bool):=(if p0.size<4294967281 then some (⟨(Lib.cut p0.data.toList p1.data.toList).1.toArray⟩,⟨(Lib.cut p0.data.toList p1.data.toList).2.1.toArray⟩,(Lib.cut p0.data.toList p1.data.toList).2.2) else none)
def Im (r2:ByteArray×ByteArray×Bool) (y1:Bool):Option (Int×Int):=(if y1 then (some (0,2)) else (Option.bind (Yo r2.1 10000) fun r9=>(if r2.2.1.size+(bs [48,48]).size≤9223372036854775807 then (if 2≤(((r2.2.1++(bs [48,48])).size:Nat):Int) then (Option.bind (Yo ((r2.2.1++(bs [48,48])).extract 0 2) 10000) fun r12=>(if (decide ((w64 ((w64 (r9*100))+r12))>10000)) then (some (0,3)) else (some ((w64 ((w64 (r9*100))+r12)),0)))) else none) else none)))
def Ie (p0:ByteArray):Option (Int×Int):=(if (Cp p0 (bs [109,97,120])) then (some (10000,0)) else (Option.bind (AdX p0 (bs [46])) fun r2=>(Option.bind (Vz r2.1) fun r3=>(if (!r3) then ((Im r2) true) else (if r2.2.2 then (Option.bind (Vz r2.2.1) fun r6=>(if (!r6) then ((Im r2) true) else ((Im r2) (decide (((r2.2.1.size:Nat):Int)>2))))) else ((Im r2) false))))))
def Um (r1:Int×Int) (y1:Ac):Option (Int×Ac):=(some (r1.2,y1))
def Ry (p0:Ac) (p1:ByteArray):Option (Int×Ac):=(Option.bind (Ie p1) fun r1=>(if (r1.2==0) then (Option.bind (Qm p0) fun r3=>((Um r1) ({ pidsMax:=p0.pidsMax,weight:=p0.weight,quota:=p0.quota,period:=p0.period,burst:=p0.burst,clampMin:=r1.1,clampMax:=p0.clampMax,cpus:=p0.cpus,mems:=p0.mems,partition:=p0.partition,memory:=p0.memory,devices:=p0.devices } : Ac))) else ((Um r1) p0)))
def Afr (p0:Ac) (p2:ByteArray):Option (Ac×Int):=(Option.bind (some ()) fun r1=>(Option.bind (Ax p0) fun r2=>(if (!r2) then (some (zaZ,1)) else (if (decide (((p2.size:Nat):Int)>4096)) then (some (zaZ,7)) else (Option.bind (Da p0) fun r5=>(Option.bind (Ge p2) fun r9=>(Option.bind (Ry r5 r9) fun r10=>(if (r10.1 != 0) then (some (zaZ,r10.1)) else (Option.bind (Ax r10.2) fun r12=>(if (!r12) then (some (zaZ,3)) else (some (r10.2,0))))))))))))
def Up (r1:Int×Int) (y1:Ac):Option (Int×Ac):=(some (r1.2,y1))
def Rm (p0:Ac) (p1:ByteArray):Option (Int×Ac):=(Option.bind (Ie p1) fun r1=>(if (r1.2==0) then (Option.bind (Qp p0) fun r3=>((Up r1) ({ pidsMax:=p0.pidsMax,weight:=p0.weight,quota:=p0.quota,period:=p0.period,burst:=p0.burst,clampMin:=p0.clampMin,clampMax:=r1.1,cpus:=p0.cpus,mems:=p0.mems,partition:=p0.partition,memory:=p0.memory,devices:=p0.devices } : Ac))) else ((Up r1) p0)))
def Afw (p0:Ac) (p2:ByteArray):Option (Ac×Int):=(Option.bind (some ()) fun r1=>(Option.bind (Ax p0) fun r2=>(if (!r2) then (some (zaZ,1)) else (if (decide (((p2.size:Nat):Int)>4096)) then (some (zaZ,7)) else (Option.bind (Da p0) fun r5=>(Option.bind (Ge p2) fun r9=>(Option.bind (Rm r5 r9) fun r10=>(if (r10.1 != 0) then (some (zaZ,r10.1)) else (Option.bind (Ax r10.2) fun r12=>(if (!r12) then (some (zaZ,3)) else (some (r10.2,0))))))))))))
def Amn (k1:Nat) (x1:Int) (s1:Int) (n1:Int→Option Int):Option Int:=(if ((decide (x1<48))||(decide (x1>57))) then (some (-1)) else (n1 (Wt (w64 ((w64 (10*s1))+(w64 (IntKind.u8.wrap (x1-48))))) 1073741824)))
def AlV (p0:ByteArray) (s1:Int):Option Int:=(if ((Cp p0 ByteArray.empty)||(decide (((p0.size:Nat):Int)>9))) then (some (-1)) else (some s1))
def Aaq (p0:ByteArray):Option Int:=(if (Dt p0).length≤9223372036854775807 then Az Amn (AlV p0) (Dt p0) 0 0 else none)
def Zq (y1:span):Option (span×Bool):=(some (y1,((decide (y1.first≥0))&&(decide (y1.last≥y1.first)))))
def Agt (p0:ByteArray):Option (span×Bool):=(Option.bind (AdX p0 (bs [45])) fun r1=>(Option.bind (Aaq r1.1) fun r2=>(Option.bind (Aaq r1.1) fun r3=>(if r1.2.2 then (Option.bind (Aaq r1.2.1) fun r5=>(Zq ({ first:=r2,last:=r5 } : span))) else (Zq ({ first:=r2,last:=r3 } : span))))))
def AgF (p0:span) (p1:Int):Option Bool:=(some (decide (p0.last≥(Wt p1 65536))))
def Te (p1c0:Int) (k1:Nat) (x1:span) (s1:Unit) (n1:Unit→Option Int):Option Int:=(Option.bind (AgF x1 p1c0) fun r10=>(if r10 then (some ((k1:Nat):Int)) else (n1 ())))
def Sh (s1:Unit):Option Int:=(some (-1))
def Kl (p0:List span) (p1c0:Int):Option Int:=(if p0.length≤9223372036854775807 then Az (Te p1c0) Sh p0 0 () else none)
def Jd (p0:List span) (p1c0:Int):Option Bool:=(Option.bind (Kl p0 p1c0) fun r1=>(some (decide (r1≥0))))
def AgC (p0:span) (p1:span):Option Int:=(some (w64 (p0.first-p1.first)))
def Ed (n1:(List span)→Option (List span)) (s4:(List span)×Int) (n4:((List span)×Int)→Option (List span)) (y6:Bool):Option (List span):=(if y6 then (if 0≤(w64 (s4.2-1))∧(w64 (s4.2-1))<((s4.1.length:Nat):Int) then (if (Int.toNat (w64 (s4.2-1)))<s4.1.length then (if 0≤s4.2∧s4.2<((s4.1.length:Nat):Int) then (if (Int.toNat s4.2)<s4.1.length then (if 0≤s4.2∧s4.2<((s4.1.length:Nat):Int) then (if (Int.toNat s4.2)<s4.1.length then (if 0≤(w64 (s4.2-1))∧(w64 (s4.2-1))<((s4.1.length:Nat):Int) then (if (Int.toNat (w64 (s4.2-1)))<s4.1.length then (n4 (((s4.1.set (Int.toNat s4.2) (s4.1.getD (Int.toNat (w64 (s4.2-1))) (default:span))).set (Int.toNat (w64 (s4.2-1))) (s4.1.getD (Int.toNat s4.2) (default:span))),(w64 (s4.2-1)))) else none) else none) else none) else none) else none) else none) else none) else none) else (n1 s4.1))
def Md (p1:Int) (n1:(List span)→Option (List span)) (s4:(List span)×Int) (n4:((List span)×Int)→Option (List span)):Option (List span):=(if (decide (s4.2>p1)) then (if 0≤s4.2∧s4.2<((s4.1.length:Nat):Int) then (if (Int.toNat s4.2)<s4.1.length then (if 0≤(w64 (s4.2-1))∧(w64 (s4.2-1))<((s4.1.length:Nat):Int) then (if (Int.toNat (w64 (s4.2-1)))<s4.1.length then (Option.bind (AgC (s4.1.getD (Int.toNat s4.2) (default:span)) (s4.1.getD (Int.toNat (w64 (s4.2-1))) (default:span))) fun r96=>((Ed n1 s4 n4) (decide (r96<0)))) else none) else none) else none) else none) else ((Ed n1 s4 n4) false))
def Mb (p1:Int) (k1:Int) (s1:List span) (n1:(List span)→Option (List span)):Option (List span):=(whileO (Md p1 n1) Fm (s1,k1))
def Mc (s1:List span):Option (List span):=(some s1)
def Gp (p0:List span) (p1:Int) (p2:Int):Option (List span):=(if -9223372036854775808≤(w64 (p1+1))∧p2≤9223372036854775807 then (forO (Mb p1) Mc (Int.toNat (p2-(w64 (p1+1)))) (w64 (p1+1)) p0) else none)
def Pe (p0:List span) (p1:Int) (p2:Int) (p3:Int) (s1:Unit) (n1:Unit→Option (List span)):Option (List span):=(if (decide ((w64 (p2-p1))≤12)) then (Option.bind (Gp p0 p1 p2) fun r2=>(if p0.length=r2.length then (some r2) else none)) else (if (p3==0) then none else none))
def Ii (p0:List span) (p1:Int) (p2:Int) (p3:Int):Option (List span):=(whileO (Pe p0 p1 p2 p3) Fm ())
def Kz (p0:List span):Option (List span):=(Option.bind (Ps (IntKind.u64.wrap ((p0.length:Nat):Int))) fun r1=>(Option.bind (Ii p0 0 ((p0.length:Nat):Int) r1) fun r2=>(if p0.length=r2.length then (some r2) else none)))
def Anu (k1:Nat) (x1:ByteArray) (s1:List span) (n1:(List span)→Option ((List Int)×Int)):Option ((List Int)×Int):=(Option.bind (Agt x1) fun r59=>(if (!r59.2) then (some ([],2)) else (if s1.length+1≤1073741824 then (n1 (s1 ++ [r59.1])) else none)))
def Amt (x10:span) (n10:((List Int)×Int)→Option ((List Int)×Int)) (s13:(List Int)×Int) (n13:((List Int)×Int)→Option ((List Int)×Int)):Option ((List Int)×Int):=(if (decide (s13.2≤x10.last)) then (if s13.1.length+1≤1073741824 then (n13 ((s13.1 ++ [s13.2]),(w64 (s13.2+1)))) else none) else (n10 (s13.1,s13.2)))
def AmA (k10:Nat) (x10:span) (s10:(List Int)×Int) (n10:((List Int)×Int)→Option ((List Int)×Int)):Option ((List Int)×Int):=(whileO (Amt x10 n10) Fm (s10.1,(maxI s10.2 x10.first)))
def Ams (s10:(List Int)×Int):Option ((List Int)×Int):=(some (s10.1,0))
def AmL (p1:Int) (s1:List span):Option ((List Int)×Int):=(Option.bind (Jd s1 p1) fun r62=>(if r62 then (some ([],3)) else (Option.bind (Kz s1) fun r64=>(if s1.length=r64.length then (if r64.length≤9223372036854775807 then Az AmA Ams r64 0 ([],0) else none) else none))))
def Yc (p0:ByteArray) (p1:Int):Option ((List Int)×Int):=(if (Cp p0 ByteArray.empty) then (some ([],0)) else (Option.bind (Qn p0 (bs [44])) fun r2=>(if r2.length≤9223372036854775807 then Az Anu (AmL p1) r2 0 [] else none)))
def Us (r1:(List Int)×Int) (y1:Ac):Option (Int×Ac):=(some (r1.2,y1))
def Rj (p0:Ac) (p1:ByteArray):Option (Int×Ac):=(Option.bind (Yc p1 16) fun r1=>(if (r1.2==0) then (Option.bind (Qr p0) fun r4=>((Us r1) ({ pidsMax:=p0.pidsMax,weight:=p0.weight,quota:=p0.quota,period:=p0.period,burst:=p0.burst,clampMin:=p0.clampMin,clampMax:=p0.clampMax,cpus:=r1.1,mems:=p0.mems,partition:=p0.partition,memory:=p0.memory,devices:=p0.devices } : Ac))) else ((Us r1) p0)))
def Afx (p0:Ac) (p2:ByteArray):Option (Ac×Int):=(Option.bind (some ()) fun r1=>(Option.bind (Ax p0) fun r2=>(if (!r2) then (some (zaZ,1)) else (if (decide (((p2.size:Nat):Int)>4096)) then (some (zaZ,7)) else (Option.bind (Da p0) fun r5=>(Option.bind (Ge p2) fun r9=>(Option.bind (Rj r5 r9) fun r10=>(if (r10.1 != 0) then (some (zaZ,r10.1)) else (Option.bind (Ax r10.2) fun r12=>(if (!r12) then (some (zaZ,3)) else (some (r10.2,0))))))))))))
def Uh (r1:(List Int)×Int) (y1:Ac):Option (Int×Ac):=(some (r1.2,y1))
def Rk (p0:Ac) (p1:ByteArray):Option (Int×Ac):=(Option.bind (Yc p1 8) fun r1=>(if (r1.2==0) then (Option.bind (Qu p0) fun r4=>((Uh r1) ({ pidsMax:=p0.pidsMax,weight:=p0.weight,quota:=p0.quota,period:=p0.period,burst:=p0.burst,clampMin:=p0.clampMin,clampMax:=p0.clampMax,cpus:=p0.cpus,mems:=r1.1,partition:=p0.partition,memory:=p0.memory,devices:=p0.devices } : Ac))) else ((Uh r1) p0)))
def AfI (p0:Ac) (p2:ByteArray):Option (Ac×Int):=(Option.bind (some ()) fun r1=>(Option.bind (Ax p0) fun r2=>(if (!r2) then (some (zaZ,1)) else (if (decide (((p2.size:Nat):Int)>4096)) then (some (zaZ,7)) else (Option.bind (Da p0) fun r5=>(Option.bind (Ge p2) fun r9=>(Option.bind (Rk r5 r9) fun r10=>(if (r10.1 != 0) then (some (zaZ,r10.1)) else (Option.bind (Ax r10.2) fun r12=>(if (!r12) then (some (zaZ,3)) else (some (r10.2,0))))))))))))
def Gv (y1:Ac):Option (Int×Ac):=(some (0,y1))
def Gb (p0:Ac) (p1:ByteArray):Option (Int×Ac):=(if (Cp p1 (bs [114,111,111,116])) then (Gv ({ pidsMax:=p0.pidsMax,weight:=p0.weight,quota:=p0.quota,period:=p0.period,burst:=p0.burst,clampMin:=p0.clampMin,clampMax:=p0.clampMax,cpus:=p0.cpus,mems:=p0.mems,partition:=1,memory:=p0.memory,devices:=p0.devices } : Ac)) else (if (Cp p1 (bs [109,101,109,98,101,114])) then (Gv ({ pidsMax:=p0.pidsMax,weight:=p0.weight,quota:=p0.quota,period:=p0.period,burst:=p0.burst,clampMin:=p0.clampMin,clampMax:=p0.clampMax,cpus:=p0.cpus,mems:=p0.mems,partition:=0,memory:=p0.memory,devices:=p0.devices } : Ac)) else (some (2,p0))))
def Afz (p0:Ac) (p2:ByteArray):Option (Ac×Int):=(Option.bind (some ()) fun r1=>(Option.bind (Ax p0) fun r2=>(if (!r2) then (some (zaZ,1)) else (if (decide (((p2.size:Nat):Int)>4096)) then (some (zaZ,7)) else (Option.bind (Da p0) fun r5=>(Option.bind (Ge p2) fun r9=>(Option.bind (Gb r5 r9) fun r10=>(if (r10.1 != 0) then (some (zaZ,r10.1)) else (Option.bind (Ax r10.2) fun r12=>(if (!r12) then (some (zaZ,3)) else (some (r10.2,0))))))))))))
def Ux (p0:Ac) (p1:ByteArray) (p2:ByteArray):Option (Ac×Int):=(if p1.data = #[112,105,100,115,46,109,97,120] then (Afy p0 p2) else (if p1.data = #[99,112,117,46,119,101,105,103,104,116] then (Afu p0 p2) else (if p1.data = #[99,112,117,46,109,97,120] then (AfL p0 p2) else (if p1.data = #[99,112,117,46,109,97,120,46,98,117,114,115,116] then (AfJ p0 p2) else (if p1.data = #[99,112,117,46,117,99,108,97,109,112,46,109,105,110] then (Afr p0 p2) else (if p1.data = #[99,112,117,46,117,99,108,97,109,112,46,109,97,120] then (Afw p0 p2) else (if p1.data = #[99,112,117,115,101,116,46,99,112,117,115] then (Afx p0 p2) else (if p1.data = #[99,112,117,115,101,116,46,109,101,109,115] then (AfI p0 p2) else (if p1.data = #[99,112,117,115,101,116,46,99,112,117,115,46,112,97,114,116,105,116,105,111,110] then (Afz p0 p2) else none)))))))))
def Is (p0:List Ag):Option (List Ag):=(if 0+p0.length≤1073741824 then (some p0) else none)
def Vl (p0:List Ag):Option (List Ag):=(some [])
def Abe (k1:Int) (s1:List Ag) (n1:(List Ag)→Option (List Ag)):Option (List Ag):=(if 0≤k1∧k1<((s1.length:Nat):Int) then (if (Int.toNat k1)<s1.length then (Option.bind (Da (s1.getD (Int.toNat k1) (default:Ag)).settings) fun r26=>(if 0≤k1∧k1<((s1.length:Nat):Int) then (if (Int.toNat k1)<s1.length then (n1 (s1.set (Int.toNat k1) ({ group:=(s1.getD (Int.toNat k1) (default:Ag)).group,settings:=r26 } : Ag))) else none) else none)) else none) else none)
def Aif (s1:List Ag):Option (List Ag):=(some s1)
def Rx (p0:List Ag):Option (List Ag):=(Option.bind (Is p0) fun r1=>(if r1.length≤9223372036854775807 then (forO Abe Aif (Int.toNat (((r1.length:Nat):Int)-0)) 0 r1) else none))
def Xr (p0:Af) (p1:List Ag) (p2:Int) (p3:Ac):Option ((List Ag)×Int):=(Option.bind (Vg p1 p2) fun r1=>(Option.bind (Kh p0 p1) fun r2=>(if (!r2) then (some ([],1)) else (if (decide (r1<0)) then (some ([],4)) else (Option.bind (Ax p3) fun r5=>(if (!r5) then (some ([],3)) else (Option.bind (Rx p1) fun r7=>(Option.bind (Da p3) fun r11=>(if 0≤r1∧r1<((r7.length:Nat):Int) then (if (Int.toNat r1)<r7.length then (some ((r7.set (Int.toNat r1) ({ group:=(r7.getD (Int.toNat r1) (default:Ag)).group,settings:=r11 } : Ag)),0)) else none) else none)))))))))
def Abu (p1:List Ag) (k1:Nat) (x1:Int) (s1:Int×Int×Int) (n1:(Int×Int×Int)→Option Ac):Option Ac:=(Option.bind (Hn p1 x1) fun r15=>(n1 ((Wt s1.1 r15.pidsMax),(Wt s1.2.1 r15.quota),(Wt s1.2.2 r15.clampMax))))
def Aid (r5:Ac) (s1:Int×Int×Int):Option Ac:=(some ({ pidsMax:=s1.1,weight:=r5.weight,quota:=s1.2.1,period:=r5.period,burst:=r5.burst,clampMin:=(Wt r5.clampMin s1.2.2),clampMax:=s1.2.2,cpus:=r5.cpus,mems:=r5.mems,partition:=r5.partition,memory:=r5.memory,devices:=r5.devices } : Ac))
def Ib (p1:List Ag) (p2:Int) (r1:List Int) (y1:Bool):Option Ac:=(if y1 then (some zaZ) else (Option.bind (Hn p1 p2) fun r5=>(if r1.length≤9223372036854775807 then Az (Abu p1) (Aid r5) r1 0 (r5.pidsMax,r5.quota,r5.clampMax) else none)))
def Na (p0:Af) (p1:List Ag) (p2:Int):Option Ac:=(Option.bind (Lu p0 p2) fun r1=>(if (((r1.length:Nat):Int)==0) then ((Ib p1 p2 r1) true) else (Option.bind (Kh p0 p1) fun r3=>((Ib p1 p2 r1) (!r3)))))
def AaO (p1:List Int) (k1:Nat) (x1:Int) (s1:Unit) (n1:Unit→Option Bool):Option Bool:=(if k1<p1.length then (if (x1 != (p1.getD k1 0)) then (some false) else (n1 ())) else none)
def Agv (s1:Unit):Option Bool:=(some true)
def Lm (p0:List Int) (p1:List Int):Option Bool:=(if (((p0.length:Nat):Int) != ((p1.length:Nat):Int)) then (some false) else (if p0.length≤9223372036854775807 then Az (AaO p1) Agv p0 0 () else none))
def Nn (p1:List Au) (k1:Nat) (x1:Au) (s1:Unit) (n1:Unit→Option Bool):Option Bool:=(if k1<p1.length then (if (!(Aco x1 (p1.getD k1 (default:Au)))) then (some false) else (n1 ())) else none)
def Yz (s1:Unit):Option Bool:=(some true)
def Gq (p0:List Au) (p1:List Au):Option Bool:=(if (((p0.length:Nat):Int) != ((p1.length:Nat):Int)) then (some false) else (if p0.length≤9223372036854775807 then Az (Nn p1) Yz p0 0 () else none))
def Dh (y1:Bool):Option Bool:=(some y1)
def Vt (p0:Ac) (p1:Ac):Option Bool:=(if (p0.pidsMax==p1.pidsMax) then (if (p0.weight==p1.weight) then (if (p0.quota==p1.quota) then (if (p0.period==p1.period) then (if (p0.burst==p1.burst) then (if (p0.clampMin==p1.clampMin) then (if (p0.clampMax==p1.clampMax) then (Option.bind (Lm p0.cpus p1.cpus) fun r8=>(if r8 then (Option.bind (Lm p0.mems p1.mems) fun r10=>(if r10 then (if (p0.partition==p1.partition) then (if (Acx p0.memory p1.memory) then (Option.bind (Gq p0.devices p1.devices) fun r14=>(Dh r14)) else (Dh false)) else (Dh false)) else (Dh false))) else (Dh false))) else (Dh false)) else (Dh false)) else (Dh false)) else (Dh false)) else (Dh false)) else (Dh false)) else (Dh false))
noncomputable def Ly (r9:(List Ag)×Ai) (s1:(List Ag)×Int) (k4:Nat) (x4:ByteArray) (s4:Ac) (n4:Ac→Option Bool):Option Bool:=(if 0≤s1.2∧s1.2<((r9.1.length:Nat):Int) then (if (Int.toNat s1.2)<r9.1.length then (Option.bind (Yd (r9.1.getD (Int.toNat s1.2) (default:Ag)).settings x4) fun r157=>(Option.bind (Ux s4 x4 r157.1) fun r158=>(if ((r157.2 != 0)||(r158.2 != 0)) then (some false) else (n4 r158.1)))) else none) else none)
noncomputable def Zi (r7:Ab×Ai) (s1:(List Ag)×Int) (n1:((List Ag)×Int)→Option Bool) (s4:Ac):Option Bool:=(if 0≤s1.2∧s1.2<((s1.1.length:Nat):Int) then (Option.bind (Xr r7.1.tree s1.1 (s1.1.getD (Int.toNat s1.2) (default:Ag)).group s4) fun r162=>(if (r162.2 != 0) then (some false) else (n1 (r162.1,(w64 (s1.2+1)))))) else none)
noncomputable def Lz (r7:Ab×Ai) (x5:Ak) (n5:Unit→Option Bool) (y7:Bool):Option Bool:=(if y7 then (some false) else (Option.bind (Hg r7.1.tree x5.id) fun r206=>(Option.bind (Abz r7.1.tree x5.id) fun r207=>(if (((r206.length:Nat):Int) != (w64 (r207+1))) then (some false) else (n5 ())))))
noncomputable def Zf (r7:Ab×Ai) (r9:(List Ag)×Ai) (r10:(List Int)×Ai) (s1:(List Ag)×Int) (k5:Nat) (x5:Ak) (s5:Unit) (n5:Unit→Option Bool):Option Bool:=(Option.bind (Na r7.1.tree s1.1 x5.id) fun r198=>(Option.bind (Na r7.1.tree r9.1 x5.id) fun r199=>(Option.bind (Vt r198 r199) fun r200=>(if (!r200) then ((Lz r7 x5 n5) true) else (Option.bind (Vq r7.1.tree s1.1 r10.1 x5.id) fun r202=>(Option.bind (Vq r7.1.tree r9.1 r10.1 x5.id) fun r203=>(Option.bind (Adn r202 r203) fun r204=>((Lz r7 x5 n5) (!r204)))))))))
noncomputable def AfW (s5:Unit):Option Bool:=(some true)
noncomputable def Zc (r7:Ab×Ai) (r9:(List Ag)×Ai) (r10:(List Int)×Ai) (s1:(List Ag)×Int) (n1:((List Ag)×Int)→Option Bool):Option Bool:=(if (decide (s1.2<((s1.1.length:Nat):Int))) then (Option.bind Qc fun r116=>(Option.bind (some ()) fun r117=>(if fileNames.length≤9223372036854775807 then Az (Ly r9 s1) (Zi r7 s1 n1) fileNames 0 r116 else none))) else (if r7.1.tree.nodes.length≤9223372036854775807 then Az (Zf r7 r9 r10 s1) AfW r7.1.tree.nodes 0 () else none))
noncomputable def Ma (p0:List Int) (y1:Bool):Option Bool:=(if y1 then (Option.bind AbB fun r5=>(some r5)) else (Option.bind (AlB p0) fun r6=>(Option.bind (Lx r6 6 4) fun r7=>(Option.bind (Xu r7.1.tree) fun r8=>(Option.bind (Np r7.2 r7.1.tree) fun r9=>(Option.bind (Pp r9.2 6) fun r10=>(whileO (Zc r7 r9 r10) Fm (r8,0))))))))
noncomputable def Nv (p0:List Int):Option Bool:=(Option.bind AbB fun r1=>(if (!r1) then ((Ma p0) true) else (Option.bind (AeI p0) fun r3=>((Ma p0) (!r3)))))
end Go.Dm

namespace Go.Dm
def rtN (n:Int):Bool:=match Ef n with
 | some (t,0)=>decide (t.size≤30)&&match Er t with
  | some (m,0)=>m==n
  | _=>false
 | _=>false
def rtH (n:Int):Bool:=match Ev n with
 | some (t,0)=>decide (t.size≤30)&&match Ie t with
  | some (m,0)=>m==n
  | _=>false
 | _=>false
def rtS (k:Int) (l:List Int):Bool:=match Va l with
 | some (t,0)=>decide (t.size≤30)&&match Yc t k with
  | some (m,0)=>m==l
  | _=>false
 | _=>false
def rtM (q p:Int):Bool:=match Ef q,Ef p with
 | some (a,0),some (b,0)=>decide (a.size≤30)&&decide (b.size≤30)&&match Qn ((a++bs [32])++b) (bs [32]) with
  | some [c,d] => !(Cp c ByteArray.empty)&&(!(Cp d ByteArray.empty)&&match Er c,Er d with
   | some (m,0),some (n,0)=>m==q&&n==p
   | _,_=>false)
  | _=>false
 | _,_=>false
theorem rtN_eq {n:Int} (h:rtN n=true):∃ t,Ef n=some (t,0)∧Er t=some (n,0)∧t.size≤30:=by
 unfold rtN at h
 split at h
 ·rename_i t e
  obtain ⟨h1,h2⟩:=Bool.and_eq_true_iff.1 h
  split at h2
  ·rename_i m e2
   exact ⟨t,e,by rw [e2,eq_of_beq h2],of_decide_eq_true h1⟩
  ·cases h2
 ·cases h
theorem rtH_eq {n:Int} (h:rtH n=true):∃ t,Ev n=some (t,0)∧Ie t=some (n,0)∧t.size≤30:=by
 unfold rtH at h
 split at h
 ·rename_i t e
  obtain ⟨h1,h2⟩:=Bool.and_eq_true_iff.1 h
  split at h2
  ·rename_i m e2
   exact ⟨t,e,by rw [e2,eq_of_beq h2],of_decide_eq_true h1⟩
  ·cases h2
 ·cases h
theorem rtS_eq {k:Int} {l:List Int} (h:rtS k l=true):∃ t,Va l=some (t,0)∧Yc t k=some (l,0)∧t.size≤30:=by
 unfold rtS at h
 split at h
 ·rename_i t e
  obtain ⟨h1,h2⟩:=Bool.and_eq_true_iff.1 h
  split at h2
  ·rename_i m e2
   exact ⟨t,e,by rw [e2,eq_of_beq h2],of_decide_eq_true h1⟩
  ·cases h2
 ·cases h
theorem rtM_eq {q p:Int} (h:rtM q p=true):∃ a b c d,Ef q=some (a,0)∧Ef p=some (b,0)∧a.size≤30∧b.size≤30∧Qn ((a++bs [32])++b) (bs [32])=some [c,d] ∧
  Cp c ByteArray.empty=false∧Cp d ByteArray.empty=false∧Er c=some (q,0)∧Er d=some (p,0):=by
 unfold rtM at h
 split at h
 ·rename_i a b e1 e2
  obtain ⟨h1,h2⟩:=Bool.and_eq_true_iff.1 h
  obtain ⟨h3,h4⟩:=Bool.and_eq_true_iff.1 h1
  split at h2
  ·rename_i c d e3
   obtain ⟨h5,h6⟩:=Bool.and_eq_true_iff.1 h2
   obtain ⟨h7,h8⟩:=Bool.and_eq_true_iff.1 h6
   split at h8
   ·rename_i m n e4 e5
    obtain ⟨h9,h10⟩:=Bool.and_eq_true_iff.1 h8
    refine ⟨a,b,c,d,e1,e2,of_decide_eq_true h3,of_decide_eq_true h4,e3,by simpa using h5,by simpa using h7,by rw [e4,eq_of_beq h9],by rw [e5,eq_of_beq h10]⟩
   ·cases h8
  ·cases h2
 ·cases h
theorem nums1 : ((List.range 500).all fun n=>rtN (n:Int))=true:=by kernel_rfl
theorem nums2 : ((List.range 501).all fun n=>rtN ((500+n:Nat):Int))=true:=by kernel_rfl
theorem nums3 : rtN 10000=true∧rtN 4611686018427387904=true:=⟨by kernel_rfl,by kernel_rfl⟩
theorem num_ok {n:Int} (h:(0≤n∧n≤1000)∨n=10000∨n=4611686018427387904):∃ t,Ef n=some (t,0)∧Er t=some (n,0)∧t.size≤30:=by
 apply rtN_eq
 rcases h with ⟨h0,h1⟩|rfl|rfl
 ·by_cases h2:n<500
  ·have:=List.all_eq_true.1 nums1 n.toNat (List.mem_range.2 (by omega))
   rwa [Int.toNat_of_nonneg h0] at this
  ·have:=List.all_eq_true.1 nums2 (n.toNat-500) (List.mem_range.2 (by omega))
   have e:((500+(n.toNat-500):Nat):Int)=n:=by omega
   rwa [e] at this
 ·exact nums3.1
 ·exact nums3.2
theorem max1 : ((List.range 10).all fun q=>(List.range 10).all fun p=>rtM ((1+q:Nat):Int) ((1+p:Nat):Int))=true:=by kernel_rfl
theorem max2 : ((List.range 10).all fun p=>rtM 4611686018427387904 ((1+p:Nat):Int))=true:=by kernel_rfl
theorem max3 : rtM 4611686018427387904 100000=true:=by kernel_rfl
theorem max_ok {q p:Int} (h:((1≤q∧q≤10)∧(1≤p∧p≤10))∨(q=4611686018427387904∧((1≤p∧p≤10)∨p=100000))):rtM q p=true:=by
 rcases h with ⟨⟨h0,h1⟩,h2,h3⟩|⟨rfl,⟨h2,h3⟩|rfl⟩
 ·have:=List.all_eq_true.1 (List.all_eq_true.1 max1 (q.toNat-1) (List.mem_range.2 (by omega))) (p.toNat-1) (List.mem_range.2 (by omega))
  have e:((1+(q.toNat-1):Nat):Int)=q:=by omega
  have e2:((1+(p.toNat-1):Nat):Int)=p:=by omega
  rwa [e,e2] at this
 ·have:=List.all_eq_true.1 max2 (p.toNat-1) (List.mem_range.2 (by omega))
  have e2:((1+(p.toNat-1):Nat):Int)=p:=by omega
  rwa [e2] at this
 ·exact max3
def subs : Nat→List (List Int)
 | 0 => [[]]
 | n+1=>subs n++(subs n).map fun l=>l ++ [(n:Int)]
theorem set6 : ((subs 6).all fun n=>rtS 16 n)=true:=by kernel_rfl
theorem set4 : ((subs 4).all fun n=>rtS 8 n)=true:=by kernel_rfl
end Go.Dm

namespace Go.Dm
theorem hunda : ((List.range 500).all fun n=>rtH ((0+n:Nat):Int))=true:=by kernel_rfl
theorem hundb : ((List.range 500).all fun n=>rtH ((500+n:Nat):Int))=true:=by kernel_rfl
theorem hundc : ((List.range 500).all fun n=>rtH ((1000+n:Nat):Int))=true:=by kernel_rfl
theorem hundd : ((List.range 500).all fun n=>rtH ((1500+n:Nat):Int))=true:=by kernel_rfl
theorem hunde : ((List.range 500).all fun n=>rtH ((2000+n:Nat):Int))=true:=by kernel_rfl
theorem hundf : ((List.range 500).all fun n=>rtH ((2500+n:Nat):Int))=true:=by kernel_rfl
theorem hundg : ((List.range 500).all fun n=>rtH ((3000+n:Nat):Int))=true:=by kernel_rfl
theorem hundh : ((List.range 500).all fun n=>rtH ((3500+n:Nat):Int))=true:=by kernel_rfl
theorem hundi : ((List.range 500).all fun n=>rtH ((4000+n:Nat):Int))=true:=by kernel_rfl
theorem hundj : ((List.range 500).all fun n=>rtH ((4500+n:Nat):Int))=true:=by kernel_rfl
end Go.Dm

namespace Go.Dm
theorem hundk : ((List.range 500).all fun n=>rtH ((5000+n:Nat):Int))=true:=by kernel_rfl
theorem hundl : ((List.range 500).all fun n=>rtH ((5500+n:Nat):Int))=true:=by kernel_rfl
theorem hundm : ((List.range 500).all fun n=>rtH ((6000+n:Nat):Int))=true:=by kernel_rfl
theorem hundn : ((List.range 500).all fun n=>rtH ((6500+n:Nat):Int))=true:=by kernel_rfl
theorem hundo : ((List.range 500).all fun n=>rtH ((7000+n:Nat):Int))=true:=by kernel_rfl
theorem hundp : ((List.range 500).all fun n=>rtH ((7500+n:Nat):Int))=true:=by kernel_rfl
theorem hundq : ((List.range 500).all fun n=>rtH ((8000+n:Nat):Int))=true:=by kernel_rfl
theorem hundr : ((List.range 500).all fun n=>rtH ((8500+n:Nat):Int))=true:=by kernel_rfl
theorem hunds : ((List.range 500).all fun n=>rtH ((9000+n:Nat):Int))=true:=by kernel_rfl
theorem hundt : ((List.range 500).all fun n=>rtH ((9500+n:Nat):Int))=true:=by kernel_rfl
theorem hundz : rtH 10000=true:=by kernel_rfl
theorem hund_ok {n:Int} (h0:0≤n) (h1:n≤10000):∃ t,Ev n=some (t,0)∧Ie t=some (n,0)∧t.size≤30:=by
 apply rtH_eq
 have key:∀ a:Nat,((List.range 500).all fun n=>rtH ((a+n:Nat):Int))=true→(a:Int)≤n→n<a+500→rtH n=true:=by
  intro a h ha hb
  have:=List.all_eq_true.1 h (n.toNat-a) (List.mem_range.2 (by omega))
  have e:((a+(n.toNat-a):Nat):Int)=n:=by omega
  rwa [e] at this
 by_cases c0:n<500
 ·exact key 0 hunda (by omega) (by omega)
 by_cases c1:n<1000
 ·exact key 500 hundb (by omega) (by omega)
 by_cases c2:n<1500
 ·exact key 1000 hundc (by omega) (by omega)
 by_cases c3:n<2000
 ·exact key 1500 hundd (by omega) (by omega)
 by_cases c4:n<2500
 ·exact key 2000 hunde (by omega) (by omega)
 by_cases c5:n<3000
 ·exact key 2500 hundf (by omega) (by omega)
 by_cases c6:n<3500
 ·exact key 3000 hundg (by omega) (by omega)
 by_cases c7:n<4000
 ·exact key 3500 hundh (by omega) (by omega)
 by_cases c8:n<4500
 ·exact key 4000 hundi (by omega) (by omega)
 by_cases c9:n<5000
 ·exact key 4500 hundj (by omega) (by omega)
 by_cases c10:n<5500
 ·exact key 5000 hundk (by omega) (by omega)
 by_cases c11:n<6000
 ·exact key 5500 hundl (by omega) (by omega)
 by_cases c12:n<6500
 ·exact key 6000 hundm (by omega) (by omega)
 by_cases c13:n<7000
 ·exact key 6500 hundn (by omega) (by omega)
 by_cases c14:n<7500
 ·exact key 7000 hundo (by omega) (by omega)
 by_cases c15:n<8000
 ·exact key 7500 hundp (by omega) (by omega)
 by_cases c16:n<8500
 ·exact key 8000 hundq (by omega) (by omega)
 by_cases c17:n<9000
 ·exact key 8500 hundr (by omega) (by omega)
 by_cases c18:n<9500
 ·exact key 9000 hunds (by omega) (by omega)
 by_cases c19:n<10000
 ·exact key 9500 hundt (by omega) (by omega)
 obtain rfl:n=10000:=by omega
 exact hundz
end Go.Dm

namespace Go.Dm
def Ok {α:Type} (m:Option α) (Q:α→Prop):Prop:=∃ a,m=some a∧Q a
section
variable {α β γ σ:Type} {Q:β→Prop}
theorem Ok.ret {b:β} (h:Q b):Ok (some b) Q:=⟨b,rfl,h⟩
theorem Ok.bind {m:Option α} {f:α→Option β} {P:α→Prop} (h:Ok m P) (k:∀ a,P a→Ok (f a) Q):Ok (Option.bind m f) Q:=by
 obtain ⟨a,rfl,ha⟩:=h
 exact k a ha
theorem Ok.step {m:Option α} {f:α→Option β} {a:α} (h:m=some a) (k:Ok (f a) Q):Ok (Option.bind m f) Q:=by
 subst h
 exact k
theorem Ok.eq {m:Option β} {b:β} (h:Ok m (· = b)):m=some b:=by
 obtain ⟨a,rfl,rfl⟩:=h
 rfl
theorem Ok.of_eq {m:Option β} {b:β} (h:m=some b) (hb:Q b):Ok m Q:=⟨b,h,hb⟩
theorem Ok.mono {m:Option β} {P:β→Prop} (h:Ok m P) (k:∀ b,P b→Q b):Ok m Q:=by
 obtain ⟨a,rfl,ha⟩:=h
 exact ⟨a,rfl,k a ha⟩
theorem Ok.guard {c:Prop} [Decidable c] {t:Option β} (hc:c) (h:Ok t Q):Ok (if c then t else none) Q:=by
 rw [if_pos hc]
 exact h
theorem Aqy {c:Bool} {t e:Option β} (ht:c=true→Ok t Q) (he:c=false→Ok e Q):Ok (if c then t else e) Q:=by
 cases c
 ·exact he rfl
 ·exact ht rfl
theorem Ok.range {body:Nat→α→σ→(σ→Option β)→Option β} {done:σ→Option β} {xs:List α} {s0:σ} (I:List α→σ→Prop) (h0:I [] s0)
  (step:∀ pre x post s n,xs=pre++x::post→I pre s→(∀ s',I (pre ++ [x]) s'→Ok (n s') Q)→Ok (body pre.length x s n) Q)
  (fin:∀ s,I xs s→Ok (done s) Q):Ok (Az body done xs 0 s0) Q:=by
 have key:∀ (post pre:List α) (s:σ),xs=pre++post→I pre s→Ok (Az body done post pre.length s) Q:=by
  intro post
  induction post with
  | nil =>
   intro pre s he hi
   have:xs=pre:=by simpa using he
   subst this
   exact fin s hi
  | cons x post ih =>
   intro pre s he hi
   refine step pre x post s _ he hi fun s' hi' => ?_
   have:=ih (pre ++ [x]) s' (by simpa using he) hi'
   simpa using this
 exact key xs [] s0 rfl h0
theorem Aqz {body:Int→σ→(σ→Option β)→Option β} {done:σ→Option β} {m:Nat} {a:Int} {s0:σ} (I:Nat→σ→Prop) (h0:I 0 s0)
  (step:∀ (j:Nat) s n,j<m→I j s→(∀ s',I (j+1) s'→Ok (n s') Q)→Ok (body (a+j) s n) Q)
  (fin:∀ s,I m s→Ok (done s) Q):Ok (forO body done m a s0) Q:=by
 have key:∀ (r j:Nat) (s:σ),j+r=m→I j s→Ok (forO body done r (a+j) s) Q:=by
  intro r
  induction r with
  | zero =>
   intro j s he hi
   obtain rfl:j=m:=by omega
   exact fin s hi
  | succ r ih =>
   intro j s he hi
   refine step j s _ (by omega) hi fun s' hi' => ?_
   have:=ih (j+1) s' (by omega) hi'
   have e:a+(j:Int)+1=a+((j+1:Nat):Int):=by omega
   rw [e]
   exact this
 have:=key m 0 s0 (by omega) h0
 simpa using this
theorem Aqu {body:σ→(σ→Option β)→Option β} {s0:σ} (I:σ→Prop) (mu:σ→Nat) (h0:I s0) (hf:mu s0<Fm)
  (step:∀ s n,I s→(∀ s',I s'→mu s'<mu s→Ok (n s') Q)→Ok (body s n) Q):Ok (whileO body Fm s0) Q:=by
 have key:∀ (f:Nat) (s:σ),I s→mu s<f→Ok (whileO body f s) Q:=by
  intro f
  induction f with
  | zero=>intro s _ h; omega
  | succ f ih =>
   intro s hi hm
   exact step s _ hi fun s' hi' hm'=>ih s' hi' (by omega)
 exact key Fm s0 h0 hf
end
theorem Iv : Fm=1099511627776:=rfl
theorem Bz {n:Int} (h1 : -9223372036854775808≤n) (h2:n≤9223372036854775807):w64 n=n:=Adl h1 h2
theorem Ff {α:Type} {l:List α} {i:Nat} {d:α} (h:i<l.length):l.getD i d=l[i]:=by
 simp [List.getD_eq_getElem?_getD,h]
theorem Nh {α:Type} {l:List α} {i:Nat} {d:α} (h:i<l.length):l.getD i d∈l:=by
 rw [Ff h]
 exact List.getElem_mem h
theorem Wn {α:Type} {pre post:List α} {x d:α} : (pre++x::post).getD pre.length d=x:=by
 simp [List.getD_eq_getElem?_getD]
theorem Afv {α:Type} {pre post:List α} {x y d:α} : (pre ++ [y]++x::post).getD pre.length d=y:=by
 simp [List.getD_eq_getElem?_getD]
theorem Afc {α β:Type} {p:α→Bool} {f:α→β} {z:β} {xs:List α} {body:Nat→α→Unit→(Unit→Option β)→Option β} {done:Unit→Option β}
  (hb:∀ k x n,body k x () n=if p x then some (f x) else n ()) (hd:done ()=some z):Az body done xs 0 ()=some ((xs.find? p).elim z f):=by
 have key:∀ k,Az body done xs k ()=some ((xs.find? p).elim z f):=by
  induction xs with
  | nil=>intro k; simp [Az,hd]
  | cons x r ih =>
   intro k
   rw [Az,hb,List.find?_cons]
   cases hp:p x
   ·simpa using ih (k+1)
   ·simp
 exact key 0
theorem Qx {α β γ:Type} {p:α→Bool} {f:α→γ} {xs:List α} {s0:List γ} {r:List γ→Option β} {body:Nat→α→List γ→(List γ→Option β)→Option β} {done:List γ→Option β}
  (hb:∀ k x s n,s.length+1≤1073741824→body k x s n=if p x then n (s ++ [f x]) else n s) (hd:∀ s,done s=r s) (hl:s0.length+xs.length≤1073741824):Az body done xs 0 s0=r (s0++(xs.filter p).map f):=by
 have key:∀ k s,s.length+xs.length≤1073741824→Az body done xs k s=r (s++(xs.filter p).map f):=by
  clear hl
  induction xs with
  | nil=>intro k s _; simp [Az,hd]
  | cons x q ih =>
   intro k s hl
   simp only [List.length_cons] at hl
   rw [Az,hb _ _ _ _ (by omega),List.filter_cons]
   cases hp:p x
   ·simpa using ih (k+1) s (by omega)
   ·simp only [if_true]
    rw [ih (k+1) (s ++ [f x]) (by simp; omega)]
    simp
 exact key 0 s0 hl
end Go.Dm

namespace Go.Dm
def Ny (c:Int):Bool:=(((((decide (c≥97))&&(decide (c≤122)))||((decide (c≥65))&&(decide (c≤90))))||((decide (c≥48))&&(decide (c≤57))))||(c==95))||(c==45)
def Eh (s:ByteArray):Bool:=decide (0<s.size)&&decide (s.size≤32)&&(((Br s 0:Nat):Int) != 45)&&(Dt s).all Ny
theorem AfB (s:ByteArray):Xy s=some (Eh s):=by
 apply Ok.eq
 unfold Xy
 refine Aqy (fun h => ?_) fun h => ?_
 ·refine Ok.ret ?_
  have:s.size=0:=by simpa using h
  simp [Eh,this]
 have h0:0<s.size:=by
  have:¬ ((s.size:Nat):Int)=0:=by simpa using h
  omega
 refine Aqy (fun h => ?_) fun h => ?_
 ·refine Ok.ret ?_
  have:¬ s.size≤32:=by
   have:=of_decide_eq_true h
   omega
  simp [Eh,this]
 have h32:s.size≤32:=by
  have:=of_decide_eq_false h
  omega
 refine Ok.guard h0 ?_
 unfold Ta
 refine Aqy (fun h => ?_) fun h => ?_
 ·refine Ok.ret ?_
  simp only [Eh,bne,h]
  simp
 refine Ok.guard (by omega) ?_
 refine Aqz (fun j _=>((Dt s).take j).all Ny=true) (by simp) ?_ ?_
 ·intro j _ n hj hi hn
  have hj':j<s.size:=by omega
  unfold Agw
  refine Ok.guard (by omega) ?_
  have e:Int.toNat (0+(j:Int))=j:=by omega
  rw [e]
  have hb:(Dt s)[j]? = some ((Br s j:Nat):Int):=by simp [Dt,hj']
  refine Aqy (fun h => ?_) fun h => ?_
  ·refine Ok.ret ?_
   have hc:Ny ((Br s j:Nat):Int)=false:=by simpa only [Ny,Bool.not_eq_true'] using h
   have:(Dt s).all Ny=false:=by
    rw [List.all_eq_false]
    exact ⟨_,List.mem_of_getElem? hb,by simp [hc]⟩
   simp [Eh,this]
  ·refine hn () ?_
   have hc:Ny ((Br s j:Nat):Int)=true:=by simpa only [Ny,Bool.not_eq_false'] using h
   rw [List.take_add_one,List.all_append,hi,hb]
   simp [hc]
 ·intro _ hi
  refine Ok.ret ?_
  have:(Dt s).length≤Int.toNat (((s.size:Nat):Int)-0):=by rw [Kc]; omega
  rw [List.take_of_length_le this] at hi
  simp only [Eh,bne,h,hi]
  simp [h0,h32]
theorem AlL (a:ByteArray):Cp a a=true:=by simp [Cp]
def upR : List Ak→Int→List Int
 | [],_ => []
 | x::r,id=>if x.id==id then id::upR r x.parent else upR r id
def upT (t:Af) (id:Int):List Int:=upR t.nodes.reverse id
theorem Tj (l:List Ak) (id:Int):(upR l id).length≤l.length:=by
 induction l generalizing id with
 | nil=>simp [upR]
 | cons x r ih =>
  rw [upR]
  split
  ·have:=ih x.parent
   simp; omega
  ·have:=ih id
   simp; omega
theorem Aku (t:Af) (id:Int) (hl:t.nodes.length≤1000000):Aeo t id=some (upT t id):=by
 apply Ok.eq
 unfold Aeo
 rw [Bz (by omega) (by omega)]
 refine Aqu (fun s=>∃ m:Nat,s.2.2=(m:Int)-1∧m≤t.nodes.length∧s.1.length+m≤t.nodes.length∧s.1++upR (t.nodes.take m).reverse s.2.1=upT t id) (fun s=>(s.2.2+1).toNat) ?_ ?_ ?_
 ·exact ⟨t.nodes.length,rfl,by omega,by simp,by simp [upT]⟩
 ·rw [Iv]; simp only []; omega
 rintro ⟨o,i,c⟩ n ⟨m,hc,hm,hlen,he⟩ hn
 simp only at hc hlen he hn
 unfold AlO
 simp only
 refine Aqy (fun h => ?_) fun h => ?_
 ·have hpos:=of_decide_eq_true h
  obtain ⟨q,rfl⟩:∃ q,m=q+1:=⟨m-1,by omega⟩
  have hcq:c=(q:Int):=by omega
  subst hcq
  have hq:q<t.nodes.length:=by omega
  refine Ok.guard (by omega) ?_
  have et:t.nodes.take (q+1)=t.nodes.take q ++ [t.nodes.getD q default]:=by
   rw [List.take_add_one,Ff hq]
   simp [hq]
  rw [et,List.reverse_append,List.reverse_cons,List.reverse_nil,List.nil_append,List.singleton_append,upR] at he
  have eq:Int.toNat (q:Int)=q:=by omega
  rw [eq]
  have hw:w64 ((q:Int)-1)=(q:Int)-1:=Bz (by omega) (by omega)
  refine Aqy (fun h => ?_) fun h => ?_
  ·refine Ok.guard (by omega) ?_
   refine Ok.guard (by omega) ?_
   unfold AaS
   simp only
   rw [hw]
   rw [if_pos h] at he
   refine hn _ ⟨q,rfl,by omega,by simp; omega,?_⟩ (by simp only; omega)
   simpa using he
  ·unfold AaS
   simp only
   rw [hw]
   rw [if_neg (by rw [h]; simp)] at he
   exact hn _ ⟨q,rfl,by omega,by simp only; omega,he⟩ (by simp only; omega)
 ·have:=of_decide_eq_false h
  have:m=0:=by omega
  subst this
  refine Ok.ret ?_
  simpa [upR] using he
def Ka (pre:List Ak) (x:Ak):Bool :=
 (x.kind==0||x.kind==1)&&decide (0≤x.control)&&decide (x.control≤31)&&decide (0≤x.owner)&&decide (x.owner≤1048576) &&
 match pre.getLast? with
 | none=>x.id==1&&x.parent==0&&Cp x.name ByteArray.empty&&x.kind==0
 | some y=>decide (y.id<x.id)&&Eh x.name&&pre.any (fun k=>k.id==x.parent)&&pre.all (fun k => !(k.parent==x.parent&&Cp k.name x.name))
theorem AnS (t:Af) (pre post:List Ak) (x:Ak) (he:t.nodes=pre++x::post) (hl:t.nodes.length≤1000000):Adf t (pre.length:Int)=some (Ka pre x):=by
 have hlen:pre.length<t.nodes.length:=by rw [he]; simp
 apply Ok.eq
 unfold Adf
 refine Ok.guard (by omega) ?_
 have ex:t.nodes.getD (Int.toNat (pre.length:Int)) default=x:=by
  rw [he]
  have:Int.toNat (pre.length:Int)=pre.length:=by omega
  rw [this]
  exact Wn
 rw [ex]
 refine Aqy (fun h => ?_) fun h => ?_
 ·refine Ok.ret ?_
  simp only [Ka]
  simp only [Bool.or_eq_true,Bool.and_eq_true,bne_iff_ne,decide_eq_true_eq] at h
  rcases h with (((⟨h1,h2⟩|h)|h)|h)|h
  ·simp [h1,h2]
  ·have:¬ 0≤x.control:=by omega
   simp [this]
  ·have:¬ x.control≤31:=by omega
   simp [this]
  ·have:¬ 0≤x.owner:=by omega
   simp [this]
  ·have:¬ x.owner≤1048576:=by omega
   simp [this]
 simp only [Bool.or_eq_false_iff,Bool.and_eq_false_imp,bne_iff_ne,decide_eq_false_iff_not,bne_eq_false_iff_eq] at h
 obtain ⟨⟨⟨⟨hk,h2⟩,h3⟩,h4⟩,h5⟩:=h
 have hk':(x.kind==0||x.kind==1)=true:=by
  by_cases q:x.kind=0
  ·simp [q]
  ·simp [hk q]
 have a2:0≤x.control:=by omega
 have a3:x.control≤31:=by omega
 have a4:0≤x.owner:=by omega
 have a5:x.owner≤1048576:=by omega
 refine Aqy (fun h => ?_) fun h => ?_
 ·refine Ok.ret ?_
  have:pre = []:=by
   have:pre.length=0:=by
    have:(pre.length:Int)=0:=by simpa using h
    omega
   exact List.length_eq_zero_iff.mp this
  subst this
  simp [Ka,hk',a2,a3,a4,a5]
 have hp:0<pre.length:=by
  have:¬ (pre.length:Int)=0:=by simpa using h
  omega
 obtain ⟨pr,y,rfl⟩:∃ pr y,pre=pr ++ [y]:=by
  have hne:pre ≠ []:=by intro e; simp [e] at hp
  exact ⟨pre.dropLast,pre.getLast hne,(List.dropLast_concat_getLast hne).symm⟩
 have hw:w64 (((pr ++ [y]).length:Int)-1)=(pr.length:Int):=by
  rw [Bz (by simp) (by simp; simp at hlen; omega)]
  simp
 rw [hw]
 refine Ok.guard (by simp at hlen; omega) ?_
 have ey:t.nodes.getD (Int.toNat (pr.length:Int)) default=y:=by
  rw [he]
  have:Int.toNat (pr.length:Int)=pr.length:=by omega
  rw [this]
  exact Afv
 rw [ey]
 have eB:Ka (pr ++ [y]) x=(decide (y.id<x.id)&&Eh x.name&&(pr ++ [y]).any (fun k=>k.id==x.parent)&&(pr ++ [y]).all (fun k => !(k.parent==x.parent&&Cp k.name x.name))):=by
  simp [Ka,hk',a2,a3,a4,a5]
 refine Aqy (fun h => ?_) fun h => ?_
 ·refine Ok.ret ?_
  have:¬ y.id<x.id:=by
   have:=of_decide_eq_true h
   omega
  rw [eB]
  simp [this]
 have hy:y.id<x.id:=by
  have:=of_decide_eq_false h
  omega
 refine Ok.step (AfB _) ?_
 unfold Aah
 refine Aqy (fun h => ?_) fun h => ?_
 ·refine Ok.ret ?_
  have:Eh x.name=false:=by simpa using h
  rw [eB]
  simp [this]
 have hv:Eh x.name=true:=by simpa using h
 have hr:Ka (pr ++ [y]) x=((pr ++ [y]).any (fun k=>k.id==x.parent)&&(pr ++ [y]).all (fun k => !(k.parent==x.parent&&Cp k.name x.name))):=by
  rw [eB]
  simp [hy,hv]
 rw [hr]
 generalize pr ++ [y]=P at *
 refine Ok.guard (by omega) ?_
 refine Aqz (fun j s=>s=(P.take j).any (fun k=>k.id==x.parent)∧(P.take j).all (fun k => !(k.parent==x.parent&&Cp k.name x.name))=true) (by simp) ?_ ?_
 ·intro j s n hj hI hn
  have hj':j<P.length:=by omega
  have ej:Int.toNat (0+(j:Int))=j:=by omega
  have ez:t.nodes.getD j default=P[j]:=by
   rw [he]
   simp [List.getD_eq_getElem?_getD,List.getElem?_append,hj']
  have tk:P.take (j+1)=P.take j ++ [P[j]]:=by
   rw [List.take_add_one]; simp [hj']
  have hbad:(P[j].parent==x.parent&&Cp P[j].name x.name)=true→(P.any (fun k=>k.id==x.parent)&&P.all (fun k => !(k.parent==x.parent&&Cp k.name x.name)))=false:=by
   intro hb
   have:P.all (fun k => !(k.parent==x.parent&&Cp k.name x.name))=false:=by
    rw [List.all_eq_false]
    exact ⟨P[j],List.getElem_mem hj',by rw [hb]; simp⟩
   rw [this,Bool.and_false]
  have hJ:∀ b:Bool,b=(P.take (j+1)).any (fun k=>k.id==x.parent)→Ok (Vi t (P.length:Int) (0+(j:Int)) n b) (· = (P.any (fun k=>k.id==x.parent)&&P.all (fun k => !(k.parent==x.parent&&Cp k.name x.name)))):=by
   intro b hb
   unfold Vi
   refine Ok.guard (by omega) ?_
   rw [ej,ez,ex]
   have good:(P[j].parent==x.parent&&Cp P[j].name x.name)=false→Ok (n b) (· = (P.any (fun k=>k.id==x.parent)&&P.all (fun k => !(k.parent==x.parent&&Cp k.name x.name)))):=by
    intro hb'
    refine hn _ ⟨hb,?_⟩
    rw [tk,List.all_append,hI.2]
    simp only [List.all_cons,List.all_nil,hb']
    rfl
   refine Aqy (fun h => ?_) fun h => ?_
   ·refine Ok.guard (by omega) ?_
    unfold Vh
    refine Aqy (fun h' => ?_) fun h' => ?_
    ·exact Ok.ret (hbad (by rw [h,h']; rfl)).symm
    ·exact good (by rw [h,h']; rfl)
   ·unfold Vh
    exact good (by rw [h]; rfl)
  unfold AiD
  have ea:(P.take (j+1)).any (fun k=>k.id==x.parent)=(s||(P[j].id==x.parent)):=by
   rw [tk,List.any_append,← hI.1]; simp
  refine Aqy (fun h => ?_) fun h => ?_
  ·refine hJ _ ?_
   rw [ea,h]
   rfl
  ·refine Ok.guard (by omega) ?_
   rw [ej,ez,ex]
   refine hJ _ ?_
   rw [ea,h]
   rfl
 ·intro s hI
  refine Ok.ret ?_
  have:P.take (Int.toNat ((P.length:Int)-0))=P:=List.take_of_length_le (by omega)
  rw [this] at hI
  rw [hI.2,Bool.and_true]
  exact hI.1
end Go.Dm

namespace Go.Dm
structure WfT (t:Af):Prop where
 len1:1≤t.nodes.length
 len2:t.nodes.length≤64
 node:∀ pre x post,t.nodes=pre++x::post→Ka pre x=true
 depth:∀ x∈t.nodes,(upT t x.id).length≤9
 last:(t.nodes.getD (t.nodes.length-1) default).id<t.next
 nextLe:t.next≤2147483648
theorem AaT (t:Af):Ok (Kw t) (fun b=>b=true↔WfT t):=by
 unfold Kw
 refine Aqy (fun h => ?_) fun h => ?_
 ·refine Ok.ret ?_
  simp only [Bool.or_eq_true,decide_eq_true_eq] at h
  refine ⟨fun e=>by simp at e,fun w => ?_⟩
  have:=w.len1
  have:=w.len2
  omega
 simp only [Bool.or_eq_false_iff,decide_eq_false_iff_not] at h
 have l1:1≤t.nodes.length:=by omega
 have l2:t.nodes.length≤64:=by omega
 refine Ok.guard (by omega) ?_
 refine Ok.range (fun pre _=>∀ q x p,pre=q++x::p→Ka q x=true) (by intro q x p e; simp at e) ?_ ?_
 ·intro pre x post s n he hI hn
  unfold Agn
  refine Ok.step (AnS t pre post x he (by omega)) ?_
  refine Aqy (fun h => ?_) fun h => ?_
  ·refine Ok.ret ⟨fun e=>by simp at e,fun w => ?_⟩
   have:=w.node pre x post he
   simp [this] at h
  ·refine hn () fun q y p e => ?_
   rcases List.eq_nil_or_concat p with rfl|⟨p',z,rfl⟩
   ·have e2:pre=q∧x=y:=by
     have:=List.append_inj' (s₁ := pre) (t₁ := [x]) (s₂ := q) (t₂ := [y]) (by simpa using e) rfl
     exact ⟨this.1,by simpa using this.2⟩
    rw [← e2.1,← e2.2]
    simpa using h
   ·have e2:pre ++ [x]=(q++y::p') ++ [z]:=by simpa using e
    have:=List.append_inj' e2 rfl
    exact hI q y p' this.1
 ·intro _ hI
  unfold AgY
  refine Ok.guard (by omega) ?_
  refine Ok.range (fun pre _=>∀ x∈pre,(upT t x.id).length≤9) (by simp) ?_ ?_
  ·intro pre x post s n he hJ hn
   unfold Ags
   refine Ok.step (Aku t x.id (by omega)) ?_
   refine Aqy (fun h => ?_) fun h => ?_
   ·refine Ok.ret ⟨fun e=>by simp at e,fun w => ?_⟩
    have:=w.depth x (by rw [he]; simp)
    have:=of_decide_eq_true h
    omega
   ·refine hn () fun y hy => ?_
    have hd:=of_decide_eq_false h
    rcases List.mem_append.mp hy with hy|hy
    ·exact hJ y hy
    ·obtain rfl:y=x:=by simpa using hy
     omega
  ·intro _ hJ
   unfold AhA Yi
   have hw:w64 ((t.nodes.length:Int)-1)=((t.nodes.length-1:Nat):Int):=by
    rw [Bz (by omega) (by omega)]
    omega
   rw [hw]
   refine Ok.guard (by omega) ?_
   have:Int.toNat ((t.nodes.length-1:Nat):Int)=t.nodes.length-1:=by omega
   rw [this]
   refine Aqy (fun h => ?_) fun h => ?_
   ·refine Ok.ret ⟨fun e => ?_,fun w => ?_⟩
    ·exact ⟨l1,l2,hI,hJ,by simpa using h,by simpa using e⟩
    ·simpa using w.nextLe
   ·refine Ok.ret ⟨fun e=>by simp at e,fun w => ?_⟩
    have:=w.last
    have:=of_decide_eq_false h
    omega
theorem Acs {t:Af} (h:WfT t):Kw t=some true:=by
 obtain ⟨b,hb,e⟩:=AaT t
 rw [hb,e.mpr h]
theorem Anl {t:Af} (h:¬ WfT t):Kw t=some false:=by
 obtain ⟨b,hb,e⟩:=AaT t
 cases b
 ·exact hb
 ·exact absurd (e.mp rfl) h
def zN : Ak := { id:=0,parent:=0,name:=ByteArray.empty,control:=0,kind:=0,owner:=0 }
def Wm (t:Af) (id:Int):Option Ak:=t.nodes.find? (fun x=>x.id==id)
def Dx (t:Af) (id:Int):Bool:=(Wm t id).isSome
theorem Qz {t:Af} (h:WfT t) (id:Int):Dv t id=some ((Wm t id).elim (zN,false) (fun x=>(x,true))):=by
 unfold Dv
 rw [Acs h]
 have:=h.len2
 simp only [Option.bind_some,Bool.not_true,Bool.false_eq_true,if_false]
 rw [if_pos (by omega)]
 exact Afc (fun k x n=>rfl) rfl
theorem AdY {t:Af} (h:¬ WfT t) (id:Int):Dv t id=some (zN,false):=by
 unfold Dv
 rw [Anl h]
 rfl
theorem Qa {t:Af} (h:WfT t) (id:Int):Fv t id=some (Dx t id):=by
 unfold Fv
 rw [Qz h,Option.bind_some]
 unfold Dx
 cases Wm t id <;> rfl
theorem AjZ {t:Af} (h:¬ WfT t) (id:Int):Fv t id=some false:=by
 unfold Fv
 rw [AdY h]
 rfl
def ancN (t:Af) (id:Int):List Int:=if Dx t id then upT t id else []
theorem Wl {t:Af} (h:WfT t) (id:Int):Hg t id=some (ancN t id):=by
 unfold Hg ancN
 rw [Qa h]
 have:=h.len2
 cases Dx t id
 ·rfl
 ·simp [Aku t id (by omega)]
def Bd (t:Af) (id:Int):List Int:=(t.nodes.filter (fun x=>x.parent==id)).map (·.id)
theorem AcQ {t:Af} (h:WfT t) (id:Int):Ih t id=some (if Dx t id then Bd t id else []):=by
 unfold Ih
 rw [Qa h]
 have:=h.len2
 cases Dx t id
 ·rfl
 ·simp only [Option.bind_some,Bool.not_true,Bool.false_eq_true,if_false,if_true]
  rw [if_pos (by omega)]
  refine (Qx (p:=fun x:Ak=>x.parent==id) (f:=fun x:Ak=>x.id) (r:=some) ?_ (fun _=>rfl) (by simp; omega)).trans (by simp [Bd])
  intro k x s n hs
  unfold Adq Rr
  rw [if_pos hs]
theorem AnI {t:Af} (h:WfT t) (id:Int):AbA t id=some (w64 (((ancN t id).length:Int)-1)):=by
 unfold AbA
 rw [Wl h]
 rfl
theorem Xt (t:Af) (h:t.nodes.length≤1073741824):Sg t=some t:=by
 unfold Sg
 simp
 omega
end Go.Dm

namespace Go.Dm
theorem Mt {α:Type} (L:List α):L = []∨∃ P x,L=P ++ [x]:=by
 rcases List.eq_nil_or_concat L with h|⟨P,x,h⟩
 ·exact .inl h
 ·exact .inr ⟨P,x,by simpa using h⟩
structure Ti (x:Ak):Prop where
 kind:x.kind=0∨x.kind=1
 c1:0≤x.control
 c2:x.control≤31
 o1:0≤x.owner
 o2:x.owner≤1048576
structure Adw (x:Ak):Prop where
 id:x.id=1
 parent:x.parent=0
 name:Cp x.name ByteArray.empty=true
 kind:x.kind=0
structure NodeS (pre:List Ak) (x:Ak):Prop where
 lt:∀ y∈pre,y.id<x.id
 valid:Eh x.name=true
 parent:∃ y∈pre,y.id=x.parent
 fresh:∀ y∈pre,y.parent=x.parent→Cp y.name x.name=false
inductive WfP : List Ak→Prop
 | root (x:Ak):Ti x→Adw x→WfP [x]
 | snoc (L:List Ak) (x:Ak):WfP L→Ti x→NodeS L x→WfP (L ++ [x])
theorem nodeV_of {pre:List Ak} {x:Ak} (h:Ka pre x=true):Ti x:=by
 simp only [Ka,Bool.and_eq_true,Bool.or_eq_true,beq_iff_eq,decide_eq_true_eq] at h
 exact ⟨h.1.1.1.1.1,h.1.1.1.1.2,h.1.1.1.2,h.1.1.2,h.1.2⟩
theorem WfP.pos {L:List Ak} (h:WfP L):0<L.length:=by
 cases h <;> simp
theorem wfP_of {L:List Ak} (hn:1≤L.length) (h:∀ pre x post,L=pre++x::post→Ka pre x=true):WfP L:=by
 have key:∀ (n:Nat) (M:List Ak),M.length=n→1≤M.length→(∀ pre x post,M=pre++x::post→Ka pre x=true)→WfP M∧∀ y,M.getLast? = some y→∀ z∈M,z.id≤y.id:=by
  intro n
  induction n with
  | zero=>intro M hM h1; omega
  | succ n ih =>
   intro M hM h1 hB
   rcases Mt M with rfl|⟨P,x,rfl⟩
   ·simp at hM
   have hx:Ka P x=true:=hB P x [] (by simp)
   have hv:=nodeV_of hx
   rcases Mt P with rfl|⟨P',y,rfl⟩
   ·simp only [Ka,List.getLast?_nil,Bool.and_eq_true,beq_iff_eq] at hx
    refine ⟨.root x hv ⟨hx.2.1.1.1,hx.2.1.1.2,hx.2.1.2,hx.2.2⟩,?_⟩
    intro y hy z hz
    simp at hy hz
    subst hy hz
    exact Int.le_refl _
   ·obtain ⟨w,hl⟩:=ih (P' ++ [y]) (by simp at hM ⊢; omega) (by simp) (fun pre u post e=>hB pre u (post ++ [x]) (by rw [e]; simp))
    have hl:=hl y (by simp)
    simp only [Ka,List.getLast?_append,List.getLast?_singleton,Option.some_or,Bool.and_eq_true,decide_eq_true_eq,List.any_eq_true,List.all_eq_true,beq_iff_eq] at hx
    obtain ⟨_,⟨⟨hlt,hval⟩,hpar⟩,hfr⟩:=hx
    have hs:NodeS (P' ++ [y]) x:=by
     refine ⟨fun z hz => ?_,hval,hpar,fun z hz hp => ?_⟩
     ·have:=hl z hz
      omega
     ·have:=hfr z hz
      simpa [hp] using this
    refine ⟨.snoc _ x w hv hs,?_⟩
    intro u hu z hz
    have hu:u=x:=by simpa [eq_comm] using hu
    subst hu
    rcases List.mem_append.mp hz with hz|hz
    ·have:=hs.lt z hz
     omega
    ·simp at hz
     subst hz
     exact Int.le_refl _
 exact (key _ L rfl hn h).1
theorem AmB {x:Ak} (v:Ti x) (r:Adw x):Ka [] x=true:=by
 have:=v.kind
 simp [Ka,v.c1,v.c2,v.o1,v.o2,r.id,r.parent,r.name,r.kind]
theorem Amf {L:List Ak} {x:Ak} (hL:0<L.length) (v:Ti x) (r:NodeS L x):Ka L x=true:=by
 rcases Mt L with rfl|⟨P,y,rfl⟩
 ·simp at hL
 simp only [Ka,List.getLast?_append,List.getLast?_singleton,Option.some_or,Bool.and_eq_true,decide_eq_true_eq,List.any_eq_true,List.all_eq_true,beq_iff_eq,Bool.or_eq_true]
 refine ⟨⟨⟨⟨⟨v.kind,v.c1⟩,v.c2⟩,v.o1⟩,v.o2⟩,⟨⟨r.lt y (by simp),r.valid⟩,r.parent⟩,fun z hz => ?_⟩
 by_cases hp:z.parent=x.parent
 ·simp [r.fresh z hz hp]
 ·simp [hp]
theorem WfP.split {L:List Ak} (h:WfP L):∀ pre x post,L=pre++x::post→Ka pre x=true:=by
 induction h with
 | root x v r =>
  intro pre y post e
  have:pre = []∧y=x:=by
   cases pre with
   | nil=>simp at e; exact ⟨rfl,e.1.symm⟩
   | cons a q=>simp at e
  rw [this.1,this.2]
  exact AmB v r
 | snoc L x w v s ih =>
  intro pre y post e
  rcases Mt post with rfl|⟨p',z,rfl⟩
  ·have:=List.append_inj' (s₁ := L) (t₁ := [x]) (s₂ := pre) (t₂ := [y]) (by simpa using e) rfl
   have e2:x=y:=by simpa using this.2
   rw [← this.1,← e2]
   exact Amf w.pos v s
  ·have e2:L ++ [x]=(pre++y::p') ++ [z]:=by simpa using e
   have:=List.append_inj' e2 rfl
   exact ih pre y p' this.1
theorem WfP.sorted {L:List Ak} (h:WfP L):L.Pairwise (fun a b=>a.id<b.id):=by
 induction h with
 | root x v r=>simp
 | snoc L x w v s ih =>
  rw [List.pairwise_append]
  exact ⟨ih,by simp,fun a ha b hb=>by simp at hb; subst hb; exact s.lt a ha⟩
theorem WfP.val {L:List Ak} (h:WfP L):∀ x∈L,Ti x:=by
 induction h with
 | root x v r=>intro y hy; simp at hy; subst hy; exact v
 | snoc L x w v s ih =>
  intro y hy
  rcases List.mem_append.mp hy with hy|hy
  ·exact ih y hy
  ·simp at hy; subst hy; exact v
theorem WfP.first {L:List Ak} (h:WfP L):∃ x r,L=x::r∧Adw x:=by
 induction h with
 | root x v r=>exact ⟨x,[],rfl,r⟩
 | snoc L x w v s ih =>
  obtain ⟨y,r,rfl,hr⟩:=ih
  exact ⟨y,r ++ [x],rfl,hr⟩
theorem WfP.ge1 {L:List Ak} (h:WfP L):∀ x∈L,1≤x.id:=by
 induction h with
 | root x v r=>intro y hy; simp at hy; subst hy; rw [r.id]; omega
 | snoc L x w v s ih =>
  intro y hy
  rcases List.mem_append.mp hy with hy|hy
  ·exact ih y hy
  ·simp at hy; subst hy
   obtain ⟨z,hz,_⟩:=s.parent
   have:=ih z hz
   have:=s.lt z hz
   omega
theorem WfP.par {L:List Ak} (h:WfP L):∀ x∈L,(x.id=1∧Adw x)∨(1≤x.parent∧x.parent<x.id∧(∃ y∈L,y.id=x.parent)∧Eh x.name=true):=by
 induction h with
 | root x v r=>intro y hy; simp at hy; subst hy; exact .inl ⟨r.id,r⟩
 | snoc L x w v s ih =>
  intro y hy
  rcases List.mem_append.mp hy with hy|hy
  ·rcases ih y hy with h|⟨h1,h2,⟨z,hz,he⟩,h3⟩
   ·exact .inl h
   ·exact .inr ⟨h1,h2,⟨z,by simp [hz],he⟩,h3⟩
  ·simp at hy; subst hy
   obtain ⟨z,hz,he⟩:=s.parent
   refine .inr ⟨?_,?_,⟨z,by simp [hz],he⟩,s.valid⟩
   ·have:=w.ge1 z hz
    omega
   ·have:=s.lt z hz
    omega
theorem AeR {L:List Ak} (h:L.Pairwise (fun a b=>a.id<b.id)) {x y:Ak} (hx:x∈L) (hy:y∈L) (e:x.id=y.id):x=y:=by
 induction L with
 | nil=>simp at hx
 | cons a r ih =>
  rw [List.pairwise_cons] at h
  rcases List.mem_cons.mp hx with ex|hx' <;> rcases List.mem_cons.mp hy with ey|hy'
  ·rw [ex,ey]
  ·have:=h.1 y hy'; rw [ex] at e; omega
  ·have:=h.1 x hx'; rw [ey] at e; omega
  ·exact ih h.2 hx' hy'
theorem Sz {t:Af} {id:Int} {x:Ak} (h:Wm t id=some x):x∈t.nodes∧x.id=id :=
 ⟨List.mem_of_find?_eq_some h,by have:=List.find?_some h; simpa using this⟩
theorem hasN_iff {t:Af} {id:Int} : Dx t id=true↔∃ x∈t.nodes,x.id=id:=by
 unfold Dx Wm
 rw [List.find?_isSome]
 simp
theorem Abc {A B:List Ak} {id:Int} (h:∀ x∈A,x.id≠id):upR (A++B) id=upR B id:=by
 induction A with
 | nil=>rfl
 | cons a r ih =>
  rw [List.cons_append,upR,if_neg (by simpa using h a (by simp))]
  exact ih fun x hx=>h x (by simp [hx])
theorem Ajo {A:List Ak} {id:Int} (h:∀ x∈A,x.id≠id):upR A id = []:=by
 have:=Abc (B := []) h
 simpa [upR] using this
theorem WfP.up {L:List Ak} (h:WfP L):∀ x∈L,upR L.reverse x.id=x.id::upR L.reverse x.parent:=by
 induction h with
 | root x v r =>
  intro y hy
  simp at hy
  subst hy
  simp [upR,r.parent,r.id]
 | snoc L x w v s ih =>
  intro y hy
  rw [List.reverse_append,List.reverse_cons,List.reverse_nil,List.nil_append,List.singleton_append]
  rcases List.mem_append.mp hy with hy|hy
  ·have hlt:=s.lt y hy
   have hp:y.parent<x.id:=by
    rcases w.par y hy with ⟨h1,r⟩|⟨_,h2,_⟩
    ·rw [r.parent]; have:=w.ge1 y hy; omega
    ·omega
   rw [upR,if_neg (by simp; omega),upR,if_neg (by simp; omega)]
   exact ih y hy
  ·simp at hy
   subst hy
   obtain ⟨z,hz,he⟩:=s.parent
   have:=s.lt z hz
   rw [upR,if_pos (by simp),upR,if_neg (by simp; omega)]
theorem WfT.p {t:Af} (h:WfT t):WfP t.nodes:=wfP_of h.len1 h.node
theorem WfT.sorted {t:Af} (h:WfT t):t.nodes.Pairwise (fun a b=>a.id<b.id):=h.p.sorted
theorem WfT.up {t:Af} (h:WfT t) {x:Ak} (hx:x∈t.nodes):upT t x.id=x.id::upT t x.parent:=h.p.up x hx
theorem WfT.upZero {t:Af} (h:WfT t):upT t 0 = []:=Ajo fun x hx=>by
 have:=h.p.ge1 x (by simpa using hx)
 omega
theorem WfT.next {t:Af} (h:WfT t):∀ x∈t.nodes,x.id<t.next:=by
 have hl:=h.last
 have h1:=h.len1
 have hs:=h.sorted
 intro x hx
 obtain ⟨i,hi,rfl⟩:=List.getElem_of_mem hx
 rw [Ff (by omega)] at hl
 by_cases e:i=t.nodes.length-1
 ·subst e; exact hl
 ·have:=List.pairwise_iff_getElem.mp hs i (t.nodes.length-1) hi (by omega) (by omega)
  omega
theorem WfT.root {t:Af} (h:WfT t):∃ x r,t.nodes=x::r∧Adw x:=h.p.first
theorem WfT.mk' {t:Af} (hp:WfP t.nodes) (h2:t.nodes.length≤64) (hd:∀ x∈t.nodes,(upT t x.id).length≤9) (hn:∀ x∈t.nodes,x.id<t.next) (hl:t.next≤2147483648):WfT t:=by
 refine ⟨hp.pos,h2,hp.split,hd,hn _ (Nh ?_),hl⟩
 have:=hp.pos
 omega
end Go.Dm

namespace Go.Dm
structure Bm (d:Ai):Prop where
 a0:0≤d.atF
 a1:d.atF≤(d.l.length:Int)
 l:d.l.length≤600
theorem dice_roll {l:List Int} (h:l.length≤600):Bm { l:=l,atF:=0 } := ⟨by simp,by simp,h⟩
theorem Aep {d:Ai} (h:Bm d) (n:Int) (hn:n≤1000000):Ok (Bn d n) (fun r=>Bm r.2∧0≤r.1∧(r.1<n∨(n<1∧r.1=0))):=by
 have h0:=h.a0
 have h1:=h.a1
 have hl:=h.l
 unfold Bn
 refine Aqy (fun c => ?_) fun c => ?_
 ·simp only [Bool.or_eq_true,decide_eq_true_eq] at c
  refine Ok.ret ⟨h,by simp,?_⟩
  show (0:Int)<n∨(n<1∧(0:Int)=0)
  omega
 simp only [Bool.or_eq_false_iff,decide_eq_false_iff_not] at c
 have e1:w64 (d.atF+1)=d.atF+1:=Bz (by omega) (by omega)
 have e2:w64 (d.atF+1-1)=d.atF:=by
  rw [Bz (by omega) (by omega)]
  omega
 have hd:Bm { l:=d.l,atF:=d.atF+1 } := ⟨by simp only; omega,by simp only; omega,hl⟩
 rw [e1,e2]
 refine Ok.guard (by omega) ?_
 refine Ok.guard (by omega) ?_
 generalize d.l.getD d.atF.toNat 0=x
 have b1:Int.tmod x n<n:=Int.tmod_lt_of_pos x (by omega)
 have b2 : -n<Int.tmod x n:=by
  have:=Int.tmod_lt_of_pos (-x) (show 0<n by omega)
  rw [Int.neg_tmod] at this
  omega
 unfold Pn
 rw [e1]
 refine Aqy (fun c2 => ?_) fun c2 => ?_
 ·have:=of_decide_eq_true c2
  rw [Bz (by omega) (by omega)]
  refine Ok.ret ⟨hd,?_,?_⟩ <;> simp only <;> omega
 ·have:=of_decide_eq_false c2
  refine Ok.ret ⟨hd,?_,?_⟩ <;> simp only <;> omega
theorem Ds {d:Ai} (h:Bm d) (n:Int) (h1:1≤n) (hn:n≤1000000):Ok (Bn d n) (fun r=>Bm r.2∧0≤r.1∧r.1<n) :=
 (Aep h n hn).mono fun r ⟨a,b,c⟩=>⟨a,b,by omega⟩
theorem Le {d:Ai} (h:Bm d) (n:Int) (hn:n≤1000000):Ok (Cz d n) (fun r=>Bm r.2):=by
 unfold Cz
 exact Ok.bind (Aep h n hn) fun r hr=>Ok.ret hr.1
theorem Aou : ∀ s ∈ [(bs [97]),(bs [98]),(bs [99]),(bs [119,101,98]),(bs [100,98,45,49]),(bs [88,95,57])],Eh s=true:=by
 intro s hs
 have:([(bs [97]),(bs [98]),(bs [99]),(bs [119,101,98]),(bs [100,98,45,49]),(bs [88,95,57])].all Eh)=true:=by kernel_rfl
 exact List.all_eq_true.mp this s hs
theorem Name_ok {d:Ai} (h:Bm d):Ok (Tz d) (fun r=>Bm r.2∧Eh r.1=true):=by
 unfold Tz
 refine Ok.bind (Ds h 6 (by omega) (by omega)) fun r ⟨h1,h2,h3⟩ => ?_
 refine Ok.guard ⟨h2,h3⟩ ?_
 have hlt:r.1.toNat < [(bs [97]),(bs [98]),(bs [99]),(bs [119,101,98]),(bs [100,98,45,49]),(bs [88,95,57])].length:=by simp only [List.length_cons,List.length_nil]; omega
 refine Ok.guard hlt (Ok.ret ⟨h1,Aou _ (Nh hlt)⟩)
theorem Ajq {d:Ai} (h:Bm d) (t:Af) (ht:t.nodes.length≤1000000):Ok (Jx d t) (fun r=>Bm r.2):=by
 unfold Jx
 refine Ok.bind (Le h 15 (by omega)) fun r hr => ?_
 have hJ:∀ b:Bool,(b=false→0<t.nodes.length)→Ok (Kj t r b) (fun r=>Bm r.2):=by
  intro b hb
  unfold Kj
  refine Aqy (fun _ => ?_) fun c => ?_
  ·exact Ok.bind (Aep hr 9 (by omega)) fun q hq=>Ok.ret hq.1
  ·have:=hb c
   refine Ok.bind (Ds hr _ (by omega) (by omega)) fun q hq => ?_
   exact Ok.guard ⟨hq.2.1,hq.2.2⟩ (Ok.ret hq.1)
 refine Aqy (fun _ => ?_) fun _ => ?_
 ·exact hJ true (by simp)
 ·refine hJ _ fun hb => ?_
  have:¬ ((t.nodes.length:Nat):Int)=0:=by simpa using hb
  omega
theorem AkZ {d:Ai} (h:Bm d) (t:Ab) (ht:t.tasks.length≤1000000):Ok (Lg d t) (fun r=>Bm r.2):=by
 unfold Lg
 refine Ok.bind (Le h 15 (by omega)) fun r hr => ?_
 have hJ:∀ b:Bool,(b=false→0<t.tasks.length)→Ok (Ln t r b) (fun r=>Bm r.2):=by
  intro b hb
  unfold Ln
  refine Aqy (fun _ => ?_) fun c => ?_
  ·exact Ok.bind (Aep hr 9 (by omega)) fun q hq=>Ok.ret hq.1
  ·have:=hb c
   refine Ok.bind (Ds hr _ (by omega) (by omega)) fun q hq => ?_
   exact Ok.guard ⟨hq.2.1,hq.2.2⟩ (Ok.ret hq.1)
 refine Aqy (fun _ => ?_) fun _ => ?_
 ·exact hJ true (by simp)
 ·refine hJ _ fun hb => ?_
  have:¬ ((t.tasks.length:Nat):Int)=0:=by simpa using hb
  omega
theorem Alq {d:Ai} (h:Bm d):Ok (Jz d) (fun r=>Bm r.2 ∧ -1≤r.1∧r.1≤32):=by
 unfold Jz
 refine Ok.bind (Ds h 9 (by omega) (by omega)) fun r ⟨h1,h2,h3⟩ => ?_
 refine Ok.guard ⟨h2,h3⟩ ?_
 have hlt:r.1.toNat < [(1:Int),9,31,2,25,4,0,32,(-1)].length:=by simp only [List.length_cons,List.length_nil]; omega
 refine Ok.guard hlt (Ok.ret ⟨h1,?_⟩)
 have hm:=Nh (d:=(0:Int)) hlt
 have:∀ x ∈ [(1:Int),9,31,2,25,4,0,32,(-1)],-1≤x∧x≤32:=by decide
 exact this _ hm
def zT : Af := { nodes := [],next:=0 }
def addT (t:Af) (p:Int) (s:ByteArray):Af×Int×Int :=
 if !Eh s then (zT,0,1) else if !Dx t p then (zT,0,4) else if t.nodes.any (fun x=>x.parent==p&&Cp x.name s) then (zT,0,5)
 else if decide (9≤(upT t p).length)||decide (64≤t.nodes.length)||decide (2147483647<t.next) then (zT,0,7)
 else ({ nodes:=t.nodes ++ [{ id:=t.next,parent:=p,name:=s,control:=0,kind:=0,owner:=0 }],next:=t.next+1 },t.next,0)
theorem AoZ {t:Af} (h:WfT t) (p:Int) (s:ByteArray):AeX t p s=some (addT t p s):=by
 apply Ok.eq
 have h2:=h.len2
 have hnx:=h.nextLe
 unfold AeX
 refine Ok.step (Acs h) ?_
 simp only [Bool.not_true,Bool.false_eq_true,if_false]
 refine Ok.step (AfB s) ?_
 unfold Abv addT
 refine Aqy (fun c => ?_) fun c => ?_
 ·rw [if_pos c]; exact Ok.ret rfl
 rw [if_neg (c:=(!Eh s)=true) (by rw [c]; simp)]
 refine Ok.step (Qa h p) ?_
 refine Aqy (fun c => ?_) fun c => ?_
 ·rw [if_pos c]; exact Ok.ret rfl
 rw [if_neg (c:=(!Dx t p)=true) (by rw [c]; simp)]
 have hp:Dx t p=true:=by simpa using c
 refine Ok.guard (by omega) ?_
 refine Ok.range (fun pre _=>pre.any (fun x=>x.parent==p&&Cp x.name s)=false) rfl ?_ ?_
 ·intro pre x post u n he hI hn
  unfold AjK
  refine Aqy (fun c => ?_) fun c => ?_
  ·refine Ok.ret ?_
   rw [if_pos]
   ·rfl
   ·rw [he,List.any_append,List.any_cons,c]
    simp
  ·refine hn () ?_
   rw [List.any_append,hI,List.any_cons,c]
   rfl
 ·intro _ hI
  rw [if_neg (by rw [hI]; simp)]
  unfold Akx
  refine Ok.step (AnI h p) ?_
  have ea:ancN t p=upT t p:=by simp [ancN,hp]
  have hb:(upT t p).length≤64:=by
   have:=Tj t.nodes.reverse p
   simp at this
   unfold upT
   omega
  rw [ea,Bz (by omega) (by omega)]
  have hJ1:∀ c,(c=true→(decide (9≤(upT t p).length)||decide (64≤t.nodes.length)||decide (2147483647<t.next))=true)→(c=false→(decide (9≤(upT t p).length)||decide (64≤t.nodes.length)||decide (2147483647<t.next))=false) →
    Ok (Tf t p s c) (· = if decide (9≤(upT t p).length)||decide (64≤t.nodes.length)||decide (2147483647<t.next) then (zT,0,7)
 else ({ nodes:=t.nodes ++ [{ id:=t.next,parent:=p,name:=s,control:=0,kind:=0,owner:=0 }],next:=t.next+1 },t.next,0)):=by
   intro c ht hf
   unfold Tf
   refine Aqy (fun c => ?_) fun c => ?_
   ·rw [if_pos (ht c)]; exact Ok.ret rfl
   ·rw [if_neg (by rw [hf c]; simp)]
    refine Ok.step (Xt t (by omega)) ?_
    refine Ok.guard (by omega) ?_
    have hn0:0<t.next:=by
     obtain ⟨x,r,e,hr⟩:=h.root
     have:=h.next x (by rw [e]; simp)
     rw [hr.id] at this
     omega
    rw [Bz (by omega) (by omega)]
    exact Ok.ret rfl
  refine Aqy (fun c => ?_) fun c => ?_
  ·have:=of_decide_eq_true c
   refine hJ1 true (fun _ => ?_) (by simp)
   have:9≤(upT t p).length:=by omega
   simp [this]
  ·have h9:=of_decide_eq_false c
   refine Aqy (fun c => ?_) fun c => ?_
   ·have:=of_decide_eq_true c
    refine hJ1 true (fun _ => ?_) (by simp)
    have:64≤t.nodes.length:=by omega
    simp [this]
   ·have h64:=of_decide_eq_false c
    have a:¬ 9≤(upT t p).length:=by omega
    have b:¬ 64≤t.nodes.length:=by omega
    refine hJ1 _ (fun c => ?_) fun c => ?_
    ·have:=of_decide_eq_true c
     have:2147483647<t.next:=by omega
     simp [this]
    ·have:=of_decide_eq_false c
     have:¬ 2147483647<t.next:=by omega
     simp [this,a,b]
theorem Agj {L:List Ak} {x:Ak} {id:Int} (h:x.id≠id):upR (L ++ [x]).reverse id=upR L.reverse id:=by
 rw [List.reverse_append]
 exact Abc (A := [x].reverse) (by simpa using h)
theorem addT_wf {t:Af} (h:WfT t) {p:Int} {s:ByteArray} {r:Af×Int×Int} (e:addT t p s=r) (hr:r.2.2=0):WfT r.1:=by
 have h2:=h.len2
 unfold addT at e
 split at e
 ·subst e; simp at hr
 split at e
 ·subst e; simp at hr
 split at e
 ·subst e; simp at hr
 split at e
 ·subst e; simp at hr
 rename_i hv hh ha hc
 subst e
 have hv':Eh s=true:=by simpa using hv
 have hh':Dx t p=true:=by simpa using hh
 obtain ⟨y,hy,hyp⟩:=hasN_iff.mp hh'
 simp only [Bool.or_eq_true,decide_eq_true_eq,not_or] at hc
 have ha':∀ x∈t.nodes,x.parent=p→Cp x.name s=false:=by
  intro x hx hp
  cases hb:Cp x.name s
  ·rfl
  ·exact absurd (List.any_eq_true.mpr ⟨x,hx,by simp [hp,hb]⟩) ha
 have hnext:=h.next
 refine WfT.mk' (.snoc _ _ h.p ⟨.inl rfl,by simp,by simp,by simp,by simp⟩ ⟨hnext,hv',⟨y,hy,hyp⟩,ha'⟩) (by simp; omega) ?_ ?_ (by simp only; omega)
 ·intro x hx
  rcases List.mem_append.mp hx with hx|hx
  ·have:=h.depth x hx
   unfold upT at this ⊢
   simp only
   have hlt:=hnext x hx
   rw [Agj (by simp only; omega)]
   exact this
  ·simp at hx
   subst hx
   unfold upT
   simp only [List.reverse_append,List.reverse_cons,List.reverse_nil,List.nil_append,List.singleton_append]
   rw [upR,if_pos (by simp)]
   have:=hc.1.1
   unfold upT at this
   simp; omega
 ·intro x hx
  simp only
  rcases List.mem_append.mp hx with hx|hx
  ·have:=hnext x hx
   omega
  ·simp at hx
   subst hx
   simp only
   omega
end Go.Dm

namespace Go.Dm
def AhG (t:Af) (id:Int):Af×Int :=
 if !Dx t id then (zT,4) else if id==1 then (zT,9) else if decide (0<(Bd t id).length) then (zT,6)
 else ({ nodes:=t.nodes.filter (fun x=>x.id != id),next:=t.next },0)
theorem Amv {t:Af} (h:WfT t) (id:Int):Aao t id=some (AhG t id):=by
 apply Ok.eq
 have h2:=h.len2
 unfold Aao AhG
 refine Ok.step (Acs h) ?_
 simp only [Bool.not_true,Bool.false_eq_true,if_false]
 refine Ok.step (Qa h id) ?_
 refine Aqy (fun c => ?_) fun c => ?_
 ·rw [if_pos c]; exact Ok.ret rfl
 rw [if_neg (c:=(!Dx t id)=true) (by rw [c]; simp)]
 have hp:Dx t id=true:=by simpa using c
 refine Aqy (fun c => ?_) fun c => ?_
 ·rw [if_pos c]; exact Ok.ret rfl
 rw [if_neg (c:=(id==1)=true) (by rw [c]; simp)]
 refine Ok.step (AcQ h id) ?_
 rw [if_pos hp]
 refine Aqy (fun c => ?_) fun c => ?_
 ·have:=of_decide_eq_true c
  have:0<(Bd t id).length:=by omega
  rw [if_pos (c:=decide (0<(Bd t id).length)=true) (by simp [this])]; exact Ok.ret rfl
 have:=of_decide_eq_false c
 have:¬ 0<(Bd t id).length:=by omega
 rw [if_neg (c:=decide (0<(Bd t id).length)=true) (by simp [this])]
 refine Ok.guard (by omega) ?_
 have e:=Qx (p:=fun x:Ak=>x.id != id) (f:=fun x:Ak=>x) (xs:=t.nodes) (s0 := []) (r:=AaU t) (body:=AaZ id) (done:=AaU t) (fun k x s n hs=>by
  unfold AaZ Wi
  rw [if_pos hs]) (fun _=>rfl) (by simp; omega)
 rw [e]
 refine Ok.ret ?_
 simp
theorem Ape {A:List Ak} {id k:Int} (hk:k≠id) (h:∀ x∈A,x.parent≠id):upR (A.filter (fun x=>x.id != id)) k=upR A k:=by
 induction A generalizing k with
 | nil=>rfl
 | cons a r ih =>
  have hr:∀ x∈r,x.parent≠id:=fun x hx=>h x (by simp [hx])
  rw [List.filter_cons]
  by_cases e:a.id=id
  ·rw [if_neg (by simp [e]),ih hk hr,upR,if_neg (by simp; omega)]
  ·rw [if_pos (by simp [e]),upR,upR]
   by_cases q:a.id=k
   ·rw [if_pos (by simp [q]),if_pos (by simp [q]),ih (h a (by simp)) hr]
   ·rw [if_neg (by simp [q]),if_neg (by simp [q]),ih hk hr]
theorem WfP.remove {L:List Ak} (h:WfP L) {id:Int} (h1:id≠1) (hk:∀ x∈L,x.parent≠id):WfP (L.filter (fun x=>x.id != id)):=by
 induction h with
 | root x v r =>
  have:(x.id != id)=true:=by simp [r.id]; omega
  simp only [List.filter_cons,this,if_true,List.filter_nil]
  exact .root x v r
 | snoc L x w v s ih =>
  have hw:=ih fun y hy=>hk y (by simp [hy])
  rw [List.filter_append]
  by_cases e:x.id=id
  ·have : [x].filter (fun x=>x.id != id) = []:=by simp [e]
   rw [this,List.append_nil]
   exact hw
  ·have : [x].filter (fun x=>x.id != id) = [x]:=by simp [e]
   rw [this]
   refine .snoc _ x hw v ⟨fun y hy=>s.lt y (List.mem_filter.mp hy).1,s.valid,?_,fun y hy=>s.fresh y (List.mem_filter.mp hy).1⟩
   obtain ⟨y,hy,hyp⟩:=s.parent
   refine ⟨y,List.mem_filter.mpr ⟨hy,?_⟩,hyp⟩
   have:=hk x (by simp)
   simp only [bne_iff_ne]
   omega
theorem ApB {t:Af} (h:WfT t) {id:Int} {r:Af×Int} (e:AhG t id=r) (hr:r.2=0):WfT r.1:=by
 have h2:=h.len2
 unfold AhG at e
 split at e
 ·subst e; simp at hr
 split at e
 ·subst e; simp at hr
 split at e
 ·subst e; simp at hr
 rename_i hh h1 hk
 subst e
 have h1':id≠1:=by simpa using h1
 have hk':∀ x∈t.nodes,x.parent≠id:=by
  intro x hx hp
  have hk:¬ 0<(Bd t id).length:=by simpa using hk
  have:x.id∈Bd t id:=by
   unfold Bd
   exact List.mem_map.mpr ⟨x,List.mem_filter.mpr ⟨hx,by simp [hp]⟩,rfl⟩
  have:=List.length_pos_of_mem this
  omega
 refine WfT.mk' (h.p.remove h1' hk') (Nat.le_trans (List.length_filter_le _ _) h2) ?_ (fun x hx=>h.next x (List.mem_filter.mp hx).1) h.nextLe
 intro x hx
 have hx':=List.mem_filter.mp hx
 have:=h.depth x hx'.1
 unfold upT at this ⊢
 simp only
 rw [← List.filter_reverse,Ape (by simpa using hx'.2) (fun y hy=>hk' y (by simpa using hy))]
 exact this
def AaV (x y:Ak):Ak:=if y.id==x.id then x else y
def setT (t:Af) (x:Ak):Af := { nodes:=t.nodes.map (AaV x),next:=t.next }
theorem Aec (t:Af) (x:Ak) (hl:t.nodes.length≤1000000):Aaa t x=some (setT t x):=by
 apply Ok.eq
 unfold Aaa
 refine Ok.step (Xt t (by omega)) ?_
 refine Aqu (fun s=>∃ m:Nat,s.2=(m:Int)∧m≤t.nodes.length∧s.1=(t.nodes.take m).map (AaV x)++t.nodes.drop m) (fun s=>(((t.nodes.length:Nat):Int)-s.2).toNat) ?_ ?_ ?_
 ·exact ⟨0,rfl,by omega,by simp⟩
 ·rw [Iv]; simp only; omega
 rintro ⟨L,c⟩ n ⟨m,hc,hm,he⟩ hn
 simp only at hc he hn
 subst hc
 have hlen:L.length=t.nodes.length:=by
  rw [he]; simp; omega
 unfold AjD AbI
 simp only
 rw [hlen]
 refine Aqy (fun c => ?_) fun c => ?_
 ·have hlt:=of_decide_eq_true c
  have hlt':m<t.nodes.length:=by omega
  have em:Int.toNat (m:Int)=m:=by omega
  rw [em]
  refine Ok.guard (by omega) ?_
  refine Ok.guard hlt' ?_
  have hw:w64 ((m:Int)+1)=((m+1:Nat):Int):=by
   rw [Bz (by omega) (by omega)]; omega
  have hd:t.nodes.drop m=t.nodes[m]::t.nodes.drop (m+1):=List.drop_eq_getElem_cons hlt'
  have hg:L.getD m default=t.nodes[m]:=by
   rw [he,hd,List.getD_eq_getElem?_getD,List.getElem?_append_right (by simp; omega)]
   have:m-(List.map (AaV x) (List.take m t.nodes)).length=0:=by simp; omega
   rw [this]
   rfl
  have ht:(t.nodes.take (m+1)).map (AaV x)++t.nodes.drop (m+1)=(t.nodes.take m).map (AaV x)++AaV x t.nodes[m]::t.nodes.drop (m+1):=by
   have:t.nodes.take (m+1)=t.nodes.take m ++ [t.nodes[m]]:=by
    rw [List.take_add_one]; simp [hlt']
   rw [this,List.map_append,List.append_assoc]
   rfl
  have hml:(List.map (AaV x) (List.take m t.nodes)).length=m:=by
   rw [List.length_map,List.length_take]; omega
  rw [hg,hw]
  refine Aqy (fun c => ?_) fun c => ?_
  ·refine Ok.guard (by omega) ?_
   refine Ok.guard hlt' ?_
   refine hn _ ⟨m+1,rfl,by omega,?_⟩ (by simp only; omega)
   simp only
   rw [ht,he,hd,List.set_append_right _ _ (by omega),hml,Nat.sub_self,List.set_cons_zero,AaV,if_pos c]
  ·refine hn _ ⟨m+1,rfl,by omega,?_⟩ (by simp only; omega)
   simp only
   rw [ht,he,hd]
   simp [AaV,c]
 ·have:=of_decide_eq_false c
  obtain rfl:m=t.nodes.length:=by omega
  refine Ok.ret ?_
  simp [he,setT]
theorem upR_map {A:List Ak} {f:Ak→Ak} {k:Int} (h:∀ y∈A,(f y).id=y.id∧(f y).parent=y.parent):upR (A.map f) k=upR A k:=by
 induction A generalizing k with
 | nil=>rfl
 | cons a r ih =>
  have h1:=h a (by simp)
  rw [List.map_cons,upR,upR,h1.1,h1.2,ih fun y hy=>h y (by simp [hy]),ih fun y hy=>h y (by simp [hy])]
theorem WfP.map {L:List Ak} (h:WfP L) {f:Ak→Ak} (hf:∀ y∈L,(f y).id=y.id∧(f y).parent=y.parent∧(f y).name=y.name∧Ti (f y)∧(y.id=1→(f y).kind=0)):WfP (L.map f):=by
 induction h with
 | root x v r =>
  obtain ⟨h1,h2,h3,h4,h5⟩:=hf x (by simp)
  exact .root _ h4 ⟨by rw [h1,r.id],by rw [h2,r.parent],by rw [h3,r.name],h5 r.id⟩
 | snoc L x w v s ih =>
  have hw:=ih fun y hy=>hf y (by simp [hy])
  obtain ⟨h1,h2,h3,h4,h5⟩:=hf x (by simp)
  have hL:∀ y∈L,(f y).id=y.id∧(f y).parent=y.parent∧(f y).name=y.name:=fun y hy=>by
   obtain ⟨a,b,c,_⟩:=hf y (by simp [hy])
   exact ⟨a,b,c⟩
  rw [List.map_append,List.map_cons,List.map_nil]
  refine .snoc _ _ hw h4 ⟨?_,by rw [h3]; exact s.valid,?_,?_⟩
  ·intro y hy
   obtain ⟨z,hz,rfl⟩:=List.mem_map.mp hy
   rw [(hL z hz).1,h1]
   exact s.lt z hz
  ·obtain ⟨z,hz,hzp⟩:=s.parent
   exact ⟨f z,List.mem_map.mpr ⟨z,hz,rfl⟩,by rw [(hL z hz).1,h2,hzp]⟩
  ·intro y hy
   obtain ⟨z,hz,rfl⟩:=List.mem_map.mp hy
   rw [(hL z hz).2.1,(hL z hz).2.2,h2,h3]
   exact s.fresh z hz
theorem WfT.map {t:Af} (h:WfT t) {f:Ak→Ak} (hf:∀ y∈t.nodes,(f y).id=y.id∧(f y).parent=y.parent∧(f y).name=y.name∧Ti (f y)∧(y.id=1→(f y).kind=0)):WfT { nodes:=t.nodes.map f,next:=t.next } := by
 refine WfT.mk' (h.p.map hf) (by simp; exact h.len2) ?_ ?_ h.nextLe
 ·intro x hx
  obtain ⟨z,hz,rfl⟩:=List.mem_map.mp hx
  have:=h.depth z hz
  unfold upT at this ⊢
  simp only
  rw [← List.map_reverse,upR_map (fun y hy=>⟨(hf y (by simpa using hy)).1,(hf y (by simpa using hy)).2.1⟩),(hf z hz).1]
  exact this
 ·intro x hx
  obtain ⟨z,hz,rfl⟩:=List.mem_map.mp hx
  simp only
  rw [(hf z hz).1]
  exact h.next z hz
theorem setT_wf {t:Af} (h:WfT t) {x y:Ak} (hy:y∈t.nodes) (h1:x.id=y.id) (h2:x.parent=y.parent) (h3:x.name=y.name) (h4:Ti x) (h5:y.id=1→x.kind=0):WfT (setT t x):=by
 refine h.map fun z hz => ?_
 unfold AaV
 by_cases e:z.id=x.id
 ·obtain rfl:z=y:=AeR h.sorted hz hy (by omega)
  rw [if_pos (by simp [e])]
  exact ⟨h1,h2,h3,h4,h5⟩
 ·rw [if_neg (by simpa using e)]
  refine ⟨rfl,rfl,rfl,h.p.val z hz,fun q => ?_⟩
  rcases h.p.par z hz with ⟨_,r⟩|⟨a,b,_⟩
  ·exact r.kind
  ·omega
def newT : Af := { nodes := [{ id:=1,parent:=0,name:=ByteArray.empty,control:=0,kind:=0,owner:=0 }],next:=2 }
theorem Aov : Afa=some newT:=rfl
theorem newT_wf : WfT newT:=by
 refine WfT.mk' (.root _ ⟨.inl rfl,by simp,by simp,by simp,by simp⟩ ⟨rfl,rfl,AlL _,rfl⟩) (by simp [newT]) ?_ ?_ (by simp [newT])
 ·intro x hx
  have:=Tj newT.nodes.reverse x.id
  simp [newT] at this
  simp [upT,newT]
  omega
 ·intro x hx
  simp [newT] at hx
  subst hx
  simp [newT]
theorem Tree_ok {d:Ai} (h:Bm d) (n:Int) (h0:0≤n) (h1:n≤1000):Ok (Tu d n) (fun r=>WfT r.1∧Bm r.2):=by
 unfold Tu
 refine Ok.step Aov ?_
 rw [Bz (by omega) (by omega)]
 refine Ok.bind (Ds h (n+1) (by omega) (by omega)) fun r ⟨a1,a2,a3⟩ => ?_
 refine Aqu (fun s=>Bm s.1∧WfT s.2.1∧s.2.2≤2000) (fun s=>s.2.2.toNat) ⟨a1,newT_wf,by simp only; omega⟩ (by rw [Iv]; simp only; omega) ?_
 rintro ⟨d,t,c⟩ k ⟨b1,b2,b3⟩ hk
 simp only at b1 b2 b3 hk
 unfold Acz
 simp only
 refine Aqy (fun c1 => ?_) fun c1 => ?_
 ·have hc:=of_decide_eq_true c1
  have l1:=b2.len1
  have l2:=b2.len2
  refine Ok.bind (Ds b1 _ (by omega) (by omega)) fun r2 ⟨q1,q2,q3⟩ => ?_
  refine Ok.guard ⟨q2,q3⟩ ?_
  refine Ok.bind (Name_ok q1) fun r3 ⟨u1,u2⟩ => ?_
  refine Ok.step (AoZ b2 _ _) ?_
  have hw:w64 (c-1)=c-1:=Bz (by omega) (by omega)
  have hJ3:∀ y:Ai×Af,Bm y.1→WfT y.2→Ok (Iw (d,t,c) k y) (fun r=>WfT r.1∧Bm r.2):=by
   intro y hy1 hy2
   unfold Iw
   simp only
   rw [hw]
   exact hk _ ⟨hy1,hy2,by simp only; omega⟩ (by simp only; omega)
  have hJ4:∀ y:Af,WfT y→Ok (Lp (d,t,c) k r3 y) (fun r=>WfT r.1∧Bm r.2):=by
   intro y hy
   unfold Lp
   refine Ok.bind (Le u1 6 (by omega)) fun r4 hr4 => ?_
   refine Aqy (fun _ => ?_) fun _ => ?_
   ·have y1:=hy.len1
    have y2:=hy.len2
    refine Ok.bind (Ds hr4 _ (by omega) (by omega)) fun r5 ⟨v1,v2,v3⟩ => ?_
    refine Ok.guard ⟨v2,v3⟩ ?_
    refine Ok.step (Amv hy _) ?_
    refine Aqy (fun c2 => ?_) fun _ => ?_
    ·exact hJ3 _ v1 (ApB hy rfl (by simpa using c2))
    ·exact hJ3 _ v1 hy
   ·exact hJ3 _ hr4 hy
  refine Aqy (fun c2 => ?_) fun _ => ?_
  ·exact hJ4 _ (addT_wf b2 rfl (by simpa using c2))
  ·exact hJ4 _ b2
 ·exact Ok.ret ⟨b2,b1⟩
end Go.Dm

namespace Go.Dm
def zK : Ca := { id:=0,process:=0,group:=0,user:=0 }
def Ij (L:List Ca) (id:Int):Option Ca:=L.find? (fun x=>x.id==id)
theorem Alj (L:List Ca) (p:Int) (hl:L.length≤1000000):Aag L p=some ((Ij L p).elim (zK,false) (fun x=>(x,x.process==p))):=by
 unfold Aag
 rw [if_pos (by omega)]
 exact Afc (fun k x n=>rfl) rfl
structure TaskV (h:Ab) (x:Ca):Prop where
 pos:1≤x.id
 grp:Dx h.tree x.group=true
 u1:0≤x.user
 u2:x.user≤1048576
 ldr:∃ p,Ij h.tasks x.process=some p∧p.process=x.process∧p.user=x.user
structure WfH (h:Ab):Prop where
 tree:WfT h.tree
 len:h.tasks.length≤128
 n1:1≤h.next
 n2:h.next≤2147483648
 sorted:h.tasks.Pairwise (fun a b=>a.id<b.id)
 lt:∀ x∈h.tasks,x.id<h.next
 val:∀ x∈h.tasks,TaskV h x
theorem AfC (h:Ab):Ok (Ha h) (fun b=>b=true↔WfH h):=by
 have bad:¬ WfH h→Ok (some false) (fun b=>b=true↔WfH h):=fun hn=>Ok.ret ⟨fun e=>by simp at e,fun w=>absurd w hn⟩
 unfold Ha
 refine Ok.bind (AaT h.tree) fun b hb => ?_
 unfold Jr
 refine Aqy (fun c => ?_) fun c => ?_
 ·have:¬ WfT h.tree:=fun w=>by have:=hb.mpr w; simp [this] at c
  exact bad fun w=>this w.tree
 have wt:WfT h.tree:=hb.mp (by simpa using c)
 refine Aqy (fun c => ?_) fun c => ?_
 ·have:=of_decide_eq_true c
  exact bad fun w=>by have:=w.len; omega
 have hl:h.tasks.length≤128:=by
  have:=of_decide_eq_false c
  omega
 refine Aqy (fun c => ?_) fun c => ?_
 ·have:=of_decide_eq_true c
  exact bad fun w=>by have:=w.n1; omega
 have hn1:=of_decide_eq_false c
 refine Aqy (fun c => ?_) fun c => ?_
 ·have:=of_decide_eq_true c
  exact bad fun w=>by have:=w.n2; omega
 have hn2:=of_decide_eq_false c
 have loop:(∀ x∈h.tasks.getLast?,x.id<h.next)→Ok (if h.tasks.length≤9223372036854775807 then Az (Ack h) AgB h.tasks 0 () else none) (fun b=>b=true↔WfH h):=by
  intro hlast
  refine Ok.guard (by omega) ?_
  refine Ok.range (fun pre _=>pre.Pairwise (fun a b=>a.id<b.id)∧∀ x∈pre,TaskV h x) (by simp) ?_ ?_
  ·intro pre x post s n he hI hn
   have hx:x∈h.tasks:=by rw [he]; simp
   unfold Ack
   refine Ok.step (Alj h.tasks x.process (by omega)) ?_
   have hJt:¬ WfH h→Ok (Cr n true) (fun b=>b=true↔WfH h):=bad
   refine Aqy (fun c => ?_) fun c => ?_
   ·have:=of_decide_eq_true c
    exact hJt fun w=>by have:=(w.val x hx).pos; omega
   have hpos:=of_decide_eq_false c
   have tail:(∀ y∈pre,y.id<x.id)→Ok (Option.bind (Fv h.tree x.group) fun r51=>(if (!r51) then ((Cr n) true) else (if (decide (x.user<0)) then ((Cr n) true) else (if (decide (x.user>1048576)) then ((Cr n) true) else (if (!((Ij h.tasks x.process).elim (zK,false) (fun y=>(y,y.process==x.process))).2) then ((Cr n) true) else ((Cr n) (((Ij h.tasks x.process).elim (zK,false) (fun y=>(y,y.process==x.process))).1.user != x.user))))))) (fun b=>b=true↔WfH h):=by
    intro hlt
    refine Ok.step (Qa wt x.group) ?_
    refine Aqy (fun c => ?_) fun c => ?_
    ·exact hJt fun w=>by have:=(w.val x hx).grp; simp [this] at c
    have hg:Dx h.tree x.group=true:=by simpa using c
    refine Aqy (fun c => ?_) fun c => ?_
    ·have:=of_decide_eq_true c
     exact hJt fun w=>by have:=(w.val x hx).u1; omega
    have hu1:=of_decide_eq_false c
    refine Aqy (fun c => ?_) fun c => ?_
    ·have:=of_decide_eq_true c
     exact hJt fun w=>by have:=(w.val x hx).u2; omega
    have hu2:=of_decide_eq_false c
    cases hk:Ij h.tasks x.process with
    | none =>
     simp only [Option.elim_none]
     exact hJt fun w=>by
      obtain ⟨p,hp,_⟩:=(w.val x hx).ldr
      rw [hk] at hp
      simp at hp
    | some p =>
     simp only [Option.elim_some]
     refine Aqy (fun c => ?_) fun c => ?_
     ·exact hJt fun w=>by
       obtain ⟨q,hq,hq2,_⟩:=(w.val x hx).ldr
       rw [hk] at hq
       obtain rfl:p=q:=by simpa using hq
       simp [hq2] at c
     have hp2:p.process=x.process:=by simpa using c
     unfold Cr
     refine Aqy (fun c => ?_) fun c => ?_
     ·refine bad fun w => ?_
      obtain ⟨q,hq,_,hq3⟩:=(w.val x hx).ldr
      rw [hk] at hq
      obtain rfl:p=q:=by simpa using hq
      simp [hq3] at c
     have hp3:p.user=x.user:=by simpa using c
     refine hn () ⟨?_,?_⟩
     ·rw [List.pairwise_append]
      exact ⟨hI.1,by simp,fun a ha b hb=>by simp at hb; subst hb; exact hlt a ha⟩
     ·intro y hy
      rcases List.mem_append.mp hy with hy|hy
      ·exact hI.2 y hy
      ·obtain rfl:y=x:=by simpa using hy
       exact ⟨by omega,hg,by omega,by omega,p,hk,hp2,hp3⟩
   refine Aqy (fun c => ?_) fun c => ?_
   ·have hk:=of_decide_eq_true c
    rcases Mt pre with rfl|⟨pr,y,rfl⟩
    ·simp at hk
    have hw:w64 (((pr ++ [y]).length:Int)-1)=(pr.length:Int):=by
     have:(pr ++ [y]).length≤h.tasks.length:=by rw [he]; simp
     rw [Bz (by omega) (by omega)]
     simp
    have hle:pr.length<h.tasks.length:=by rw [he]; simp
    have ey:h.tasks.getD (Int.toNat (pr.length:Int)) default=y:=by
     rw [he,show Int.toNat (pr.length:Int)=pr.length by omega]
     exact Afv
    rw [hw,ey]
    refine Ok.guard (by omega) ?_
    refine Aqy (fun c => ?_) fun c => ?_
    ·have:=of_decide_eq_true c
     refine hJt fun w => ?_
     have hs:=w.sorted
     rw [he,List.pairwise_append] at hs
     have:=hs.2.2 y (by simp) x (by simp)
     omega
    ·have hyx:=of_decide_eq_false c
     refine tail fun z hz => ?_
     rcases List.mem_append.mp hz with hz|hz
     ·have:=hI.1
      rw [List.pairwise_append] at this
      have:=this.2.2 z hz y (by simp)
      omega
     ·obtain rfl:z=y:=by simpa using hz
      omega
   ·have hk:=of_decide_eq_false c
    have:pre = []:=List.length_eq_zero_iff.mp (by omega)
    subst this
    exact tail (by simp)
  ·intro _ hI
   refine Ok.ret ⟨fun _=>⟨wt,hl,by omega,by omega,hI.1,?_,hI.2⟩,fun _=>rfl⟩
   intro x hx
   rcases Mt h.tasks with e|⟨P,y,e⟩
   ·rw [e] at hx; simp at hx
   ·have hy:=hlast y (by rw [e]; simp)
    have hp:=hI.1
    rw [e] at hp hx
    rw [List.pairwise_append] at hp
    rcases List.mem_append.mp hx with hx|hx
    ·have:=hp.2.2 x hx y (by simp)
     omega
    ·obtain rfl:x=y:=by simpa using hx
     exact hy
 refine Aqy (fun c => ?_) fun c => ?_
 ·have hpos:=of_decide_eq_true c
  have hw:w64 ((h.tasks.length:Int)-1)=((h.tasks.length-1:Nat):Int):=by
   rw [Bz (by omega) (by omega)]
   omega
  rw [hw]
  refine Ok.guard (by omega) ?_
  have:Int.toNat ((h.tasks.length-1:Nat):Int)=h.tasks.length-1:=by omega
  rw [this,Ff (by omega)]
  refine Aqy (fun c => ?_) fun c => ?_
  ·have:=of_decide_eq_true c
   exact bad fun w=>by have:=w.lt _ (List.getElem_mem (show h.tasks.length-1<h.tasks.length by omega)); omega
  ·have:=of_decide_eq_false c
   refine loop fun x hx => ?_
   rw [List.getLast?_eq_getElem?] at hx
   have e:h.tasks[h.tasks.length-1]? = some h.tasks[h.tasks.length-1]:=List.getElem?_eq_getElem (by omega)
   rw [e] at hx
   obtain rfl:h.tasks[h.tasks.length-1]=x:=by simpa using hx
   omega
 ·have:=of_decide_eq_false c
  have e:h.tasks = []:=List.length_eq_zero_iff.mp (by omega)
  exact loop (by rw [e]; simp)
theorem Lq {h:Ab} (w:WfH h):Ha h=some true:=by
 obtain ⟨b,hb,e⟩:=AfC h
 rw [hb,e.mpr w]
theorem Acu {h:Ab} (w:¬ WfH h):Ha h=some false:=by
 obtain ⟨b,hb,e⟩:=AfC h
 cases b
 ·exact hb
 ·exact absurd (e.mp rfl) w
theorem Aaj {h:Ab} (w:WfH h) (id:Int):Jk h id=some ((Ij h.tasks id).elim (zK,false) (fun x=>(x,true))):=by
 unfold Jk
 rw [Lq w]
 have:=w.len
 simp only [Option.bind_some,Bool.not_true,Bool.false_eq_true,if_false]
 rw [if_pos (by omega)]
 exact Afc (fun k x n=>rfl) rfl
theorem AoC {h:Ab} (w:¬ WfH h) (id:Int):Jk h id=some (zK,false):=by
 unfold Jk
 rw [Acu w]
 rfl
def tasksK (h:Ab) (g:Int):List Int:=(h.tasks.filter (fun x=>x.group==g)).map (·.id)
theorem AnO {h:Ab} (w:WfH h) (g:Int):Ji h g=some (tasksK h g):=by
 unfold Ji
 rw [Lq w]
 have:=w.len
 simp only [Option.bind_some,Bool.not_true,Bool.false_eq_true,if_false]
 rw [if_pos (by omega)]
 refine (Qx (p:=fun x:Ca=>x.group==g) (f:=fun x:Ca=>x.id) (r:=some) ?_ (fun _=>rfl) (by simp; omega)).trans (by simp [tasksK])
 intro k x s n hs
 unfold Ahb Xq
 rw [if_pos hs]
theorem AnF {h:Ab} (w:¬ WfH h) (g:Int):Ji h g=some []:=by
 unfold Ji
 rw [Acu w]
 rfl
theorem Aol {L:List Ca} (h:L.Pairwise (fun a b=>a.id<b.id)) {x y:Ca} (hx:x∈L) (hy:y∈L) (e:x.id=y.id):x=y:=by
 induction L with
 | nil=>simp at hx
 | cons a r ih =>
  rw [List.pairwise_cons] at h
  rcases List.mem_cons.mp hx with ex|hx' <;> rcases List.mem_cons.mp hy with ey|hy'
  ·rw [ex,ey]
  ·have:=h.1 y hy'; rw [ex] at e; omega
  ·have:=h.1 x hx'; rw [ey] at e; omega
  ·exact ih h.2 hx' hy'
theorem Agl {L:List Ca} {id:Int} {x:Ca} (h:Ij L id=some x):x∈L∧x.id=id :=
 ⟨List.mem_of_find?_eq_some h,by have:=List.find?_some h; simpa using this⟩
theorem getK_of {L:List Ca} (hs:L.Pairwise (fun a b=>a.id<b.id)) {x:Ca} (h:x∈L):Ij L x.id=some x:=by
 unfold Ij
 cases hf:L.find? (fun y=>y.id==x.id) with
 | none =>
  rw [List.find?_eq_none] at hf
  have:=hf x h
  simp at this
 | some y =>
  have h1:=List.mem_of_find?_eq_some hf
  have h2:=List.find?_some hf
  rw [Aol hs h1 h (by simpa using h2)]
theorem getK_iff {L:List Ca} (hs:L.Pairwise (fun a b=>a.id<b.id)) {id:Int} {x:Ca} : Ij L id=some x↔x∈L∧x.id=id :=
 ⟨Agl,fun ⟨h1,h2⟩=>by rw [← h2]; exact getK_of hs h1⟩
end Go.Dm

namespace Go.Dm
theorem set_self {α:Type} {M:List α} {m:Nat} {d:α} (h:m<M.length):M.set m (M.getD m d)=M:=by
 rw [Ff h]
 exact List.set_getElem_self h
theorem while_map {α R:Type} {f:α→α} {L:List α} {d:α} {body:List α×Int→(List α×Int→Option R)→Option R} {ret:List α→Option R} (hl:L.length≤1000000)
  (hb:∀ (M:List α) (m:Nat) n,M.length=L.length→m<L.length→body (M,(m:Int)) n=n (M.set m (f (M.getD m d)),((m+1:Nat):Int)))
  (hr:∀ (M:List α) n,M.length=L.length→body (M,(L.length:Int)) n=ret M):whileO body Fm (L,0)=ret (L.map f):=by
 have key:∀ (r m F:Nat),m+r=L.length→r<F→whileO body F ((L.take m).map f++L.drop m,(m:Int))=ret (L.map f):=by
  intro r
  induction r with
  | zero =>
   intro m F hm hF
   obtain ⟨F,rfl⟩:∃ G,F=G+1:=⟨F-1,by omega⟩
   obtain rfl:m=L.length:=by omega
   rw [whileO,hr _ _ (by simp)]
   simp
  | succ r ih =>
   intro m F hm hF
   obtain ⟨F,rfl⟩:∃ G,F=G+1:=⟨F-1,by omega⟩
   have hlt:m<L.length:=by omega
   rw [whileO,hb _ _ _ (by simp; omega) hlt]
   have hd:L.drop m=L[m]::L.drop (m+1):=List.drop_eq_getElem_cons hlt
   have hml:(List.map f (List.take m L)).length=m:=by
    rw [List.length_map,List.length_take]; omega
   have hg:((L.take m).map f++L.drop m).getD m d=L[m]:=by
    rw [hd,List.getD_eq_getElem?_getD,List.getElem?_append_right (by omega),hml,Nat.sub_self]
    rfl
   have ht:(L.take (m+1)).map f++L.drop (m+1)=(L.take m).map f++f L[m]::L.drop (m+1):=by
    have:L.take (m+1)=L.take m ++ [L[m]]:=by
     rw [List.take_add_one]; simp [hlt]
    rw [this,List.map_append,List.append_assoc]
    rfl
   rw [hg,hd,List.set_append_right _ _ (by omega),hml,Nat.sub_self,List.set_cons_zero,← ht]
   exact ih (m+1) F (by omega) (by omega)
 have:=key L.length 0 Fm (by omega) (by rw [Iv]; omega)
 simpa using this
def zH : Ab := { tree:=zT,tasks := [],next:=0 }
theorem Yt (h:Ab) (h1:h.tree.nodes.length≤1000000) (h2:h.tasks.length≤1000000):Sl h=some h:=by
 unfold Sl
 rw [Xt _ (by omega),Option.bind_some,if_pos (by omega)]
def addK (h:Ab) (x:Ca):Ab×Int×Int :=
 if decide (128≤h.tasks.length)||decide (2147483647<h.next) then (zH,0,7)
 else ({ tree:=h.tree,tasks:=h.tasks ++ [{ id:=h.next,process:=if x.process==0 then h.next else x.process,group:=x.group,user:=x.user }],next:=h.next+1 },h.next,0)
theorem Akq {h:Ab} (w:WfH h) (x:Ca):Acm h x=some (addK h x):=by
 have hl:=w.len
 have h2:=w.tree.len2
 have hn:=w.n1
 have hm:=w.n2
 apply Ok.eq
 unfold Acm addK
 refine Aqy (fun c => ?_) fun c => ?_
 ·simp only [Bool.or_eq_true,decide_eq_true_eq] at c
  rw [if_pos]
  ·exact Ok.ret rfl
  ·simp only [Bool.or_eq_true,decide_eq_true_eq]
   omega
 ·simp only [Bool.or_eq_false_iff,decide_eq_false_iff_not] at c
  rw [if_neg]
  ·refine Ok.step (Yt h (by omega) (by omega)) ?_
   unfold AbP
   rw [Bz (by omega) (by omega)]
   refine Aqy (fun c => ?_) fun c => ?_
   ·rw [if_pos (c:=(x.process==0)=true) c]
    exact Ok.guard (by omega) (Ok.ret rfl)
   ·rw [if_neg (c:=(x.process==0)=true) (by rw [c]; simp)]
    exact Ok.guard (by omega) (Ok.ret rfl)
  ·simp only [Bool.or_eq_true,decide_eq_true_eq]
   omega
theorem AdZ {L M:List Ca} {p:Int} : Ij (L++M) p=(Ij L p).or (Ij M p):=by
 unfold Ij
 rw [List.find?_append]
theorem addK_wf {h:Ab} (w:WfH h) {x:Ca} (hg:Dx h.tree x.group=true) (u1:0≤x.user) (u2:x.user≤1048576) (hp:x.process=0∨x∈h.tasks) {r:Ab×Int×Int} (e:addK h x=r) (hr:r.2.2=0):WfH r.1:=by
 have hl:=w.len
 have hn:=w.n1
 have hm:=w.n2
 unfold addK at e
 split at e
 ·subst e; simp at hr
 rename_i hc
 simp only [Bool.or_eq_true,decide_eq_true_eq,not_or] at hc
 subst e
 have hlt:=w.lt
 refine ⟨w.tree,by simp; omega,by simp only; omega,by simp only; omega,?_,?_,?_⟩
 ·rw [List.pairwise_append]
  exact ⟨w.sorted,by simp,fun a ha b hb=>by simp at hb; subst hb; exact hlt a ha⟩
 ·intro y hy
  simp only
  rcases List.mem_append.mp hy with hy|hy
  ·have:=hlt y hy
   omega
  ·simp at hy; subst hy; simp only; omega
 ·intro y hy
  rcases List.mem_append.mp hy with hy|hy
  ·have v:=w.val y hy
   obtain ⟨p,q1,q2,q3⟩:=v.ldr
   exact ⟨v.pos,v.grp,v.u1,v.u2,p,by simp only; rw [AdZ,q1]; rfl,q2,q3⟩
  ·rw [List.mem_singleton] at hy
   subst hy
   refine ⟨by simp only; omega,hg,u1,u2,?_⟩
   simp only
   have hq:(x.process=0∧(if (x.process==0)=true then h.next else x.process)=h.next)∨(x.process≠0∧(if (x.process==0)=true then h.next else x.process)=x.process):=by
    by_cases h0:x.process=0
    ·exact .inl ⟨h0,by rw [if_pos (by simp [h0])]⟩
    ·exact .inr ⟨h0,by rw [if_neg (by simpa using h0)]⟩
   generalize (if (x.process==0)=true then h.next else x.process)=q at hq
   rcases hq with ⟨h0,rfl⟩|⟨h0,rfl⟩
   ·refine ⟨{ id:=h.next,process:=h.next,group:=x.group,user:=x.user },?_,rfl,rfl⟩
    rw [AdZ]
    have:Ij h.tasks h.next=none:=by
     unfold Ij
     rw [List.find?_eq_none]
     intro z hz
     have:=hlt z hz
     simp; omega
    rw [this]
    simp [Ij]
   ·have v:=w.val x (by rcases hp with h|h; exact absurd h h0; exact h)
    obtain ⟨p,q1,q2,q3⟩:=v.ldr
    exact ⟨p,by rw [AdZ,q1]; rfl,q2,q3⟩
def Ako (h:Ab) (g u:Int):Ab×Int×Int :=
 if decide (u<0)||decide (1048576<u) then (zH,0,1) else if !Dx h.tree g then (zH,0,4) else addK h { id:=0,process:=0,group:=g,user:=u }
theorem Ang {h:Ab} (w:WfH h) (g u:Int):Abw h g u=some (Ako h g u):=by
 apply Ok.eq
 unfold Abw Ako
 refine Ok.step (Lq w) ?_
 simp only [Bool.not_true,Bool.false_eq_true,if_false]
 unfold So
 by_cases h1:u<0
 ·simp only [h1,decide_true,if_true,Bool.true_or]
  exact Ok.ret rfl
 by_cases h2:u>1048576
 ·have:1048576<u:=by omega
  simp only [h2,decide_true,if_true,Bool.or_true,ite_self]
  exact Ok.ret rfl
 ·have h3:¬ 1048576<u:=by omega
  simp only [h1,h2,decide_false,Bool.or_self,Bool.false_eq_true,if_false]
  refine Ok.step (Qa w.tree g) ?_
  refine Aqy (fun c => ?_) fun c => ?_
  ·rw [if_pos c]; exact Ok.ret rfl
  ·rw [if_neg (c:=(!Dx h.tree g)=true) (by rw [c]; simp)]
   refine Ok.step (Akq w _) (Ok.ret rfl)
theorem spawnK_wf {h:Ab} (w:WfH h) {g u:Int} {r:Ab×Int×Int} (e:Ako h g u=r) (hr:r.2.2=0):WfH r.1:=by
 unfold Ako at e
 split at e
 ·subst e; simp at hr
 split at e
 ·subst e; simp at hr
 rename_i h1 h2
 simp only [Bool.or_eq_true,decide_eq_true_eq,not_or] at h1
 exact addK_wf w (by simpa using h2) (by simp only; omega) (by simp only; omega) (.inl rfl) e hr
def Akc (h:Ab) (k:Int):Ab×Int×Int:=(Ij h.tasks k).elim (zH,0,4) (addK h)
theorem AmQ {h:Ab} (w:WfH h) (k:Int):AbG h k=some (Akc h k):=by
 apply Ok.eq
 unfold AbG Akc
 refine Ok.step (Lq w) ?_
 simp only [Bool.not_true,Bool.false_eq_true,if_false]
 refine Ok.step (Aaj w k) ?_
 cases Ij h.tasks k with
 | none=>exact Ok.ret rfl
 | some x =>
  simp only [Option.elim_some,Bool.not_true,Bool.false_eq_true,if_false]
  exact Ok.step (Akq w _) (Ok.ret rfl)
theorem cloneK_wf {h:Ab} (w:WfH h) {k:Int} {r:Ab×Int×Int} (e:Akc h k=r) (hr:r.2.2=0):WfH r.1:=by
 unfold Akc at e
 cases hk:Ij h.tasks k with
 | none=>rw [hk] at e; subst e; simp at hr
 | some x =>
  rw [hk] at e
  obtain ⟨hx,_⟩:=Agl hk
  have v:=w.val x hx
  exact addK_wf w v.grp v.u1 v.u2 (.inr hx) e hr
def exitK (h:Ab) (k:Int):Ab×Int :=
 (Ij h.tasks k).elim (zH,4) fun _=>({ tree:=h.tree,tasks:=h.tasks.filter (fun x=>x.id != k&&x.process != k),next:=h.next },0)
theorem Aor {h:Ab} (w:WfH h) (k:Int):Adx h k=some (exitK h k):=by
 have hl:=w.len
 have h2:=w.tree.len2
 apply Ok.eq
 unfold Adx exitK
 refine Ok.step (Lq w) ?_
 simp only [Bool.not_true,Bool.false_eq_true,if_false]
 refine Ok.step (Aaj w k) ?_
 cases Ij h.tasks k with
 | none=>exact Ok.ret rfl
 | some x =>
  simp only [Option.elim_some,Bool.not_true,Bool.false_eq_true,if_false]
  refine Ok.step (Xt _ (by omega)) ?_
  refine Ok.guard (by omega) ?_
  have e:=Qx (p:=fun x:Ca=>x.id != k&&x.process != k) (f:=fun x:Ca=>x) (xs:=h.tasks) (s0 := []) (r:=AdW h h.tree) (body:=AdK k) (done:=AdW h h.tree) (fun k x s n hs=>by
   unfold AdK Aal
   rw [if_pos hs]) (fun _=>rfl) (by simp; omega)
  rw [e]
  refine Ok.ret ?_
  simp
theorem exitK_wf {h:Ab} (w:WfH h) {k:Int} {r:Ab×Int} (e:exitK h k=r) (hr:r.2=0):WfH r.1:=by
 unfold exitK at e
 cases hk:Ij h.tasks k with
 | none=>rw [hk] at e; subst e; simp at hr
 | some x =>
  rw [hk] at e
  subst e
  have hs:(h.tasks.filter (fun x=>x.id != k&&x.process != k)).Pairwise (fun a b=>a.id<b.id):=w.sorted.sublist List.filter_sublist
  refine ⟨w.tree,Nat.le_trans (List.length_filter_le _ _) w.len,w.n1,w.n2,hs,fun y hy=>w.lt y (List.mem_filter.mp hy).1,fun y hy => ?_⟩
  obtain ⟨hy,hc⟩:=List.mem_filter.mp hy
  have v:=w.val y hy
  obtain ⟨p,q1,q2,q3⟩:=v.ldr
  obtain ⟨m1,m2⟩:=Agl q1
  simp only [Bool.and_eq_true,bne_iff_ne] at hc
  refine ⟨v.pos,v.grp,v.u1,v.u2,p,?_,q2,q3⟩
  refine (getK_iff hs).mpr ⟨List.mem_filter.mpr ⟨m1,?_⟩,m2⟩
  simp only [Bool.and_eq_true,bne_iff_ne]
  omega
def putK (k g:Int) (y:Ca):Ca:=if y.id==k then { id:=y.id,process:=y.process,group:=g,user:=y.user } else y
def Aks (h:Ab) (k g:Int):Ab×Int :=
 if (Ij h.tasks k).isSome&&Dx h.tree g then ({ tree:=h.tree,tasks:=h.tasks.map (putK k g),next:=h.next },0) else (zH,4)
theorem AnP {h:Ab} (w:WfH h) (k g:Int):AbL h k g=some (Aks h k g):=by
 have hl:=w.len
 have h2:=w.tree.len2
 apply Ok.eq
 unfold AbL Aks
 refine Ok.step (Lq w) ?_
 simp only [Bool.not_true,Bool.false_eq_true,if_false]
 refine Ok.step (Aaj w k) ?_
 cases hk:Ij h.tasks k with
 | none=>exact Ok.ret rfl
 | some x =>
  simp only [Option.elim_some,Bool.not_true,Bool.false_eq_true,if_false,Option.isSome_some,Bool.true_and]
  refine Ok.step (Qa w.tree g) ?_
  unfold Yl
  refine Aqy (fun c => ?_) fun c => ?_
  ·rw [if_neg (by simpa using c)]; exact Ok.ret rfl
  ·rw [if_pos (c:=Dx h.tree g=true) (by simpa using c)]
   refine Ok.step (Yt h (by omega) (by omega)) ?_
   have e:=while_map (f:=putK k g) (L:=h.tasks) (d:=default) (body:=Yw k g h) (ret:=fun M=>some (({ tree:=h.tree,tasks:=M,next:=h.next } : Ab),0)) (by omega) (fun M m n hM hm=>by
    unfold Yw Yk
    simp only
    have em:Int.toNat (m:Int)=m:=by omega
    rw [em,if_pos (by simp; omega),if_pos (by omega),if_pos (by omega),Bz (by omega) (by omega)]
    have ew:(m:Int)+1=((m+1:Nat):Int):=by omega
    rw [ew]
    by_cases hc:(M.getD m default).id=k
    ·rw [if_pos (by rw [hc]; simp),if_pos (by omega),if_pos (by omega),putK,if_pos (by rw [hc]; simp)]
    ·have hc':((M.getD m default).id==k)=false:=by simpa using hc
     rw [if_neg (by rw [hc']; simp),putK,if_neg (by rw [hc']; simp),set_self (by omega)]) (fun M n hM=>by
    unfold Yw
    simp only
    rw [hM,if_neg (by simp)])
   rw [e]
   exact Ok.ret rfl
theorem Ml (k g:Int) (y:Ca):(putK k g y).id=y.id∧(putK k g y).process=y.process∧(putK k g y).user=y.user:=by
 unfold putK
 split <;> exact ⟨rfl,rfl,rfl⟩
theorem getK_map {L:List Ca} {f:Ca→Ca} (hf:∀ y∈L,(f y).id=y.id) {p:Int} : Ij (L.map f) p=(Ij L p).map f:=by
 induction L with
 | nil=>rfl
 | cons a r ih =>
  unfold Ij at *
  rw [List.map_cons,List.find?_cons,List.find?_cons,hf a (by simp)]
  cases (a.id==p)
  ·exact ih fun y hy=>hf y (by simp [hy])
  ·rfl
theorem placeK_wf {h:Ab} (w:WfH h) {k g:Int} {r:Ab×Int} (e:Aks h k g=r) (hr:r.2=0):WfH r.1:=by
 unfold Aks at e
 split at e
 case isFalse=>subst e; simp at hr
 rename_i hc
 subst e
 simp only [Bool.and_eq_true] at hc
 refine ⟨w.tree,by simp; exact w.len,w.n1,w.n2,?_,?_,?_⟩
 ·rw [List.pairwise_map]
  refine w.sorted.imp fun h => ?_
  rw [(Ml k g _).1,(Ml k g _).1]
  exact h
 ·intro y hy
  obtain ⟨z,hz,rfl⟩:=List.mem_map.mp hy
  rw [(Ml k g _).1]
  exact w.lt z hz
 ·intro y hy
  obtain ⟨z,hz,rfl⟩:=List.mem_map.mp hy
  have v:=w.val z hz
  obtain ⟨p,q1,q2,q3⟩:=v.ldr
  refine ⟨by rw [(Ml k g _).1]; exact v.pos,?_,by rw [(Ml k g _).2.2]; exact v.u1,by rw [(Ml k g _).2.2]; exact v.u2,putK k g p,?_,?_,?_⟩
  ·unfold putK
   split
   ·exact hc.2
   ·exact v.grp
  ·simp only
   rw [getK_map (fun y _=>(Ml k g y).1),(Ml k g _).2.1,q1]
   rfl
  ·rw [(Ml k g _).2.1,(Ml k g _).2.1,q2]
  ·rw [(Ml k g _).2.2,(Ml k g _).2.2,q3]
end Go.Dm

namespace Go.Dm
abbrev Tot {α:Type} (m:Option α):Prop:=Ok m (fun _=>True)
theorem El (t:Af) (id:Int):Tot (Dv t id):=by
 by_cases h:WfT t
 ·exact Ok.of_eq (Qz h id) trivial
 ·exact Ok.of_eq (AdY h id) trivial
theorem Anq (t:Af) (id:Int):Tot (Fv t id):=by
 unfold Fv
 exact Ok.bind (El t id) fun _ _=>Ok.ret trivial
theorem Acw (t:Af) (id:Int):(Bd t id).length≤t.nodes.length:=by
 unfold Bd
 rw [List.length_map]
 exact List.length_filter_le _ _
theorem Abt (t:Af) (id:Int):Ok (Ih t id) (fun l=>l.length≤64):=by
 by_cases h:WfT t
 ·refine Ok.of_eq (AcQ h id) ?_
  have:=Acw t id
  have:=h.len2
  split
  ·omega
  ·simp
 ·unfold Ih
  refine Ok.step (AjZ h id) ?_
  exact Ok.ret (by simp)
theorem Aoq (t:Af) (id:Int):(ancN t id).length≤t.nodes.length:=by
 unfold ancN
 have:=Tj t.nodes.reverse id
 simp at this
 split
 ·exact this
 ·simp
theorem AgD (t:Af) (id:Int):Ok (Hg t id) (fun l=>l.length≤64):=by
 by_cases h:WfT t
 ·refine Ok.of_eq (Wl h id) ?_
  have:=Aoq t id
  have:=h.len2
  omega
 ·unfold Hg
  refine Ok.step (AjZ h id) ?_
  exact Ok.ret (by simp)
theorem Aft (h:Ab) (id:Int):Tot (Jk h id):=by
 by_cases w:WfH h
 ·exact Ok.of_eq (Aaj w id) trivial
 ·exact Ok.of_eq (AoC w id) trivial
theorem Ue (h:Ab) (id:Int):Tot (Ji h id):=by
 by_cases w:WfH h
 ·exact Ok.of_eq (AnO w id) trivial
 ·exact Ok.of_eq (AnF w id) trivial
theorem Wx {α β:Type} {body:Nat→α→Unit→(Unit→Option β)→Option β} {done:Unit→Option β} {xs:List α} (hb:∀ k x n,Tot (n ())→Tot (body k x () n)) (hd:Tot (done ())):Tot (Az body done xs 0 ()) :=
 Ok.range (fun _ _=>True) trivial (fun _ _ _ _ _ _ _ hn=>hb _ _ _ (hn () trivial)) (fun _ _=>hd)
theorem AjI (t:Af) (id:Int):Tot (Aaf t id):=by
 unfold Aaf
 refine Ok.bind (El _ _) fun _ _=>Aqy (fun _=>Ok.ret trivial) fun _ => ?_
 exact Ok.bind (El _ _) fun _ _=>Aqy (fun _=>Ok.ret trivial) fun _=>Ok.ret trivial
theorem AaP (t:Af) (id:Int):Tot (Ou t id):=by
 unfold Ou
 have hJ:∀ r y,Tot (Lr r y):=fun r y=>by
  unfold Lr Pv
  exact Aqy (fun _=>Ok.ret trivial) fun _=>Ok.ret trivial
 refine Ok.bind (El _ _) fun _ _=>Aqy (fun _=>Ok.ret trivial) fun _=>Aqy (fun _ => ?_) fun _=>hJ _ _
 exact Ok.bind (AjI _ _) fun _ _=>hJ _ _
theorem AfF (h:Ab):Ok (Yp h) (fun b=>b=true→WfH h):=by
 unfold Yp
 by_cases w:WfH h
 ·have:=w.tree.len2
  refine Ok.step (Lq w) (Ok.guard (by omega) ?_)
  refine Ok.mono (P:=fun _=>True) ?_ fun _ _ _=>w
  refine Wx (fun k x n hn => ?_) (Ok.ret trivial)
  unfold Ago
  have hJ:∀ b,Tot (Ll n b):=fun b=>by
   unfold Ll
   exact Aqy (fun _=>Ok.ret trivial) fun _=>hn
  refine Ok.bind (AaP _ _) fun _ _=>Aqy (fun _=>hJ _) fun _=>Aqy (fun _=>Aqy (fun _ => ?_) fun _=>hJ _) fun _=>hJ _
  exact Ok.bind (Ue _ _) fun _ _=>hJ _
 ·exact Ok.step (Acu w) (Ok.ret fun e=>by simp at e)
theorem Ru (t:Af) (id:Int):Tot (Nj t id):=by
 unfold Nj
 refine Ok.bind (AgD _ _) fun l hl=>Ok.guard (by omega) ?_
 refine Wx (fun k x n hn => ?_) (Ok.ret trivial)
 unfold AfG
 exact Ok.bind (El _ _) fun _ _=>Aqy (fun _=>Ok.ret trivial) fun _=>hn
theorem Ym (t:Af) (id:Int) (b:Bool):Tot (Rc t id b):=by
 unfold Rc
 refine Aqy (fun _=>Ok.ret trivial) fun _ => ?_
 refine Ok.bind (Abt _ _) fun l hl=>Ok.guard (by omega) ?_
 refine Wx (fun k x n hn => ?_) (Ok.ret trivial)
 unfold Aiz
 exact Ok.bind (El _ _) fun _ _=>Aqy (fun _=>Ok.ret trivial) fun _=>hn
theorem AkY {t:Af} (w:WfT t):∀ (n:Nat) (id:Int),id.toNat<n→Tot (Kq n t id):=by
 intro n
 induction n with
 | zero=>intro id h; omega
 | succ n ih =>
  intro id hlt
  unfold Kq Xm
  refine Ok.step (Qz w id) ?_
  cases hg:Wm t id with
  | none=>exact Ok.ret trivial
  | some x =>
   obtain ⟨hx,hxi⟩:=Sz hg
   simp only [Option.elim_some,Bool.not_true,Bool.false_eq_true,if_false]
   refine Aqy (fun _=>Ok.ret trivial) fun _ => ?_
   refine Ok.step (Qz w x.parent) ?_
   cases hp:Wm t x.parent with
   | none=>exact Ym t id false
   | some p =>
    obtain ⟨hpm,hpi⟩:=Sz hp
    simp only [Option.elim_some,if_true]
    refine Aqy (fun _=>Ym _ _ _) fun _ => ?_
    refine Ok.bind (ih p.id ?_) fun _ _=>Ym _ _ _
    have g1:=w.p.ge1 p hpm
    rcases w.p.par x hx with ⟨_,r⟩|⟨a,b,_⟩
    ·have:=r.parent; omega
    ·omega
theorem Qo (t:Af) (id:Int):Tot (Mu t id):=by
 by_cases w:WfT t
 ·by_cases hid:id.toNat<Fm
  ·exact AkY w Fm id hid
  ·unfold Mu
   rw [Iv] at *
   unfold Kq Xm
   refine Ok.step (Qz w id) ?_
   cases hg:Wm t id with
   | none=>exact Ok.ret trivial
   | some x =>
    obtain ⟨hx,hxi⟩:=Sz hg
    have:=w.next x hx
    have:=w.nextLe
    omega
 ·unfold Mu
  rw [Iv]
  unfold Kq Xm
  exact Ok.step (AdY w id) (Ok.ret trivial)
theorem Oi (h:Ab):Ok (Nb h) (fun b=>b=true→WfH h):=by
 unfold Nb
 refine Ok.bind (AfF h) fun b hb => ?_
 refine Aqy (fun _=>Ok.ret fun e=>by simp at e) fun c => ?_
 have w:WfH h:=hb (by simpa using c)
 have:=w.len
 have:=w.tree.len2
 refine Ok.mono (P:=fun _=>True) ?_ fun _ _ _=>w
 refine Ok.guard (by omega) (Wx (fun k x n hn => ?_) ?_)
 ·unfold AiP
  refine Ok.bind (Aft _ _) fun _ _=>Ok.bind (Ru _ _) fun _ _=>Ok.bind (Ru _ _) fun _ _ => ?_
  exact Aqy (fun _=>Ok.ret trivial) fun _=>hn
 ·unfold AiO
  refine Ok.guard (by omega) (Wx (fun k x n hn => ?_) (Ok.ret trivial))
  have h18:∀ b,Tot (Lk n b):=fun b=>by
   unfold Lk
   exact Aqy (fun _=>Ok.ret trivial) fun _=>hn
  have h17:∀ r b,Tot (Oc h x n r b):=fun r b=>by
   unfold Oc
   refine Aqy (fun _=>Ok.ret trivial) fun _=>Aqy (fun _=>Aqy (fun _=>Aqy (fun _=>h18 _) fun _ => ?_) fun _ => ?_) fun _=>h18 _
   ·exact Ok.bind (Qo _ _) fun _ _=>h18 _
   ·exact Ok.bind (Qo _ _) fun _ _=>h18 _
  unfold AiC
  refine Ok.bind (El _ _) fun _ _=>Ok.bind (Qo _ _) fun _ _ => ?_
  refine Aqy (fun _=>Aqy (fun _=>h17 _ _) fun _ => ?_) fun _=>h17 _ _
  exact Ok.bind (Ue _ _) fun _ _=>h17 _ _
theorem Aln (h:Ab) (id a d:Int):Tot (AbJ h id a d):=by
 unfold AbJ
 refine Ok.bind (AfF h) fun b hb => ?_
 have hf:Tot (Jl h id a d true):=Ok.ret trivial
 refine Aqy (fun _=>hf) fun c => ?_
 have w:WfH h:=hb (by simpa using c)
 have:=w.len
 have:=w.tree.len2
 have hJ4:∀ r b,Tot (Oj h a d r b):=fun r b=>by
  unfold Oj
  refine Aqy (fun _=>Ok.ret trivial) fun _ => ?_
  refine Ok.step (Yt h (by omega) (by omega)) ?_
  exact Ok.step (Aec h.tree _ (by omega)) (Ok.ret trivial)
 have hJ:∀ b,Tot (Jl h id a d b):=fun b=>by
  unfold Jl
  refine Aqy (fun _=>Ok.ret trivial) fun _ => ?_
  refine Ok.bind (El _ _) fun r _=>Aqy (fun _=>Ok.ret trivial) fun _ => ?_
  refine Ok.bind (AaP _ _) fun _ _=>Aqy (fun _=>Ok.ret trivial) fun _ => ?_
  refine Ok.bind (Abt _ _) fun l hl=>Ok.guard (by omega) (Wx (fun k x n hn => ?_) ?_)
  ·unfold Agi
   exact Ok.bind (El _ _) fun _ _=>Aqy (fun _=>Ok.ret trivial) fun _=>hn
  ·unfold Agb
   refine Aqy (fun _=>Aqy (fun _ => ?_) fun _=>hJ4 _ _) fun _=>hJ4 _ _
   exact Ok.bind (Ue _ _) fun _ _=>hJ4 _ _
 unfold AeM
 refine Ok.step rfl (Aqy (fun _=>hf) fun _=>Ok.step rfl (Aqy (fun _=>hf) fun _=>hJ _))
theorem AkI (h:Ab) (id a d:Int):Ok (Aai h id a d) (fun r=>r.2=0→WfH r.1):=by
 unfold Aai
 have bad:∀ (x:Ab) (n:Int),n≠0→Ok (some (x,n)) (fun r:Ab×Int=>r.2=0→WfH r.1):=fun x n hn=>Ok.ret fun e=>absurd e hn
 refine Ok.bind (Oi h) fun _ _=>Aqy (fun _=>bad _ _ (by decide)) fun _ => ?_
 refine Ok.bind (Aln _ _ _ _) fun r _=>Aqy (fun c=>bad _ _ (by simpa using c)) fun _ => ?_
 refine Ok.bind (Oi r.1) fun b hb=>Aqy (fun _=>bad _ _ (by decide)) fun c => ?_
 exact Ok.ret fun _=>hb (by simpa using c)
theorem Akl (h:Ab) (id:Int):Ok (Xp h id) (fun r=>r.2=0→WfH r.1):=by
 unfold Xp
 have bad:∀ (x:Ab) (n:Int),n≠0→Ok (some (x,n)) (fun r:Ab×Int=>r.2=0→WfH r.1):=fun x n hn=>Ok.ret fun e=>absurd e hn
 refine Ok.bind (Oi h) fun b hb=>Aqy (fun _=>bad _ _ (by decide)) fun c => ?_
 have w:WfH h:=hb (by simpa using c)
 have:=w.len
 have:=w.tree.len2
 have hJ:∀ r b,Ok (Lh h id r b) (fun r=>r.2=0→WfH r.1):=fun r b=>by
  unfold Lh
  refine Aqy (fun _=>bad _ _ (by decide)) fun _=>Aqy (fun _=>bad _ _ (by decide)) fun _ => ?_
  refine Ok.step (Yt h (by omega) (by omega)) (Ok.step (Aec h.tree _ (by omega)) ?_)
  refine Ok.bind (Ue _ _) fun _ _ => ?_
  unfold Tv
  refine Aqy (fun _=>bad _ _ (by decide)) fun _ => ?_
  refine Ok.bind (Oi _) fun b hb=>Aqy (fun _=>bad _ _ (by decide)) fun c => ?_
  exact Ok.ret fun _=>hb (by simpa using c)
 refine Ok.bind (El _ _) fun _ _=>Aqy (fun _=>bad _ _ (by decide)) fun _=>Aqy (fun _=>bad _ _ (by decide)) fun _ => ?_
 refine Ok.bind (El _ _) fun _ _=>Ok.bind (Qo _ _) fun _ _=>Aqy (fun _=>hJ _ _) fun _=>Aqy (fun _=>hJ _ _) fun _=>hJ _ _
theorem Adj (h:Ab) (g:Int):Tot (Vp h g):=by
 unfold Vp
 refine Ok.bind (Oi h) fun b hb=>Aqy (fun _=>Ok.ret trivial) fun c => ?_
 refine Ok.bind (El _ _) fun _ _=>Aqy (fun _=>Ok.ret trivial) fun _ => ?_
 refine Ok.bind (Qo _ _) fun _ _=>Aqy (fun _=>Ok.ret trivial) fun _=>Aqy (fun _=>Ok.ret trivial) fun _=>Ok.ret trivial
theorem AeN (h:Ab) (k g:Int):Ok (Nw h k g) (fun r=>r.2=0→WfH r.1):=by
 unfold Nw
 have bad:∀ (x:Ab) (n:Int),n≠0→Ok (some (x,n)) (fun r:Ab×Int=>r.2=0→WfH r.1):=fun x n hn=>Ok.ret fun e=>absurd e hn
 refine Ok.bind (Oi h) fun b hb=>Aqy (fun _=>bad _ _ (by decide)) fun c => ?_
 have w:WfH h:=hb (by simpa using c)
 have hJ:∀ r b,Ok (Iq h k g r b) (fun r=>r.2=0→WfH r.1):=fun r b=>by
  unfold Iq
  refine Aqy (fun _=>bad _ _ (by decide)) fun _ => ?_
  refine Ok.bind (Adj _ _) fun _ _=>Aqy (fun c=>bad _ _ (by simpa using c)) fun _ => ?_
  refine Ok.bind (Ru _ _) fun _ _=>Ok.bind (Ru _ _) fun _ _=>Aqy (fun _=>bad _ _ (by decide)) fun _ => ?_
  exact Ok.step (AnP w k g) (Ok.ret fun e=>placeK_wf w rfl e)
 refine Ok.bind (Aft _ _) fun _ _=>Aqy (fun _=>hJ _ _) fun _=>Ok.bind (Anq _ _) fun _ _=>hJ _ _
theorem step_ok {d:Ai} (hd:Bm d) {h:Ab} (w:WfH h):Ok (Tn d h) (fun r=>WfH r.1∧Bm r.2):=by
 have l1:=w.len
 have l2:=w.tree.len2
 unfold Tn
 refine Ok.bind (Ajq hd h.tree (by omega)) fun r1 h1=>Ok.bind (Aep h1 5 (by omega)) fun r2 h2 => ?_
 have hJ1:∀ y:Ai×Ab,Bm y.1→WfH y.2→Ok (Hd y) (fun r=>WfH r.1∧Bm r.2):=fun y a b=>Ok.ret ⟨b,a⟩
 have hJ:∀ b,Ok (Lo h r1 r2 b) (fun r=>WfH r.1∧Bm r.2):=fun b=>by
  unfold Lo
  refine Aqy (fun _ => ?_) fun _=>Aqy (fun _ => ?_) fun _=>Aqy (fun _ => ?_) fun _=>hJ1 _ h2.1 w
  ·refine Ok.bind (Alq h2.1) fun r3 h3=>Ok.bind (AkI _ _ _ _) fun r4 h4=>Aqy (fun c => ?_) fun _=>hJ1 _ h3.1 w
   exact Ok.ret ⟨h4 (by simpa using c),h3.1⟩
  ·refine Ok.bind (Akl _ _) fun r4 h4=>Aqy (fun c => ?_) fun _=>hJ1 _ h2.1 w
   exact Ok.ret ⟨h4 (by simpa using c),h2.1⟩
  ·refine Ok.step (Qz w.tree _) (Aqy (fun c => ?_) fun _=>hJ1 _ h2.1 w)
   cases hg:Wm h.tree r1.1 with
   | none=>rw [hg] at c; simp at c
   | some x =>
    obtain ⟨hx,hxi⟩:=Sz hg
    simp only [Option.elim_some]
    refine Ok.bind (Ds h2.1 3 (by omega) (by omega)) fun r3 h3 => ?_
    refine Ok.step (Aec _ _ (by omega)) (hJ1 _ h3.1 ?_)
    have v:=w.tree.p.val x hx
    have wt:=setT_wf w.tree (x := { id:=x.id,parent:=x.parent,name:=x.name,control:=x.control,kind:=x.kind,owner:=r3.1 }) hx rfl rfl rfl ⟨v.kind,v.c1,v.c2,h3.2.1,by simp only; omega⟩ (fun e=>by
     rcases w.tree.p.par x hx with ⟨_,r⟩|⟨a,b,_⟩
     ·exact r.kind
     ·omega)
    refine ⟨wt,w.len,w.n1,w.n2,w.sorted,w.lt,fun y hy => ?_⟩
    have u:=w.val y hy
    refine ⟨u.pos,?_,u.u1,u.u2,u.ldr⟩
    obtain ⟨z,hz,hzi⟩:=hasN_iff.mp u.grp
    refine hasN_iff.mpr ⟨AaV _ z,List.mem_map.mpr ⟨z,hz,rfl⟩,?_⟩
    unfold AaV
    split
    ·rename_i q
     have q:z.id=x.id:=by simpa using q
     simp only
     omega
    ·exact hzi
 exact Aqy (fun _=>hJ _) fun _=>hJ _
theorem Ann {d:Ai} (hd:Bm d) (n m:Int) (n0:0≤n) (n1:n≤100) (m0:0≤m) (m1:m≤100):Ok (Lx d n m) (fun r=>WfH r.1∧Bm r.2):=by
 unfold Lx
 refine Ok.step (a := { tree:=newT,tasks := [],next:=1 }) rfl ?_
 refine Ok.bind (Tree_ok hd n n0 (by omega)) fun r1 ⟨w1,h1⟩ => ?_
 rw [Bz (by omega) (by omega)]
 refine Ok.bind (Ds h1 (n+3) (by omega) (by omega)) fun r2 ⟨h2,a1,a2⟩ => ?_
 refine Aqu (fun s=>Bm s.1∧WfH s.2.1∧s.2.2≤2000) (fun s=>s.2.2.toNat) ⟨h2,?_,by simp only; omega⟩ (by rw [Iv]; simp only; omega) ?_
 ·exact ⟨w1,by simp,by simp,by simp,by simp,by simp,by simp⟩
 rintro ⟨d,h,c⟩ k ⟨b1,b2,b3⟩ hk
 simp only at b1 b2 b3 hk
 unfold Xf
 simp only
 refine Aqy (fun c1 => ?_) fun _ => ?_
 ·have hc:=of_decide_eq_true c1
  refine Ok.bind (step_ok b1 b2) fun r3 h3 => ?_
  rw [Bz (by omega) (by omega)]
  exact hk _ ⟨h3.2,h3.1,by simp only; omega⟩ (by simp only; omega)
 rw [Bz (by omega) (by omega)]
 refine Ok.bind (Ds b1 (m+1) (by omega) (by omega)) fun r3 ⟨h3,a3,a4⟩ => ?_
 clear hk
 refine Aqu (fun s=>Bm s.1∧WfH s.2.1∧s.2.2≤2000) (fun s=>s.2.2.toNat) ⟨h3,b2,by simp only; omega⟩ (by rw [Iv]; simp only; omega) ?_
 clear b1 b2 b3
 rintro ⟨d,h,c⟩ k ⟨b1,b2,b3⟩ hk
 simp only at b1 b2 b3 hk
 unfold Xh
 simp only
 refine Aqy (fun c1 => ?_) fun _=>Ok.ret ⟨b2,b1⟩
 have hc:=of_decide_eq_true c1
 have l1:=b2.len
 have l2:=b2.tree.len2
 have hw:w64 (c-1)=c-1:=Bz (by omega) (by omega)
 have hJ13:∀ y:Ai×Ab,Bm y.1→WfH y.2→Ok (Ei (d,h,c) k y) (fun r=>WfH r.1∧Bm r.2):=fun y y1 y2=>by
  unfold Ei
  simp only
  rw [hw]
  exact hk _ ⟨y1,y2,by simp only; omega⟩ (by simp only; omega)
 have hJ16:∀ y:Ai×Ab,Bm y.1→WfH y.2→Ok (Fe (d,h,c) k y) (fun r=>WfH r.1∧Bm r.2):=fun y y1 y2=>by
  unfold Fe
  refine Ok.bind (Le y1 8 (by omega)) fun r4 h4=>Aqy (fun _ => ?_) fun _=>hJ13 _ h4 y2
  have:=y2.len
  refine Ok.bind (AkZ h4 _ (by omega)) fun r5 h5=>Ok.step (Aor y2 _) (Aqy (fun c => ?_) fun _=>hJ13 _ h5 y2)
  exact hJ13 _ h5 (exitK_wf y2 rfl (by simpa using c))
 have hJ15:∀ y:Ai×Ab,Bm y.1→WfH y.2→Ok (Fg (d,h,c) k y) (fun r=>WfH r.1∧Bm r.2):=fun y y1 y2=>by
  unfold Fg
  refine Ok.bind (Le y1 4 (by omega)) fun r4 h4=>Aqy (fun _ => ?_) fun _=>hJ16 _ h4 y2
  have:=y2.len
  have:=y2.tree.len2
  refine Ok.bind (AkZ h4 _ (by omega)) fun r5 h5=>Ok.bind (Ajq h5 _ (by omega)) fun r6 h6=>Ok.bind (AeN _ _ _) fun r7 h7=>Aqy (fun c => ?_) fun _=>hJ16 _ h6 y2
  exact hJ16 _ h6 (h7 (by simpa using c))
 have hJ14:∀ (r:Int×Ai) (y:Ab),Bm r.2→WfH y→Ok (Gu (d,h,c) k r y) (fun r=>WfH r.1∧Bm r.2):=fun r y y1 y2=>by
  unfold Gu
  refine Ok.bind (Le y1 3 (by omega)) fun r4 h4=>Aqy (fun _ => ?_) fun _=>hJ15 _ h4 y2
  have:=y2.len
  refine Ok.bind (AkZ h4 _ (by omega)) fun r5 h5=>Ok.step (AmQ y2 _) (Aqy (fun c => ?_) fun _=>hJ15 _ h5 y2)
  exact hJ15 _ h5 (cloneK_wf y2 rfl (by simpa using c))
 refine Ok.bind (Ajq b1 _ (by omega)) fun r4 h4=>Ok.bind (Adj _ _) fun _ _=>Aqy (fun _=>hJ13 _ h4 b2) fun _ => ?_
 refine Ok.bind (Ds h4 3 (by omega) (by omega)) fun r5 h5=>Ok.step (Ang b2 _ _) (Aqy (fun c => ?_) fun _=>hJ14 _ _ h5.1 b2)
 exact hJ14 _ _ h5.1 (spawnK_wf b2 rfl (by simpa using c))
end Go.Dm
