/- Texts of the proof of TopFlat: the data machine, the models of the Go functions, their contracts. -/
import Derived.Test.YtipldakcagklgaaGreatDoorTopFlatA1
import Derived.WalkKit
import Derived.ProofKit
import Derived.OpenShut
import Derived.ReadAgain
import Derived.Maps.RangeRun
import Derived.RangeFuncSeq
import Derived.KernelRfl
set_option linter.unusedVariables false
set_option linter.unusedSimpArgs false
/- The data machine, part 22: more words for the printed proofs. -/
namespace Go.Dm
abbrev vk (k:IntKind) (n:Int):PV := .v (.int k n)
def encK (k:IntKind) (n:Int):List PV := [vk k n]
def bs (l:List UInt8):ByteArray:=ByteArray.mk l.toArray
def Pj (s:ByteArray):List Int:=(List.range s.size).map fun i=>((Ms s i:Nat):Int)
theorem Yb (s:ByteArray):(Pj s).length=s.size:=by simp [Pj]
theorem RowIs.bytes {s:ByteArray} : RowIs (encK .u8) 0 s.size (Abt s) (Pj s):=by
 refine ⟨(Yb s).symm,fun i hi => ?_⟩
 simp [Abt,encK,Pj,List.getD_eq_getElem?_getD,hi]
theorem RowIs.asP {α:Type} {enc:α→List PV} {d:α} {n:Nat} {f:Nat→List PV} {L:List α} (h:RowIs enc d n f L):n=L.length∧∀ i,i<n→f i=(Dm.elems enc d L) i:=⟨h.len,h.get⟩
theorem RowIs.updR {α:Type} {enc:α→List PV} {d:α} {n j off:Nat} {f:Nat→List PV} {L:List α} {ps:List PV} (h:RowIs enc d n f L) (hj:j<n) (x:α) (hc:setRange (enc (L.getD j d)) off ps=enc x) :
  RowIs enc d n (Az f j (setRange (f j) off ps)) (L.set j x):=by
 have e:=h.get j hj
 rw [e]
 exact h.upd x hc
section
variable {P : Program} {T:Ty} {cx:Cx} {σ:St} {Q:Exit→St→Prop}
theorem joinDone {ι:Type} {J:ι→St} {m:ι→Prop} (i:ι) (h1:m i) (h2:Conv cx σ (J i)):DW P cx [] σ (Sv cx J m Q):=⟨i,h1,h2⟩
theorem Tz {ι:Type} {J:ι→St} {m:ι→Prop} (i:ι) (h1:m i) (h2:Conv cx σ (J i)):KQ P cx [] (Sv cx J m Q) .normal σ:=⟨i,h1,h2⟩
theorem blockDone {ι:Type} {J:ι→St} {m:ι→Prop} {id:Nat} (i:ι) (h1:m i) (h2:Conv cx σ (J i)):DW P cx [] σ (Qv id (KQ P cx [] (Sv cx J m Q))):=⟨i,h1,h2⟩
theorem Ai {ι:Type} {J:ι→St} {m:ι→Prop} {id:Nat} (h:Q (.exit id) σ):Sv cx J m Q (.exit id) σ:=h
end
abbrev slI (L:List Int):PV:=Mv 1 Bm 0 L
abbrev roI (L:List Int):Body:=AaY 1 Bm 0 L
abbrev elI (L:List Int):Nat→List PV:=elems Bm 0 L
abbrev roB (L:List Bool):Body:=AaY 1 Aek false L
abbrev elB (L:List Bool):Nat→List PV:=elems Aek false L
abbrev pm (l:List PV):List MV:=l.map .p
abbrev bx (cs:List MV):Obj:=⟨0,.box cs⟩
abbrev ob0 (b:Body):Obj:=⟨0,b⟩
abbrev pI (n:Int):MV := .p (vi n)
abbrev pB (b:Bool):MV := .p (vb b)
abbrev pS (s:ByteArray):MV := .p (vs s)
abbrev ow (k n:Nat):MV := .own k 0 0 n
abbrev rr (k:Nat):MV := .ref k 0 0
abbrev pT : Orc := .pk true
abbrev pF : Orc := .pk false
def sk : Nat→List Orc→List Orc
 | 0,l=>l
 | n+1,l => .skip::sk n l
theorem tt : true=true:=rfl
theorem ff : false=false:=rfl
theorem bt (b:Bool):b=true∨b=false:=by cases b <;> simp
abbrev an2 {p q:Prop} (h:p) (k:q):p∧p∧q:=⟨h,h,k⟩
abbrev an3 {p q:Prop} (h:p) (k:q):p∧p∧p∧q:=⟨h,h,h,k⟩
abbrev an4 {p q:Prop} (h:p) (k:q):p∧p∧p∧p∧q:=⟨h,h,h,h,k⟩
abbrev an5 {p q:Prop} (h:p) (k:q):p∧p∧p∧p∧p∧q:=⟨h,h,h,h,h,k⟩
abbrev an6 {p q:Prop} (h:p) (k:q):p∧p∧p∧p∧p∧p∧q:=⟨h,h,h,h,h,h,k⟩
abbrev an {p q:Prop} (h:p) (k:q):p∧q:=⟨h,k⟩
theorem nn0 (k:Nat):(0:Int)≤((k:Nat):Int):=Int.natCast_nonneg k
theorem ltc {k n:Nat} (h:k<n):((k:Nat):Int)<((n:Nat):Int):=Int.ofNat_lt.2 h
def nn : Nat→List Orc→List Orc
 | 0,l=>l
 | n+1,l => .no::nn n l
def Qy (ps:List (Nat×MV)):List (Nat×MV)→List (Nat×MV)
 | [] => []
 | (t,x)::r=>(t,(assoc ps t).getD x)::Qy ps r
def Pk (qs:List (Nat×Body)):List (Nat×Obj)→List (Nat×Obj)
 | [] => []
 | (k,o)::r=>(k,⟨o.gen,(assoc qs k).getD o.body⟩)::Pk qs r
inductive SP (sl:List (Nat×MV)):List (Nat×MV)→Prop where
 | nil:SP sl []
 | cons {t:Nat} {x y:MV} {ps:List (Nat×MV)} (e:assoc sl t=some y) (h:MLe x y) (r:SP sl ps):SP sl ((t,x)::ps)
inductive OP (ob:List (Nat×Obj)):List (Nat×Body)→Prop where
 | nil:OP ob []
 | cons {t g:Nat} {x y:Body} {ps:List (Nat×Body)} (e:assoc ob t=some ⟨g,y⟩) (h:BLe x y) (r:OP ob ps):OP ob ((t,x)::ps)
theorem Aiy (ps sl:List (Nat×MV)) (t:Nat):assoc (Qy ps sl) t=(assoc sl t).map fun x=>(assoc ps t).getD x:=by
 induction sl with
 | nil=>rfl
 | cons p r ih =>
  obtain ⟨k,x⟩:=p
  simp only [Qy,assoc]
  cases hb:Nat.beq t k with
  | true=>have:=Nat.eq_of_beq_eq_true hb; subst this; rfl
  | false=>exact ih
theorem AiR (qs:List (Nat×Body)) (ob:List (Nat×Obj)) (t:Nat):assoc (Pk qs ob) t=(assoc ob t).map fun o=>⟨o.gen,(assoc qs t).getD o.body⟩:=by
 induction ob with
 | nil=>rfl
 | cons p r ih =>
  obtain ⟨k,x⟩:=p
  simp only [Pk,assoc]
  cases hb:Nat.beq t k with
  | true=>have:=Nat.eq_of_beq_eq_true hb; subst this; rfl
  | false=>exact ih
theorem SP.get {sl ps:List (Nat×MV)} (h:SP sl ps) {t:Nat} {x:MV} (hx:assoc ps t=some x):∃ y,assoc sl t=some y∧MLe x y:=by
 induction h with
 | nil=>simp [assoc] at hx
 | @cons k x' y ps e h r ih =>
  simp only [assoc] at hx
  cases hb:Nat.beq t k with
  | true =>
   have:=Nat.eq_of_beq_eq_true hb
   subst this
   simp only [hb,cond_true,Option.some.injEq] at hx
   subst hx
   exact ⟨y,e,h⟩
  | false =>
   simp only [hb,cond_false] at hx
   exact ih hx
theorem OP.get {ob:List (Nat×Obj)} {ps:List (Nat×Body)} (h:OP ob ps) {t:Nat} {x:Body} (hx:assoc ps t=some x):∃ g y,assoc ob t=some ⟨g,y⟩∧BLe x y:=by
 induction h with
 | nil=>simp [assoc] at hx
 | @cons k g x' y ps e h r ih =>
  simp only [assoc] at hx
  cases hb:Nat.beq t k with
  | true =>
   have:=Nat.eq_of_beq_eq_true hb
   subst this
   simp only [hb,cond_true,Option.some.injEq] at hx
   subst hx
   exact ⟨g,y,e,h⟩
  | false =>
   simp only [hb,cond_false] at hx
   exact ih hx
theorem SP.le {sl ps:List (Nat×MV)} (h:SP sl ps) (t:Nat):MLe ((assoc (Qy ps sl) t).getD .any) ((assoc sl t).getD .any):=by
 rw [Aiy]
 cases hs:assoc sl t with
 | none=>exact .rfl
 | some y =>
  cases hp:assoc ps t with
  | none=>exact .rfl
  | some x =>
   obtain ⟨z,hz,hle⟩:=h.get hp
   rw [hs] at hz
   injection hz with hz
   subst hz
   exact hle
theorem OP.le {ob:List (Nat×Obj)} {ps:List (Nat×Body)} (h:OP ob ps) (t:Nat):(assoc (Pk ps ob) t=none∧assoc ob t=none)∨∃ g b c,assoc (Pk ps ob) t=some ⟨g,b⟩∧assoc ob t=some ⟨g,c⟩∧BLe b c:=by
 rw [AiR]
 cases hs:assoc ob t with
 | none=>exact .inl ⟨rfl,rfl⟩
 | some o =>
  right
  cases hp:assoc ps t with
  | none=>exact ⟨o.gen,o.body,o.body,rfl,rfl,.rfl⟩
  | some x =>
   obtain ⟨g,z,hz,hle⟩:=h.get hp
   rw [hs] at hz
   injection hz with hz
   subst hz
   exact ⟨g,x,z,rfl,rfl,hle⟩
section
variable {P : Program} {T:Ty} {cx:Cx} {σ:St} {Q:Exit→St→Prop}
theorem Conv.tp {sl:List (Nat×MV)} {ob:List (Nat×Obj)} (ps:List (Nat×MV)) (qs:List (Nat×Body)) (h:(Sn (Cn sl) (Cn ob) σ,Po (Cn ob) σ)=(Qy ps sl,Pk qs ob)) (hs:SP sl ps) (ho:OP ob qs) :
  Conv cx σ (Af sl ob):=fun β a w r=>by
 have h1:=congrArg Prod.fst h
 have h2:=congrArg Prod.snd h
 simp only at h1 h2
 have:=r.norm (Cn sl) (Cn ob)
 rw [h1,h2] at this
 exact ⟨β,this.leF hs.le ho.le⟩
def Wr (P:Program) (T:Ty) (nt:Nat) (ops:Array Oper) (xs:List Orc) (ls lk:List Nat) (draw:Bool) (σ:St):Option ((List (Nat×MV)×List (Nat×Obj))×Prop) :=
 match dreg P T nt ops xs ls lk draw σ with
 | some (sl,ob,obl)=>some ((sl,ob),All obl)
 | none=>none
theorem DW.rn {nt:Nat} (hT:Fs P T) (hm:P.follows .mixedOrders=true) (hnt:cx.nt=nt) {ops:Array Oper} {id:Nat} {draw:Bool} {r:List Code} (xs:List Orc) (sl:List (Nat×MV)) (ob:List (Nat×Obj))
  (ps:List (Nat×MV)) (qs:List (Nat×Body)) {q:Prop} (hq:q) (h:Wr P T nt ops xs (Cn sl) (Cn ob) draw σ=some ((Qy ps sl,Pk qs ob),q)) (hs:SP sl ps) (ho:OP ob qs)
  (hQ:DW P cx r (Af sl ob) Q):DW P cx (.region id ops draw::r) σ Q:=by
 unfold Wr at h
 split at h
 case h_2=>simp at h
 rename_i sl' ob' obl hd
 simp only [Option.some.injEq,Prod.mk.injEq] at h
 obtain ⟨⟨rfl,rfl⟩,rfl⟩:=h
 subst hnt
 intro β a w hr
 have:=DWP.region (id:=id) (Q:=fun e σ'=>e = .normal∧σ'=Af (Qy ps sl) (Pk qs ob)) hT hm hd hq ⟨rfl,rfl⟩ β a w hr
 refine wpIn_mono this ?_
 rintro e a' w' ⟨β',σ',⟨rfl,rfl⟩,r'⟩
 exact ⟨β',_,hQ,r'.leF hs.le ho.le⟩
theorem DW.rk {nt:Nat} (hT:Fs P T) (hm:P.follows .mixedOrders=true) (hnt:cx.nt=nt) {ops:Array Oper} {id:Nat} {draw:Bool} {r:List Code} (xs:List Orc) (sl:List (Nat×MV)) (ob:List (Nat×Obj))
  {q:Prop} (hq:q) (h:Wr P T nt ops xs (Cn sl) (Cn ob) draw σ=some ((sl,ob),q)) (hQ:DW P cx r (Af sl ob) Q):DW P cx (.region id ops draw::r) σ Q:=by
 unfold Wr at h
 split at h
 case h_2=>simp at h
 rename_i sl' ob' obl hd
 simp only [Option.some.injEq,Prod.mk.injEq] at h
 obtain ⟨⟨rfl,rfl⟩,rfl⟩:=h
 subst hnt
 intro β a w hr
 exact DWP.region (id:=id) (Q:=KQ P cx r Q) hT hm hd hq hQ β a w hr
theorem RegTo.rn {nt:Nat} (hT:Fs P T) (hm:P.follows .mixedOrders=true) (hnt:cx.nt=nt) {ops:Array Oper} {draw:Bool} {sl:List (Nat×MV)} {ob:List (Nat×Obj)} (xs:List Orc)
  (ps:List (Nat×MV)) {q:Prop} (hq:q) (h:Wr P T nt ops xs (Cn sl) (Cn ob) draw σ=some ((Qy ps sl,ob),q)) (hs:SP sl ps):RegTo P cx ops draw σ sl ob :=
 fun id r Q hQ=>DW.rn (id:=id) hT hm hnt xs sl ob ps [] hq (by
  have:∀ (l:List (Nat×Obj)),Pk [] l=l:=by
   intro l
   induction l with
   | nil=>rfl
   | cons p r ih=>obtain ⟨k,o⟩:=p; simp [Pk,ih,assoc]
  rw [this]
  exact h) hs .nil hQ
end
end Go.Dm

/- The data machine, part 23: from a contract to a law's statement. -/
namespace Go.Dm
open Go.ChangeShapes Go.WideShapes Go.ChangeAt Go.RowKit
theorem Kept.sameAt {W W':World} (h:Kept (fun _=>False) W W') {p:MemPlace} (hp:p.block<W.heap.size):W.sameAt W' p:=by
 cases p with
 | cell b off=>exact World.cell?_of_block (h.block b hp id)
 | map b=>exact h.block b hp id
theorem Kept.but {W W':World} (h:Kept (fun _=>False) W W') (may:MemPlace→Prop):W.keptBut W' may:=by
 refine ⟨h.os,h.output,fun i hi => ?_⟩
 have:=h.block i hi id
 rw [this]
 cases W.heap[i]? with
 | none=>rfl
 | some o=>cases o <;> simp
section
variable {H : Type} {enc:TypeId×Value→H} {P:Program}
theorem Adm {W W':World} (h:Kept (fun _=>False) W W') {base:Nat} {sp:Nat→Bool} {held:Bool} : ∀ {ts:List TypeId} {vs:List Value} {ds:List (DataW H)} {ps:List MemPlace},
  DataW.TrodAll enc P W base sp held ts vs ds ps→DataW.TrodAll enc P W' base sp held ts vs ds ps
 | [],_,_,_,hh=>by
  obtain ⟨rfl,rfl,rfl⟩:=trodAll_nil hh
  exact trodAll_mk0
 | t::ts,vs,ds,ps,hh=>by
  have hlt:=hh.lt
  obtain ⟨v,vs1,d,ds1,a,b,rfl,rfl,rfl,h1,h2⟩:=trodAll_cons hh
  obtain ⟨n,hn⟩:=h1
  exact ⟨a,b,⟨n,DataW.trod_carry n _ _ _ hn (fun p hp=>h.sameAt (hlt p (List.mem_append_left _ hp)))⟩,Adm h h2,rfl⟩
theorem law_post {f:Func} {s:ChangeSpec} {apart fresh handsOn again:Bool} {W W':World} {args:Array Value} {ds gs:List (DataW H)} {before:List MemPlace} {tb:TypeId}
  (K:Kids P (· < P.types.size)) (full:∀ t e,t<P.types.size→P.underlying t=some (.slice e)→0<P.cellsOf e) (hts:∀ t∈f.params.toList,t<P.types.size)
  (hv:s.vars = []) (hrt:f.resultTypes = #[tb]) (htb:P.underlying tb=some .bool)
  (hW:DataW.Whole enc P f.params.toList s.vars apart W args.toList ds gs before)
  (hfn:s.fn H ds = { results := [.lit (.bool true)],args:=ds })
  (hk:Kept (fun _=>False) W W'):s.post enc P f apart fresh handsOn again W args (.bool true) W':=by
 have hW':=hW
 obtain ⟨p,q,hA,hV,rfl,hz,hn⟩:=hW
 rw [hv] at hV
 obtain ⟨rfl,rfl⟩:=trodVars_none hV
 have hlt:=hA.lt
 have hres:∀ (b:Nat) (sp:Nat→Bool) (hd:Bool),DataW.TrodAll enc P W' b sp hd f.resultTypes.toList ((Value.bool true).resultList f.resultTypes.size) (s.fn H (ds ++ [])).results []:=by
  intro b sp hd
  rw [List.append_nil,hfn,hrt]
  exact trodAll_cons_mk (shut_bool htb _) trodAll_mk0
 have hargs:∀ sp:Nat→Bool,(∀ x∈p,sp x.block=true)→DataW.TrodAll enc P W' 0 sp true f.params.toList args.toList (s.fn H (ds ++ [])).args p:=by
  intro sp hsp
  rw [List.append_nil,hfn]
  exact DataW.TrodAll.respare K full hts (Adm hk hA) hsp
 have hvars:∀ sp:Nat→Bool,DataW.TrodVars enc P W' sp s.vars (s.fn H (ds ++ [])).vars []:=by
  intro sp
  rw [List.append_nil,hfn,hv]
  rfl
 refine ⟨ds,[],p ++ [],[],p,[],hW',hres _ _ _,hargs _ (fun x hx=>by simpa using hlt x hx),hvars _,hk.but _,fun _=>⟨?_,?_⟩⟩
 ·intro j t r h1 h2
  rw [hrt] at h1 h2
  exact ok_one (f:=f) hrt rfl (okWide_bool_mk htb true) j t r (by rw [hrt]; exact h1) (by rw [hrt]; exact h2)
 ·refine ⟨_,_,([]++p) ++ [],⟨[]++p,[],trodAll_append (hargs _ (fun _ _=>rfl)) (hres _ _ _),hvars _,rfl,?_,?_⟩,?_⟩
  ·intro b off hp
   have hp':MemPlace.cell b off∈p:=by simpa using hp
   have hb:=hlt _ hp'
   have:=hz b off (by simpa using hp')
   rw [← this]
   exact World.frozen?_of_block (hk.block b hb id)
  ·intro ha
   have:=hn ha
   simpa using this
  ·intro x hx _
   simpa using hx
theorem arg_int {r:Reach} {b0 base:Nat} {sp:Nat→Bool} {held:Bool} {W:World} {t:TypeId} {k:IntKind} {v:Value} {d:DataW H} {ps:List MemPlace} (ht:P.underlying t=some (.int k)) (hval:Value.okWide P W r b0 t v)
  (hd:DataW.Trod enc P W base sp held t v d ps):∃ n,k.min≤n∧n≤k.max∧∀ (β:Bi) (objs:As) (S:Nat→Prop),RelV β objs S W v (.p (vk k n)):=by
 obtain ⟨n,rfl,rfl,rfl,hwf⟩:=open_int ht hval hd
 simp only [Lit.wf,Bool.and_eq_true,decide_eq_true_eq] at hwf
 exact ⟨n,hwf.1,hwf.2,fun _ _ _ => .p _ _ (.v _ rfl)⟩
theorem arg_ints {r:Reach} {b0 base:Nat} {held:Bool} {W:World} {t e:TypeId} {v:Value} {d:DataW H} {ps:List MemPlace} (ht:P.underlying t=some (.slice e)) (he:P.underlying e=some (.int .i64)) (hc:P.cellsOf e=1)
  (hval:Value.okWide P W r b0 t v) (hd:DataW.Trod enc P W base (fun _=>true) held t v d ps) :
  ∃ L:List Int,(∀ n∈L,-9223372036854775808≤n∧n≤9223372036854775807)∧∀ (β:Bi) (objs:As) (S:Nat→Prop),(∀ p∈ps,S p.block)→RelV β objs S W v (.p (Mv 1 Bm 0 L)):=by
 obtain ⟨fuel,hf⟩:=hd
 have hok:Cell.okWide P W r b0 t v:=by simpa [Value.okWide,ht] using hval
 have hcells:∀ (b:Option Addr) (n c:Nat),v.cells.toList = [.slice b n c]→v = .slice b n c:=by
  intro b n c hvc
  cases v <;> simp [Value.cells,Cell.okWide,Cell.ok,ht] at hvc hok ⊢
  exact hvc
 rcases open_ints ht he hc hf with ⟨h1,h2⟩|⟨a,len,cap,zs,h1,hb,hle,hmax,hlen,hx,hcell,hwf⟩
 ·have:=hcells _ _ _ h1
  subst this
  exact ⟨[],by simp,fun β objs S hS => .p _ _ (.slnil _ _ _ (by simp))⟩
 ·have:=hcells _ _ _ h1
  subst this
  have hps:ps=MemPlace.row a zs.length:=by injection hx
  have hzl:zs.length=cap:=by simpa using hlen
  refine ⟨zs.take len,fun n hn => ?_,fun β objs S hS => .p _ _ ?_⟩
  ·have:=hwf n (List.mem_of_mem_take hn)
   simpa [Lit.wf,IntKind.min,IntKind.max,IntKind.signed,IntKind.bits] using this
  ·have hspot:a.spot=none:=by
    simp only [Cell.okWide,Cell.ok,ht] at hok
    exact hok.2.2.2.1
   obtain ⟨b,off,spot⟩:=a
   simp only at hspot
   subst hspot
   have hl2:(zs.take len).length=len:=by simp; omega
   unfold Mv
   rw [hl2]
   refine .sl _ _ _ cap b off _ (fun i _ => .int .i64 (zs.getD i 0)) (by simp) hle (fun hn => ?_) (fun i hi=>rfl) (fun i j hi hj => ?_) (fun i j hi hj=>rfl) (fun i j x hi hx => ?_)
   ·have:MemPlace.cell b off∈ps:=by
     rw [hps]
     exact MemPlace.mem_row.2 ⟨0,by omega,by simp⟩
    exact hS _ this
   ·obtain rfl:j=0:=by omega
    have:=hcell i (by omega)
    rw [add_plain] at this
    simpa [at_] using this
   ·have hxx:x=vi ((zs.take len).getD i 0):=by
     cases j with
     | zero=>simpa [elems,Bm] using hx.symm
     | succ j=>simp [elems,Bm] at hx
    subst hxx
    have e:(zs.take len).getD i 0=zs.getD i 0:=by simp [List.getD_eq_getElem?_getD,List.getElem?_take,hi]
    rw [e]
    exact .v _ rfl
theorem Spec.law {f:FuncId} {args:List MV} {vs:Array Value} {W:World} (h:Spec P f args [] (.p (vb true)) [] []) (hlen:vs.size=args.length)
  (hrel:∀ (β:Bi) (objs:As) (i:Nat) x,args[i]? = some x→RelV β objs (fun b=>b<W.heap.size) W (vs.getD i undef) x) :
  Calls P f vs W fun e W'=>e = .returned (.bool true)∧Kept (fun _=>False) W W':=by
 refine (h.2 W (fun _=>False) (fun _ => .nilrow) vs ⟨fun b hb=>hb.elim,hlen,fun i x hx => ?_,fun k bd hk=>by simp at hk,fun k bd b hk=>by simp at hk,fun k k' bd bd' b hk=>by simp at hk⟩).mono ?_
 ·refine (hrel _ (Bn []) i x hx).mono (Grows.refl _ _) (fun b hb=>⟨hb,id,fun k o ho=>by simp [Bn] at ho⟩) (fun _ _=>rfl)
 ·rintro e w' ⟨v,β',rfl,hp⟩
  have:=hp.res.inv_v.1
  subst this
  exact ⟨rfl,hp.kept.os,hp.kept.tape,hp.kept.output,hp.kept.size,fun k hk _=>hp.kept.block k hk (by rintro ⟨j,bd,hj,_⟩; simp at hj)⟩
end
end Go.Dm

/- The data machine, part 24: states by their changes; shorter words for the printed proofs. -/
namespace Go.Dm
def memN : List Nat→Nat→Bool
 | [],_=>false
 | a::r,k=>bif Nat.beq a k then true else memN r k
def delK {α:Type} (ds:List Nat):List (Nat×α)→List (Nat×α)
 | [] => []
 | (k,x)::r=>bif memN ds k then delK ds r else (k,x)::delK ds r
def insK {α:Type} (k:Nat) (x:α):List (Nat×α)→List (Nat×α)
 | [] => [(k,x)]
 | (t,y)::r=>bif Nat.beq k t then (k,x)::r else bif Nat.ble k t then (k,x)::(t,y)::r else (t,y)::insK k x r
def insA {α:Type} : List (Nat×α)→List (Nat×α)→List (Nat×α)
 | [],l=>l
 | (k,x)::r,l=>insK k x (insA r l)
def up {α:Type} (ds:List Nat) (us l:List (Nat×α)):List (Nat×α):=insA us (delK ds l)
theorem Aio {α:Type} (k:Nat) (x:α) (l:List (Nat×α)) (j:Nat):assoc (insK k x l) j=assoc ((k,x)::l) j:=by
 induction l with
 | nil=>rfl
 | cons p r ih =>
  obtain ⟨t,y⟩:=p
  rw [insK]
  cases hb:Nat.beq k t with
  | true =>
   have:=Nat.eq_of_beq_eq_true hb
   subst this
   simp only [cond_true,assoc]
   cases Nat.beq j k <;> rfl
  | false =>
   simp only [cond_false]
   cases Nat.ble k t with
   | true=>rfl
   | false =>
    simp only [cond_false,assoc] at ih ⊢
    rw [ih]
    cases h1:Nat.beq j t with
    | true =>
     have:=Nat.eq_of_beq_eq_true h1
     subst this
     cases h2:Nat.beq j k with
     | true =>
      have:=Nat.eq_of_beq_eq_true h2
      subst this
      rw [h1] at hb
      cases hb
     | false=>rfl
    | false=>rfl
theorem AgI {α:Type} (enc:α→PV) (z:PV) (m:IMap α) (n:Int) (v:α) {x:PV} (hx:PLe x (enc v)):MapLe z (Cc m.has n true) (Cc (fun j=>enc (m.get j)) n x) z (m.set n v).has (fun j=>enc ((m.set n v).get j)):=by
 refine ⟨rfl,fun j => ?_,fun hz j hj => ?_⟩
 ·simp only [Cc,IMap.set]
  split
  ·exact hx
  ·exact .rfl
 ·have h1:=hz j hj
  simp only [IMap.set,Cc] at h1 hj ⊢
  split at hj
  ·simp at hj
  ·rename_i hne
   rw [if_neg hne] at h1 ⊢
   exact h1
inductive AdP where
 | s (t:Nat)
 | a (t j:Nat)
 | o (q j:Nat)
def adNil (k:Nat):MV→Option MV
 | .p (.sl .nil _ n _)=>bif Nat.beq n 0 then some (.own k 0 0 0) else none
 | _=>none
def Aai (k:Nat):Nat→List MV→Option (List MV)
 | _,[]=>none
 | 0,x::r=>match adNil k x with
  | some y=>some (y::r)
  | none=>none
 | j+1,x::r=>match Aai k j r with
  | some s=>some (x::s)
  | none=>none
def adMV (k:Nat):Option Nat→MV→Option MV
 | none,x=>adNil k x
 | some j,.agg cs=>(Aai k j cs).map .agg
 | _,_=>none
def adObj (k j:Nat):Obj→Option Obj
 | ⟨g,.box cs⟩=>(Aai k j cs).map fun ds=>⟨g,.box ds⟩
 | _=>none
def AbB (k t:Nat) (j:Option Nat):List (Nat×MV)→Option (List (Nat×MV))
 | []=>none
 | (q,x)::r=>bif Nat.beq q t then (adMV k j x).map fun y=>(q,y)::r else (AbB k t j r).map fun s=>(q,x)::s
def adBox (k q j:Nat):List (Nat×Obj)→Option (List (Nat×Obj))
 | []=>none
 | (i,o)::r=>bif Nat.beq i q then (adObj k j o).map fun p=>(i,p)::r else (adBox k q j r).map fun s=>(i,o)::s
def adOne (k:Nat) (sl:List (Nat×MV)) (ob:List (Nat×Obj)):AdP→Option (List (Nat×MV)×List (Nat×Obj))
 | .s t=>(AbB k t none sl).map fun s=>(s,ob)
 | .a t j=>(AbB k t (some j) sl).map fun s=>(s,ob)
 | .o q j=>(adBox k q j ob).map fun b=>(sl,b)
def adAll : List (AdP×Nat×Nat×(Nat→List PV))→List (Nat×MV)→List (Nat×Obj)→Option (List (Nat×MV)×List (Nat×Obj))
 | [],sl,ob=>some (sl,ob)
 | (p,k,W,f)::r,sl,ob=>bif Nat.ble 1000 k&&(assoc ob k).isNone then (adOne k sl ob p).bind fun q=>adAll r q.1 (insK k ⟨0,.row W 0 f⟩ q.2) else none
theorem AhE {k:Nat} {x y:MV} (h:adNil k x=some y):Ad1 k x y:=by
 unfold adNil at h
 split at h
 ·rename_i W n f
  cases hb:Nat.beq n 0 with
  | true =>
   rw [hb] at h
   have:=Nat.eq_of_beq_eq_true hb
   subst this
   simp only [cond_true,Option.some.injEq] at h
   subst h
   exact .nil _ _
  | false=>rw [hb] at h; simp at h
 ·simp at h
theorem Ads {k:Nat} : ∀ {j:Nat} {l m:List MV},Aai k j l=some m→AdL k l m
 | _,[],_,h=>by simp [Aai] at h
 | 0,x::r,m,h=>by
  rw [Aai] at h
  split at h
  ·rename_i y hy
   simp only [Option.some.injEq] at h
   subst h
   exact .cons (AhE hy) (.rfl _)
  ·simp at h
 | j+1,x::r,m,h=>by
  rw [Aai] at h
  split at h
  ·rename_i s hs
   simp only [Option.some.injEq] at h
   subst h
   exact .cons (.rfl _) (Ads hs)
  ·simp at h
theorem adMV_ok {k:Nat} {j:Option Nat} {x y:MV} (h:adMV k j x=some y):Ad k x y:=by
 unfold adMV at h
 split at h
 ·exact .one (AhE h)
 ·obtain ⟨ds,hd,rfl⟩:=Option.map_eq_some_iff.mp h
  exact .agg (Ads hd)
 ·simp at h
theorem Adp {k t:Nat} {j:Option Nat} : ∀ {l m:List (Nat×MV)},AbB k t j l=some m→AdS k l m
 | [],_,h=>by simp [AbB] at h
 | (q,x)::r,m,h=>by
  rw [AbB] at h
  cases hb:Nat.beq q t with
  | true =>
   rw [hb,cond_true] at h
   obtain ⟨y,hy,rfl⟩:=Option.map_eq_some_iff.mp h
   exact .cons (adMV_ok hy) (.rfl _)
  | false =>
   rw [hb,cond_false] at h
   obtain ⟨s,hs,rfl⟩:=Option.map_eq_some_iff.mp h
   exact .cons (.one (.rfl _)) (Adp hs)
theorem AhF {k q j:Nat} : ∀ {l m:List (Nat×Obj)},adBox k q j l=some m→AdO k l m
 | [],_,h=>by simp [adBox] at h
 | (i,o)::r,m,h=>by
  rw [adBox] at h
  cases hb:Nat.beq i q with
  | true =>
   rw [hb,cond_true] at h
   obtain ⟨p,hp,rfl⟩:=Option.map_eq_some_iff.mp h
   unfold adObj at hp
   split at hp
   ·obtain ⟨ds,hd,rfl⟩:=Option.map_eq_some_iff.mp hp
    exact .box (Ads hd) (.rfl _)
   ·simp at hp
  | false =>
   rw [hb,cond_false] at h
   obtain ⟨s,hs,rfl⟩:=Option.map_eq_some_iff.mp h
   exact .keep (AhF hs)
theorem mkSt_ins (sl:List (Nat×MV)) (k:Nat) (o:Obj) (ob:List (Nat×Obj)):Af sl (insK k o ob)=Af sl ((k,o)::ob):=by
 unfold Af
 congr 1
 funext j
 exact Aio k o ob j
theorem Conv.adsAll {cx:Cx} : ∀ (acts:List (AdP×Nat×Nat×(Nat→List PV))) {sl sl':List (Nat×MV)} {ob ob':List (Nat×Obj)},adAll acts sl ob=some (sl',ob')→Conv cx (Af sl ob) (Af sl' ob')
 | [],sl,sl',ob,ob',h=>by
  simp only [adAll,Option.some.injEq,Prod.mk.injEq] at h
  obtain ⟨rfl,rfl⟩:=h
  exact .refl
 | (p,k,W,f)::r,sl,sl',ob,ob',h=>by
  rw [adAll] at h
  cases hk:(Nat.ble 1000 k&&(assoc ob k).isNone) with
  | false=>rw [hk] at h; simp at h
  | true =>
   rw [hk,cond_true] at h
   obtain ⟨q,hq,h⟩:=Option.bind_eq_some_iff.mp h
   rw [Bool.and_eq_true,Option.isNone_iff_eq_none] at hk
   have a:Conv cx (Af sl ob) (Af q.1 (insK k ⟨0,.row W 0 f⟩ q.2)):=by
    rw [mkSt_ins]
    unfold adOne at hq
    split at hq
    ·obtain ⟨s,hs,rfl⟩:=Option.map_eq_some_iff.mp hq
     exact Conv.adopt k W f hk.1 hk.2 (Adp hs) (AdO.rfl ob)
    ·obtain ⟨s,hs,rfl⟩:=Option.map_eq_some_iff.mp hq
     exact Conv.adopt k W f hk.1 hk.2 (Adp hs) (AdO.rfl ob)
    ·obtain ⟨b,hb,rfl⟩:=Option.map_eq_some_iff.mp hq
     exact Conv.adopt k W f hk.1 hk.2 (AdS.rfl sl) (AhF hb)
   exact a.trans (Conv.adsAll r h)
theorem Conv.ads {cx:Cx} (acts:List (AdP×Nat×Nat×(Nat→List PV))) {sl sl':List (Nat×MV)} {ob ob':List (Nat×Obj)} (h:adAll acts sl ob=some (sl',ob'):=by kernel_rfl):Conv cx (Af sl ob) (Af sl' ob'):=Conv.adsAll acts h
theorem Conv.frz {cx:Cx} (ks:List Nat) {sl sl':List (Nat×MV)} {ob ob':List (Nat×Obj)} (h:Aft ks (sl,ob)=(sl',ob'):=by kernel_rfl):Conv cx (Af sl ob) (Af sl' ob'):=Conv.freezes ks h
section
variable {P : Program} {T:Ty} {cx:Cx} {σ:St} {Q:Exit→St→Prop} {R:Type}
theorem DW.rd {nt:Nat} (hT:Fs P T) (hm:P.follows .mixedOrders=true) (hnt:cx.nt=nt) {ops:Array Oper} {id:Nat} {draw:Bool} {r:List Code} {sl0:List (Nat×MV)} {ob0:List (Nat×Obj)} (xs:List Orc) (ds:List Nat) (us:List (Nat×MV)) (dk:List Nat) (uo:List (Nat×Obj))
  {q:Prop} (hq:q) (hQ:DW P cx r (Af (up ds us sl0) (up dk uo ob0)) Q) (h:Wr P T nt ops xs (Cn (up ds us sl0)) (Cn (up dk uo ob0)) draw (Af sl0 ob0)=some ((up ds us sl0,up dk uo ob0),q)):DW P cx (.region id ops draw::r) (Af sl0 ob0) Q :=
 DW.rk hT hm hnt xs _ _ hq h hQ
theorem DW.cv {c:Code} {r:List Code} {sl0:List (Nat×MV)} {ob0:List (Nat×Obj)} (ds:List Nat) (us:List (Nat×MV)) (dk:List Nat) (uo:List (Nat×Obj)) (h:Conv cx (Af sl0 ob0) (Af (up ds us sl0) (up dk uo ob0))) (k:DW P cx (c::r) (Af (up ds us sl0) (up dk uo ob0)) Q):DW P cx (c::r) (Af sl0 ob0) Q:=DW.conv h k
theorem Conv.eqK {sl0 sl:List (Nat×MV)} {ob0 ob:List (Nat×Obj)} (h:(sl0,ob0)=(sl,ob):=by kernel_rfl):Conv cx (Af sl0 ob0) (Af sl ob):=by
 obtain ⟨rfl,rfl⟩:=Prod.mk.inj h
 exact .refl
theorem Conv.t0 {sl:List (Nat×MV)} {ob:List (Nat×Obj)} (h:(Sn (Cn sl) (Cn ob) σ,Po (Cn ob) σ)=(Qy [] sl,Pk [] ob):=by kernel_rfl):Conv cx σ (Af sl ob):=Conv.tp [] [] h .nil .nil
theorem Ak {c:Operand} {x y:Code} {r:List Code} {b:Bool} {X Y:Option R} {res:R} (hm:(if b=true then X else Y)=some res) (h1:b=true→X=some res→DW P cx (x::r) σ Q) (h2:b=false→Y=some res→DW P cx (y::r) σ Q)
  (hk:Aq c=true:=by kernel_rfl) (hc:ev σ c = .p (.v (.bool b)):=by kernel_rfl):DW P cx (.cond c x y::r) σ Q :=
 DW.cond b hk hc (fun e=>h1 e (Bt e hm)) (fun e=>h2 e (Bs e hm))
theorem Bu {c:Operand} {x y:Code} {r:List Code} (b:Bool) (h1:b=true→DW P cx (x::r) σ Q) (h2:b=false→DW P cx (y::r) σ Q)
  (hk:Aq c=true:=by kernel_rfl) (hc:ev σ c = .p (.v (.bool b)):=by kernel_rfl):DW P cx (.cond c x y::r) σ Q:=DW.cond b hk hc h1 h2
theorem Aei {c:Operand} {x y:Code} {r:List Code} {b:Bool} (hb:b=true) (h1:DW P cx (x::r) σ Q)
  (hk:Aq c=true:=by kernel_rfl) (hc:ev σ c = .p (.v (.bool b)):=by kernel_rfl):DW P cx (.cond c x y::r) σ Q:=DW.cond b hk hc (fun _=>h1) (fun e=>by rw [hb] at e; cases e)
theorem Aeq {c:Operand} {x y:Code} {r:List Code} {b:Bool} (hb:b=false) (h1:DW P cx (y::r) σ Q)
  (hk:Aq c=true:=by kernel_rfl) (hc:ev σ c = .p (.v (.bool b)):=by kernel_rfl):DW P cx (.cond c x y::r) σ Q:=DW.cond b hk hc (fun e=>by rw [hb] at e; cases e) (fun _=>h1)
theorem Aj {results:List ResultVar} {m:Nat} {res:MV} {bs:List Body} (bs':List Body) (ex:List Nat) (res':MV) (h:fin T results m ex σ=some (res',bs'):=by kernel_rfl) (e:res'=res:=by rfl) (e2:bs'=bs:=by rfl):finQ T results m res bs .ret σ:=retOK ex res' h e e2
theorem endK {results:List ResultVar} {m:Nat} {res:MV} {bs:List Body} (bs':List Body) (ex:List Nat) (res':MV) (h:fin T results m ex σ=some (res',bs'):=by kernel_rfl) (e:res'=res:=by rfl) (e2:bs'=bs:=by rfl):finQ T results m res bs .normal σ:=endOK ex res' h e e2
theorem Sq {x y:Code} {r:List Code} (h:DW P cx (x::y::r) σ Q):DW P cx (.seq x y::r) σ Q:=DW.seq h
theorem Sk {r:List Code} (h:DW P cx r σ Q):DW P cx (.skip::r) σ Q:=DW.skip h
theorem Bk {id:Nat} {c:Code} {r:List Code} (h:DW P cx [c] σ (Qv id (KQ P cx r Q))):DW P cx (.block id c::r) σ Q:=DW.block h
theorem Jn {ι:Type} {c:Code} {r:List Code} (J:ι→St) (m:ι→Prop) (hj:∀ i,m i→DW P cx r (J i) Q) (h:DW P cx [c] σ (Sv cx J m (KQ P cx r Q))):DW P cx (c::r) σ Q:=DW.join J m hj h
theorem jD {ι:Type} {J:ι→St} {m:ι→Prop} (i:ι) (h1:m i) (h2:Conv cx σ (J i)):DW P cx [] σ (Sv cx J m Q):=joinDone i h1 h2
theorem bD {ι:Type} {J:ι→St} {m:ι→Prop} {id:Nat} (i:ι) (h1:m i) (h2:Conv cx σ (J i)):DW P cx [] σ (Qv id (KQ P cx [] (Sv cx J m Q))):=blockDone i h1 h2
theorem tv : True:=trivial
theorem sj {a b:R} (h:some a=some b):a=b:=Option.some.inj h
theorem bo {α:Type} {x:Option α} {k:α→Option R} {r:R} (h:x.bind k=some r):∃ a,x=some a∧k a=some r:=bind_open h
theorem go1 {p:Prop} [Decidable p] {x:Option R} {r:R} (h:(if p then x else none)=some r):p∧x=some r:=Ls h
theorem go2 {p q:Prop} [Decidable p] [Decidable q] {x:Option R} {r:R} (h:(if p then if q then x else none else none)=some r):p∧q∧x=some r:=⟨(Ls h).1,Ls (Ls h).2⟩
theorem go3 {p q s:Prop} [Decidable p] [Decidable q] [Decidable s] {x:Option R} {r:R} (h:(if p then if q then if s then x else none else none else none)=some r):p∧q∧s∧x=some r:=⟨(Ls h).1,go2 (Ls h).2⟩
theorem go4 {p q s t:Prop} [Decidable p] [Decidable q] [Decidable s] [Decidable t] {x:Option R} {r:R} (h:(if p then if q then if s then if t then x else none else none else none else none)=some r):p∧q∧s∧t∧x=some r:=⟨(Ls h).1,go3 (Ls h).2⟩
end
end Go.Dm

/- The data machine, part 25: arguments of struct type, and slices of structs, as they were handed in. -/
namespace Go.Dm
open Go.ChangeShapes Go.WideShapes Go.ChangeAt Go.RowKit
section
variable {P : Program} {fl:Bool} {α β:Type} {t:TypeId} {n:Nat} {en:α→List PV} {good:α→Prop}
variable {H : Type} {enc:TypeId×Value→H}
end
end Go.Dm

/- Models of Go types and functions, printed by a program. -/
namespace Go.Dm
set_option linter.unusedVariables false
structure Bz where
 id:Int
 parent:Int
 name:ByteArray
 control:Int
 kind:Int
 owner:Int
 deriving Inhabited
def Ax (x:Bz):List PV := [vi x.id,vi x.parent,vs x.name,vi x.control,vi x.kind,vi x.owner]
abbrev Ay : Bz:=default
abbrev Cr (L:List Bz):PV:=Mv 6 Ax (default:Bz) L
abbrev Ba (L:List Bz):Body:=AaY 6 Ax (default:Bz) L
abbrev Adr (L:List Bz):Nat→List PV:=elems Ax (default:Bz) L
structure Cd where
 nodes:List Bz
 next:Int
 deriving Inhabited
def Bl (x:Cd):List PV := [Mv 6 Ax (default:Bz) x.nodes,vi x.next]
structure Cf where
 id:Int
 process:Int
 group:Int
 user:Int
 deriving Inhabited
def Bd (x:Cf):List PV := [vi x.id,vi x.process,vi x.group,vi x.user]
abbrev Bo : Cf:=default
abbrev Dn (L:List Cf):PV:=Mv 4 Bd (default:Cf) L
abbrev Ce (L:List Cf):Body:=AaY 4 Bd (default:Cf) L
abbrev Afw (L:List Cf):Nat→List PV:=elems Bd (default:Cf) L
structure Ac where
 tree:Cd
 tasks:List Cf
 next:Int
 deriving Inhabited
def Ab (x:Ac):List PV := [Mv 6 Ax (default:Bz) x.tree.nodes,vi x.tree.next,Mv 4 Bd (default:Cf) x.tasks,vi x.next]
structure Ey where
 l:List Int
 atF:Int
 deriving Inhabited
def Jm (x:Ey):List PV := [Mv 1 Bm 0 x.l,vi x.atF]
def Acz (p0:List Int):Option Bool:=(some (decide (((p0.length:Nat):Int)≤600)))
def Aeb (p0:Bz):Option Bool:=(some ((((p0.id==1)&&(p0.parent==0))&&(Xq p0.name ByteArray.empty))&&(p0.kind==0)))
def Aco (p0:Int):Option Bool:=(some ((((((decide (p0≥97))&&(decide (p0≤122)))||((decide (p0≥65))&&(decide (p0≤90))))||((decide (p0≥48))&&(decide (p0≤57))))||(p0==95))||(p0==45)))
def Aec (k1:Nat) (x1:Int) (s1:Unit) (n1:Unit→Option Bool):Option Bool:=(Option.bind (Aco x1) fun r16=>(if (!r16) then (some false) else (n1 ())))
def Qz (y3:Bool):Option Bool:=(some y3)
def Ady (p0:ByteArray) (s1:Unit):Option Bool:=(if (!(Xq p0 ByteArray.empty)) then (if (decide (((p0.size:Nat):Int)≤32)) then (if 0<p0.size then (Qz ((((Ms p0 0):Nat):Int) != 45)) else none) else (Qz false)) else (Qz false))
def Yu (p0:ByteArray):Option Bool:=(if (Pj p0).length≤9223372036854775807 then Ao Aec (Ady p0) (Pj p0) 0 () else none)
def AeW (p1:Bz) (k1:Nat) (x1:Bz) (s1:Bool) (n1:Bool→Option Bool):Option Bool:=(if ((x1.parent==p1.parent)&&(Xq x1.name p1.name)) then (some false) else (n1 (s1||(x1.id==p1.parent))))
def AeF (s1:Bool):Option Bool:=(some s1)
def Pq (p0:List Bz) (p1:Bz) (y1:Bool):Option Bool:=(if y1 then (some false) else (if p0.length≤9223372036854775807 then Ao (AeW p1) AeF p0 0 false else none))
def AdB (p0:List Bz) (p1:Bz):Option Bool:=(if 0≤(w64 (((p0.length:Nat):Int)-1))∧(w64 (((p0.length:Nat):Int)-1))<((p0.length:Nat):Int) then (if (decide (p1.id≤(p0.getD (Int.toNat (w64 (((p0.length:Nat):Int)-1))) (default:Bz)).id)) then ((Pq p0 p1) true) else (Option.bind (Yu p1.name) fun r3=>(if (!r3) then ((Pq p0 p1) true) else (if (p1.kind != 0) then ((Pq p0 p1) (p1.kind != 1)) else ((Pq p0 p1) false))))) else none)
def Uw (x1:Bz) (n1:(IMap Int)→Option Bool) (y9:IMap Int):Option Bool:=(if (decide ((y9.get x1.id)>8)) then (some false) else (n1 y9))
def Iw (k1:Nat) (x1:Bz) (s1:IMap Int) (n1:(IMap Int)→Option Bool) (y8:Bool):Option Bool:=(if y8 then (some false) else (if (decide (((k1:Nat):Int)>0)) then ((Uw x1 n1) (s1.set x1.id (w64 ((s1.get x1.parent)+1)))) else ((Uw x1 n1) s1)))
def AdE (p0:Cd) (k1:Nat) (x1:Bz) (s1:IMap Int) (n1:(IMap Int)→Option Bool):Option Bool:=(if (decide (x1.control<0)) then ((Iw k1 x1 s1 n1) true) else (if ((Vn .i64 x1.control 31) != 0) then ((Iw k1 x1 s1 n1) true) else (if (decide (x1.owner<0)) then ((Iw k1 x1 s1 n1) true) else (if (decide (x1.owner>1048576)) then ((Iw k1 x1 s1 n1) true) else (if (decide (((k1:Nat):Int)>0)) then (if ((k1:Nat):Int)≤((p0.nodes.length:Nat):Int) then (Option.bind (AdB (p0.nodes.take k1) x1) fun r43=>((Iw k1 x1 s1 n1) (!r43))) else none) else ((Iw k1 x1 s1 n1) false))))))
def Sx (y10:Bool):Option Bool:=(some y10)
def AdI (p0:Cd) (s1:IMap Int):Option Bool:=(if 0≤(w64 (((p0.nodes.length:Nat):Int)-1))∧(w64 (((p0.nodes.length:Nat):Int)-1))<((p0.nodes.length:Nat):Int) then (if (decide (p0.next>(p0.nodes.getD (Int.toNat (w64 (((p0.nodes.length:Nat):Int)-1))) (default:Bz)).id)) then (Sx (decide (p0.next≤2147483648))) else (Sx false)) else none)
def Qn (p0:Cd) (y1:Bool):Option Bool:=(if y1 then (some false) else (if p0.nodes.length≤9223372036854775807 then Ao (AdE p0) (AdI p0) p0.nodes 0 (IMap.empty 0) else none))
def Uh (p0:Cd):Option Bool:=(if (decide (((p0.nodes.length:Nat):Int)<1)) then ((Qn p0) true) else (if (decide (((p0.nodes.length:Nat):Int)>64)) then ((Qn p0) true) else (if 0<p0.nodes.length then (Option.bind (Aeb (p0.nodes.getD 0 (default:Bz))) fun r4=>((Qn p0) (!r4))) else none)))
def AcS (p0:Cf) (p1:Int):Option Bool:=(some (p0.id==p1))
def Km (p1c0:Int) (k1:Nat) (x1:Cf) (s1:Unit) (n1:Unit→Option Int):Option Int:=(Option.bind (AcS x1 p1c0) fun r10=>(if r10 then (some ((k1:Nat):Int)) else (n1 ())))
def Ko (s1:Unit):Option Int:=(some (-1))
def Gy (p0:List Cf) (p1c0:Int):Option Int:=(if p0.length≤9223372036854775807 then Ao (Km p1c0) Ko p0 0 () else none)
def Agj (p0:Ac) (p1:Int):Option Int:=(Option.bind (Gy p0.tasks p1) fun r1=>(some r1))
def Tq (p0:Ac) (p1:Int):Option (Cf×Bool):=(Option.bind (Agj p0 p1) fun r1=>(if (decide (r1<0)) then (some (({ id:=0,process:=0,group:=0,user:=0 } : Cf),false)) else (if 0≤r1∧r1<((p0.tasks.length:Nat):Int) then (some ((p0.tasks.getD (Int.toNat r1) (default:Cf)),true)) else none)))
def Abo (p0:Bz) (p1:Int):Option Bool:=(some (p0.id==p1))
def Jj (p1c0:Int) (k1:Nat) (x1:Bz) (s1:Unit) (n1:Unit→Option Int):Option Int:=(Option.bind (Abo x1 p1c0) fun r10=>(if r10 then (some ((k1:Nat):Int)) else (n1 ())))
def Jl (s1:Unit):Option Int:=(some (-1))
def Gi (p0:List Bz) (p1c0:Int):Option Int:=(if p0.length≤9223372036854775807 then Ao (Jj p1c0) Jl p0 0 () else none)
def Tu (p0:Cd) (p1:Int):Option Int:=(Option.bind (Gi p0.nodes p1) fun r1=>(some r1))
def Ic (y1:Bool):Option Bool:=(some y1)
def Abe (p0:Ac) (p1:Cf):Option Bool:=(Option.bind (Tq p0 p1.process) fun r1=>(if (decide (p1.user≥0)) then (if (decide (p1.user≤1048576)) then (if r1.2 then (if (r1.1.process==r1.1.id) then (if (r1.1.user==p1.user) then (Option.bind (Tu p0.tree p1.group) fun r7=>(Ic (decide (r7≥0)))) else (Ic false)) else (Ic false)) else (Ic false)) else (Ic false)) else (Ic false)))
def Rl (x1:Cf) (n1:Int→Option Bool) (y4:Bool):Option Bool:=(if y4 then (some false) else (n1 x1.id))
def AbD (p0:Ac) (k1:Nat) (x1:Cf) (s1:Int) (n1:Int→Option Bool):Option Bool:=(if (decide (x1.id≤s1)) then ((Rl x1 n1) true) else (Option.bind (Abe p0 x1) fun r17=>((Rl x1 n1) (!r17))))
def Abu (p0:Ac) (s1:Int):Option Bool:=(some (decide (p0.next>s1)))
def Nk (p0:Ac) (y1:Bool):Option Bool:=(if y1 then (some false) else (if p0.tasks.length≤9223372036854775807 then Ao (AbD p0) (Abu p0) p0.tasks 0 0 else none))
def Li (p0:Ac):Option Bool:=(if (decide (((p0.tasks.length:Nat):Int)>128)) then ((Nk p0) true) else (if (decide (p0.next>2147483648)) then ((Nk p0) true) else (Option.bind (Uh p0.tree) fun r3=>((Nk p0) (!r3)))))
def Nc (n1:(List Int)→Option (List Int)) (y3:List Int):Option (List Int):=(n1 y3)
def Ye (p1:Int) (k1:Nat) (x1:Bz) (s1:List Int) (n1:(List Int)→Option (List Int)):Option (List Int):=(if (x1.parent==p1) then (if s1.length+1≤1073741824 then ((Nc n1) (s1 ++ [x1.id])) else none) else ((Nc n1) s1))
def Yf (s1:List Int):Option (List Int):=(some s1)
def Ua (p0:Cd) (p1:Int):Option (List Int):=(if p0.nodes.length≤9223372036854775807 then Ao (Ye p1) Yf p0.nodes 0 [] else none)
def Xa (p1:Int) (k1:Nat) (x1:Int) (s1:Unit) (n1:Unit→Option Int):Option Int:=(if (p1==x1) then (some ((k1:Nat):Int)) else (n1 ()))
def Ws (s1:Unit):Option Int:=(some (-1))
def Tf (p0:List Int) (p1:Int):Option Int:=(if p0.length≤9223372036854775807 then Ao (Xa p1) Ws p0 0 () else none)
def Dk (p0:List Int) (p1:Int):Option Bool:=(Option.bind (Tf p0 p1) fun r1=>(some (decide (r1≥0))))
def Hv (p0:List Bz):Option (List Bz):=(if 0+p0.length≤1073741824 then (some p0) else none)
def Ow (p0:List Bz):Option (List Bz):=(some [])
def Kb (p0:List Cf):Option (List Cf):=(if 0+p0.length≤1073741824 then (some p0) else none)
def Om (p0:List Cf):Option (List Cf):=(some [])
def AaJ (p0:Ac):Option Ac:=(Option.bind (Hv p0.tree.nodes) fun r1=>(Option.bind (Kb p0.tasks) fun r2=>(some ({ tree:=({ nodes:=r1,next:=p0.tree.next } : Cd),tasks:=r2,next:=p0.next } : Ac))))
def Ui (r3:Ac) (y1:Cf):Option (Ac×Int×Int):=(if r3.tasks.length+1≤1073741824 then (some (({ tree:=r3.tree,tasks:=(r3.tasks ++ [y1]),next:=(w64 (r3.next+1)) } : Ac),y1.id,0)) else none)
def Acj (p0:Ac) (p1:Cf):Option (Ac×Int×Int):=(if ((decide (((p0.tasks.length:Nat):Int)≥128))||(decide (p0.next>2147483647))) then (some (({ tree:=({ nodes := [],next:=0 } : Cd),tasks := [],next:=0 } : Ac),0,7)) else (Option.bind (AaJ p0) fun r3=>(if (p1.process==0) then ((Ui r3) ({ id:=p0.next,process:=p0.next,group:=p1.group,user:=p1.user } : Cf)) else ((Ui r3) ({ id:=p0.next,process:=p1.process,group:=p1.group,user:=p1.user } : Cf)))))
def Mw (p0:Cd) (p1:Int):Option (Bz×Bool):=(Option.bind (Tu p0 p1) fun r1=>(if (decide (r1<0)) then (some (({ id:=0,parent:=0,name:=ByteArray.empty,control:=0,kind:=0,owner:=0 } : Bz),false)) else (if 0≤r1∧r1<((p0.nodes.length:Nat):Int) then (some ((p0.nodes.getD (Int.toNat r1) (default:Bz)),true)) else none)))
def Mg (y1:List Int):Option (List Int):=(some y1)
def Xh (p0:Cd) (k1:Nat) (x1:Bz) (s1:(List Int)×Int) (n1:((List Int)×Int)→Option (List Int)):Option (List Int):=(Option.bind (Mw p0 s1.2) fun r9=>(if (!r9.2) then (Mg s1.1) else (if s1.1.length+1≤1073741824 then (n1 ((s1.1 ++ [s1.2]),r9.1.parent)) else none)))
def Wx (s1:(List Int)×Int):Option (List Int):=(Mg s1.1)
def Gn (p0:Cd) (p1:Int):Option (List Int):=(if p0.nodes.length≤9223372036854775807 then Ao (Xh p0) Wx p0.nodes 0 ([],p1) else none)
def AdC (p0:List Int):Option Ey:=(some ({ l:=p0,atF:=0 } : Ey))
def Lg (p0:Ey) (y1:Int):Option (Int×Ey):=(some (y1,({ l:=p0.l,atF:=(w64 (p0.atF+1)) } : Ey)))
def Il (p0:Ey) (p1:Int):Option (Int×Ey):=(if ((decide (p0.atF≥((p0.l.length:Nat):Int)))||(decide (p1<1))) then (some (0,p0)) else (if 0≤(w64 ((w64 (p0.atF+1))-1))∧(w64 ((w64 (p0.atF+1))-1))<((p0.l.length:Nat):Int) then (if (p1:Int)≠0 then (if (decide ((Int.tmod (p0.l.getD (Int.toNat (w64 ((w64 (p0.atF+1))-1))) 0) p1)<0)) then ((Lg p0) (w64 ((Int.tmod (p0.l.getD (Int.toNat (w64 ((w64 (p0.atF+1))-1))) 0) p1)+p1))) else ((Lg p0) (Int.tmod (p0.l.getD (Int.toNat (w64 ((w64 (p0.atF+1))-1))) 0) p1))) else none) else none))
def Afm : Option Cd:=(some ({ nodes := [({ id:=1,parent:=0,name:=ByteArray.empty,control:=0,kind:=0,owner:=0 } : Bz)],next:=2 } : Cd))
def Acb : Option Ac:=(Option.bind Afm fun r1=>(some ({ tree:=r1,tasks := [],next:=1 } : Ac)))
def Nm (p0:Ac) (p1:Int) (p2:Int) (y1:Bool):Option (Ac×Int×Int):=(if y1 then (some (({ tree:=({ nodes := [],next:=0 } : Cd),tasks := [],next:=0 } : Ac),0,1)) else (Option.bind (Tu p0.tree p1) fun r5=>(if (decide (r5<0)) then (some (({ tree:=({ nodes := [],next:=0 } : Cd),tasks := [],next:=0 } : Ac),0,4)) else (Option.bind (Acj p0 ({ id:=0,process:=0,group:=p1,user:=p2 } : Cf)) fun r7=>(some (r7.1,r7.2.1,r7.2.2))))))
def Uf (p0:Ac) (p1:Int) (p2:Int):Option (Ac×Int×Int):=(Option.bind (Li p0) fun r1=>(if (!r1) then ((Nm p0 p1 p2) true) else (if (decide (p2<0)) then ((Nm p0 p1 p2) true) else ((Nm p0 p1 p2) (decide (p2>1048576))))))
def Vx (p0:Ac):Option Ac:=(Option.bind (Li p0) fun r1=>(if (!r1) then (some ({ tree:=({ nodes := [],next:=0 } : Cd),tasks := [],next:=0 } : Ac)) else (some p0)))
def Agq (p0:Cf):Option Int:=(some p0.id)
def Uk (y3:Int×Int):Option Int:=(if 0≤(IntKind.u8.wrap y3.1)∧(IntKind.u8.wrap y3.1)<(((bs [0,1,2,2,3,3,3,3,4,4,4,4,4,4,4,4,5,5,5,5,5,5,5,5,5,5,5,5,5,5,5,5,6,6,6,6,6,6,6,6,6,6,6,6,6,6,6,6,6,6,6,6,6,6,6,6,6,6,6,6,6,6,6,6,7,7,7,7,7,7,7,7,7,7,7,7,7,7,7,7,7,7,7,7,7,7,7,7,7,7,7,7,7,7,7,7,7,7,7,7,7,7,7,7,7,7,7,7,7,7,7,7,7,7,7,7,7,7,7,7,7,7,7,7,7,7,7,7,8,8,8,8,8,8,8,8,8,8,8,8,8,8,8,8,8,8,8,8,8,8,8,8,8,8,8,8,8,8,8,8,8,8,8,8,8,8,8,8,8,8,8,8,8,8,8,8,8,8,8,8,8,8,8,8,8,8,8,8,8,8,8,8,8,8,8,8,8,8,8,8,8,8,8,8,8,8,8,8,8,8,8,8,8,8,8,8,8,8,8,8,8,8,8,8,8,8,8,8,8,8,8,8,8,8,8,8,8,8,8,8,8,8,8,8,8,8,8,8,8,8,8,8,8,8,8,8]).size:Nat):Int) then (some (w64 (y3.2+(w64 (((Ms (bs [0,1,2,2,3,3,3,3,4,4,4,4,4,4,4,4,5,5,5,5,5,5,5,5,5,5,5,5,5,5,5,5,6,6,6,6,6,6,6,6,6,6,6,6,6,6,6,6,6,6,6,6,6,6,6,6,6,6,6,6,6,6,6,6,7,7,7,7,7,7,7,7,7,7,7,7,7,7,7,7,7,7,7,7,7,7,7,7,7,7,7,7,7,7,7,7,7,7,7,7,7,7,7,7,7,7,7,7,7,7,7,7,7,7,7,7,7,7,7,7,7,7,7,7,7,7,7,7,8,8,8,8,8,8,8,8,8,8,8,8,8,8,8,8,8,8,8,8,8,8,8,8,8,8,8,8,8,8,8,8,8,8,8,8,8,8,8,8,8,8,8,8,8,8,8,8,8,8,8,8,8,8,8,8,8,8,8,8,8,8,8,8,8,8,8,8,8,8,8,8,8,8,8,8,8,8,8,8,8,8,8,8,8,8,8,8,8,8,8,8,8,8,8,8,8,8,8,8,8,8,8,8,8,8,8,8,8,8,8,8,8,8,8,8,8,8,8,8,8,8,8,8,8,8,8,8]) (Int.toNat (IntKind.u8.wrap y3.1))):Nat):Int))))) else none)
def Ue (y2:Int×Int):Option Int:=(if (decide (y2.1≥256)) then (Uk ((kshr .u64 y2.1 8),(w64 (y2.2+8)))) else (Uk (y2.1,y2.2)))
def Um (y1:Int×Int):Option Int:=(if (decide (y1.1≥65536)) then (Ue ((kshr .u64 y1.1 16),(w64 (y1.2+16)))) else (Ue (y1.1,y1.2)))
def Acl (p0:Int):Option Int:=(if (decide (p0≥4294967296)) then (Um ((kshr .u64 p0 32),32)) else (Um (p0,0)))
def Acr (p0:Int):Option Int:=(Option.bind (Acl p0) fun r1=>(some r1))
def Ln (p0:Int):Option Bool:=(some (p0 != p0))
def Nu (y1:Bool):Option Bool:=(some y1)
def De (p0:Int) (p1:Int):Option Bool:=(Option.bind (Ln p0) fun r1=>(if r1 then (Option.bind (Ln p1) fun r3=>(if (!r3) then (Nu true) else (Nu (decide (p0<p1))))) else (Nu (decide (p0<p1)))))
def Dz (n1:(List Int)→Option (List Int)) (s4:(List Int)×Int) (n4:((List Int)×Int)→Option (List Int)) (y6:Bool):Option (List Int):=(if y6 then (if 0≤(w64 (s4.2-1))∧(w64 (s4.2-1))<((s4.1.length:Nat):Int) then (if (Int.toNat (w64 (s4.2-1)))<s4.1.length then (if 0≤s4.2∧s4.2<((s4.1.length:Nat):Int) then (if (Int.toNat s4.2)<s4.1.length then (if 0≤s4.2∧s4.2<((s4.1.length:Nat):Int) then (if (Int.toNat s4.2)<s4.1.length then (if 0≤(w64 (s4.2-1))∧(w64 (s4.2-1))<((s4.1.length:Nat):Int) then (if (Int.toNat (w64 (s4.2-1)))<s4.1.length then (n4 (((s4.1.set (Int.toNat s4.2) (s4.1.getD (Int.toNat (w64 (s4.2-1))) 0)).set (Int.toNat (w64 (s4.2-1))) (s4.1.getD (Int.toNat s4.2) 0)),(w64 (s4.2-1)))) else none) else none) else none) else none) else none) else none) else none) else none) else (n1 s4.1))
def Kp (p1:Int) (n1:(List Int)→Option (List Int)) (s4:(List Int)×Int) (n4:((List Int)×Int)→Option (List Int)):Option (List Int):=(if (decide (s4.2>p1)) then (if 0≤s4.2∧s4.2<((s4.1.length:Nat):Int) then (if (Int.toNat s4.2)<s4.1.length then (if 0≤(w64 (s4.2-1))∧(w64 (s4.2-1))<((s4.1.length:Nat):Int) then (if (Int.toNat (w64 (s4.2-1)))<s4.1.length then (Option.bind (De (s4.1.getD (Int.toNat s4.2) 0) (s4.1.getD (Int.toNat (w64 (s4.2-1))) 0)) fun r96=>((Dz n1 s4 n4) r96)) else none) else none) else none) else none) else ((Dz n1 s4 n4) false))
def Kq (p1:Int) (k1:Int) (s1:List Int) (n1:(List Int)→Option (List Int)):Option (List Int):=(whileO (Kp p1 n1) Hq (s1,k1))
def Kt (s1:List Int):Option (List Int):=(some s1)
def Ha (p0:List Int) (p1:Int) (p2:Int):Option (List Int):=(if -9223372036854775808≤(w64 (p1+1))∧p2≤9223372036854775807 then (forO (Kq p1) Kt (Int.toNat (p2-(w64 (p1+1)))) (w64 (p1+1)) p0) else none)
def Fm (p3:Int) (s1:(List Int)×Int) (n1:((List Int)×Int)→Option (List Int)) (y4:Int):Option (List Int):=(if 0≤(w64 (p3+s1.2))∧(w64 (p3+s1.2))<((s1.1.length:Nat):Int) then (if (Int.toNat (w64 (p3+s1.2)))<s1.1.length then (if 0≤(w64 (p3+y4))∧(w64 (p3+y4))<((s1.1.length:Nat):Int) then (if (Int.toNat (w64 (p3+y4)))<s1.1.length then (Option.bind (De (s1.1.getD (Int.toNat (w64 (p3+s1.2))) 0) (s1.1.getD (Int.toNat (w64 (p3+y4))) 0)) fun r35=>(if (!r35) then (some s1.1) else (if 0≤(w64 (p3+y4))∧(w64 (p3+y4))<((s1.1.length:Nat):Int) then (if (Int.toNat (w64 (p3+y4)))<s1.1.length then (if 0≤(w64 (p3+s1.2))∧(w64 (p3+s1.2))<((s1.1.length:Nat):Int) then (if (Int.toNat (w64 (p3+s1.2)))<s1.1.length then (if 0≤(w64 (p3+s1.2))∧(w64 (p3+s1.2))<((s1.1.length:Nat):Int) then (if (Int.toNat (w64 (p3+s1.2)))<s1.1.length then (if 0≤(w64 (p3+y4))∧(w64 (p3+y4))<((s1.1.length:Nat):Int) then (if (Int.toNat (w64 (p3+y4)))<s1.1.length then (n1 (((s1.1.set (Int.toNat (w64 (p3+s1.2))) (s1.1.getD (Int.toNat (w64 (p3+y4))) 0)).set (Int.toNat (w64 (p3+y4))) (s1.1.getD (Int.toNat (w64 (p3+s1.2))) 0)),y4)) else none) else none) else none) else none) else none) else none) else none) else none))) else none) else none) else none) else none)
def Fj (p3:Int) (s1:(List Int)×Int) (n1:((List Int)×Int)→Option (List Int)) (y3:Bool):Option (List Int):=(if y3 then ((Fm p3 s1 n1) (w64 ((w64 ((w64 (2*s1.2))+1))+1))) else ((Fm p3 s1 n1) (w64 ((w64 (2*s1.2))+1))))
def Nl (p2:Int) (p3:Int) (s1:(List Int)×Int) (n1:((List Int)×Int)→Option (List Int)):Option (List Int):=(if (decide ((w64 ((w64 (2*s1.2))+1))≥p2)) then (some s1.1) else (if (decide ((w64 ((w64 ((w64 (2*s1.2))+1))+1))<p2)) then (if 0≤(w64 (p3+(w64 ((w64 (2*s1.2))+1))))∧(w64 (p3+(w64 ((w64 (2*s1.2))+1))))<((s1.1.length:Nat):Int) then (if (Int.toNat (w64 (p3+(w64 ((w64 (2*s1.2))+1)))))<s1.1.length then (if 0≤(w64 ((w64 (p3+(w64 ((w64 (2*s1.2))+1))))+1))∧(w64 ((w64 (p3+(w64 ((w64 (2*s1.2))+1))))+1))<((s1.1.length:Nat):Int) then (if (Int.toNat (w64 ((w64 (p3+(w64 ((w64 (2*s1.2))+1))))+1)))<s1.1.length then (Option.bind (De (s1.1.getD (Int.toNat (w64 (p3+(w64 ((w64 (2*s1.2))+1))))) 0) (s1.1.getD (Int.toNat (w64 ((w64 (p3+(w64 ((w64 (2*s1.2))+1))))+1))) 0)) fun r29=>((Fj p3 s1 n1) r29)) else none) else none) else none) else none) else ((Fj p3 s1 n1) false)))
def Gj (p0:List Int) (p1:Int) (p2:Int) (p3:Int):Option (List Int):=(whileO (Nl p2 p3) Hq (p0,p1))
def Np (p1:Int) (s3:(List Int)×Int) (n3:((List Int)×Int)→Option (List Int)):Option (List Int):=(if (decide (s3.2≥0)) then (if 0≤(w64 (p1+s3.2))∧(w64 (p1+s3.2))<((s3.1.length:Nat):Int) then (if (Int.toNat (w64 (p1+s3.2)))<s3.1.length then (if 0≤p1∧p1<((s3.1.length:Nat):Int) then (if (Int.toNat p1)<s3.1.length then (if 0≤p1∧p1<((s3.1.length:Nat):Int) then (if (Int.toNat p1)<s3.1.length then (if 0≤(w64 (p1+s3.2))∧(w64 (p1+s3.2))<((s3.1.length:Nat):Int) then (if (Int.toNat (w64 (p1+s3.2)))<s3.1.length then (Option.bind (Gj ((s3.1.set (Int.toNat p1) (s3.1.getD (Int.toNat (w64 (p1+s3.2))) 0)).set (Int.toNat (w64 (p1+s3.2))) (s3.1.getD (Int.toNat p1) 0)) 0 s3.2 p1) fun r49=>(if ((s3.1.set (Int.toNat p1) (s3.1.getD (Int.toNat (w64 (p1+s3.2))) 0)).set (Int.toNat (w64 (p1+s3.2))) (s3.1.getD (Int.toNat p1) 0)).length=r49.length then (n3 (r49,(w64 (s3.2-1)))) else none)) else none) else none) else none) else none) else none) else none) else none) else none) else (some s3.1))
def Nv (p1:Int) (p2:Int) (s1:(List Int)×Int) (n1:((List Int)×Int)→Option (List Int)):Option (List Int):=(if (decide (s1.2≥0)) then (Option.bind (Gj s1.1 s1.2 (w64 (p2-p1)) p1) fun r27=>(if s1.1.length=r27.length then (n1 (r27,(w64 (s1.2-1)))) else none)) else (whileO (Np p1) Hq (s1.1,(w64 ((w64 (p2-p1))-1)))))
def Js (p0:List Int) (p1:Int) (p2:Int):Option (List Int):=(whileO (Nv p1 p2) Hq (p0,(w64 (Int.tdiv (w64 ((w64 (p2-p1))-1)) 2))))
def Fe (p0:List Int) (p1:Int) (p2:Int) (p3:Int):Option (Int×Int×Int):=(if 0≤p2∧p2<((p0.length:Nat):Int) then (if 0≤p1∧p1<((p0.length:Nat):Int) then (Option.bind (De (p0.getD (Int.toNat p2) 0) (p0.getD (Int.toNat p1) 0)) fun r3=>(if r3 then (some (p2,p1,(w64 (p3+1)))) else (some (p1,p2,p3)))) else none) else none)
def Hs (p0:List Int) (p1:Int) (p2:Int) (p3:Int) (p4:Int):Option (Int×Int):=(Option.bind (Fe p0 p1 p2 p4) fun r1=>(Option.bind (Fe p0 r1.2.1 p3 r1.2.2) fun r2=>(Option.bind (Fe p0 r1.1 r2.1 r2.2.2) fun r3=>(some (r3.2.1,r3.2.2)))))
def Di (p0:List Int) (p1:Int) (p2:Int):Option (Int×Int):=(Option.bind (Hs p0 (w64 (p1-1)) p1 (w64 (p1+1)) p2) fun r1=>(some (r1.1,r1.2)))
def Ec (y1:Int×Int):Option (Int×Int):=(if (y1.1==0) then (some (y1.2,1)) else (if (y1.1==12) then (some (y1.2,2)) else (some (y1.2,0))))
def Ed (p0:List Int) (y2:Int×Int×Int×Int):Option (Int×Int):=(Option.bind (Hs p0 y2.2.1 y2.2.2.1 y2.2.2.2 y2.1) fun r6=>(Ec (r6.2,r6.1)))
def Ie (p0:List Int) (p1:Int) (p2:Int):Option (Int×Int):=(if (decide ((w64 (p2-p1))≥8)) then (if (decide ((w64 (p2-p1))≥50)) then (Option.bind (Di p0 (w64 (p1+(w64 ((w64 (Int.tdiv (w64 (p2-p1)) 4))*1)))) 0) fun r3=>(Option.bind (Di p0 (w64 (p1+(w64 ((w64 (Int.tdiv (w64 (p2-p1)) 4))*2)))) r3.2) fun r4=>(Option.bind (Di p0 (w64 (p1+(w64 ((w64 (Int.tdiv (w64 (p2-p1)) 4))*3)))) r4.2) fun r5=>((Ed p0) (r5.2,r3.1,r4.1,r5.1))))) else ((Ed p0) (0,(w64 (p1+(w64 ((w64 (Int.tdiv (w64 (p2-p1)) 4))*1)))),(w64 (p1+(w64 ((w64 (Int.tdiv (w64 (p2-p1)) 4))*2)))),(w64 (p1+(w64 ((w64 (Int.tdiv (w64 (p2-p1)) 4))*3))))))) else (Ec (0,(w64 (p1+(w64 ((w64 (Int.tdiv (w64 (p2-p1)) 4))*2)))))))
def Ld (s1:(List Int)×Int×Int) (n1:((List Int)×Int×Int)→Option (List Int)):Option (List Int):=(if (decide (s1.2.1<s1.2.2)) then (if 0≤s1.2.2∧s1.2.2<((s1.1.length:Nat):Int) then (if (Int.toNat s1.2.2)<s1.1.length then (if 0≤s1.2.1∧s1.2.1<((s1.1.length:Nat):Int) then (if (Int.toNat s1.2.1)<s1.1.length then (if 0≤s1.2.1∧s1.2.1<((s1.1.length:Nat):Int) then (if (Int.toNat s1.2.1)<s1.1.length then (if 0≤s1.2.2∧s1.2.2<((s1.1.length:Nat):Int) then (if (Int.toNat s1.2.2)<s1.1.length then (n1 (((s1.1.set (Int.toNat s1.2.1) (s1.1.getD (Int.toNat s1.2.2) 0)).set (Int.toNat s1.2.2) (s1.1.getD (Int.toNat s1.2.1) 0)),(w64 (s1.2.1+1)),(w64 (s1.2.2-1)))) else none) else none) else none) else none) else none) else none) else none) else none) else (some s1.1))
def Hl (p0:List Int) (p1:Int) (p2:Int):Option (List Int):=(whileO Ld Hq (p0,p1,(w64 (p2-1))))
def Cm (n1:((List Int)×Int)→Option (Bool×(List Int))) (y11:(List Int)×Int):Option (Bool×(List Int)):=(n1 (y11.1,y11.2))
def Hf (n1:((List Int)×Int)→Option (Bool×(List Int))) (s12:Int) (k16:Int) (s16:List Int) (n16:(List Int)→Option (Bool×(List Int))):Option (Bool×(List Int)):=(if 0≤k16∧k16<((s16.length:Nat):Int) then (if (Int.toNat k16)<s16.length then (if 0≤(w64 (k16-1))∧(w64 (k16-1))<((s16.length:Nat):Int) then (if (Int.toNat (w64 (k16-1)))<s16.length then (Option.bind (De (s16.getD (Int.toNat k16) 0) (s16.getD (Int.toNat (w64 (k16-1))) 0)) fun r570=>(if (!r570) then ((Cm n1) (s16,s12)) else (if 0≤(w64 (k16-1))∧(w64 (k16-1))<((s16.length:Nat):Int) then (if (Int.toNat (w64 (k16-1)))<s16.length then (if 0≤k16∧k16<((s16.length:Nat):Int) then (if (Int.toNat k16)<s16.length then (if 0≤k16∧k16<((s16.length:Nat):Int) then (if (Int.toNat k16)<s16.length then (if 0≤(w64 (k16-1))∧(w64 (k16-1))<((s16.length:Nat):Int) then (if (Int.toNat (w64 (k16-1)))<s16.length then (n16 ((s16.set (Int.toNat k16) (s16.getD (Int.toNat (w64 (k16-1))) 0)).set (Int.toNat (w64 (k16-1))) (s16.getD (Int.toNat k16) 0))) else none) else none) else none) else none) else none) else none) else none) else none))) else none) else none) else none) else none)
def Hd (n1:((List Int)×Int)→Option (Bool×(List Int))) (s12:Int) (s16:List Int):Option (Bool×(List Int)):=((Cm n1) (s16,s12))
def Cl (p2:Int) (n1:((List Int)×Int)→Option (Bool×(List Int))) (s12:Int) (y15:List Int):Option (Bool×(List Int)):=(if (decide ((w64 (p2-s12))≥2)) then (if -9223372036854775808≤(w64 (s12+1))∧p2≤9223372036854775807 then (forO (Hf n1 s12) (Hd n1 s12) (Int.toNat (p2-(w64 (s12+1)))) (w64 (s12+1)) y15) else none) else ((Cm n1) (y15,s12)))
def He (p2:Int) (n1:((List Int)×Int)→Option (Bool×(List Int))) (s12:Int) (s15:(List Int)×Int) (n15:((List Int)×Int)→Option (Bool×(List Int))):Option (Bool×(List Int)):=(if (decide (s15.2≥1)) then (if 0≤s15.2∧s15.2<((s15.1.length:Nat):Int) then (if (Int.toNat s15.2)<s15.1.length then (if 0≤(w64 (s15.2-1))∧(w64 (s15.2-1))<((s15.1.length:Nat):Int) then (if (Int.toNat (w64 (s15.2-1)))<s15.1.length then (Option.bind (De (s15.1.getD (Int.toNat s15.2) 0) (s15.1.getD (Int.toNat (w64 (s15.2-1))) 0)) fun r524=>(if (!r524) then ((Cl p2 n1 s12) s15.1) else (if 0≤(w64 (s15.2-1))∧(w64 (s15.2-1))<((s15.1.length:Nat):Int) then (if (Int.toNat (w64 (s15.2-1)))<s15.1.length then (if 0≤s15.2∧s15.2<((s15.1.length:Nat):Int) then (if (Int.toNat s15.2)<s15.1.length then (if 0≤s15.2∧s15.2<((s15.1.length:Nat):Int) then (if (Int.toNat s15.2)<s15.1.length then (if 0≤(w64 (s15.2-1))∧(w64 (s15.2-1))<((s15.1.length:Nat):Int) then (if (Int.toNat (w64 (s15.2-1)))<s15.1.length then (n15 (((s15.1.set (Int.toNat s15.2) (s15.1.getD (Int.toNat (w64 (s15.2-1))) 0)).set (Int.toNat (w64 (s15.2-1))) (s15.1.getD (Int.toNat s15.2) 0)),(w64 (s15.2-1)))) else none) else none) else none) else none) else none) else none) else none) else none))) else none) else none) else none) else none) else ((Cl p2 n1 s12) s15.1))
def Dd (p1:Int) (p2:Int) (s1:(List Int)×Int) (n1:((List Int)×Int)→Option (Bool×(List Int))) (s12:Int) (n12:Int→Option (Bool×(List Int))) (y14:Bool):Option (Bool×(List Int)):=(if y14 then (n12 (w64 (s12+1))) else (if (s12==p2) then (some (true,s1.1)) else (if (decide ((w64 (p2-p1))<50)) then (some (false,s1.1)) else (if 0≤(w64 (s12-1))∧(w64 (s12-1))<((s1.1.length:Nat):Int) then (if (Int.toNat (w64 (s12-1)))<s1.1.length then (if 0≤s12∧s12<((s1.1.length:Nat):Int) then (if (Int.toNat s12)<s1.1.length then (if 0≤s12∧s12<((s1.1.length:Nat):Int) then (if (Int.toNat s12)<s1.1.length then (if 0≤(w64 (s12-1))∧(w64 (s12-1))<((s1.1.length:Nat):Int) then (if (Int.toNat (w64 (s12-1)))<s1.1.length then (if (decide ((w64 (s12-p1))≥2)) then (whileO (He p2 n1 s12) Hq (((s1.1.set (Int.toNat s12) (s1.1.getD (Int.toNat (w64 (s12-1))) 0)).set (Int.toNat (w64 (s12-1))) (s1.1.getD (Int.toNat s12) 0)),(w64 (s12-1)))) else ((Cl p2 n1 s12) ((s1.1.set (Int.toNat s12) (s1.1.getD (Int.toNat (w64 (s12-1))) 0)).set (Int.toNat (w64 (s12-1))) (s1.1.getD (Int.toNat s12) 0)))) else none) else none) else none) else none) else none) else none) else none) else none))))
def Hc (p1:Int) (p2:Int) (s1:(List Int)×Int) (n1:((List Int)×Int)→Option (Bool×(List Int))) (s12:Int) (n12:Int→Option (Bool×(List Int))):Option (Bool×(List Int)):=(if (decide (s12<p2)) then (if 0≤s12∧s12<((s1.1.length:Nat):Int) then (if (Int.toNat s12)<s1.1.length then (if 0≤(w64 (s12-1))∧(w64 (s12-1))<((s1.1.length:Nat):Int) then (if (Int.toNat (w64 (s12-1)))<s1.1.length then (Option.bind (De (s1.1.getD (Int.toNat s12) 0) (s1.1.getD (Int.toNat (w64 (s12-1))) 0)) fun r491=>((Dd p1 p2 s1 n1 s12 n12) (!r491))) else none) else none) else none) else none) else ((Dd p1 p2 s1 n1 s12 n12) false))
def Hu (p1:Int) (p2:Int) (k1:Int) (s1:(List Int)×Int) (n1:((List Int)×Int)→Option (Bool×(List Int))):Option (Bool×(List Int)):=(whileO (Hc p1 p2 s1 n1) Hq s1.2)
def Hr (s1:(List Int)×Int):Option (Bool×(List Int)):=(some (false,s1.1))
def Ej (p0:List Int) (p1:Int) (p2:Int):Option (Bool×(List Int)):=(forO (Hu p1 p2) Hr (Int.toNat (5-0)) 0 (p0,(w64 (p1+1))))
def Dq (s1:(List Int)×Int×Int) (n1:((List Int)×Int×Int)→Option (Int×(List Int))) (s5:Int) (s7:Int) (n7:Int→Option (Int×(List Int))) (y12:Bool):Option (Int×(List Int)):=(if y12 then (n7 (w64 (s7-1))) else (if (decide (s5>s7)) then (some (s5,s1.1)) else (if 0≤s7∧s7<((s1.1.length:Nat):Int) then (if (Int.toNat s7)<s1.1.length then (if 0≤s5∧s5<((s1.1.length:Nat):Int) then (if (Int.toNat s5)<s1.1.length then (if 0≤s5∧s5<((s1.1.length:Nat):Int) then (if (Int.toNat s5)<s1.1.length then (if 0≤s7∧s7<((s1.1.length:Nat):Int) then (if (Int.toNat s7)<s1.1.length then (n1 (((s1.1.set (Int.toNat s5) (s1.1.getD (Int.toNat s7) 0)).set (Int.toNat s7) (s1.1.getD (Int.toNat s5) 0)),(w64 (s7-1)),(w64 (s5+1)))) else none) else none) else none) else none) else none) else none) else none) else none)))
def Jx (p1:Int) (s1:(List Int)×Int×Int) (n1:((List Int)×Int×Int)→Option (Int×(List Int))) (s5:Int) (s7:Int) (n7:Int→Option (Int×(List Int))):Option (Int×(List Int)):=(if (decide (s5≤s7)) then (if 0≤p1∧p1<((s1.1.length:Nat):Int) then (if (Int.toNat p1)<s1.1.length then (if 0≤s7∧s7<((s1.1.length:Nat):Int) then (if (Int.toNat s7)<s1.1.length then (Option.bind (De (s1.1.getD (Int.toNat p1) 0) (s1.1.getD (Int.toNat s7) 0)) fun r178=>((Dq s1 n1 s5 s7 n7) r178)) else none) else none) else none) else none) else ((Dq s1 n1 s5 s7 n7) false))
def Dr (p1:Int) (s1:(List Int)×Int×Int) (n1:((List Int)×Int×Int)→Option (Int×(List Int))) (s5:Int) (n5:Int→Option (Int×(List Int))) (y10:Bool):Option (Int×(List Int)):=(if y10 then (n5 (w64 (s5+1))) else (whileO (Jx p1 s1 n1 s5) Hq s1.2.1))
def Kc (p1:Int) (s1:(List Int)×Int×Int) (n1:((List Int)×Int×Int)→Option (Int×(List Int))) (s5:Int) (n5:Int→Option (Int×(List Int))):Option (Int×(List Int)):=(if (decide (s5≤s1.2.1)) then (if 0≤p1∧p1<((s1.1.length:Nat):Int) then (if (Int.toNat p1)<s1.1.length then (if 0≤s5∧s5<((s1.1.length:Nat):Int) then (if (Int.toNat s5)<s1.1.length then (Option.bind (De (s1.1.getD (Int.toNat p1) 0) (s1.1.getD (Int.toNat s5) 0)) fun r155=>((Dr p1 s1 n1 s5 n5) (!r155))) else none) else none) else none) else none) else ((Dr p1 s1 n1 s5 n5) false))
def Jy (p1:Int) (s1:(List Int)×Int×Int) (n1:((List Int)×Int×Int)→Option (Int×(List Int))):Option (Int×(List Int)):=(whileO (Kc p1 s1 n1) Hq s1.2.2)
def Gl (p0:List Int) (p1:Int) (p2:Int) (p3:Int):Option (Int×(List Int)):=(if 0≤p3∧p3<((p0.length:Nat):Int) then (if (Int.toNat p3)<p0.length then (if 0≤p1∧p1<((p0.length:Nat):Int) then (if (Int.toNat p1)<p0.length then (if 0≤p1∧p1<((p0.length:Nat):Int) then (if (Int.toNat p1)<p0.length then (if 0≤p3∧p3<((p0.length:Nat):Int) then (if (Int.toNat p3)<p0.length then (whileO (Jy p1) Hq (((p0.set (Int.toNat p1) (p0.getD (Int.toNat p3) 0)).set (Int.toNat p3) (p0.getD (Int.toNat p1) 0)),(w64 (p2-1)),(w64 (p1+1)))) else none) else none) else none) else none) else none) else none) else none) else none)
def Eo (p1:Int) (s25:(List Int)×Int×Int) (n25:((List Int)×Int×Int)→Option (Int×Bool×(List Int))) (s29:Int) (s31:Int) (n31:Int→Option (Int×Bool×(List Int))) (y54:Bool):Option (Int×Bool×(List Int)):=(if y54 then (n31 (w64 (s31-1))) else (if (decide (s29>s31)) then (if 0≤p1∧p1<((s25.1.length:Nat):Int) then (if (Int.toNat p1)<s25.1.length then (if 0≤s31∧s31<((s25.1.length:Nat):Int) then (if (Int.toNat s31)<s25.1.length then (if 0≤s31∧s31<((s25.1.length:Nat):Int) then (if (Int.toNat s31)<s25.1.length then (if 0≤p1∧p1<((s25.1.length:Nat):Int) then (if (Int.toNat p1)<s25.1.length then (some (s31,false,((s25.1.set (Int.toNat s31) (s25.1.getD (Int.toNat p1) 0)).set (Int.toNat p1) (s25.1.getD (Int.toNat s31) 0)))) else none) else none) else none) else none) else none) else none) else none) else none) else (if 0≤s31∧s31<((s25.1.length:Nat):Int) then (if (Int.toNat s31)<s25.1.length then (if 0≤s29∧s29<((s25.1.length:Nat):Int) then (if (Int.toNat s29)<s25.1.length then (if 0≤s29∧s29<((s25.1.length:Nat):Int) then (if (Int.toNat s29)<s25.1.length then (if 0≤s31∧s31<((s25.1.length:Nat):Int) then (if (Int.toNat s31)<s25.1.length then (n25 (((s25.1.set (Int.toNat s29) (s25.1.getD (Int.toNat s31) 0)).set (Int.toNat s31) (s25.1.getD (Int.toNat s29) 0)),(w64 (s29+1)),(w64 (s31-1)))) else none) else none) else none) else none) else none) else none) else none) else none)))
def Ly (p1:Int) (s25:(List Int)×Int×Int) (n25:((List Int)×Int×Int)→Option (Int×Bool×(List Int))) (s29:Int) (s31:Int) (n31:Int→Option (Int×Bool×(List Int))):Option (Int×Bool×(List Int)):=(if (decide (s29≤s31)) then (if 0≤s31∧s31<((s25.1.length:Nat):Int) then (if (Int.toNat s31)<s25.1.length then (if 0≤p1∧p1<((s25.1.length:Nat):Int) then (if (Int.toNat p1)<s25.1.length then (Option.bind (De (s25.1.getD (Int.toNat s31) 0) (s25.1.getD (Int.toNat p1) 0)) fun r1118=>((Eo p1 s25 n25 s29 s31 n31) (!r1118))) else none) else none) else none) else none) else ((Eo p1 s25 n25 s29 s31 n31) false))
def Em (p1:Int) (s25:(List Int)×Int×Int) (n25:((List Int)×Int×Int)→Option (Int×Bool×(List Int))) (s29:Int) (n29:Int→Option (Int×Bool×(List Int))) (y52:Bool):Option (Int×Bool×(List Int)):=(if y52 then (n29 (w64 (s29+1))) else (whileO (Ly p1 s25 n25 s29) Hq s25.2.2))
def Lw (p1:Int) (s25:(List Int)×Int×Int) (n25:((List Int)×Int×Int)→Option (Int×Bool×(List Int))) (s29:Int) (n29:Int→Option (Int×Bool×(List Int))):Option (Int×Bool×(List Int)):=(if (decide (s29≤s25.2.2)) then (if 0≤s29∧s29<((s25.1.length:Nat):Int) then (if (Int.toNat s29)<s25.1.length then (if 0≤p1∧p1<((s25.1.length:Nat):Int) then (if (Int.toNat p1)<s25.1.length then (Option.bind (De (s25.1.getD (Int.toNat s29) 0) (s25.1.getD (Int.toNat p1) 0)) fun r1087=>((Em p1 s25 n25 s29 n29) r1087)) else none) else none) else none) else none) else ((Em p1 s25 n25 s29 n29) false))
def Mc (p1:Int) (s25:(List Int)×Int×Int) (n25:((List Int)×Int×Int)→Option (Int×Bool×(List Int))):Option (Int×Bool×(List Int)):=(whileO (Lw p1 s25 n25) Hq s25.2.1)
def En (p0:List Int) (p1:Int) (p3:Int) (s1:Int) (s17:Int) (n17:Int→Option (Int×Bool×(List Int))) (y42:Bool):Option (Int×Bool×(List Int)):=(if y42 then (n17 (w64 (s17-1))) else (if (decide (s1>s17)) then (if 0≤p1∧p1<((((p0.set (Int.toNat p1) (p0.getD (Int.toNat p3) 0)).set (Int.toNat p3) (p0.getD (Int.toNat p1) 0)).length:Nat):Int) then (if (Int.toNat p1)<((p0.set (Int.toNat p1) (p0.getD (Int.toNat p3) 0)).set (Int.toNat p3) (p0.getD (Int.toNat p1) 0)).length then (if 0≤s17∧s17<((((p0.set (Int.toNat p1) (p0.getD (Int.toNat p3) 0)).set (Int.toNat p3) (p0.getD (Int.toNat p1) 0)).length:Nat):Int) then (if (Int.toNat s17)<((p0.set (Int.toNat p1) (p0.getD (Int.toNat p3) 0)).set (Int.toNat p3) (p0.getD (Int.toNat p1) 0)).length then (if 0≤s17∧s17<((((p0.set (Int.toNat p1) (p0.getD (Int.toNat p3) 0)).set (Int.toNat p3) (p0.getD (Int.toNat p1) 0)).length:Nat):Int) then (if (Int.toNat s17)<((p0.set (Int.toNat p1) (p0.getD (Int.toNat p3) 0)).set (Int.toNat p3) (p0.getD (Int.toNat p1) 0)).length then (if 0≤p1∧p1<((((p0.set (Int.toNat p1) (p0.getD (Int.toNat p3) 0)).set (Int.toNat p3) (p0.getD (Int.toNat p1) 0)).length:Nat):Int) then (if (Int.toNat p1)<((p0.set (Int.toNat p1) (p0.getD (Int.toNat p3) 0)).set (Int.toNat p3) (p0.getD (Int.toNat p1) 0)).length then (some (s17,true,((((p0.set (Int.toNat p1) (p0.getD (Int.toNat p3) 0)).set (Int.toNat p3) (p0.getD (Int.toNat p1) 0)).set (Int.toNat s17) (((p0.set (Int.toNat p1) (p0.getD (Int.toNat p3) 0)).set (Int.toNat p3) (p0.getD (Int.toNat p1) 0)).getD (Int.toNat p1) 0)).set (Int.toNat p1) (((p0.set (Int.toNat p1) (p0.getD (Int.toNat p3) 0)).set (Int.toNat p3) (p0.getD (Int.toNat p1) 0)).getD (Int.toNat s17) 0)))) else none) else none) else none) else none) else none) else none) else none) else none) else (if 0≤s17∧s17<((((p0.set (Int.toNat p1) (p0.getD (Int.toNat p3) 0)).set (Int.toNat p3) (p0.getD (Int.toNat p1) 0)).length:Nat):Int) then (if (Int.toNat s17)<((p0.set (Int.toNat p1) (p0.getD (Int.toNat p3) 0)).set (Int.toNat p3) (p0.getD (Int.toNat p1) 0)).length then (if 0≤s1∧s1<((((p0.set (Int.toNat p1) (p0.getD (Int.toNat p3) 0)).set (Int.toNat p3) (p0.getD (Int.toNat p1) 0)).length:Nat):Int) then (if (Int.toNat s1)<((p0.set (Int.toNat p1) (p0.getD (Int.toNat p3) 0)).set (Int.toNat p3) (p0.getD (Int.toNat p1) 0)).length then (if 0≤s1∧s1<((((p0.set (Int.toNat p1) (p0.getD (Int.toNat p3) 0)).set (Int.toNat p3) (p0.getD (Int.toNat p1) 0)).length:Nat):Int) then (if (Int.toNat s1)<((p0.set (Int.toNat p1) (p0.getD (Int.toNat p3) 0)).set (Int.toNat p3) (p0.getD (Int.toNat p1) 0)).length then (if 0≤s17∧s17<((((p0.set (Int.toNat p1) (p0.getD (Int.toNat p3) 0)).set (Int.toNat p3) (p0.getD (Int.toNat p1) 0)).length:Nat):Int) then (if (Int.toNat s17)<((p0.set (Int.toNat p1) (p0.getD (Int.toNat p3) 0)).set (Int.toNat p3) (p0.getD (Int.toNat p1) 0)).length then (whileO (Mc p1) Hq (((((p0.set (Int.toNat p1) (p0.getD (Int.toNat p3) 0)).set (Int.toNat p3) (p0.getD (Int.toNat p1) 0)).set (Int.toNat s1) (((p0.set (Int.toNat p1) (p0.getD (Int.toNat p3) 0)).set (Int.toNat p3) (p0.getD (Int.toNat p1) 0)).getD (Int.toNat s17) 0)).set (Int.toNat s17) (((p0.set (Int.toNat p1) (p0.getD (Int.toNat p3) 0)).set (Int.toNat p3) (p0.getD (Int.toNat p1) 0)).getD (Int.toNat s1) 0)),(w64 (s1+1)),(w64 (s17-1)))) else none) else none) else none) else none) else none) else none) else none) else none)))
def Md (p0:List Int) (p1:Int) (p3:Int) (s1:Int) (s17:Int) (n17:Int→Option (Int×Bool×(List Int))):Option (Int×Bool×(List Int)):=(if (decide (s1≤s17)) then (if 0≤s17∧s17<((((p0.set (Int.toNat p1) (p0.getD (Int.toNat p3) 0)).set (Int.toNat p3) (p0.getD (Int.toNat p1) 0)).length:Nat):Int) then (if (Int.toNat s17)<((p0.set (Int.toNat p1) (p0.getD (Int.toNat p3) 0)).set (Int.toNat p3) (p0.getD (Int.toNat p1) 0)).length then (if 0≤p1∧p1<((((p0.set (Int.toNat p1) (p0.getD (Int.toNat p3) 0)).set (Int.toNat p3) (p0.getD (Int.toNat p1) 0)).length:Nat):Int) then (if (Int.toNat p1)<((p0.set (Int.toNat p1) (p0.getD (Int.toNat p3) 0)).set (Int.toNat p3) (p0.getD (Int.toNat p1) 0)).length then (Option.bind (De (((p0.set (Int.toNat p1) (p0.getD (Int.toNat p3) 0)).set (Int.toNat p3) (p0.getD (Int.toNat p1) 0)).getD (Int.toNat s17) 0) (((p0.set (Int.toNat p1) (p0.getD (Int.toNat p3) 0)).set (Int.toNat p3) (p0.getD (Int.toNat p1) 0)).getD (Int.toNat p1) 0)) fun r874=>((En p0 p1 p3 s1 s17 n17) (!r874))) else none) else none) else none) else none) else ((En p0 p1 p3 s1 s17 n17) false))
def Er (p0:List Int) (p1:Int) (p2:Int) (p3:Int) (s1:Int) (n1:Int→Option (Int×Bool×(List Int))) (y28:Bool):Option (Int×Bool×(List Int)):=(if y28 then (n1 (w64 (s1+1))) else (whileO (Md p0 p1 p3 s1) Hq (w64 (p2-1))))
def Na (p0:List Int) (p1:Int) (p2:Int) (p3:Int) (s1:Int) (n1:Int→Option (Int×Bool×(List Int))):Option (Int×Bool×(List Int)):=(if (decide (s1≤(w64 (p2-1)))) then (if 0≤s1∧s1<((((p0.set (Int.toNat p1) (p0.getD (Int.toNat p3) 0)).set (Int.toNat p3) (p0.getD (Int.toNat p1) 0)).length:Nat):Int) then (if (Int.toNat s1)<((p0.set (Int.toNat p1) (p0.getD (Int.toNat p3) 0)).set (Int.toNat p3) (p0.getD (Int.toNat p1) 0)).length then (if 0≤p1∧p1<((((p0.set (Int.toNat p1) (p0.getD (Int.toNat p3) 0)).set (Int.toNat p3) (p0.getD (Int.toNat p1) 0)).length:Nat):Int) then (if (Int.toNat p1)<((p0.set (Int.toNat p1) (p0.getD (Int.toNat p3) 0)).set (Int.toNat p3) (p0.getD (Int.toNat p1) 0)).length then (Option.bind (De (((p0.set (Int.toNat p1) (p0.getD (Int.toNat p3) 0)).set (Int.toNat p3) (p0.getD (Int.toNat p1) 0)).getD (Int.toNat s1) 0) (((p0.set (Int.toNat p1) (p0.getD (Int.toNat p3) 0)).set (Int.toNat p3) (p0.getD (Int.toNat p1) 0)).getD (Int.toNat p1) 0)) fun r587=>((Er p0 p1 p2 p3 s1 n1) r587)) else none) else none) else none) else none) else ((Er p0 p1 p2 p3 s1 n1) false))
def Jb (p0:List Int) (p1:Int) (p2:Int) (p3:Int):Option (Int×Bool×(List Int)):=(if 0≤p3∧p3<((p0.length:Nat):Int) then (if (Int.toNat p3)<p0.length then (if 0≤p1∧p1<((p0.length:Nat):Int) then (if (Int.toNat p1)<p0.length then (if 0≤p1∧p1<((p0.length:Nat):Int) then (if (Int.toNat p1)<p0.length then (if 0≤p3∧p3<((p0.length:Nat):Int) then (if (Int.toNat p3)<p0.length then (whileO (Na p0 p1 p2 p3) Hq (w64 (p1+1))) else none) else none) else none) else none) else none) else none) else none) else none)
def Ny (p0:Int):Option Int:=(Option.bind (Acr (IntKind.u64.wrap p0)) fun r1=>(if (0:Int)≤r1 then (some (kshl .u64 1 r1)) else none))
def Ov (p0:Int):Option (Int×Int):=(some ((kxor .u64 (kxor .u64 (kxor .u64 p0 (kshl .u64 p0 13)) (kshr .u64 (kxor .u64 p0 (kshl .u64 p0 13)) 7)) (kshl .u64 (kxor .u64 (kxor .u64 p0 (kshl .u64 p0 13)) (kshr .u64 (kxor .u64 p0 (kshl .u64 p0 13)) 7)) 17)),(kxor .u64 (kxor .u64 (kxor .u64 p0 (kshl .u64 p0 13)) (kshr .u64 (kxor .u64 p0 (kshl .u64 p0 13)) 7)) (kshl .u64 (kxor .u64 (kxor .u64 p0 (kshl .u64 p0 13)) (kshr .u64 (kxor .u64 p0 (kshl .u64 p0 13)) 7)) 17))))
def Dy (p1:Int) (s1:(List Int)×Int×Int) (n1:((List Int)×Int×Int)→Option (List Int)) (r15:Int×Int) (y2:Int):Option (List Int):=(if 0≤(w64 (p1+y2))∧(w64 (p1+y2))<((s1.1.length:Nat):Int) then (if (Int.toNat (w64 (p1+y2)))<s1.1.length then (if 0≤s1.2.2∧s1.2.2<((s1.1.length:Nat):Int) then (if (Int.toNat s1.2.2)<s1.1.length then (if 0≤s1.2.2∧s1.2.2<((s1.1.length:Nat):Int) then (if (Int.toNat s1.2.2)<s1.1.length then (if 0≤(w64 (p1+y2))∧(w64 (p1+y2))<((s1.1.length:Nat):Int) then (if (Int.toNat (w64 (p1+y2)))<s1.1.length then (n1 (((s1.1.set (Int.toNat s1.2.2) (s1.1.getD (Int.toNat (w64 (p1+y2))) 0)).set (Int.toNat (w64 (p1+y2))) (s1.1.getD (Int.toNat s1.2.2) 0)),r15.2,(w64 (s1.2.2+1)))) else none) else none) else none) else none) else none) else none) else none) else none)
def Kw (p1:Int) (p2:Int) (r2:Int) (s1:(List Int)×Int×Int) (n1:((List Int)×Int×Int)→Option (List Int)):Option (List Int):=(if (decide (s1.2.2≤(w64 ((w64 (p1+(w64 ((w64 (Int.tdiv (w64 (p2-p1)) 4))*2))))+1)))) then (Option.bind (Ov s1.2.1) fun r15=>(if (decide ((w64 (kand .u64 r15.1 (IntKind.u64.wrap (r2-1))))≥(w64 (p2-p1)))) then ((Dy p1 s1 n1 r15) (w64 ((w64 (kand .u64 r15.1 (IntKind.u64.wrap (r2-1))))-(w64 (p2-p1))))) else ((Dy p1 s1 n1 r15) (w64 (kand .u64 r15.1 (IntKind.u64.wrap (r2-1))))))) else (some s1.1))
def Gz (p0:List Int) (p1:Int) (p2:Int):Option (List Int):=(if (decide ((w64 (p2-p1))≥8)) then (Option.bind (Ny (w64 (p2-p1))) fun r2=>(whileO (Kw p1 p2 r2) Hq (p0,(IntKind.u64.wrap (w64 (p2-p1))),(w64 ((w64 (p1+(w64 ((w64 (Int.tdiv (w64 (p2-p1)) 4))*2))))-1))))) else (some p0))
def Fg (rec:(List Int)→Int→Int→Int→Option (List Int)) (s1:(List Int)×Int×Int×Int×Bool×Bool) (n1:((List Int)×Int×Int×Int×Bool×Bool)→Option (List Int)) (y8:(List Int)×Int) (y9:(List Int)×Int×Int) (y10:List Int) (y11:Bool):Option (List Int):=(if y11 then (Option.bind (Gl y10 s1.2.1 s1.2.2.1 y9.2.1) fun r92=>(if y10.length=r92.2.length then (n1 (r92.2,r92.1,s1.2.2.1,y8.2,s1.2.2.2.2.1,s1.2.2.2.2.2)) else none)) else (Option.bind (Jb y10 s1.2.1 s1.2.2.1 y9.2.1) fun r94=>(if y10.length=r94.2.2.length then (if (decide ((w64 (r94.1-s1.2.1))<(w64 (s1.2.2.1-r94.1)))) then (Option.bind (rec r94.2.2 s1.2.1 r94.1 y8.2) fun r97=>(if r94.2.2.length=r97.length then (n1 (r97,(w64 (r94.1+1)),s1.2.2.1,y8.2,(decide ((w64 (r94.1-s1.2.1))≥(w64 (Int.tdiv (w64 (s1.2.2.1-s1.2.1)) 8)))),r94.2.1)) else none)) else (Option.bind (rec r94.2.2 (w64 (r94.1+1)) s1.2.2.1 y8.2) fun r99=>(if r94.2.2.length=r99.length then (n1 (r99,s1.2.1,r94.1,y8.2,(decide ((w64 (s1.2.2.1-r94.1))≥(w64 (Int.tdiv (w64 (s1.2.2.1-s1.2.1)) 8)))),r94.2.1)) else none))) else none)))
def Fo (rec:(List Int)→Int→Int→Int→Option (List Int)) (s1:(List Int)×Int×Int×Int×Bool×Bool) (n1:((List Int)×Int×Int×Int×Bool×Bool)→Option (List Int)) (y8:(List Int)×Int) (y9:(List Int)×Int×Int) (y10:List Int):Option (List Int):=(if (decide (s1.2.1>0)) then (if 0≤(w64 (s1.2.1-1))∧(w64 (s1.2.1-1))<((y10.length:Nat):Int) then (if (Int.toNat (w64 (s1.2.1-1)))<y10.length then (if 0≤y9.2.1∧y9.2.1<((y10.length:Nat):Int) then (if (Int.toNat y9.2.1)<y10.length then (Option.bind (De (y10.getD (Int.toNat (w64 (s1.2.1-1))) 0) (y10.getD (Int.toNat y9.2.1) 0)) fun r90=>((Fg rec s1 n1 y8 y9 y10) (!r90))) else none) else none) else none) else none) else ((Fg rec s1 n1 y8 y9 y10) false))
def Fz (rec:(List Int)→Int→Int→Int→Option (List Int)) (s1:(List Int)×Int×Int×Int×Bool×Bool) (n1:((List Int)×Int×Int×Int×Bool×Bool)→Option (List Int)) (y8:(List Int)×Int) (y9:(List Int)×Int×Int):Option (List Int):=(if ((s1.2.2.2.2.1&&s1.2.2.2.2.2)&&(y9.2.2==1)) then (Option.bind (Ej y9.1 s1.2.1 s1.2.2.1) fun r82=>(if y9.1.length=r82.2.length then (if r82.1 then (some r82.2) else ((Fo rec s1 n1 y8 y9) r82.2)) else none)) else ((Fo rec s1 n1 y8 y9) y9.1))
def Gb (rec:(List Int)→Int→Int→Int→Option (List Int)) (s1:(List Int)×Int×Int×Int×Bool×Bool) (n1:((List Int)×Int×Int×Int×Bool×Bool)→Option (List Int)) (y8:(List Int)×Int):Option (List Int):=(Option.bind (Ie y8.1 s1.2.1 s1.2.2.1) fun r75=>(if (r75.2==2) then (Option.bind (Hl y8.1 s1.2.1 s1.2.2.1) fun r77=>(if y8.1.length=r77.length then ((Fz rec s1 n1 y8) (r77,(w64 ((w64 (s1.2.2.1-1))-(w64 (r75.1-s1.2.1)))),1)) else none)) else ((Fz rec s1 n1 y8) (y8.1,r75.1,r75.2))))
def Oe (rec:(List Int)→Int→Int→Int→Option (List Int)) (s1:(List Int)×Int×Int×Int×Bool×Bool) (n1:((List Int)×Int×Int×Int×Bool×Bool)→Option (List Int)):Option (List Int):=(if (decide ((w64 (s1.2.2.1-s1.2.1))≤12)) then (Option.bind (Ha s1.1 s1.2.1 s1.2.2.1) fun r67=>(if s1.1.length=r67.length then (some r67) else none)) else (if (s1.2.2.2.1==0) then (Option.bind (Js s1.1 s1.2.1 s1.2.2.1) fun r70=>(if s1.1.length=r70.length then (some r70) else none)) else (if (!s1.2.2.2.2.1) then (Option.bind (Gz s1.1 s1.2.1 s1.2.2.1) fun r73=>(if s1.1.length=r73.length then ((Gb rec s1 n1) (r73,(w64 (s1.2.2.2.1-1)))) else none)) else ((Gb rec s1 n1) (s1.1,s1.2.2.2.1)))))
def Jq (rec:(List Int)→Int→Int→Int→Option (List Int)) (p0:List Int) (p1:Int) (p2:Int) (p3:Int):Option (List Int):=(whileO (Oe rec) Hq (p0,p1,p2,p3,true,true))
def Eb : Nat→(List Int)→Int→Int→Int→Option (List Int)
 | 0,_,_,_,_=>none
 | n+1,p0,p1,p2,p3=>Jq (Eb n) p0 p1 p2 p3
def Qb (p0:List Int) (p1:Int) (p2:Int) (p3:Int):Option (List Int):=Eb Hq p0 p1 p2 p3
def Qg (p0:List Int):Option (List Int):=(Option.bind (Acr (IntKind.u64.wrap ((p0.length:Nat):Int))) fun r1=>(Option.bind (Qb p0 0 ((p0.length:Nat):Int) r1) fun r2=>(if p0.length=r2.length then (some r2) else none)))
def Kj (n4:((List Int)×Int)→Option (Nat×(List Int))) (y9:(List Int)×Int):Option (Nat×(List Int)):=(n4 (y9.1,y9.2))
def Us (p0:List Int) (k1:Int) (k4:Int) (s4:(List Int)×Int) (n4:((List Int)×Int)→Option (Nat×(List Int))):Option (Nat×(List Int)):=(if 0≤k4∧k4<(((Fh p0.length (Int.toNat k1)):Nat):Int) then (if (Un (Int.toNat k1) (Int.toNat k4))<s4.1.length then (if 0≤(w64 (k4-1))∧(w64 (k4-1))<(((Fh p0.length (Int.toNat k1)):Nat):Int) then (if (Un (Int.toNat k1) (Int.toNat (w64 (k4-1))))<s4.1.length then (if ((s4.1.getD (Un (Int.toNat k1) (Int.toNat k4)) 0) != (s4.1.getD (Un (Int.toNat k1) (Int.toNat (w64 (k4-1)))) 0)) then (if 0≤k4∧k4<(((Fh p0.length (Int.toNat k1)):Nat):Int) then (if (Un (Int.toNat k1) (Int.toNat k4))<s4.1.length then (if 0≤s4.2∧s4.2<((s4.1.length:Nat):Int) then (if (Int.toNat s4.2)<s4.1.length then ((Kj n4) ((s4.1.set (Int.toNat s4.2) (s4.1.getD (Un (Int.toNat k1) (Int.toNat k4)) 0)),(w64 (s4.2+1)))) else none) else none) else none) else none) else ((Kj n4) (s4.1,s4.2))) else none) else none) else none) else none)
def Tw (s4:(List Int)×Int):Option (Nat×(List Int)):=(if 0≤s4.2∧s4.2≤((s4.1.length:Nat):Int) then (if (Int.toNat s4.2)+(Fh s4.1.length (Int.toNat s4.2))≤s4.1.length then (if 0≤s4.2∧s4.2≤(((Uz s4.1 (Int.toNat s4.2) (Fh s4.1.length (Int.toNat s4.2)) 0).length:Nat):Int) then (some ((Int.toNat s4.2),(Uz s4.1 (Int.toNat s4.2) (Fh s4.1.length (Int.toNat s4.2)) 0))) else none) else none) else none)
def Up (p0:List Int) (k1:Int) (s1:Unit) (n1:Unit→Option (Nat×(List Int))):Option (Nat×(List Int)):=(if 0≤k1∧k1<((p0.length:Nat):Int) then (if (Int.toNat k1)<p0.length then (if 0≤(w64 (k1-1))∧(w64 (k1-1))<((p0.length:Nat):Int) then (if (Int.toNat (w64 (k1-1)))<p0.length then (if ((p0.getD (Int.toNat k1) 0)==(p0.getD (Int.toNat (w64 (k1-1))) 0)) then (if 0≤k1∧k1≤((p0.length:Nat):Int) then (if (((Fh p0.length (Int.toNat k1)):Nat):Int)≤9223372036854775807 then (forO (Us p0 k1) Tw (Int.toNat ((((Fh p0.length (Int.toNat k1)):Nat):Int)-1)) 1 (p0,k1)) else none) else none) else (n1 ())) else none) else none) else none) else none)
def Va (p0:List Int) (s1:Unit):Option (Nat×(List Int)):=(some (p0.length,p0))
def Qr (p0:List Int):Option (Nat×(List Int)):=(if (decide (((p0.length:Nat):Int)<2)) then (some (p0.length,p0)) else (if p0.length≤9223372036854775807 then (forO (Up p0) (Va p0) (Int.toNat (((p0.length:Nat):Int)-1)) 1 ()) else none))
def Zw (p0:Cf) (p1:Int):Option Bool:=(some (p0.group==p1))
def Dw (n1:(List Int)→Option (List Int)) (y3:List Int):Option (List Int):=(n1 y3)
def Ks (p1c0:Int) (k1:Nat) (x1:Cf) (s1:List Int) (n1:(List Int)→Option (List Int)):Option (List Int):=(Option.bind (Zw x1 p1c0) fun r23=>(if r23 then (Option.bind (Agq x1) fun r25=>(if s1.length+1≤1073741824 then ((Dw n1) (s1 ++ [r25])) else none)) else ((Dw n1) s1)))
def Kv (s1:List Int):Option (List Int):=(Option.bind (Qg s1) fun r27=>(if s1.length=r27.length then (Option.bind (Qr r27) fun r29=>(if r27.length=r29.2.length then (if r29.1≤r29.2.length then (some (r29.2.take r29.1)) else none) else none)) else none))
def Hb (p0:Ac) (p1c0:Int):Option (List Int):=(if p0.tasks.length≤9223372036854775807 then Ao (Ks p1c0) Kv p0.tasks 0 [] else none)
def Vb (p0:Ac) (p1:Int):Option (List Int):=(Option.bind (Hb p0 p1) fun r1=>(some r1))
def Wn (p0:Ac) (p1:Int):Option (Cf×Bool):=(Option.bind (Vx p0) fun r1=>(Option.bind (Tq r1 p1) fun r2=>(some (r2.1,r2.2))))
def Aba (p0:Cd):Option Cd:=(Option.bind (Hv p0.nodes) fun r1=>(some ({ nodes:=r1,next:=p0.next } : Cd)))
def Rm (y2:Int):Option Int:=(some y2)
def Rq (p1:Bz) (y1:Int):Option Int:=(if (p1.kind==1) then (Rm (Vn .i64 y1 6)) else (Rm y1))
def Zj (p0:Cd) (p1:Bz):Option Int:=(if (p1.id != 1) then (Option.bind (Mw p0 p1.parent) fun r2=>((Rq p1) r2.1.control)) else ((Rq p1) 31))
def Mq (n1:Unit→Option Bool) (y3:Bool):Option Bool:=(if y3 then (some false) else (n1 ()))
def AaA (p0:Ac) (k1:Nat) (x1:Bz) (s1:Unit) (n1:Unit→Option Bool):Option Bool:=(Option.bind (Zj p0.tree x1) fun r20=>(if ((Vn .i64 x1.control r20) != 0) then (some false) else (if (x1.id != 1) then (if ((kand .i64 x1.control 6) != 0) then (Option.bind (Vb p0 x1.id) fun r24=>((Mq n1) (decide (((r24.length:Nat):Int)>0)))) else ((Mq n1) false)) else ((Mq n1) false))))
def AaQ (s1:Unit):Option Bool:=(some true)
def Xt (p0:Ac):Option Bool:=(Option.bind (Li p0) fun r1=>(if (!r1) then (some false) else (if p0.tree.nodes.length≤9223372036854775807 then Ao (AaA p0) AaQ p0.tree.nodes 0 () else none)))
def Yh (p0:Cd) (k1:Nat) (x1:Int) (s1:Unit) (n1:Unit→Option Int):Option Int:=(Option.bind (Mw p0 x1) fun r13=>(if (r13.1.kind != 1) then (some x1) else (n1 ())))
def Yg (s1:Unit):Option Int:=(some 0)
def Py (p0:Cd) (p1:Int):Option Int:=(Option.bind (Gn p0 p1) fun r1=>(if r1.length≤9223372036854775807 then Ao (Yh p0) Yg r1 0 () else none))
def Xf (p0:Cd) (p1:Int) (k1:Nat) (x1:Int) (s1:Unit) (n1:Unit→Option Bool):Option Bool:=(Option.bind (Mw p0 x1) fun r13=>(if (r13.1.kind==1) then (some (x1 != p1)) else (n1 ())))
def Xl (s1:Unit):Option Bool:=(some false)
def Oz (p0:Cd) (p1:Int):Option Bool:=(Option.bind (Gn p0 p1) fun r1=>(if r1.length≤9223372036854775807 then Ao (Xf p0 p1) Xl r1 0 () else none))
def Mf (y1:Bool):Option Bool:=(some y1)
def Qf (p1:Bz) (r6:Bz×Bool) (y2:Bool):Option Bool:=(if y2 then (some false) else (some ((p1.parent==1)||((kand .i64 r6.1.control 6)==0))))
def Xy (p0:Ac) (p1:Bz):Option Bool:=(if (p1.kind != 1) then (Option.bind (Oz p0.tree p1.id) fun r2=>(if (!r2) then (Mf true) else (if (p1.control==0) then (Option.bind (Vb p0 p1.id) fun r5=>(Mf (((r5.length:Nat):Int)==0))) else (Mf false)))) else (Option.bind (Mw p0.tree p1.parent) fun r6=>(if (r6.1.kind != 1) then (Option.bind (Oz p0.tree p1.parent) fun r8=>((Qf p1 r6) r8)) else ((Qf p1 r6) false))))
def Qd (n1:(IMap Int)→Option Bool) (y3:IMap Int):Option Bool:=(n1 y3)
def AaO (p0:Ac) (k1:Nat) (x1:Cf) (s1:IMap Int) (n1:(IMap Int)→Option Bool):Option Bool:=(if (x1.id==x1.process) then (Option.bind (Py p0.tree x1.group) fun r68=>((Qd n1) (s1.set x1.id r68))) else ((Qd n1) s1))
def AaE (p0:Ac) (s1:IMap Int) (k8:Nat) (x8:Cf) (s8:Unit) (n8:Unit→Option Bool):Option Bool:=(Option.bind (Py p0.tree x8.group) fun r100=>(if (r100 != (s1.get x8.process)) then (some false) else (n8 ())))
def Aah (p0:Ac) (k11:Nat) (x11:Bz) (s11:Unit) (n11:Unit→Option Bool):Option Bool:=(Option.bind (Xy p0 x11) fun r111=>(if (!r111) then (some false) else (n11 ())))
def Zz (s11:Unit):Option Bool:=(some true)
def AaG (p0:Ac) (s8:Unit):Option Bool:=(if p0.tree.nodes.length≤9223372036854775807 then Ao (Aah p0) Zz p0.tree.nodes 0 () else none)
def AaR (p0:Ac) (s1:IMap Int):Option Bool:=(if p0.tasks.length≤9223372036854775807 then Ao (AaE p0 s1) (AaG p0) p0.tasks 0 () else none)
def Xv (p0:Ac):Option Bool:=(Option.bind (Xt p0) fun r1=>(if (!r1) then (some false) else (if p0.tasks.length≤9223372036854775807 then Ao (AaO p0) (AaR p0) p0.tasks 0 (IMap.empty 0) else none)))
end Go.Dm

/- Models of Go types and functions, printed by a program. -/
namespace Go.Dm
set_option linter.unusedVariables false
end Go.Dm

/- Models of Go types and functions, printed by a program. -/
namespace Go.Dm
set_option linter.unusedVariables false
def Sc (p0:Int):Option (Cd×Int×Int):=(some (({ nodes := [],next:=0 } : Cd),0,p0))
def Aea (p1:Int) (p2:ByteArray) (k1:Nat) (x1:Bz) (s1:Unit) (n1:Unit→Option Int):Option Int:=(if ((x1.parent==p1)&&(Xq x1.name p2)) then (some x1.id) else (n1 ()))
def Ade (s1:Unit):Option Int:=(some 0)
def AbT (p0:Cd) (p1:Int) (p2:ByteArray):Option Int:=(if p0.nodes.length≤9223372036854775807 then Ao (Aea p1 p2) Ade p0.nodes 0 () else none)
def Zp (p0:Cd):Option Cd:=(Option.bind (Uh p0) fun r1=>(if (!r1) then (some ({ nodes := [],next:=0 } : Cd)) else (some p0)))
def Wl (p0:Cd) (p1:Int):Option (List Int):=(Option.bind (Zp p0) fun r1=>(Option.bind (Gn r1 p1) fun r2=>(some r2)))
def Acp (p0:Cd) (p1:Int):Option Int:=(Option.bind (Wl p0 p1) fun r1=>(some (w64 (((r1.length:Nat):Int)-1))))
def Ut (p0:Cd) (p1:Int) (p2:ByteArray) (y2:Bool):Option (Cd×Int×Int):=(if y2 then (Option.bind (Sc 7) fun r16=>(some (r16.1,r16.2.1,r16.2.2))) else (Option.bind (Aba p0) fun r17=>(if r17.nodes.length+1≤1073741824 then (some (({ nodes:=(r17.nodes ++ [({ id:=p0.next,parent:=p1,name:=p2,control:=0,kind:=0,owner:=0 } : Bz)]),next:=(w64 (r17.next+1)) } : Cd),p0.next,0)) else none)))
def Yk (p0:Cd) (p1:Int) (p2:ByteArray) (y1:Bool):Option (Cd×Int×Int):=(if y1 then (Option.bind (Sc 1) fun r5=>(some (r5.1,r5.2.1,r5.2.2))) else (Option.bind (Tu p0 p1) fun r6=>(if (decide (r6<0)) then (Option.bind (Sc 4) fun r8=>(some (r8.1,r8.2.1,r8.2.2))) else (Option.bind (AbT p0 p1 p2) fun r9=>(if (r9 != 0) then (Option.bind (Sc 5) fun r11=>(some (r11.1,r11.2.1,r11.2.2))) else (Option.bind (Acp p0 p1) fun r12=>(if (decide (r12≥8)) then ((Ut p0 p1 p2) true) else (if (decide (((p0.nodes.length:Nat):Int)≥64)) then ((Ut p0 p1 p2) true) else ((Ut p0 p1 p2) (decide (p0.next>2147483647)))))))))))
def Afh (p0:Cd) (p1:Int) (p2:ByteArray):Option (Cd×Int×Int):=(Option.bind (Uh p0) fun r1=>(if (!r1) then ((Yk p0 p1 p2) true) else (Option.bind (Yu p2) fun r3=>((Yk p0 p1 p2) (!r3)))))
def Pw (p0:Ac) (p1:Int) (p2:ByteArray):Option (Ac×Int×Int):=(Option.bind (Xv p0) fun r1=>(if (!r1) then (some (({ tree:=({ nodes := [],next:=0 } : Cd),tasks := [],next:=0 } : Ac),0,1)) else (Option.bind (Afh p0.tree p1 p2) fun r3=>(if (r3.2.2 != 0) then (some (({ tree:=({ nodes := [],next:=0 } : Cd),tasks := [],next:=0 } : Ac),0,r3.2.2)) else (Option.bind (AaJ p0) fun r5=>(some (({ tree:=r3.1,tasks:=r5.tasks,next:=r5.next } : Ac),r3.2.1,0)))))))
end Go.Dm

/- Models of Go types and functions, printed by a program. -/
namespace Go.Dm
set_option linter.unusedVariables false
end Go.Dm

/- Models of Go types and functions, printed by a program. -/
namespace Go.Dm
set_option linter.unusedVariables false
end Go.Dm

/- The data machine, part 26: a row is cut to the part that is still looked at. -/
namespace Go.Dm
def req1 (k n:Nat):MV→List Prop
 | .own k' _ off len=>bif Nat.beq k' k then [off+len≤n] else []
 | .eref k' _ i _=>bif Nat.beq k' k then [i<n] else []
 | .agg _ => [False]
 | .tup _ => [False]
 | .fn _ _ => [False]
 | _ => []
def reqs (k n:Nat):List MV→List Prop
 | [] => []
 | x::r=>req1 k n x++reqs k n r
def reqV (k n:Nat):MV→List Prop
 | .agg cs=>reqs k n cs
 | .tup cs=>reqs k n cs
 | .fn _ cs=>reqs k n cs
 | x=>req1 k n x
def reqS (k n:Nat):List (Nat×MV)→List Prop
 | [] => []
 | (_,x)::r=>reqV k n x++reqS k n r
def reqB (k n:Nat):Body→List Prop
 | .box cs=>reqs k n cs
 | _ => []
def reqO (k n:Nat):List (Nat×Obj)→List Prop
 | [] => []
 | (_,o)::r=>reqB k n o.body++reqO k n r
def cutB (n:Nat):Body→Body
 | .row W _ f => .row W n f
 | b=>b
def Ti (k n:Nat):List (Nat×Obj)→List (Nat×Obj)
 | [] => []
 | (j,o)::r=>bif Nat.beq j k then (j,⟨o.gen,cutB n o.body⟩)::Ti k n r else (j,o)::Ti k n r
def rowN : Option Obj→Option Nat
 | some ⟨_,.row _ n _⟩=>some n
 | _=>none
theorem Aca (k n:Nat):∀ (l:List (Nat×Obj)) (j:Nat),assoc (Ti k n l) j=(assoc l j).map fun o=>bif Nat.beq j k then ⟨o.gen,cutB n o.body⟩ else o
 | [],j=>rfl
 | (i,o)::r,j=>by
  simp only [Ti]
  cases hb:Nat.beq i k with
  | true =>
   simp only [cond_true,assoc]
   cases hj:Nat.beq j i with
   | true =>
    have e1:=Nat.eq_of_beq_eq_true hj
    subst e1
    simp [hb]
   | false=>simpa using Aca k n r j
  | false =>
   simp only [cond_false,assoc]
   cases hj:Nat.beq j i with
   | true =>
    have e1:=Nat.eq_of_beq_eq_true hj
    subst e1
    simp [hb]
   | false=>simpa using Aca k n r j
theorem AhM {k n:Nat} : ∀ {l:List (Nat×MV)} {t:Nat} {x:MV},All (reqS k n l)→assoc l t=some x→All (reqV k n x)
 | [],t,x,_,h=>by simp [assoc] at h
 | (i,y)::r,t,x,ha,h=>by
  simp only [reqS,All_append] at ha
  simp only [assoc] at h
  cases hb:Nat.beq t i with
  | true=>simp [hb] at h; subst h; exact ha.1
  | false=>simp [hb] at h; exact AhM ha.2 h
theorem AhP {k n:Nat} : ∀ {l:List (Nat×Obj)} {t:Nat} {x:Obj},All (reqO k n l)→assoc l t=some x→All (reqB k n x.body)
 | [],t,x,_,h=>by simp [assoc] at h
 | (i,y)::r,t,x,ha,h=>by
  simp only [reqO,All_append] at ha
  simp only [assoc] at h
  cases hb:Nat.beq t i with
  | true=>simp [hb] at h; subst h; exact ha.1
  | false=>simp [hb] at h; exact AhP ha.2 h
theorem Aaa {k n:Nat} : ∀ {l:List MV} {j:Nat} {x:MV},All (reqs k n l)→l[j]? = some x→All (req1 k n x)
 | [],j,x,_,h=>by simp at h
 | y::r,0,x,ha,h=>by
  simp only [reqs,All_append] at ha
  simp at h
  subst h
  exact ha.1
 | y::r,j+1,x,ha,h=>by
  simp only [reqs,All_append] at ha
  exact Aaa ha.2 (by simpa using h)
section
variable {cx : Cx} {β:Bi} {a:Act} {w:World}
theorem Rel.cut {k n n0:Nat} {sl:List (Nat×MV)} {ob:List (Nat×Obj)} (h:Rel cx β (Af sl ob) a w) (hn:rowN (assoc ob k)=some n0) (hle:n≤n0) (hs:All (reqS k n sl)) (ho:All (reqO k n ob)):Rel cx β (Af sl (Ti k n ob)) a w:=by
 obtain ⟨g0,W,f,hk⟩:∃ g0 W f,assoc ob k=some ⟨g0,.row W n0 f⟩:=by
  unfold rowN at hn
  split at hn
  ·rename_i g W m f he
   simp at hn
   subst hn
   exact ⟨g,W,f,he⟩
  ·simp at hn
 have hget:∀ j o',assoc (Ti k n ob) j=some o'→∃ o,assoc ob j=some o∧o'.gen=o.gen∧(o'.body.live↔o.body.live)∧(j≠k→o'=o)∧(j=k→o'.body = .row W n f∧o.body = .row W n0 f):=by
  intro j o' hj
  rw [Aca] at hj
  cases hq:assoc ob j with
  | none=>simp [hq] at hj
  | some o =>
   simp only [hq,Option.map_some,Option.some.injEq] at hj
   subst hj
   cases hb:Nat.beq j k with
   | true =>
    have e:=Nat.eq_of_beq_eq_true hb
    subst e
    rw [hk] at hq
    injection hq with hq
    subst hq
    exact ⟨_,rfl,rfl,by simp [cutB,Body.live],fun e=>absurd rfl e,fun _=>⟨rfl,rfl⟩⟩
   | false =>
    have e:j≠k:=fun e=>by rw [e,Ct] at hb; simp at hb
    exact ⟨o,rfl,rfl,Iff.rfl,fun _=>rfl,fun e'=>absurd e' e⟩
 have hput:∀ j o,assoc ob j=some o→∃ o',assoc (Ti k n ob) j=some o'∧o'.gen=o.gen∧(j≠k→o'=o)∧(j=k→o'.body = .row W n f∧o.body = .row W n0 f):=by
  intro j o hj
  cases hq:assoc (Ti k n ob) j with
  | none=>rw [Aca,hj] at hq; simp at hq
  | some o' =>
   obtain ⟨o1,h1,h2,_,h3,h4⟩:=hget j o' hq
   rw [hj] at h1
   injection h1 with h1
   subst h1
   exact ⟨o',rfl,h2,h3,h4⟩
 have hS:∀ b,Am cx.Av β (assoc ob) w b→Am cx.Av β (assoc (Ti k n ob)) w b:=by
  intro b hb
  refine ⟨hb.1,hb.2.1,fun j o' hj hl => ?_⟩
  obtain ⟨o,h1,_,h2,_⟩:=hget j o' hj
  exact hb.2.2 j o h1 (h2.1 hl)
 have known:∀ (j g:Nat) (F F':Loc→Body→Prop),Known β (assoc ob) j g F→(∀ l b,j≠k→F l b→F' l b)→(∀ l,j=k→F l (.row W n0 f)→F' l (.row W n f))→Known β (assoc (Ti k n ob)) j g F':=by
  rintro j g F F' ⟨o,q1,q2,q3⟩ h1 h2
  obtain ⟨o',r1,r2,r3,r4⟩:=hput j o q1
  refine ⟨o',r1,by omega,fun e => ?_⟩
  have hF:=q3 (by omega)
  by_cases e2:j=k
  ·obtain ⟨e3,e4⟩:=r4 e2
   rw [e3]
   rw [e4] at hF
   exact h2 _ e2 hF
  ·rw [r3 e2]
   exact h1 _ _ e2 hF
 have one:∀ (v:Value) (x:MV),RelV β (assoc ob) (Am cx.Av β (assoc ob) w) w v x→All (req1 k n x)→RelV β (assoc (Ti k n ob)) (Am cx.Av β (assoc (Ti k n ob)) w) w v x:=by
  intro v x hr hq
  cases hr with
  | p _ _ h=>exact .p _ _ (h.mono hS (fun _ _=>rfl))
  | own k' g off len base c h =>
   refine .own _ _ _ _ _ _ (known k' g _ _ h (fun l b _ hF=>hF) fun l e hF => ?_)
   subst e
   simp only [req1,Ct,cond_true,All,and_true] at hq
   exact ⟨hq,hF.2⟩
  | ref k' g off b h=>exact .ref _ _ _ _ (known k' g _ _ h (fun _ _ _ h=>h) fun _ _ h=>h)
  | eref k' g i off b oo h =>
   refine .eref _ _ _ _ _ _ (known k' g _ _ h (fun l b _ hF=>hF) fun l e hF => ?_)
   subst e
   simp only [req1,Ct,cond_true,All,and_true] at hq
   exact ⟨hq,hF.2⟩
  | fptr cs b o hs c hc h1 hr=>exact .fptr _ _ _ (hS _ hs) c hc h1 (fun j x hx=>(hr j x hx).mono hS (fun _ _=>rfl))
  | mref k' g b h=>exact .mref _ _ _ (known k' g _ _ h (fun _ _ _ h=>h) fun _ _ h=>h)
  | und=>exact .und
  | any v=>exact .any v
  | agg cs vs hl hr h1=>simp [req1,All] at hq
  | tup cs vs hl hr=>simp [req1,All] at hq
  | fn f cs vs hl hr=>simp [req1,All] at hq
 have all:∀ (v:Value) (x:MV),RelV β (assoc ob) (Am cx.Av β (assoc ob) w) w v x→All (reqV k n x)→RelV β (assoc (Ti k n ob)) (Am cx.Av β (assoc (Ti k n ob)) w) w v x:=by
  intro v x hr hq
  cases hr with
  | agg cs vs hl hr h1=>exact .agg _ _ hl (fun i y hy=>one _ _ (hr i y hy) (Aaa hq hy)) h1
  | tup cs vs hl hr=>exact .tup _ _ hl (fun i y hy=>one _ _ (hr i y hy) (Aaa hq hy))
  | fn f cs vs hl hr=>exact .fn _ _ _ hl (fun i y hy=>one _ _ (hr i y hy) (Aaa hq hy))
  | p _ _ h=>exact one _ _ (.p _ _ h) hq
  | own i g off len base c h=>exact one _ _ (.own _ _ _ _ _ _ h) hq
  | ref i g off b h=>exact one _ _ (.ref _ _ _ _ h) hq
  | eref i g ix off b oo h=>exact one _ _ (.eref _ _ _ _ _ _ h) hq
  | fptr cs b o hs c hc h1 hr=>exact one _ _ (.fptr _ _ _ hs c hc h1 hr) hq
  | mref i g b h=>exact one _ _ (.mref _ _ _ h) hq
  | und=>exact one _ _ .und hq
  | any v=>exact one _ _ (.any v) hq
 refine ⟨h.nd,h.sz,fun t => ?_,fun j o' hj => ?_,fun j o' b hj hl hb => ?_,fun j j' o o' b hj hj' hl hl' hne hb => ?_,h.kept,h.avo,h.avlt,h.mle,fun j o' hjm hj hg => ?_⟩
 ·have:=h.sl t
  simp only [Af] at this ⊢
  cases ht:assoc sl t with
  | none=>exact .any _
  | some x =>
   rw [ht] at this
   exact all _ _ this (AhM hs ht)
 ·obtain ⟨o,h1,h2,_,h3,h4⟩:=hget j o' hj
  have hr:=h.ob j o h1
  by_cases e:j=k
  ·obtain ⟨e1,e2⟩:=h4 e
   rw [e1]
   rw [e2] at hr
   rcases hr with ⟨q1,q2⟩|⟨b,oo,cap,cur,e',q0,q1,q2,q3,q4⟩
   ·exact .inl ⟨q1,by omega⟩
   ·exact .inr ⟨b,oo,cap,cur,e',q0,q1,q2,by omega,fun i hi=>⟨(q4 i (by omega)).1,(q4 i (by omega)).2.mono hS (fun _ _=>rfl)⟩⟩
  ·rw [h3 e]
   have hq:=AhP ho h1
   cases hbd:o.body with
   | dead=>trivial
   | mq q=>rw [hbd] at hr; exact QRel.mono hS (fun _ _=>rfl) (fun _ _=>rfl) hr
   | row W' n' f' =>
    rw [hbd] at hr
    rcases hr with q|⟨b,oo,cap,cur,e',q0,q1,q2,q3,q4⟩
    ·exact .inl q
    ·exact .inr ⟨b,oo,cap,cur,e',q0,q1,q2,q3,fun i hi=>⟨(q4 i hi).1,(q4 i hi).2.mono hS (fun _ _=>rfl)⟩⟩
   | mp z has f' =>
    rw [hbd] at hr
    obtain ⟨b,es,clock,q0,q1,q2,q3,q4⟩:=hr
    exact ⟨b,es,clock,q0,q1,q2,q3,fun i e n he hn=>(q4 i e n he hn).mono hS (fun _ _=>rfl)⟩
   | box cs =>
    rw [hbd] at hr hq
    obtain ⟨b,cur,e',q0,q1,q2,q3⟩:=hr
    refine ⟨b,cur,e',q0,q1,q2,fun i x hx => ?_⟩
    obtain ⟨u,u1,u2,u3⟩:=q3 i x hx
    exact ⟨u,u1,u2,one _ _ u3 (Aaa hq hx)⟩
 ·obtain ⟨o,h1,h2,h3,_⟩:=hget j o' hj
  exact h.blk j o b h1 (h3.1 hl) hb
 ·obtain ⟨q,h1,_,h3,_⟩:=hget j o hj
  obtain ⟨q',r1,_,r3,_⟩:=hget j' o' hj'
  exact h.inj j j' q q' b h1 r1 (h3.1 hl) (r3.1 hl') hne hb
 ·obtain ⟨o,h1,h2,_⟩:=hget j o' hj
  exact h.oloc j o hjm h1 (by omega)
def cutQ (k n:Nat) (sl:List (Nat×MV)) (ob:List (Nat×Obj)):Option ((List (Nat×MV)×List (Nat×Obj))×Prop) :=
 match rowN (assoc ob k) with
 | some n0=>some ((sl,Ti k n ob),n≤n0∧All (reqS k n sl++reqO k n ob))
 | none=>none
theorem Conv.cut (k n:Nat) {sl sl':List (Nat×MV)} {ob ob':List (Nat×Obj)} {q:Prop} (hq:q) (h:cutQ k n sl ob=some ((sl',ob'),q):=by kernel_rfl):Conv cx (Af sl ob) (Af sl' ob'):=by
 intro β a w hr
 unfold cutQ at h
 split at h
 ·rename_i n0 hn
  simp only [Option.some.injEq,Prod.mk.injEq] at h
  obtain ⟨⟨rfl,rfl⟩,rfl⟩:=h
  have h2:=All_append.1 hq.2
  exact ⟨β,hr.cut hn hq.1 h2.1 h2.2⟩
 ·simp at h
end
end Go.Dm

/- The data machine, part 27: an object gets another key. -/
namespace Go.Dm
def rk (k k' j:Nat):Nat:=bif Nat.beq j k then k' else j
section
variable {cx : Cx} {β:Bi} {a:Act} {w:World}
end
end Go.Dm

/- The data machine, part 28: loops over maps, in whatever order; maps whose entries are looked at one by one. -/
namespace Go.Dm
open Classical
instance {α : Type} [Inhabited α]:Inhabited (IMap α):=⟨⟨fun _=>false,fun _=>default⟩⟩
def AdK : List Oper→Option (Nat×Nat×Nat)
 | [⟨some d,.next (.tmp t) false,_,_,_,none⟩,⟨some d2,.extract (.tmp d') 0,_,_,_,none⟩]=>bif Nat.beq d d' then some (t,d,d2) else none
 | _=>none
theorem AhS {l:List Oper} {t d d2:Nat} (h:AdK l=some (t,d,d2)):∃ o0 o1:Oper,l = [o0,o1]∧o0.dst=some d∧o0.op = .next (.tmp t) false∧o0.guard=none∧o1.dst=some d2∧o1.op = .extract (.tmp d) 0∧o1.guard=none:=by
 unfold AdK at h
 split at h
 ·rename_i d0 t0 _ _ _ d20 d' _ _ _
  cases hb:Nat.beq d0 d' with
  | false=>simp [hb] at h
  | true =>
   simp only [hb,cond_true,Option.some.injEq,Prod.mk.injEq] at h
   obtain ⟨rfl,rfl,rfl⟩:=h
   have:=Nat.eq_of_beq_eq_true hb
   subst this
   exact ⟨_,_,rfl,rfl,rfl,rfl,rfl,rfl,rfl⟩
 ·simp at h
theorem AeU {o:Oper} (h:o.guard=none) (y:Nat→Option Bool):Region.wanted o y=true:=by
 unfold Region.wanted
 rw [h]
section
variable {P : Program} {cx:Cx} {Q:Exit→St→Prop}
theorem AiK {β:Bi} {σ:St} {a:Act} {w:World} {o:Oper} {d d2:Nat} {b:Bool} {cs:List MV} (hop:o.op = .extract (.tmp d) 0) (hdst:o.dst=some d2) (hlt:d2<cx.nt)
  (h:Rel cx β σ a w) (hs:σ.slots d = .tup (.p (.v (.bool b))::cs)) {K:Act→World→Prop} {R:Exit→Act→World→Prop} (hK:∀ a,Rel cx β ⟨Az σ.slots d2 (.p (.v (.bool b))),σ.objs⟩ a w→K a w):o.wp P a w K R:=by
 obtain ⟨od,op,ot,opos,oafter,oguard⟩:=o
 simp only at hop hdst
 subst hop
 subst hdst
 have hr:=h.sl d
 rw [hs] at hr
 unfold Oper.wp
 have he:∃ vs:Array Value,a.tmps.getD d undef = .tuple vs∧vs[0]? = some (.bool b):=by
  generalize hv:a.tmps.getD d undef=v at hr
  cases hr with
  | tup cs' vs hl hr' =>
   refine ⟨vs,rfl,?_⟩
   have:=hr' 0 (.p (.v (.bool b))) (by simp)
   have h0:0<vs.size:=by rw [hl]; simp
   have e:=this.inv_v.1
   rw [Array.getD_eq_getD_getElem?,Array.getElem?_eq_getElem h0] at e
   simp only [Option.getD_some] at e
   rw [Array.getElem?_eq_getElem h0,e]
 obtain ⟨vs,e1,e2⟩:=he
 have e3:a.eval (.tmp d) = .tuple vs:=e1
 simp only [execOp,e3,Instr.extract,e2,Sem.run_bind,Sem.run_pure,Result.andThen_ok,Oper.upon]
 exact hK _ (putO h (some d2) (fun t ht=>by injection ht with ht; omega) (.bool b) _ (.mk_v rfl))
end
end Go.Dm

/- Models of Go types and functions, printed by a program. -/
namespace Go.Dm
set_option linter.unusedVariables false
end Go.Dm

/- Models of Go types and functions, printed by a program. -/
namespace Go.Dm
set_option linter.unusedVariables false
end Go.Dm

/- The data machine: loops over functions. -/
namespace Go.Dm
section
variable {P : Program} {cx:Cx} {β:Bi} {σ:St} {a:Act} {w:World} {Q:Exit→St→Prop}
end
end Go.Dm

/- Models of Go types and functions, printed by a program. -/
namespace Go.Dm
set_option linter.unusedVariables false
end Go.Dm

/- Models of Go types and functions, printed by a program. -/
namespace Go.Dm
set_option linter.unusedVariables false
structure place where
 group:Int
 cpus:List Int
 alone:Bool
 deriving Inhabited
end Go.Dm

/- The data machine: maps with pairs as keys in models; ways that are not gone. -/
namespace Go.Dm
structure PMap (α:Type) where
 has:Int→Int→Bool
 get:Int→Int→α
def PMap.empty {α:Type} (d:α):PMap α:=⟨fun _ _=>false,fun _ _=>d⟩
def PMap.set {α:Type} (m:PMap α) (a c:Int) (v:α):PMap α:=⟨Ja m.has a c true,Ja m.get a c v⟩
def pmOf {α:Type} (enc:α→PV) (z:PV) (m:PMap α):Body := .mq (.pm z m.has (fun i j=>enc (m.get i j)))
theorem pm_set {α:Type} {enc:α→PV} {z:PV} {m:PMap α} {a c:Int} (v:α) {x:PV} (hx:x=enc v) :
  BLe (.mq (.pm z (Ja m.has a c true) (Ja (fun i j=>enc (m.get i j)) a c x))) (pmOf enc z (m.set a c v)):=by
 subst hx
 refine .of_eq ?_
 unfold pmOf PMap.set
 congr 2
 funext i j
 simp only [Ja]
 split <;> rfl
theorem noK {α:Type} {x:α} {p:Prop} (h:(none:Option α)=some x):p:=nomatch h
end Go.Dm

/- Models of Go types and functions, printed by a program. -/
namespace Go.Dm
set_option linter.unusedVariables false
structure Aa where
  id:Int
  weight:Int
  v:Int
  active:Bool
  deriving Inhabited
def Bc (x:Aa):List PV := [vi x.id,vi x.weight,vi x.v,vb x.active]
abbrev An : Aa:=default
abbrev Bf (L:List Aa):PV:=Mv 4 Bc (default:Aa) L
abbrev Ar (L:List Aa):Body:=AaY 4 Bc (default:Aa) L
abbrev Hk (L:List Aa):Nat→List PV:=elems Bc (default:Aa) L
def eqItem (x y:Aa):Bool:=((x.id==y.id)&&((x.weight==y.weight)&&((x.v==y.v)&&((x.active==y.active)&&true))))
structure Ah where
  clock:Int
  items:List Aa
  deriving Inhabited
def Al (x:Ah):List PV := [vi x.clock,Mv 4 Bc (default:Aa) x.items]
structure Ag where
  group:Int
  queue:Ah
  deriving Inhabited
def Cs (x:Ag):List PV := [vi x.group,vi x.queue.clock,Mv 4 Bc (default:Aa) x.queue.items]
abbrev Bq : Ag:=default
abbrev Au (L:List Ag):PV:=Mv 3 Cs (default:Ag) L
abbrev Bx (L:List Ag):Body:=AaY 3 Cs (default:Ag) L
abbrev We (L:List Ag):Nat→List PV:=elems Cs (default:Ag) L
structure item where
  branch:Int
  id:Int
  deriving Inhabited
def encitem (x:item):List PV := [vi x.branch,vi x.id]
abbrev ditem : item:=default
abbrev slitem (L:List item):PV:=Mv 2 encitem (default:item) L
abbrev roitem (L:List item):Body:=AaY 2 encitem (default:item) L
abbrev elitem (L:List item):Nat→List PV:=elems encitem (default:item) L
def Ack : Option Bool:=some true
def Cj (p0:Int):Option Int:=(if ((decide (p0<1))||(decide (p0>10000))) then (some 0) else (if (p0:Int)≠0 then (some (w64 (Int.tdiv (w64 ((w64 (1073741824+p0))-1)) p0))) else none))
def Xz (p0:Int):Option Bool:=(Option.bind (Cj p0) fun r1=>(some (r1==0)))
def Jc (k1:Nat) (x1:Int) (s1:Unit) (n1:Unit→Option Int):Option Int:=(Option.bind (Xz x1) fun r10=>(if r10 then (some ((k1:Nat):Int)) else (n1 ())))
def Je (s1:Unit):Option Int:=(some (-1))
def Fx (p0:List Int):Option Int:=(if p0.length≤9223372036854775807 then Ao Jc Je p0 0 () else none)
def Ev (p0:List Int):Option Bool:=(Option.bind (Fx p0) fun r1=>(some (decide (r1≥0))))
def Ph (y1:Bool):Option Bool:=(some y1)
def Abn (p0:Ac) (p1:List Int):Option Bool:=(Option.bind (Li p0) fun r1=>(if r1 then (if (((p1.length:Nat):Int)==((p0.tree.nodes.length:Nat):Int)) then (Option.bind (Ev p1) fun r4=>(Ph (!r4))) else (Ph false)) else (Ph false)))
def Zt (p0:Ac) (p1:List Int):Option (Ac×(List Int)):=(some (p0,p1))
def Su (n1:(IMap Bool)→Option (IMap Bool)) (y3:IMap Bool):Option (IMap Bool):=(n1 y3)
def AcD (k4:Nat) (x4:Int) (s4:IMap Bool) (n4:(IMap Bool)→Option (IMap Bool)):Option (IMap Bool):=(n4 (s4.set x4 true))
def AcE (n1:(IMap Bool)→Option (IMap Bool)) (s4:IMap Bool):Option (IMap Bool):=((Su n1) s4)
def AcC (p0:Ac) (p1:List Int) (k1:Nat) (x1:Cf) (s1:IMap Bool) (n1:(IMap Bool)→Option (IMap Bool)):Option (IMap Bool):=(Option.bind (Dk p1 x1.id) fun r26=>(if r26 then (Option.bind (Gn p0.tree x1.group) fun r28=>(if r28.length≤9223372036854775807 then Ao AcD (AcE n1) r28 0 s1 else none)) else ((Su n1) s1)))
def AcF (s1:IMap Bool):Option (IMap Bool):=(some s1)
def Abg (p0:Ac) (p1:List Int):Option (IMap Bool):=(if p0.tasks.length≤9223372036854775807 then Ao (AcC p0 p1) AcF p0.tasks 0 (IMap.empty false) else none)
def Abh (p0:Ac) (p1:List Int):Option ((List Int)×(IMap Bool)):=(Option.bind (Abg p0 p1) fun r1=>(some (p1,r1)))
def Bw (n1:Unit→Option Bool) (y3:Bool):Option Bool:=(if y3 then (some false) else (n1 ()))
def Uu (p0:Ah) (k1:Nat) (x1:Aa) (s1:Unit) (n1:Unit→Option Bool):Option Bool:=(Option.bind (Cj x1.weight) fun r37=>(if (x1.id==0) then ((Bw n1) true) else (if (decide (((k1:Nat):Int)>0)) then (if 0≤(w64 (((k1:Nat):Int)-1))∧(w64 (((k1:Nat):Int)-1))<((p0.items.length:Nat):Int) then (if (decide (x1.id≤(p0.items.getD (Int.toNat (w64 (((k1:Nat):Int)-1))) (default:Aa)).id)) then ((Bw n1) true) else (if (r37==0) then ((Bw n1) true) else (if (decide (x1.v<0)) then ((Bw n1) true) else (if (decide (x1.v>(Lj (w64 (p0.clock+r37)) 1152921504606846976))) then ((Bw n1) true) else (if x1.active then ((Bw n1) (decide (x1.v<p0.clock))) else ((Bw n1) false)))))) else none) else (if (r37==0) then ((Bw n1) true) else (if (decide (x1.v<0)) then ((Bw n1) true) else (if (decide (x1.v>(Lj (w64 (p0.clock+r37)) 1152921504606846976))) then ((Bw n1) true) else (if x1.active then ((Bw n1) (decide (x1.v<p0.clock))) else ((Bw n1) false))))))))
def Aar (s1:Unit):Option Bool:=(some true)
def Ff (p0:Ah):Option Bool:=(if (((decide (p0.clock<0))||(decide (p0.clock>1152921504606846976)))||(decide (((p0.items.length:Nat):Int)>192))) then (some false) else (if p0.items.length≤9223372036854775807 then Ao (Uu p0) Aar p0.items 0 () else none))
def Ca (p0:List Aa):Option (List Aa):=(if 0+p0.length≤1073741824 then (some p0) else none)
def Fk (p0:List Aa):Option (List Aa):=(some [])
def Ux (x1:Ag) (n1:Unit→Option Ah) (y3:Bool):Option Ah:=(if y3 then (Option.bind (Ca x1.queue.items) fun r17=>(some ({ clock:=x1.queue.clock,items:=r17 } : Ah))) else (n1 ()))
def Adx (p1:Int) (k1:Nat) (x1:Ag) (s1:Unit) (n1:Unit→Option Ah):Option Ah:=(if (x1.group==p1) then (Option.bind (Ff x1.queue) fun r15=>((Ux x1 n1) r15)) else ((Ux x1 n1) false))
def AdG (s1:Unit):Option Ah:=(some ({ clock:=0,items := [] } : Ah))
def Acm (p0:List Ag) (p1:Int):Option Ah:=(if p0.length≤9223372036854775807 then Ao (Adx p1) AdG p0 0 () else none)
def Afv (k1:Nat) (x1:Int) (s1:List Int) (n1:(List Int)→Option (List Int)):Option (List Int):=(if s1.length+1≤1073741824 then (n1 (s1 ++ [(w64 (0-x1))])) else none)
def Agb (s1:List Int):Option (List Int):=(Option.bind (Qg s1) fun r15=>(if s1.length=r15.length then (some r15) else none))
def Acu (p0:Ac) (p1:Int):Option (List Int):=(Option.bind (Ua p0.tree p1) fun r1=>(Option.bind (Vb p0 p1) fun r2=>(if r2.length≤9223372036854775807 then Ao Afv Agb r2 0 r1 else none)))
def Zm (p0:Aa) (p1:Int):Option Bool:=(some (p0.id==p1))
def Ix (p1c0:Int) (k1:Nat) (x1:Aa) (s1:Unit) (n1:Unit→Option Int):Option Int:=(Option.bind (Zm x1 p1c0) fun r10=>(if r10 then (some ((k1:Nat):Int)) else (n1 ())))
def Jg (s1:Unit):Option Int:=(some (-1))
def Fy (p0:List Aa) (p1c0:Int):Option Int:=(if p0.length≤9223372036854775807 then Ao (Ix p1c0) Jg p0 0 () else none)
def Mm (p0:Ah) (p1:Int):Option Int:=(Option.bind (Fy p0.items p1) fun r1=>(some r1))
def Qo (p0:Ah) (p1:Int):Option (Aa×Bool):=(Option.bind (Mm p0 p1) fun r1=>(if (decide (r1<0)) then (some (({ id:=0,weight:=0,v:=0,active:=false } : Aa),false)) else (if 0≤r1∧r1<((p0.items.length:Nat):Int) then (some ((p0.items.getD (Int.toNat r1) (default:Aa)),true)) else none)))
def Zs (p0:Int) (p2:List Int) (k1:Nat) (x1:Bz) (s1:Unit) (n1:Unit→Option Int):Option Int:=(if (x1.id==p0) then (if k1<p2.length then (some (p2.getD k1 0)) else none) else (n1 ()))
def Aab (s1:Unit):Option Int:=(some 100)
def Nz (p0:Int) (p1:Ac) (p2:List Int):Option Int:=(if p1.tree.nodes.length≤9223372036854775807 then Ao (Zs p0 p2) Aab p1.tree.nodes 0 () else none)
def Qk (p0:Int) (p1:Int):Option Int:=(Option.bind (Ln p0) fun r1=>(Option.bind (Ln p1) fun r2=>(if r1 then (if r2 then (some 0) else (some (-1))) else (if r2 then (some 1) else (if (decide (p0<p1)) then (some (-1)) else (if (decide (p0>p1)) then (some 1) else (some 0)))))))
def Sr (p0:Aa) (p1:Int):Option Int:=(Option.bind (Qk p0.id p1) fun r1=>(some r1))
def Dc (s1:Int×Int) (y1:Bool):Option (Int×Bool):=(some (s1.2,y1))
def Gk (p0:List Aa) (p1:Int) (s1:Int×Int) (n1:(Int×Int)→Option (Int×Bool)):Option (Int×Bool):=(if (decide (s1.2<s1.1)) then (if 0≤(w64 (kshr .u64 (IntKind.u64.wrap (w64 (s1.2+s1.1))) 1))∧(w64 (kshr .u64 (IntKind.u64.wrap (w64 (s1.2+s1.1))) 1))<((p0.length:Nat):Int) then (Option.bind (Sr (p0.getD (Int.toNat (w64 (kshr .u64 (IntKind.u64.wrap (w64 (s1.2+s1.1))) 1))) (default:Aa)) p1) fun r7=>(if (decide (r7<0)) then (n1 (s1.1,(w64 ((w64 (kshr .u64 (IntKind.u64.wrap (w64 (s1.2+s1.1))) 1))+1)))) else (n1 ((w64 (kshr .u64 (IntKind.u64.wrap (w64 (s1.2+s1.1))) 1)),s1.2)))) else none) else (if (decide (s1.2<((p0.length:Nat):Int))) then (if 0≤s1.2∧s1.2<((p0.length:Nat):Int) then (Option.bind (Sr (p0.getD (Int.toNat s1.2) (default:Aa)) p1) fun r11=>((Dc s1) (r11==0))) else none) else ((Dc s1) false)))
def Ea (p0:List Aa) (p1:Int):Option (Int×Bool):=(whileO (Gk p0 p1) Hq (((p0.length:Nat):Int),0))
def Qq (p0:List Aa) (p1:Int) (p2:List Aa):Option (List Aa):=(if 0≤p1∧p1≤((p0.length:Nat):Int) then (if (((p2.length:Nat):Int)==0) then none else (if (p1==((p0.length:Nat):Int)) then (if p0.length+p2.length≤1073741824 then (some (p0++p2)) else none) else none)) else none)
def Lz (n1:(Int×Bool)→Option (Int×Bool)) (y3:Int×Bool):Option (Int×Bool):=(n1 (y3.1,y3.2))
def Uv (k1:Nat) (x1:Aa) (s1:Int×Bool) (n1:(Int×Bool)→Option (Int×Bool)):Option (Int×Bool):=(if (x1.active&&((!s1.2)||(decide (x1.v<s1.1)))) then ((Lz n1) (x1.v,true)) else ((Lz n1) (s1.1,s1.2)))
def AaX (s1:Int×Bool):Option (Int×Bool):=(some (s1.1,s1.2))
def Pg (p0:Ah):Option (Int×Bool):=(if p0.items.length≤9223372036854775807 then Ao Uv AaX p0.items 0 (0,false) else none)
def Lb (y1:Ah):Option (Ah×Int):=(some (y1,0))
def Iq (p0:Ah):Option (Ah×Int):=(Option.bind (Pg p0) fun r1=>(if r1.2 then (Lb ({ clock:=(Fd p0.clock r1.1),items:=p0.items } : Ah)) else (Lb p0)))
def Ss (p0:Ah) (p1:Int) (p2:Int) (y1:Bool):Option (Ah×Int):=(if y1 then (some (({ clock:=0,items := [] } : Ah),3)) else (Option.bind (Mm p0 p1) fun r6=>(if (decide (r6≥0)) then (some (({ clock:=0,items := [] } : Ah),5)) else (if (decide (((p0.items.length:Nat):Int)≥192)) then (some (({ clock:=0,items := [] } : Ah),7)) else (Option.bind (Ea p0.items p1) fun r9=>(Option.bind (Ca p0.items) fun r10=>(Option.bind (Qq r10 r9.1 [({ id:=p1,weight:=p2,v:=p0.clock,active:=false } : Aa)]) fun r11=>(Option.bind (Iq ({ clock:=p0.clock,items:=r11 } : Ah)) fun r12=>(some (r12.1,r12.2))))))))))
def Abj (p0:Ah) (p1:Int) (p2:Int):Option (Ah×Int):=(Option.bind (Ff p0) fun r1=>(if (!r1) then (some (({ clock:=0,items := [] } : Ah),1)) else (Option.bind (Cj p2) fun r3=>(if (r3==0) then ((Ss p0 p1 p2) true) else ((Ss p0 p1 p2) (p1==0))))))
def AaC (p0:Ah) (p1:Int):Option Ah:=(some p0)
def Iy (n1:Unit→Option Ah) (y21:Unit):Option Ah:=(n1 ())
def Pi (p1:List Int) (k1:Nat) (x1:Aa) (s1:Unit) (n1:Unit→Option Ah):Option Ah:=(Option.bind (Dk p1 x1.id) fun r118=>(if (!r118) then none else ((Iy n1) ())))
def Gd (n10:Ah→Option Ah) (y27:Ah):Option Ah:=(n10 y27)
def Og (p2c0:Ac) (p2c1:List Int) (k10:Nat) (x10:Int) (s10:Ah) (n10:Ah→Option Ah):Option Ah:=(Option.bind (Qo s10 x10) fun r152=>(if (!r152.2) then (Option.bind (Nz x10 p2c0 p2c1) fun r154=>(Option.bind (Abj s10 x10 r154) fun r155=>(Option.bind (AaC r155.1 r155.2) fun r156=>((Gd n10) r156)))) else ((Gd n10) s10)))
def Jf (n13:Unit→Option Ah) (y30:Unit):Option Ah:=(n13 ())
def Ol (p2c0:Ac) (p2c1:List Int) (s10:Ah) (k13:Nat) (x13:Int) (s13:Unit) (n13:Unit→Option Ah):Option Ah:=(Option.bind (Qo s10 x13) fun r170=>(Option.bind (Nz x13 p2c0 p2c1) fun r171=>(if (r170.1.weight != r171) then (Option.bind (Nz x13 p2c0 p2c1) fun r173=>none) else ((Jf n13) ()))))
def Of (s10:Ah) (s13:Unit):Option Ah:=(some s10)
def Oj (p1:List Int) (p2c0:Ac) (p2c1:List Int) (s10:Ah):Option Ah:=(if p1.length≤9223372036854775807 then Ao (Ol p2c0 p2c1 s10) (Of s10) p1 0 () else none)
def Pm (p0:Ah) (p1:List Int) (p2c0:Ac) (p2c1:List Int) (s1:Unit):Option Ah:=(if p1.length≤9223372036854775807 then Ao (Og p2c0 p2c1) (Oj p1 p2c0 p2c1) p1 0 p0 else none)
def Lf (p0:Ah) (p1:List Int) (p2c0:Ac) (p2c1:List Int):Option Ah:=(if p0.items.length≤9223372036854775807 then Ao (Pi p1) (Pm p0 p1 p2c0 p2c1) p0.items 0 () else none)
def Hp (y1:Bool):Option Bool:=(some y1)
def Sz (p0:Int) (p1:List Int) (p2:IMap Bool):Option Bool:=(if (decide (p0<0)) then (Option.bind (Dk p1 (w64 (0-p0))) fun r2=>(if r2 then (Hp true) else (if (decide (p0>0)) then (Hp (p2.get p0)) else (Hp false)))) else (if (decide (p0>0)) then (Hp (p2.get p0)) else (Hp false)))
def Ga (y1:Bool):Option Bool:=(some y1)
def Gv (p0:Aa) (p1c0:List Int) (p1c1:IMap Bool):Option Bool:=(if p0.active then (Ga true) else (Option.bind (Sz p0.id p1c0 p1c1) fun r2=>(Ga (!r2))))
def Ek (p1c0c0:List Int) (p1c0c1:IMap Bool) (k1:Nat) (x1:Aa) (s1:Unit) (n1:Unit→Option Int):Option Int:=(Option.bind (Gv x1 p1c0c0 p1c0c1) fun r12=>(if r12 then (some ((k1:Nat):Int)) else (n1 ())))
def Es (s1:Unit):Option Int:=(some (-1))
def Dj (p0:List Aa) (p1c0c0:List Int) (p1c0c1:IMap Bool):Option Int:=(if p0.length≤9223372036854775807 then Ao (Ek p1c0c0 p1c0c1) Es p0 0 () else none)
def Ci (s1:(List Aa)×Int×Int) (n1:((List Aa)×Int×Int)→Option (Nat×(List Aa)×(List Int)×(IMap Bool))) (y2:(List Aa)×Int):Option (Nat×(List Aa)×(List Int)×(IMap Bool)):=(n1 (y2.1,y2.2,(w64 (s1.2.2+1))))
def Ef (p1c0c0:List Int) (p1c0c1:IMap Bool) (s1:(List Aa)×Int×Int) (n1:((List Aa)×Int×Int)→Option (Nat×(List Aa)×(List Int)×(IMap Bool))):Option (Nat×(List Aa)×(List Int)×(IMap Bool)):=(if (decide (s1.2.2<((s1.1.length:Nat):Int))) then (if 0≤s1.2.2∧s1.2.2<((s1.1.length:Nat):Int) then (if (Int.toNat s1.2.2)<s1.1.length then (Option.bind (Gv (s1.1.getD (Int.toNat s1.2.2) (default:Aa)) p1c0c0 p1c0c1) fun r16=>(if (!r16) then (if 0≤s1.2.1∧s1.2.1<((s1.1.length:Nat):Int) then (if (Int.toNat s1.2.1)<s1.1.length then ((Ci s1 n1) ((s1.1.set (Int.toNat s1.2.1) (s1.1.getD (Int.toNat s1.2.2) (default:Aa))),(w64 (s1.2.1+1)))) else none) else none) else ((Ci s1 n1) (s1.1,s1.2.1)))) else none) else none) else (if 0≤s1.2.1∧s1.2.1≤((s1.1.length:Nat):Int) then (if (Int.toNat s1.2.1)+(Fh s1.1.length (Int.toNat s1.2.1))≤s1.1.length then (if 0≤s1.2.1∧s1.2.1≤(((Uz s1.1 (Int.toNat s1.2.1) (Fh s1.1.length (Int.toNat s1.2.1)) ({ id:=0,weight:=0,v:=0,active:=false } : Aa)).length:Nat):Int) then (some ((Int.toNat s1.2.1),(Uz s1.1 (Int.toNat s1.2.1) (Fh s1.1.length (Int.toNat s1.2.1)) ({ id:=0,weight:=0,v:=0,active:=false } : Aa)),p1c0c0,p1c0c1)) else none) else none) else none))
def Dg (p0:List Aa) (p1c0c0:List Int) (p1c0c1:IMap Bool):Option (Nat×(List Aa)×(List Int)×(IMap Bool)):=(Option.bind (Dj p0 p1c0c0 p1c0c1) fun r1=>(if (r1==(-1)) then (some (p0.length,p0,p1c0c0,p1c0c1)) else (whileO (Ef p1c0c0 p1c0c1) Hq (p0,r1,(w64 (r1+1))))))
def AaZ (p0:Aa) (p1:Aa):Option Int:=(Option.bind (Qk p0.v p1.v) fun r1=>(some r1))
def Cv (n1:(List Aa)→Option (List Aa)) (s4:(List Aa)×Int) (n4:((List Aa)×Int)→Option (List Aa)) (y6:Bool):Option (List Aa):=(if y6 then (if 0≤(w64 (s4.2-1))∧(w64 (s4.2-1))<((s4.1.length:Nat):Int) then (if (Int.toNat (w64 (s4.2-1)))<s4.1.length then (if 0≤s4.2∧s4.2<((s4.1.length:Nat):Int) then (if (Int.toNat s4.2)<s4.1.length then (if 0≤s4.2∧s4.2<((s4.1.length:Nat):Int) then (if (Int.toNat s4.2)<s4.1.length then (if 0≤(w64 (s4.2-1))∧(w64 (s4.2-1))<((s4.1.length:Nat):Int) then (if (Int.toNat (w64 (s4.2-1)))<s4.1.length then (n4 (((s4.1.set (Int.toNat s4.2) (s4.1.getD (Int.toNat (w64 (s4.2-1))) (default:Aa))).set (Int.toNat (w64 (s4.2-1))) (s4.1.getD (Int.toNat s4.2) (default:Aa))),(w64 (s4.2-1)))) else none) else none) else none) else none) else none) else none) else none) else none) else (n1 s4.1))
def Fq (p1:Int) (n1:(List Aa)→Option (List Aa)) (s4:(List Aa)×Int) (n4:((List Aa)×Int)→Option (List Aa)):Option (List Aa):=(if (decide (s4.2>p1)) then (if 0≤s4.2∧s4.2<((s4.1.length:Nat):Int) then (if (Int.toNat s4.2)<s4.1.length then (if 0≤(w64 (s4.2-1))∧(w64 (s4.2-1))<((s4.1.length:Nat):Int) then (if (Int.toNat (w64 (s4.2-1)))<s4.1.length then (Option.bind (AaZ (s4.1.getD (Int.toNat s4.2) (default:Aa)) (s4.1.getD (Int.toNat (w64 (s4.2-1))) (default:Aa))) fun r96=>((Cv n1 s4 n4) (decide (r96<0)))) else none) else none) else none) else none) else ((Cv n1 s4 n4) false))
def Ft (p1:Int) (k1:Int) (s1:List Aa) (n1:(List Aa)→Option (List Aa)):Option (List Aa):=(whileO (Fq p1 n1) Hq (s1,k1))
def Fu (s1:List Aa):Option (List Aa):=(some s1)
def Da (p0:List Aa) (p1:Int) (p2:Int):Option (List Aa):=(if -9223372036854775808≤(w64 (p1+1))∧p2≤9223372036854775807 then (forO (Ft p1) Fu (Int.toNat (p2-(w64 (p1+1)))) (w64 (p1+1)) p0) else none)
def Ia (p1:Int) (s5:Unit) (n5:Unit→Option (List Aa)):Option (List Aa):=(if (decide (40≤p1)) then none else none)
def Ib (p1:Int) (r11:List Aa) (s4:Unit) (n4:Unit→Option (List Aa)):Option (List Aa):=(if (decide (20<p1)) then (whileO (Ia p1) Hq ()) else (some r11))
def Hy (p1:Int) (s1:(List Aa)×Int×Int) (n1:((List Aa)×Int×Int)→Option (List Aa)):Option (List Aa):=(if (decide (s1.2.2≤p1)) then (Option.bind (Da s1.1 s1.2.1 s1.2.2) fun r9=>(if s1.1.length=r9.length then (n1 (r9,s1.2.2,(w64 (s1.2.2+20)))) else none)) else (Option.bind (Da s1.1 s1.2.1 p1) fun r11=>(if s1.1.length=r11.length then (whileO (Ib p1 r11) Hq ()) else none)))
def Eu (p0:List Aa) (p1:Int):Option (List Aa):=(whileO (Hy p1) Hq (p0,0,20))
def Eh (p0:List Aa):Option (List Aa):=(Option.bind (Eu p0 ((p0.length:Nat):Int)) fun r1=>(if p0.length=r1.length then (some r1) else none))
def Ub (p0:Ah) (p1:Int):Option (Int×Ah):=(if 0≤p1∧p1<((p0.items.length:Nat):Int) then (if (Int.toNat p1)<p0.items.length then (if (p0.items.getD (Int.toNat p1) (default:Aa)).active then (some (9,p0)) else (if (Int.toNat p1)<p0.items.length then (if (Int.toNat p1)<p0.items.length then (if (Int.toNat p1)<p0.items.length then (some (0,({ clock:=p0.clock,items:=((p0.items.set (Int.toNat p1) ({ id:=(p0.items.getD (Int.toNat p1) (default:Aa)).id,weight:=(p0.items.getD (Int.toNat p1) (default:Aa)).weight,v:=(p0.items.getD (Int.toNat p1) (default:Aa)).v,active:=true } : Aa)).set (Int.toNat p1) ({ id:=((p0.items.set (Int.toNat p1) ({ id:=(p0.items.getD (Int.toNat p1) (default:Aa)).id,weight:=(p0.items.getD (Int.toNat p1) (default:Aa)).weight,v:=(p0.items.getD (Int.toNat p1) (default:Aa)).v,active:=true } : Aa)).getD (Int.toNat p1) (default:Aa)).id,weight:=((p0.items.set (Int.toNat p1) ({ id:=(p0.items.getD (Int.toNat p1) (default:Aa)).id,weight:=(p0.items.getD (Int.toNat p1) (default:Aa)).weight,v:=(p0.items.getD (Int.toNat p1) (default:Aa)).v,active:=true } : Aa)).getD (Int.toNat p1) (default:Aa)).weight,v:=(Fd (p0.items.getD (Int.toNat p1) (default:Aa)).v p0.clock),active:=((p0.items.set (Int.toNat p1) ({ id:=(p0.items.getD (Int.toNat p1) (default:Aa)).id,weight:=(p0.items.getD (Int.toNat p1) (default:Aa)).weight,v:=(p0.items.getD (Int.toNat p1) (default:Aa)).v,active:=true } : Aa)).getD (Int.toNat p1) (default:Aa)).active } : Aa)) } : Ah))) else none) else none) else none)) else none) else none)
def Ig (p0:Ah) (p1:Int):Option (Ah×Int):=(Option.bind (Ff p0) fun r1=>(if (!r1) then (some (({ clock:=0,items := [] } : Ah),1)) else (Option.bind (Mm p0 p1) fun r3=>(if (decide (r3<0)) then (some (({ clock:=0,items := [] } : Ah),4)) else (Option.bind (Ca p0.items) fun r5=>(Option.bind (Ub ({ clock:=p0.clock,items:=r5 } : Ah) r3) fun r6=>(if r5.length=r6.2.items.length then (if (r6.1 != 0) then (some (({ clock:=0,items := [] } : Ah),r6.1)) else (Option.bind (Iq r6.2) fun r10=>(some (r10.1,r10.2)))) else none)))))))
def Zk (p0:Ah) (p1:Int):Option (Ah×Int):=(Option.bind (Ig p0 p1) fun r1=>(some (r1.1,r1.2)))
def Ki (n1:Unit→Option (Ah×(List Int)×(IMap Bool))) (y5:Unit):Option (Ah×(List Int)×(IMap Bool)):=(n1 ())
def Gx (n1:Unit→Option (Ah×(List Int)×(IMap Bool))) (y6:Bool):Option (Ah×(List Int)×(IMap Bool)):=(if y6 then none else ((Ki n1) ()))
def Qc (p1c0:List Int) (p1c1:IMap Bool) (k1:Nat) (x1:Aa) (s1:Unit) (n1:Unit→Option (Ah×(List Int)×(IMap Bool))):Option (Ah×(List Int)×(IMap Bool)):=(if x1.active then (Option.bind (Sz x1.id p1c0 p1c1) fun r51=>((Gx n1) (!r51))) else ((Gx n1) false))
def Px (k4:Nat) (x4:Aa) (s4:Ah) (n4:Ah→Option (Ah×(List Int)×(IMap Bool))):Option (Ah×(List Int)×(IMap Bool)):=(Option.bind (Zk s4 x4.id) fun r70=>(Option.bind (AaC r70.1 r70.2) fun r71=>(n4 r71)))
def Qi (r54:Nat×(List Aa)×(List Int)×(IMap Bool)) (s4:Ah):Option (Ah×(List Int)×(IMap Bool)):=(some (s4,r54.2.2.1,r54.2.2.2))
def Pz (p0:Ah) (p1c0:List Int) (p1c1:IMap Bool) (s1:Unit):Option (Ah×(List Int)×(IMap Bool)):=(Option.bind (Ca p0.items) fun r53=>(Option.bind (Dg r53 p1c0 p1c1) fun r54=>(if r53.length=r54.2.1.length then (if r54.1≤r54.2.1.length then (Option.bind (Eh (r54.2.1.take r54.1)) fun r57=>(if (r54.2.1.take r54.1).length=r57.length then (if r57.length≤9223372036854775807 then Ao Px (Qi r54) r57 0 p0 else none) else none)) else none) else none)))
def Lk (p0:Ah) (p1c0:List Int) (p1c1:IMap Bool):Option (Ah×(List Int)×(IMap Bool)):=(if p0.items.length≤9223372036854775807 then Ao (Qc p1c0 p1c1) (Pz p0 p1c0 p1c1) p0.items 0 () else none)
def AeJ (p0:Ac) (p1:List Ag) (r3:Ac×(List Int)) (k1:Nat) (x1:Bz) (s1:(List Int)×(IMap Bool)×(List Ag)) (n1:((List Int)×(IMap Bool)×(List Ag))→Option (List Ag)):Option (List Ag):=(Option.bind (Acm p1 x1.id) fun r19=>(Option.bind (Acu p0 x1.id) fun r20=>(Option.bind (Lf r19 r20 r3.1 r3.2) fun r21=>(Option.bind (Lk r21 s1.1 s1.2.1) fun r22=>(if s1.2.2.length+1≤1073741824 then (n1 (r22.2.1,r22.2.2,(s1.2.2 ++ [({ group:=x1.id,queue:=r22.1 } : Ag)]))) else none)))))
def AeR (s1:(List Int)×(IMap Bool)×(List Ag)):Option (List Ag):=(some s1.2.2)
def Lv (p0:Ac) (p1:List Ag) (p2:List Int) (p3:List Int):Option (List Ag):=(Option.bind (Abn p0 p2) fun r1=>(if (!r1) then (some []) else (Option.bind (Zt p0 p2) fun r3=>(Option.bind (Abh p0 p3) fun r4=>(if p0.tree.nodes.length≤9223372036854775807 then Ao (AeJ p0 p1 r3) AeR p0.tree.nodes 0 (r4.1,r4.2,[]) else none)))))
def Xp (p1:List Int) (k1:Nat) (x1:Int) (s1:Unit) (n1:Unit→Option Bool):Option Bool:=(if k1<p1.length then (if (x1 != (p1.getD k1 0)) then (some false) else (n1 ())) else none)
def Wt (s1:Unit):Option Bool:=(some true)
def Th (p0:List Int) (p1:List Int):Option Bool:=(if (((p0.length:Nat):Int) != ((p1.length:Nat):Int)) then (some false) else (if p0.length≤9223372036854775807 then Ao (Xp p1) Wt p0 0 () else none))
def Adk (k4:Nat) (x4:Aa) (s4:List Int) (n4:(List Int)→Option Bool):Option Bool:=(if ((decide (x4.id<0))&&(x4.weight != 100)) then (some false) else (if s4.length+1≤1073741824 then (n4 (s4 ++ [x4.id])) else none))
def Adc (p0:Ac) (x1:Bz) (n1:Unit→Option Bool) (s4:List Int):Option Bool:=(Option.bind (Acu p0 x1.id) fun r90=>(Option.bind (Th s4 r90) fun r91=>(if (!r91) then (some false) else (n1 ()))))
def Uc (p0:Ac) (p1:List Ag) (k1:Nat) (x1:Bz) (n1:Unit→Option Bool) (y4:Bool):Option Bool:=(if y4 then (some false) else (if k1<p1.length then (if (p1.getD k1 (default:Ag)).queue.items.length≤9223372036854775807 then Ao Adk (Adc p0 x1 n1) (p1.getD k1 (default:Ag)).queue.items 0 [] else none) else none))
def Adn (p0:Ac) (p1:List Ag) (k1:Nat) (x1:Bz) (s1:Unit) (n1:Unit→Option Bool):Option Bool:=(if k1<p1.length then (if ((p1.getD k1 (default:Ag)).group != x1.id) then ((Uc p0 p1 k1 x1 n1) true) else (if k1<p1.length then (Option.bind (Ff (p1.getD k1 (default:Ag)).queue) fun r68=>((Uc p0 p1 k1 x1 n1) (!r68))) else none)) else none)
def Add (s1:Unit):Option Bool:=(some true)
def Uj (p0:Ac) (p1:List Ag) (y1:Bool):Option Bool:=(if y1 then (some false) else (if p0.tree.nodes.length≤9223372036854775807 then Ao (Adn p0 p1) Add p0.tree.nodes 0 () else none))
def Kg (p0:Ac) (p1:List Ag):Option Bool:=(Option.bind (Li p0) fun r1=>(if (!r1) then ((Uj p0 p1) true) else ((Uj p0 p1) (((p1.length:Nat):Int) != ((p0.tree.nodes.length:Nat):Int)))))
def Gf (p0:List Ag):Option (List Ag):=(if 0+p0.length≤1073741824 then (some p0) else none)
def Mu (p0:List Ag):Option (List Ag):=(some [])
def Abi (k1:Int) (s1:List Ag) (n1:(List Ag)→Option (List Ag)):Option (List Ag):=(if 0≤k1∧k1<((s1.length:Nat):Int) then (if (Int.toNat k1)<s1.length then (Option.bind (Ca (s1.getD (Int.toNat k1) (default:Ag)).queue.items) fun r26=>(if 0≤k1∧k1<((s1.length:Nat):Int) then (if (Int.toNat k1)<s1.length then (n1 (s1.set (Int.toNat k1) ({ group:=(s1.getD (Int.toNat k1) (default:Ag)).group,queue:=({ clock:=(s1.getD (Int.toNat k1) (default:Ag)).queue.clock,items:=r26 } : Ah) } : Ag))) else none) else none)) else none) else none)
def AeQ (s1:List Ag):Option (List Ag):=(some s1)
def Kr (p0:List Ag):Option (List Ag):=(Option.bind (Gf p0) fun r1=>(if r1.length≤9223372036854775807 then (forO Abi AeQ (Int.toNat (((r1.length:Nat):Int)-0)) 0 r1) else none))
def Adb (p0:Ag) (p1:Int):Option Bool:=(some (p0.group==p1))
def Jk (p1c0:Int) (k1:Nat) (x1:Ag) (s1:Unit) (n1:Unit→Option Int):Option Int:=(Option.bind (Adb x1 p1c0) fun r10=>(if r10 then (some ((k1:Nat):Int)) else (n1 ())))
def Jo (s1:Unit):Option Int:=(some (-1))
def Gg (p0:List Ag) (p1c0:Int):Option Int:=(if p0.length≤9223372036854775807 then Ao (Jk p1c0) Jo p0 0 () else none)
def Vu (p0:List Ag) (p1:Int):Option Int:=(Option.bind (Gg p0 p1) fun r1=>(some r1))
def AeM (p1:List Ag) (k1:Nat) (x1:Int) (s1:(List item)×Int) (n1:((List item)×Int)→Option (List item)):Option (List item):=(Option.bind (Vu p1 x1) fun r12=>(if s1.1.length+1≤1073741824 then (n1 ((s1.1 ++ [({ branch:=r12,id:=s1.2 } : item)]),x1)) else none))
def AeX (s1:(List item)×Int):Option (List item):=(some s1.1)
def Xj (p0:Ac) (p1:List Ag) (p2:Cf):Option (List item):=(Option.bind (Gn p0.tree p2.group) fun r1=>(if r1.length≤9223372036854775807 then Ao (AeM p1) AeX r1 0 ([],(w64 (0-p2.id))) else none))
def AcL (p0:List Ag) (k1:Nat) (x1:item) (s1:Unit) (n1:Unit→Option Bool):Option Bool:=(if 0≤x1.branch∧x1.branch<((p0.length:Nat):Int) then (Option.bind (Qo (p0.getD (Int.toNat x1.branch) (default:Ag)).queue x1.id) fun r13=>(if (!r13.1.active) then (some false) else (n1 ()))) else none)
def AcI (s1:Unit):Option Bool:=(some true)
def Abc (p0:List Ag) (p1:List item):Option Bool:=(if p1.length≤9223372036854775807 then Ao (AcL p0) AcI p1 0 () else none)
def La (n1:Int→Option (Int×Bool)) (y5:Int):Option (Int×Bool):=(n1 y5)
def Fp (k1:Nat) (s1:Int) (n1:Int→Option (Int×Bool)) (y6:Bool):Option (Int×Bool):=(if y6 then ((La n1) ((k1:Nat):Int)) else ((La n1) s1))
def Vk (p0:Ah) (p1:List Int) (k1:Nat) (x1:Aa) (s1:Int) (n1:Int→Option (Int×Bool)):Option (Int×Bool):=(if x1.active then (Option.bind (Dk p1 x1.id) fun r25=>(if r25 then (if (decide (s1<0)) then ((Fp k1 s1 n1) true) else (if 0≤s1∧s1<((p0.items.length:Nat):Int) then ((Fp k1 s1 n1) (decide (x1.v<(p0.items.getD (Int.toNat s1) (default:Aa)).v))) else none)) else ((Fp k1 s1 n1) false))) else ((Fp k1 s1 n1) false))
def Vq (p0:Ah) (s1:Int):Option (Int×Bool):=(if (decide (s1<0)) then (some (0,false)) else (if 0≤s1∧s1<((p0.items.length:Nat):Int) then (some ((p0.items.getD (Int.toNat s1) (default:Aa)).id,true)) else none))
def Cp (p0:Ah) (p1:List Int):Option (Int×Bool):=(Option.bind (Ff p0) fun r1=>(if (!r1) then (some (0,false)) else (if p0.items.length≤9223372036854775807 then Ao (Vk p0 p1) (Vq p0) p0.items 0 (-1) else none)))
def Nn (n1:(PMap Bool)→Option (Int×Bool)) (y15:PMap Bool):Option (Int×Bool):=(n1 y15)
def AbJ (p1:List Ag) (n1:(PMap Bool)→Option (Int×Bool)) (r142:List item) (k10:Nat) (x10:item) (s10:PMap Bool) (n10:(PMap Bool)→Option (Int×Bool)):Option (Int×Bool):=(if 0≤(w64 (((k10:Nat):Int)+1))∧(w64 (((k10:Nat):Int)+1))≤((r142.length:Nat):Int) then (Option.bind (Abc p1 (r142.take (Int.toNat (w64 (((k10:Nat):Int)+1))))) fun r157=>(if (!r157) then ((Nn n1) s10) else (n10 (s10.set x10.branch x10.id true)))) else none)
def AbH (n1:(PMap Bool)→Option (Int×Bool)) (s10:PMap Bool):Option (Int×Bool):=((Nn n1) s10)
def Xr (p0:Ac) (p1:List Ag) (p2:List Int) (k1:Nat) (x1:Cf) (s1:PMap Bool) (n1:(PMap Bool)→Option (Int×Bool)):Option (Int×Bool):=(Option.bind (Dk p2 x1.id) fun r140=>(if (!r140) then ((Nn n1) s1) else (Option.bind (Xj p0 p1 x1) fun r142=>(if r142.length≤9223372036854775807 then Ao (AbJ p1 n1 r142) (AbH n1) r142 0 s1 else none))))
def Sf (n13:(List Int)→Option (Int×Bool)) (y21:List Int):Option (Int×Bool):=(n13 y21)
def Nq (s1:PMap Bool) (r183:Int) (k13:Nat) (x13:Aa) (s13:List Int) (n13:(List Int)→Option (Int×Bool)):Option (Int×Bool):=(if (s1.get r183 x13.id) then (if s13.length+1≤1073741824 then ((Sf n13) (s13 ++ [x13.id])) else none) else ((Sf n13) s13))
def Fi (p1:List Ag) (n11:Int→Option (Int×Bool)) (r183:Int) (s13:List Int):Option (Int×Bool):=(if 0≤r183∧r183<((p1.length:Nat):Int) then (Option.bind (Cp (p1.getD (Int.toNat r183) (default:Ag)).queue s13) fun r204=>(if (!r204.2) then (some (0,false)) else (if (decide (r204.1<0)) then (some ((w64 (0-r204.1)),true)) else (n11 r204.1)))) else none)
def Se (p1:List Ag) (s1:PMap Bool) (s11:Int) (n11:Int→Option (Int×Bool)):Option (Int×Bool):=(Option.bind (Vu p1 s11) fun r183=>(if 0≤r183∧r183<((p1.length:Nat):Int) then (if (p1.getD (Int.toNat r183) (default:Ag)).queue.items.length≤9223372036854775807 then Ao (Nq s1 r183) (Fi p1 n11 r183) (p1.getD (Int.toNat r183) (default:Ag)).queue.items 0 [] else none) else none))
def Pl (p1:List Ag) (s1:PMap Bool):Option (Int×Bool):=(whileO (Se p1 s1) Hq 1)
def Cz (p0:Ac) (p1:List Ag) (p2:List Int):Option (Int×Bool):=(if p0.tasks.length≤9223372036854775807 then Ao (Xr p0 p1 p2) (Pl p1) p0.tasks 0 (PMap.empty false) else none)
def Iz (n1:(List Aa)→Option (Int×Ah)) (y3:List Aa):Option (Int×Ah):=(n1 y3)
def Ra (p1:Int) (k1:Int) (s1:List Aa) (n1:(List Aa)→Option (Int×Ah)):Option (Int×Ah):=(if 0≤k1∧k1<((s1.length:Nat):Int) then (if (Int.toNat k1)<s1.length then (if (s1.getD (Int.toNat k1) (default:Aa)).active then (if 0≤k1∧k1<((s1.length:Nat):Int) then (if (Int.toNat k1)<s1.length then (if (Int.toNat p1)<s1.length then (if 0≤k1∧k1<((s1.length:Nat):Int) then (if (Int.toNat k1)<s1.length then ((Iz n1) (s1.set (Int.toNat k1) ({ id:=(s1.getD (Int.toNat k1) (default:Aa)).id,weight:=(s1.getD (Int.toNat k1) (default:Aa)).weight,v:=(Fd (s1.getD (Int.toNat k1) (default:Aa)).v (s1.getD (Int.toNat p1) (default:Aa)).v),active:=(s1.getD (Int.toNat k1) (default:Aa)).active } : Aa))) else none) else none) else none) else none) else none) else ((Iz n1) s1)) else none) else none)
def Rc (p0:Ah) (p1:Int) (s1:List Aa):Option (Int×Ah):=(if (Int.toNat p1)<s1.length then (if (Int.toNat p1)<s1.length then (Option.bind (Cj (s1.getD (Int.toNat p1) (default:Aa)).weight) fun r45=>(if (Int.toNat p1)<s1.length then (some (0,({ clock:=p0.clock,items:=(s1.set (Int.toNat p1) ({ id:=(s1.getD (Int.toNat p1) (default:Aa)).id,weight:=(s1.getD (Int.toNat p1) (default:Aa)).weight,v:=(w64 ((s1.getD (Int.toNat p1) (default:Aa)).v+r45)),active:=(s1.getD (Int.toNat p1) (default:Aa)).active } : Aa)) } : Ah))) else none)) else none) else none)
def Lh (p0:Ah) (p1:Int):Option (Int×Ah):=(if 0≤p1∧p1<((p0.items.length:Nat):Int) then (if (Int.toNat p1)<p0.items.length then (if (!(p0.items.getD (Int.toNat p1) (default:Aa)).active) then (some (9,p0)) else (if (Int.toNat p1)<p0.items.length then (if (Int.toNat p1)<p0.items.length then (Option.bind (Cj (p0.items.getD (Int.toNat p1) (default:Aa)).weight) fun r6=>(if (decide ((w64 ((p0.items.getD (Int.toNat p1) (default:Aa)).v+r6))>1152921504606846976)) then (some (7,p0)) else (if p0.items.length≤9223372036854775807 then (forO (Ra p1) (Rc p0 p1) (Int.toNat (((p0.items.length:Nat):Int)-0)) 0 p0.items) else none))) else none) else none)) else none) else none)
def Ep (p0:Ah) (p1:Int):Option (Ah×Int):=(Option.bind (Ff p0) fun r1=>(if (!r1) then (some (({ clock:=0,items := [] } : Ah),1)) else (Option.bind (Mm p0 p1) fun r3=>(if (decide (r3<0)) then (some (({ clock:=0,items := [] } : Ah),4)) else (Option.bind (Ca p0.items) fun r5=>(Option.bind (Lh ({ clock:=p0.clock,items:=r5 } : Ah) r3) fun r6=>(if r5.length=r6.2.items.length then (if (r6.1 != 0) then (some (({ clock:=0,items := [] } : Ah),r6.1)) else (Option.bind (Iq r6.2) fun r10=>(some (r10.1,r10.2)))) else none)))))))
def Hz (p0:Ah) (p1:Int):Option (Ah×Int):=(Option.bind (Ep p0 p1) fun r1=>(some (r1.1,r1.2)))
def Zl (k1:Nat) (x1:item) (s1:List Ag) (n1:(List Ag)→Option ((List Ag)×Int)):Option ((List Ag)×Int):=(if 0≤x1.branch∧x1.branch<((s1.length:Nat):Int) then (if (Int.toNat x1.branch)<s1.length then (Option.bind (Hz (s1.getD (Int.toNat x1.branch) (default:Ag)).queue x1.id) fun r26=>(if (r26.2 != 0) then (some ([],r26.2)) else (if 0≤x1.branch∧x1.branch<((s1.length:Nat):Int) then (if (Int.toNat x1.branch)<s1.length then (n1 (s1.set (Int.toNat x1.branch) ({ group:=(s1.getD (Int.toNat x1.branch) (default:Ag)).group,queue:=r26.1 } : Ag))) else none) else none))) else none) else none)
def AdN (s1:List Ag):Option ((List Ag)×Int):=(some (s1,0))
def Me (p0:Ac) (p1:List Ag) (p2:Int):Option ((List Ag)×Int):=(Option.bind (Tq p0 p2) fun r1=>(if (!r1.2) then (some ([],4)) else (Option.bind (Kr p1) fun r3=>(Option.bind (Xj p0 p1 r1.1) fun r4=>(if r4.length≤9223372036854775807 then Ao Zl AdN r4 0 r3 else none)))))
def AfP (k1:Nat) (x1:Cf) (s1:List Int) (n1:(List Int)→Option ((List Ag)×(List Int))):Option ((List Ag)×(List Int)):=(if s1.length+1≤1073741824 then (n1 (s1 ++ [x1.id])) else none)
def Mi (y3:(List Int)×(List Ag)):Option ((List Ag)×(List Int)):=(some (y3.2,y3.1))
def Ul (p0:Ac) (s1:List Int) (k4:Int) (s4:(List Int)×(List Ag)) (n4:((List Int)×(List Ag))→Option ((List Ag)×(List Int))):Option ((List Ag)×(List Int)):=(Option.bind (Cz p0 s4.2 s1) fun r66=>(if (!r66.2) then (Mi (s4.1,s4.2)) else (Option.bind (Me p0 s4.2 r66.1) fun r68=>(if (r68.2 != 0) then (Mi (s4.1,s4.2)) else (if s4.1.length+1≤1073741824 then (n4 ((s4.1 ++ [r66.1]),r68.1)) else none)))))
def Ug (s4:(List Int)×(List Ag)):Option ((List Ag)×(List Int)):=(Mi (s4.1,s4.2))
def Mh (p0:Ac) (p1:List Ag) (p2:Int) (s1:List Int):Option ((List Ag)×(List Int)):=(Option.bind (Kg p0 p1) fun r50=>(if (!r50) then (some ([],[])) else (Option.bind (Kr p1) fun r52=>(if (Lj (Fd p2 0) 65536)≤9223372036854775807 then (forO (Ul p0 s1) Ug (Int.toNat ((Lj (Fd p2 0) 65536)-0)) 0 ([],r52)) else none))))
def Pb (p0:Ac) (p1:List Ag) (p2:Int):Option ((List Ag)×(List Int)):=(if p0.tasks.length≤9223372036854775807 then Ao AfP (Mh p0 p1 p2) p0.tasks 0 [] else none)
def Qh (p0:Int) (p1:Int) (p2:Int):Option Bool:=(some ((decide (p0<p1))||(decide (p0>p2))))
def Ei (p1c0:Int) (p1c1:Int) (k1:Nat) (x1:Int) (s1:Unit) (n1:Unit→Option Int):Option Int:=(Option.bind (Qh x1 p1c0 p1c1) fun r10=>(if r10 then (some ((k1:Nat):Int)) else (n1 ())))
def Ii (s1:Unit):Option Int:=(some (-1))
def Db (p0:List Int) (p1c0:Int) (p1c1:Int):Option Int:=(if p0.length≤9223372036854775807 then Ao (Ei p1c0 p1c1) Ii p0 0 () else none)
def Dh (p0:List Int) (p1c0:Int) (p1c1:Int):Option Bool:=(Option.bind (Db p0 p1c0 p1c1) fun r1=>(some (decide (r1≥0))))
def Jv (p0:List Int) (p1:Int) (p2:Int):Option Bool:=(Option.bind (Dh p0 p1 p2) fun r1=>(some (!r1)))
def Im (y1:Bool):Option Bool:=(some y1)
def Ho (p0:Int) (p1:List Int) (p2:List Int):Option Bool:=(Option.bind (Jv [p0] 0 65536) fun r1=>(if r1 then (if (decide (((p1.length:Nat):Int)≤64)) then (if (((p1.length:Nat):Int)==((p2.length:Nat):Int)) then (Option.bind (Jv p1 1 10000) fun r5=>(if r5 then (Option.bind (Jv p2 0 65536) fun r7=>(Im r7)) else (Im false))) else (Im false)) else (Im false)) else (Im false)))
def Mo (n6:(Int×Int)→Option (List Int)) (y15:Int×Int):Option (List Int):=(n6 (y15.1,y15.2))
def Ni (p2:List Int) (s1:(List Int)×(List Bool)×Bool) (k6:Nat) (x6:Int) (s6:Int×Int) (n6:(Int×Int)→Option (List Int)):Option (List Int):=(if k6<s1.2.1.length then (if k6<s1.2.1.length then (if (s1.2.1.getD k6 false) then (if k6<p2.length then ((Mo n6) ((w64 (s6.1-(p2.getD k6 0))),s6.2)) else none) else ((Mo n6) (s6.1,(w64 (s6.2+x6))))) else none) else none)
def Ji (n9:((List Int)×(List Bool)×Bool)→Option (List Int)) (y18:(List Int)×(List Bool)×Bool):Option (List Int):=(n9 (y18.1,y18.2.1,y18.2.2))
def Rh (p2:List Int) (s6:Int×Int) (k9:Nat) (x9:Int) (s9:(List Int)×(List Bool)×Bool) (n9:((List Int)×(List Bool)×Bool)→Option (List Int)):Option (List Int):=(if k9<s9.2.1.length then (if k9<s9.2.1.length then (if (s9.2.1.getD k9 false) then ((Ji n9) (s9.1,s9.2.1,s9.2.2)) else (if (s6.2:Int)≠0 then (if k9<s9.1.length then (if k9<s9.1.length then (if k9<(s9.1.set k9 (w64 (Int.tdiv (w64 (s6.1*x9)) s6.2))).length then (if k9<(s9.1.set k9 (w64 (Int.tdiv (w64 (s6.1*x9)) s6.2))).length then (if k9<p2.length then (if (decide (((s9.1.set k9 (w64 (Int.tdiv (w64 (s6.1*x9)) s6.2))).getD k9 0)≥(p2.getD k9 0))) then (if k9<p2.length then (if k9<(s9.1.set k9 (w64 (Int.tdiv (w64 (s6.1*x9)) s6.2))).length then (if k9<(s9.1.set k9 (w64 (Int.tdiv (w64 (s6.1*x9)) s6.2))).length then (if k9<s9.2.1.length then (if k9<s9.2.1.length then ((Ji n9) (((s9.1.set k9 (w64 (Int.tdiv (w64 (s6.1*x9)) s6.2))).set k9 (p2.getD k9 0)),(s9.2.1.set k9 true),true)) else none) else none) else none) else none) else none) else ((Ji n9) ((s9.1.set k9 (w64 (Int.tdiv (w64 (s6.1*x9)) s6.2))),s9.2.1,s9.2.2))) else none) else none) else none) else none) else none) else none)) else none) else none)
def Ng (n1:((List Int)×(List Bool)×Bool)→Option (List Int)) (s9:(List Int)×(List Bool)×Bool):Option (List Int):=(n1 (s9.1,s9.2.1,s9.2.2))
def Kz (p1:List Int) (p2:List Int) (s1:(List Int)×(List Bool)×Bool) (n1:((List Int)×(List Bool)×Bool)→Option (List Int)) (s6:Int×Int):Option (List Int):=(if p1.length≤9223372036854775807 then Ao (Rh p2 s6) (Ng n1) p1 0 (s1.1,s1.2.1,false) else none)
def Ro (p0:Int) (p1:List Int) (p2:List Int) (s1:(List Int)×(List Bool)×Bool) (n1:((List Int)×(List Bool)×Bool)→Option (List Int)):Option (List Int):=(if s1.2.2 then (if p1.length≤9223372036854775807 then Ao (Ni p2 s1) (Kz p1 p2 s1 n1) p1 0 (p0,0) else none) else (some s1.1))
def Hj (p0:Int) (p1:List Int) (p2:List Int):Option (List Int):=(if p1.length≤1073741824 then (if p1.length≤1073741824 then (whileO (Ro p0 p1 p2) Hq ((List.replicate p1.length (0:Int)),(List.replicate p1.length (false:Bool)),true)) else none) else none)
def Zq (k1:Nat) (x1:Int) (s1:Int) (n1:Int→Option Int):Option Int:=(n1 (w64 (s1+x1)))
def Adq (s1:Int):Option Int:=(some s1)
def Kf (p0:List Int):Option Int:=(if p0.length≤9223372036854775807 then Ao Zq Adq p0 0 0 else none)
def Qt (p0:List Int) (p1:List Int) (p2:Int) (p3:Int):Option Int:=(if 0≤p2∧p2<((p1.length:Nat):Int) then (if 0≤p3∧p3<((p0.length:Nat):Int) then (if 0≤p3∧p3<((p1.length:Nat):Int) then (if 0≤p2∧p2<((p0.length:Nat):Int) then (if (decide ((w64 ((w64 ((p1.getD (Int.toNat p2) 0)+1))*(p0.getD (Int.toNat p3) 0)))<(w64 ((w64 ((p1.getD (Int.toNat p3) 0)+1))*(p0.getD (Int.toNat p2) 0))))) then (some (-1)) else (if (decide ((w64 ((w64 ((p1.getD (Int.toNat p2) 0)+1))*(p0.getD (Int.toNat p3) 0)))>(w64 ((w64 ((p1.getD (Int.toNat p3) 0)+1))*(p0.getD (Int.toNat p2) 0))))) then (some 1) else (some 0))) else none) else none) else none) else none)
def Nj (n1:Int→Option (Int×Bool)) (y5:Int):Option (Int×Bool):=(n1 y5)
def Ik (k1:Nat) (s1:Int) (n1:Int→Option (Int×Bool)) (y6:Bool):Option (Int×Bool):=(if y6 then ((Nj n1) ((k1:Nat):Int)) else ((Nj n1) s1))
def Vj (p0:List Int) (p1:List Int) (k1:Nat) (x1:Int) (s1:Int) (n1:Int→Option (Int×Bool)):Option (Int×Bool):=(if k1<p1.length then (if (decide ((p1.getD k1 0)<x1)) then (if (decide (s1<0)) then ((Ik k1 s1 n1) true) else (Option.bind (Qt p0 p1 ((k1:Nat):Int) s1) fun r19=>((Ik k1 s1 n1) (decide (r19<0))))) else ((Ik k1 s1 n1) false)) else none)
def Wc (s1:Int):Option (Int×Bool):=(some ((Fd s1 0),(decide (s1≥0))))
def Qu (p0:List Int) (p1:List Int) (p2:List Int):Option (Int×Bool):=(if p2.length≤9223372036854775807 then Ao (Vj p0 p1) Wc p2 0 (-1) else none)
def Qa (y1:List Int):Option (List Int):=(some y1)
def Mj (p1:List Int) (p2:List Int) (k1:Int) (s1:List Int) (n1:(List Int)→Option (List Int)):Option (List Int):=(Option.bind (Qu p1 s1 p2) fun r18=>(if (!r18.2) then (Qa s1) else (if 0≤r18.1∧r18.1<((s1.length:Nat):Int) then (if (Int.toNat r18.1)<s1.length then (if 0≤r18.1∧r18.1<((s1.length:Nat):Int) then (if (Int.toNat r18.1)<s1.length then (n1 (s1.set (Int.toNat r18.1) (w64 ((s1.getD (Int.toNat r18.1) 0)+1)))) else none) else none) else none) else none)))
def AaL (s1:List Int):Option (List Int):=(Qa s1)
def Lq (p0:Int) (p1:List Int) (p2:List Int):Option (List Int):=(Option.bind (Hj p0 p1 p2) fun r1=>(Option.bind (Kf r1) fun r2=>(if (w64 (p0-r2))≤9223372036854775807 then (forO (Mj p1 p2) AaL (Int.toNat ((w64 (p0-r2))-0)) 0 r1) else none)))
def Ds (p0:Int) (p1:List Int) (p2:List Int):Option (List Int):=(Option.bind (Ho p0 p1 p2) fun r1=>(if (!r1) then (some []) else (Option.bind (Lq p0 p1 p2) fun r3=>(some r3))))
def Abv (k15:Nat) (x15:Cf) (s15:(List Int)×(List Int)) (n15:((List Int)×(List Int))→Option Bool):Option Bool:=(if s15.1.length+1≤1073741824 then (if s15.2.length+1≤1073741824 then (n15 ((s15.1 ++ [x15.id]),(s15.2 ++ [65536]))) else none) else none)
def Lr (n27:Int→Option Bool) (y153:Int):Option Bool:=(n27 y153)
def No (s1:Ac×Ey×(List Int)×(List Int)×Int) (x24:Int) (k27:Nat) (x27:Int) (s27:Int) (n27:Int→Option Bool):Option Bool:=(Option.bind (Wn s1.1 x27) fun r812=>(if (r812.2&&(r812.1.group==x24)) then ((Lr n27) (w64 (s27+1))) else ((Lr n27) s27)))
def Mb (n24:Unit→Option Bool) (y154:Bool):Option Bool:=(if y154 then (some false) else (n24 ()))
def Ky (s1:Ac×Ey×(List Int)×(List Int)×Int) (r701:List Int) (k24:Nat) (n24:Unit→Option Bool) (s27:Int):Option Bool:=(if k24<r701.length then (if k24<r701.length then (if (decide ((w64 (s27-(r701.getD k24 0)))>(w64 (2*((s1.2.2.1.length:Nat):Int))))) then ((Mb n24) true) else (if k24<r701.length then (if k24<r701.length then ((Mb n24) (decide ((w64 ((r701.getD k24 0)-s27))>(w64 (2*((s1.2.2.1.length:Nat):Int)))))) else none) else none)) else none) else none)
def Abw (s1:Ac×Ey×(List Int)×(List Int)×Int) (r698:(List Ag)×(List Int)) (r701:List Int) (k24:Nat) (x24:Int) (s24:Unit) (n24:Unit→Option Bool):Option Bool:=(if r698.2.length≤9223372036854775807 then Ao (No s1 x24) (Ky s1 r701 k24 n24) r698.2 0 0 else none)
def AbM (s24:Unit):Option Bool:=(some true)
def Gt (p1:Int) (s1:Ac×Ey×(List Int)×(List Int)×Int) (s15:(List Int)×(List Int)):Option Bool:=(Option.bind (Lv s1.1 [] ([100]++s1.2.2.2.1) s15.1) fun r696=>(Option.bind (Pb s1.1 r696 (w64 (Int.tmod p1 60))) fun r698=>(Option.bind (Ds (w64 (Int.tmod p1 60)) s1.2.2.2.1 s15.2) fun r701=>(if ((((r698.2.length:Nat):Int) != (w64 (Int.tmod p1 60)))||(((r701.length:Nat):Int) != ((s1.2.2.1.length:Nat):Int))) then (some false) else (if s1.2.2.1.length≤9223372036854775807 then Ao (Abw s1 r698 r701) AbM s1.2.2.1 0 () else none)))))
def Jp (p1:Int) (s1:Ac×Ey×(List Int)×(List Int)×Int) (n1:(Ac×Ey×(List Int)×(List Int)×Int)→Option Bool):Option Bool:=(if (decide (s1.2.2.2.2>0)) then (if s1.2.2.1.length < [(bs [97]),(bs [98]),(bs [99]),(bs [100]),(bs [101])].length then (if s1.2.2.1.length < [(bs [97]),(bs [98]),(bs [99]),(bs [100]),(bs [101])].length then (Option.bind (Pw s1.1 1 ([(bs [97]),(bs [98]),(bs [99]),(bs [100]),(bs [101])].getD s1.2.2.1.length ByteArray.empty)) fun r418=>(Option.bind (Uf r418.1 r418.2.1 0) fun r421=>(if ((r418.2.2 != 0)||(r421.2.2 != 0)) then (some false) else (if s1.2.2.1.length+1≤1073741824 then (Option.bind (Il s1.2.1 5) fun r428=>(if 0≤r428.1∧r428.1<(([100,200,400,50,800].length:Nat):Int) then (if (Int.toNat r428.1) < [100,200,400,50,800].length then (if s1.2.2.2.1.length+1≤1073741824 then (n1 (r421.1,r428.2,(s1.2.2.1 ++ [r418.2.1]),(s1.2.2.2.1 ++ [([100,200,400,50,800].getD (Int.toNat r428.1) 0)]),(w64 (s1.2.2.2.2-1)))) else none) else none) else none)) else none)))) else none) else none) else (if 1+s1.2.2.2.1.length≤1073741824 then (if s1.1.tasks.length≤9223372036854775807 then Ao Abv (Gt p1 s1) s1.1.tasks 0 ([],[]) else none) else none))
def Pf (p0:List Int) (p1:Int) (y1:Bool):Option Bool:=(if y1 then (Option.bind Ack fun r5=>(some r5)) else (Option.bind (AdC p0) fun r6=>(Option.bind Acb fun r7=>(Option.bind (Il r6 3) fun r8=>(whileO (Jp p1) Hq (r7,r8.2,[],[],(w64 (2+r8.1))))))))
def Wq (p0:List Int) (p1:Int):Option Bool:=(Option.bind Ack fun r1=>(if (!r1) then ((Pf p0 p1) true) else (Option.bind (Acz p0) fun r3=>((Pf p0 p1) (!r3)))))
end Go.Dm


/- Plain theory, part 1: models that return, loops. -/
namespace Go.Dm
def Ok {α:Type} (m:Option α) (Q:α→Prop):Prop:=∃ a,m=some a∧Q a
section
variable {α β γ σ:Type} {Q:β→Prop}
theorem Ok.ret {b:β} (h:Q b):Ok (some b) Q:=⟨b,rfl,h⟩
theorem Ok.bind {m:Option α} {f:α→Option β} {P:α→Prop} (h:Ok m P) (k:∀ a,P a→Ok (f a) Q):Ok (Option.bind m f) Q:=by
 obtain ⟨a,rfl,ha⟩:=h
 exact k a ha
theorem Ok.step {m:Option α} {f:α→Option β} {a:α} (h:m=some a) (k:Ok (f a) Q):Ok (Option.bind m f) Q:=by
 subst h
 exact k
theorem Ok.eq {m:Option β} {b:β} (h:Ok m (· = b)):m=some b:=by
 obtain ⟨a,rfl,rfl⟩:=h
 rfl
theorem Ok.mono {m:Option β} {P:β→Prop} (h:Ok m P) (k:∀ b,P b→Q b):Ok m Q:=by
 obtain ⟨a,rfl,ha⟩:=h
 exact ⟨a,rfl,k a ha⟩
theorem Ok.guard {c:Prop} [Decidable c] {t:Option β} (hc:c) (h:Ok t Q):Ok (if c then t else none) Q:=by
 rw [if_pos hc]
 exact h
theorem Ok.ite {c:Bool} {t e:Option β} (ht:c=true→Ok t Q) (he:c=false→Ok e Q):Ok (if c then t else e) Q:=by
 cases c
 ·exact he rfl
 ·exact ht rfl
theorem Ok.range {body:Nat→α→σ→(σ→Option β)→Option β} {done:σ→Option β} {xs:List α} {s0:σ} (I:List α→σ→Prop) (h0:I [] s0)
  (step:∀ pre x post s n,xs=pre++x::post→I pre s→(∀ s',I (pre ++ [x]) s'→Ok (n s') Q)→Ok (body pre.length x s n) Q)
  (fin:∀ s,I xs s→Ok (done s) Q):Ok (Ao body done xs 0 s0) Q:=by
 have key:∀ (post pre:List α) (s:σ),xs=pre++post→I pre s→Ok (Ao body done post pre.length s) Q:=by
  intro post
  induction post with
  | nil =>
   intro pre s he hi
   have:xs=pre:=by simpa using he
   subst this
   exact fin s hi
  | cons x post ih =>
   intro pre s he hi
   refine step pre x post s _ he hi fun s' hi' => ?_
   have:=ih (pre ++ [x]) s' (by simpa using he) hi'
   simpa using this
 exact key xs [] s0 rfl h0
theorem Ok.for {body:Int→σ→(σ→Option β)→Option β} {done:σ→Option β} {m:Nat} {a:Int} {s0:σ} (I:Nat→σ→Prop) (h0:I 0 s0)
  (step:∀ (j:Nat) s n,j<m→I j s→(∀ s',I (j+1) s'→Ok (n s') Q)→Ok (body (a+j) s n) Q)
  (fin:∀ s,I m s→Ok (done s) Q):Ok (forO body done m a s0) Q:=by
 have key:∀ (r j:Nat) (s:σ),j+r=m→I j s→Ok (forO body done r (a+j) s) Q:=by
  intro r
  induction r with
  | zero =>
   intro j s he hi
   obtain rfl:j=m:=by omega
   exact fin s hi
  | succ r ih =>
   intro j s he hi
   refine step j s _ (by omega) hi fun s' hi' => ?_
   have:=ih (j+1) s' (by omega) hi'
   have e:a+(j:Int)+1=a+((j+1:Nat):Int):=by omega
   rw [e]
   exact this
 have:=key m 0 s0 (by omega) h0
 simpa using this
end
theorem Bv {n:Int} (h1 : -9223372036854775808≤n) (h2:n≤9223372036854775807):w64 n=n:=Adf h1 h2
theorem Agm {α:Type} {l:List α} {i:Nat} {d:α} (h:i<l.length):l.getD i d=l[i]:=by
 simp [List.getD_eq_getElem?_getD,h]
theorem Acw {α:Type} {l:List α} {i:Nat} {d:α} (h:i<l.length):l.getD i d∈l:=by
 rw [Agm h]
 exact List.getElem_mem h
theorem Afn {α:Type} {pre post:List α} {x d:α} : (pre++x::post).getD pre.length d=x:=by
 simp [List.getD_eq_getElem?_getD]
theorem Aim {α β:Type} {p:α→Bool} {xs:List α} {r:Int→Option β} {body:Nat→α→Int→(Int→Option β)→Option β} {done:Int→Option β}
  (hb:∀ k x s n,x∈xs→body k x s n=if p x then n (w64 (s+1)) else n s) (hd:∀ s,done s=r s) (hl:xs.length≤1073741824):Ao body done xs 0 0=r ((xs.countP p:Nat):Int):=by
 have key:∀ (ys:List α) (k c:Nat),(∀ x∈ys,x∈xs)→c+ys.length≤1073741824→Ao body done ys k (c:Int)=r ((c+ys.countP p:Nat):Int):=by
  intro ys
  induction ys with
  | nil=>intro k c _ _; simp [Ao,hd]
  | cons x q ih =>
   intro k c hx hl
   simp only [List.length_cons] at hl
   rw [Ao,hb _ _ _ _ (hx x (by simp)),List.countP_cons]
   cases hp:p x
   ·simp only [Bool.false_eq_true,if_false]
    rw [ih (k+1) c (fun y hy=>hx y (by simp [hy])) (by omega)]
    simp
   ·simp only [if_true]
    rw [Bv (by omega) (by omega)]
    have:=ih (k+1) (c+1) (fun y hy=>hx y (by simp [hy])) (by omega)
    rw [show ((c:Int)+1)=((c+1:Nat):Int) by omega,this]
    congr 2
    omega
 have:=key xs 0 0 (fun _ h=>h) (by omega)
 simpa using this
end Go.Dm

/- Plain theory, part 2: names, trees. -/
namespace Go.Dm
end Go.Dm

/- Plain theory, part 3: trees that Check accepts. -/
namespace Go.Dm
end Go.Dm

/- Plain theory, part 4: the nodes of a tree, one behind the other. -/
namespace Go.Dm
end Go.Dm

/- Plain theory, part 5: dice; trees that grow and shrink. -/
namespace Go.Dm
structure Xk (d:Ey):Prop where
 a0:0≤d.atF
 a1:d.atF≤(d.l.length:Int)
 l:d.l.length≤600
theorem dice_roll {l:List Int} (h:l.length≤600):Xk { l:=l,atF:=0 } := ⟨by simp,by simp,h⟩
theorem Next_ok {d:Ey} (h:Xk d) (n:Int) (hn:n≤1000000):Ok (Il d n) (fun r=>Xk r.2∧0≤r.1∧(r.1<n∨(n<1∧r.1=0))):=by
 have h0:=h.a0
 have h1:=h.a1
 have hl:=h.l
 unfold Il
 refine Ok.ite (fun c => ?_) fun c => ?_
 ·simp only [Bool.or_eq_true,decide_eq_true_eq] at c
  refine Ok.ret ⟨h,by simp,?_⟩
  show (0:Int)<n∨(n<1∧(0:Int)=0)
  omega
 simp only [Bool.or_eq_false_iff,decide_eq_false_iff_not] at c
 have e1:w64 (d.atF+1)=d.atF+1:=Bv (by omega) (by omega)
 have e2:w64 (d.atF+1-1)=d.atF:=by
  rw [Bv (by omega) (by omega)]
  omega
 have hd:Xk { l:=d.l,atF:=d.atF+1 } := ⟨by simp only; omega,by simp only; omega,hl⟩
 rw [e1,e2]
 refine Ok.guard (by omega) ?_
 refine Ok.guard (by omega) ?_
 generalize d.l.getD d.atF.toNat 0=x
 have b1:Int.tmod x n<n:=Int.tmod_lt_of_pos x (by omega)
 have b2 : -n<Int.tmod x n:=by
  have:=Int.tmod_lt_of_pos (-x) (show 0<n by omega)
  rw [Int.neg_tmod] at this
  omega
 unfold Lg
 rw [e1]
 refine Ok.ite (fun c2 => ?_) fun c2 => ?_
 ·have:=of_decide_eq_true c2
  rw [Bv (by omega) (by omega)]
  refine Ok.ret ⟨hd,?_,?_⟩ <;> simp only <;> omega
 ·have:=of_decide_eq_false c2
  refine Ok.ret ⟨hd,?_,?_⟩ <;> simp only <;> omega
theorem AfW {d:Ey} (h:Xk d) (n:Int) (h1:1≤n) (hn:n≤1000000):Ok (Il d n) (fun r=>Xk r.2∧0≤r.1∧r.1<n) :=
 (Next_ok h n hn).mono fun r ⟨a,b,c⟩=>⟨a,b,by omega⟩
end Go.Dm

/- TopFlat: the numbers. -/
namespace Go.Dm
theorem Mt (w R g G p Q n m:Int) (hw:0<w) (hR:0≤R) (hm:0≤m) (hg:g+G=n) (hp:p+Q=n)
  (a:w*(G-m)≤R*g) (b:R*(g-1)≤w*G) (c:w*n+1≤(w+R)*p+(w+R)) (d:R*n+m≤(w+R)*Q+(w+R)*m) :
  g-p≤2*m+2∧p-g≤2*m+2:=by
 obtain rfl:Q=g+G-p:=by omega
 subst hg
 simp only [Int.mul_add,Int.add_mul,Int.mul_sub] at a b c d
 constructor
 ·refine Int.not_lt.1 fun h => ?_
  have h2:2≤g-p:=by omega
  have e:=Int.mul_le_mul_of_nonneg_left h2 (show (0:Int)≤w+R by omega)
  simp only [Int.mul_add,Int.add_mul,Int.mul_sub] at e
  omega
 ·refine Int.not_lt.1 fun h => ?_
  have h2:2*m+3≤p-g:=by omega
  have e:=Int.mul_le_mul_of_nonneg_left h2 (show (0:Int)≤w+R by omega)
  have e2:0≤R*m:=Int.mul_nonneg hR hm
  have e3:(w+R)*(2*m+3)=2*(w*m)+2*(R*m)+3*w+3*R:=by
   simp only [Int.mul_add,Int.add_mul]
   have e4:w*(2*m)=2*(w*m):=by rw [← Int.mul_assoc,Int.mul_comm w 2,Int.mul_assoc]
   have e5:R*(2*m)=2*(R*m):=by rw [← Int.mul_assoc,Int.mul_comm R 2,Int.mul_assoc]
   omega
  simp only [Int.mul_sub,Int.add_mul] at e
  rw [Int.add_mul] at e3
  omega
def Gw (w:Int):Int:=(1073741824+w-1) / w
def okW (w:Int):Prop:=w=100∨w=200∨w=400∨w=50∨w=800
theorem Dl {a b x y:Int} (ha:okW a) (hb:okW b) (hx:0≤x) (hx2:x≤60) (hy:0≤y) (hy2:y≤60) (h:Gw b*(y-1)≤Gw a*x):a*(y-1)≤b*x:=by
 rcases ha with rfl|rfl|rfl|rfl|rfl <;> rcases hb with rfl|rfl|rfl|rfl|rfl <;> simp only [Gw] at h <;> omega
end Go.Dm

/- TopFlat: queues by virtual time. -/
namespace Go.Dm
structure ItOk (cl:Int) (x:Aa):Prop where
 id:x.id≠0
 lo:cl≤x.v
 cost:∃ c,Cj x.weight=some c∧0<c∧c≤4294967296∧x.v≤cl+c
structure QOk (q:Ah):Prop where
 c0:0≤q.clock
 c1:q.clock≤1000000000000000
 len:q.items.length≤192
 ids:∀ i,i+1<q.items.length→(q.items.getD i default).id<(q.items.getD (i+1) default).id
 its:∀ x∈q.items,ItOk q.clock x
theorem Aht {q:Ah} (h:QOk q):Ff q=some true:=by
 have hl:=h.len
 have h0:=h.c0
 have h1:=h.c1
 unfold Ff
 rw [if_neg (by simp; omega),if_pos (by omega)]
 refine Ok.eq (Ok.range (fun _ _=>True) trivial ?_ (fun _ _=>Ok.ret rfl))
 intro pre x post s n e _ k
 obtain ⟨hid,hlo,c,hc,c1,c2,hv⟩:=h.its x (by rw [e]; simp)
 have e1:w64 (q.clock+c)=q.clock+c:=Bv (by omega) (by omega)
 have e2:Lj (q.clock+c) 1152921504606846976=q.clock+c:=by unfold Lj; split <;> omega
 unfold Uu
 refine Ok.step hc ?_
 rw [if_neg (by simpa using hid)]
 have fin:Ok (if (c==0)=true then Bw n true else if (decide (x.v<0))=true then Bw n true else
   if (decide (x.v>Lj (w64 (q.clock+c)) 1152921504606846976))=true then Bw n true else
   if x.active=true then Bw n (decide (x.v<q.clock)) else Bw n false) (· = true):=by
  rw [if_neg (by simp; omega),if_neg (by simp; omega),if_neg (by rw [e1,e2]; simp; omega)]
  have hf:decide (x.v<q.clock)=false:=by simp; omega
  rw [hf]
  have hk:Ok (Bw n false) (· = true):=k () trivial
  split <;> exact hk
 by_cases hp:pre.length=0
 ·rw [if_neg (by rw [decide_eq_true_eq]; omega)]
  exact fin
 ·rw [if_pos (by rw [decide_eq_true_eq]; omega)]
  have hlen:q.items.length=pre.length+(post.length+1):=by rw [e]; simp
  have e3:w64 ((pre.length:Int)-1)=(pre.length:Int)-1:=Bv (by omega) (by omega)
  rw [e3]
  refine Ok.guard ⟨by omega,by omega⟩ ?_
  have hids:=h.ids (pre.length-1) (by omega)
  have e4:Int.toNat ((pre.length:Int)-1)=pre.length-1:=by omega
  have e5:q.items.getD (pre.length-1+1) default=x:=by
   rw [show pre.length-1+1=pre.length by omega,e]
   exact Afn
  rw [e5] at hids
  rw [e4,if_neg (by rw [decide_eq_true_eq]; omega)]
  exact fin
theorem first_ok {q:Ah} (hne:q.items ≠ []) (hl:q.items.length≤192) (ha:∀ x∈q.items,x.active=true) :
  Ok (Pg q) (fun r=>r.2=true∧(∃ x∈q.items,x.v=r.1)∧∀ x∈q.items,r.1≤x.v):=by
 unfold Pg
 rw [if_pos (by omega)]
 refine Ok.range (fun pre s=>(pre = []∧s=(0,false))∨(s.2=true∧(∃ x∈pre,x.v=s.1)∧∀ x∈pre,s.1≤x.v)) (.inl ⟨rfl,rfl⟩) ?_ ?_
 ·intro pre x post s n e hi k
  have hx:=ha x (by rw [e]; simp)
  unfold Uv Lz
  rw [hx,Bool.true_and]
  refine Ok.ite (fun hc => ?_) (fun hc => ?_)
  ·refine k _ (.inr ⟨rfl,⟨x,by simp,rfl⟩,fun y hy => ?_⟩)
   rcases List.mem_append.1 hy with hy|hy
   ·rcases hi with ⟨rfl,_⟩|⟨h1,_,h3⟩
    ·simp at hy
    ·rw [h1] at hc
     simp only [Bool.not_true,Bool.false_or,decide_eq_true_eq] at hc
     have:=h3 y hy
     show x.v≤y.v
     omega
   ·simp only [List.mem_singleton] at hy
    subst hy
    exact Int.le_refl _
  ·rcases hi with ⟨_,rfl⟩|⟨h1,⟨z,hz,hz2⟩,h3⟩
   ·simp at hc
   ·rw [h1] at hc
    simp only [Bool.not_true,Bool.false_or,decide_eq_false_iff_not] at hc
    refine k _ (.inr ⟨h1,⟨z,by simp [hz],hz2⟩,fun y hy => ?_⟩)
    rcases List.mem_append.1 hy with hy|hy
    ·exact h3 y hy
    ·simp only [List.mem_singleton] at hy
     subst hy
     show s.1≤y.v
     omega
 ·intro s hi
  rcases hi with ⟨h,_⟩|⟨h1,h2,h3⟩
  ·exact absurd h hne
  ·exact Ok.ret ⟨h1,h2,h3⟩
theorem settle_ok {q:Ah} (hne:q.items ≠ []) (hl:q.items.length≤192) (ha:∀ x∈q.items,x.active=true) (hc:∀ x∈q.items,q.clock≤x.v) :
  ∃ m,Iq q=some (({ clock:=m,items:=q.items } : Ah),0)∧(∃ x∈q.items,x.v=m)∧∀ x∈q.items,m≤x.v:=by
 obtain ⟨⟨m,b⟩,h1,h2,⟨x,hx,hxm⟩,h4⟩:=first_ok hne hl ha
 simp only at h2 hxm h4
 subst h2
 refine ⟨m,?_,⟨x,hx,hxm⟩,h4⟩
 have hm:Fd q.clock m=m:=by
  have:=hc x hx
  unfold Fd
  split <;> omega
 unfold Iq
 rw [h1]
 simp only [Option.bind_some,if_true,Lb,hm]
theorem set_same {l:List Aa} {k:Nat} (hk:k<l.length) {x:Aa} (hx:x=l.getD k default):l.set k x=l:=by
 subst hx
 rw [Agm hk]
 exact List.set_getElem_self hk
theorem My {q:Ah} (h:QOk q) (ha:∀ x∈q.items,x.active=true) {j:Nat} (hj:j<q.items.length) {id:Int} (hat:Mm q id=some (j:Int)) {c:Int}
  (hc:Cj (q.items.getD j default).weight=some c) (c1:0<c) (c2:c≤4294967296) (hmin:∀ x∈q.items,(q.items.getD j default).v≤x.v) :
  ∃ m,Hz q id=some (({ clock:=m,items:=q.items.set j { (q.items.getD j default) with v:=(q.items.getD j default).v+c } } : Ah),0) ∧
   (∃ y∈q.items.set j { (q.items.getD j default) with v:=(q.items.getD j default).v+c },y.v=m) ∧
   ∀ y∈q.items.set j { (q.items.getD j default) with v:=(q.items.getD j default).v+c },m≤y.v:=by
 have hl:=h.len
 have h0:=h.c0
 have h1:=h.c1
 obtain ⟨x,hxe⟩:∃ x,q.items.getD j default=x:=⟨_,rfl⟩
 have hxm:x∈q.items:=by rw [← hxe]; exact Acw hj
 rw [hxe] at hc hmin ⊢
 obtain ⟨_,hlo,c',hc',_,c2',hhi⟩:=h.its x hxm
 have e1:w64 (x.v+c)=x.v+c:=Bv (by omega) (by omega)
 have hset:∀ y∈q.items.set j { x with v:=x.v+c },y∈q.items∨y = { x with v:=x.v+c } := fun y hy=>List.mem_or_eq_of_mem_set hy
 have hserve:Lh ({ clock:=q.clock,items:=q.items } : Ah) (j:Int)=some (0,({ clock:=q.clock,items:=q.items.set j { x with v:=x.v+c } } : Ah)):=by
  refine Ok.eq ?_
  unfold Lh
  simp only [Int.toNat_natCast]
  refine Ok.guard ⟨by omega,by omega⟩ (Ok.guard hj ?_)
  simp only [hxe]
  rw [if_neg (by rw [ha x hxm]; simp)]
  refine Ok.guard hj (Ok.guard hj (Ok.step hc ?_))
  rw [e1,if_neg (by simp; omega)]
  refine Ok.guard (by omega) (Ok.for (fun _ s=>s=q.items) rfl ?_ ?_)
  ·intro k s n hk hs kk
   subst hs
   have hk':k<q.items.length:=by omega
   unfold Ra
   rw [show (0:Int)+(k:Int)=(k:Int) by omega]
   simp only [Int.toNat_natCast]
   refine Ok.guard ⟨by omega,by omega⟩ (Ok.guard hk' ?_)
   rw [if_pos (ha _ (Acw hk'))]
   refine Ok.guard ⟨by omega,by omega⟩ (Ok.guard hk' (Ok.guard hj (Ok.guard ⟨by omega,by omega⟩ (Ok.guard hk' ?_))))
   unfold Iz
   refine kk _ (set_same hk' ?_)
   have hm:Fd (q.items.getD k default).v (q.items.getD j default).v=(q.items.getD k default).v:=by
    have:=hmin _ (Acw (d:=default) hk')
    rw [hxe]
    unfold Fd
    split <;> omega
   rw [hm]
  ·intro s hs
   subst hs
   unfold Rc
   simp only [Int.toNat_natCast]
   refine Ok.guard hj (Ok.guard hj ?_)
   simp only [hxe]
   refine Ok.step hc (Ok.guard hj (Ok.ret ?_))
   rw [e1]
 have hne:q.items.set j { x with v:=x.v+c } ≠ []:=by
  intro he
  have:=congrArg List.length he
  simp at this
  rw [this] at hj
  simp at hj
 obtain ⟨m,g1,g2,g3⟩:=settle_ok (q:=({ clock:=q.clock,items:=q.items.set j { x with v:=x.v+c } } : Ah)) hne (by simpa using hl)
  (fun y hy=>by
   rcases hset y hy with hy|rfl
   ·exact ha y hy
   ·exact ha x hxm)
  (fun y hy=>by
   rcases hset y hy with hy|rfl
   ·exact (h.its y hy).lo
   ·show q.clock≤x.v+c
    omega)
 refine ⟨m,?_,g2,g3⟩
 unfold Hz Ep
 rw [Aht h]
 simp only [Option.bind_some,Bool.not_true,Bool.false_eq_true,if_false]
 rw [hat]
 simp only [Option.bind_some]
 rw [if_neg (by simp)]
 unfold Ca
 rw [if_pos (by omega)]
 simp only [Option.bind_some]
 rw [hserve]
 simp only [Option.bind_some,List.length_set,if_true]
 rw [if_neg (by simp),g1]
 rfl
theorem Aeo {q:Ah} (h:QOk q) (ha:∀ x∈q.items,x.active=true) (hne:q.items ≠ []) {l:List Int} (hl:∀ x∈q.items,Dk l x.id=some true) :
  ∃ j,j<q.items.length∧Cp q l=some ((q.items.getD j default).id,true)∧∀ x∈q.items,(q.items.getD j default).v≤x.v:=by
 have hlen:=h.len
 have key:Ok (Cp q l) (fun r=>∃ j,j<q.items.length∧r=((q.items.getD j default).id,true)∧∀ x∈q.items,(q.items.getD j default).v≤x.v):=by
  unfold Cp
  refine Ok.step (Aht h) ?_
  rw [if_neg (by simp),if_pos (by omega)]
  refine Ok.range (fun pre s=>(pre = []∧s = -1)∨(0≤s∧s.toNat<pre.length∧∀ y∈pre,(q.items.getD s.toNat default).v≤y.v)) (.inl ⟨rfl,rfl⟩) ?_ ?_
  ·intro pre x post s n e hi k
   have hxm:x∈q.items:=by rw [e]; simp
   have hx:q.items.getD pre.length default=x:=by rw [e]; exact Afn
   have hqlen:q.items.length=pre.length+(post.length+1):=by rw [e]; simp
   unfold Vk
   rw [if_pos (ha x hxm)]
   refine Ok.step (hl x hxm) ?_
   rw [if_pos rfl]
   have hnew:(∀ y∈pre,x.v≤y.v)→Ok (Fp pre.length s n true) (fun r=>∃ j,j<q.items.length∧r=((q.items.getD j default).id,true)∧∀ x∈q.items,(q.items.getD j default).v≤x.v):=by
    intro hy
    unfold Fp La
    rw [if_pos rfl]
    refine k _ (.inr ⟨by omega,by simp,fun y hm => ?_⟩)
    simp only [Int.toNat_natCast,hx]
    rcases List.mem_append.1 hm with hm|hm
    ·exact hy y hm
    ·simp only [List.mem_singleton] at hm
     subst hm
     exact Int.le_refl _
   rcases hi with ⟨rfl,rfl⟩|⟨h1,h2,h3⟩
   ·rw [if_pos (by decide)]
    exact hnew (by simp)
   ·rw [if_neg (by simp; omega)]
    refine Ok.guard ⟨h1,by omega⟩ ?_
    cases hd:decide (x.v<(q.items.getD s.toNat default).v) with
    | true =>
     simp only [decide_eq_true_eq] at hd
     exact hnew fun y hy=>by have:=h3 y hy; omega
    | false =>
     simp only [decide_eq_false_iff_not] at hd
     unfold Fp La
     rw [if_neg (by simp)]
     refine k _ (.inr ⟨h1,by simp; omega,fun y hm => ?_⟩)
     rcases List.mem_append.1 hm with hm|hm
     ·exact h3 y hm
     ·simp only [List.mem_singleton] at hm
      subst hm
      omega
  ·intro s hi
   rcases hi with ⟨h1,_⟩|⟨h1,h2,h3⟩
   ·exact absurd h1 hne
   ·unfold Vq
    rw [if_neg (by simp; omega)]
    exact Ok.guard ⟨h1,by omega⟩ (Ok.ret ⟨_,h2,rfl,h3⟩)
 obtain ⟨r,h1,j,h2,rfl,h3⟩:=key
 exact ⟨j,h2,h1,h3⟩
end Go.Dm

/- TopFlat: choosing and serving, for branches whose places are known. -/
namespace Go.Dm
theorem Vt {σ R:Type} {body:σ→(σ→Option R)→Option R} {s:σ} : whileO body Hq s=body s (whileO body 1099511627775):=by
 show whileO body (1099511627775+1) s=_
 rw [whileO]
theorem Wg {σ R:Type} {body:σ→(σ→Option R)→Option R} {s:σ} : whileO body 1099511627775 s=body s (whileO body 1099511627774):=by
 show whileO body (1099511627774+1) s=_
 rw [whileO]
theorem Agi {σ R:Type} {body:σ→(σ→Option R)→Option R} {s:σ} : whileO body 1099511627774 s=body s (whileO body 1099511627773):=by
 show whileO body (1099511627773+1) s=_
 rw [whileO]
theorem while_d {σ R:Type} {body:σ→(σ→Option R)→Option R} {s:σ} : whileO body 1099511627773 s=body s (whileO body 1099511627772):=by
 show whileO body (1099511627772+1) s=_
 rw [whileO]
theorem while_e {σ R:Type} {body:σ→(σ→Option R)→Option R} {s:σ} : whileO body 1099511627772 s=body s (whileO body 1099511627771):=by
 show whileO body (1099511627771+1) s=_
 rw [whileO]
theorem down_ok {B:List Ag} {may:PMap Bool} {br:Ag} {ids:List Int} {s g:Int} {i:Nat} {n:Int→Option (Int×Bool)}
  (a:Vu B s=some (i:Int)) (li:i<B.length) (e:B.getD i default=br) (n0:br.queue.items.length≤192)
  (b:∀ n,Ao (Nq may (i:Int)) (Fi B n (i:Int)) br.queue.items 0 []=Fi B n (i:Int) ids) (p:Cp br.queue ids=some (g,true)) :
  Se B may s n=if decide (g<0)=true then some (w64 (0-g),true) else n g:=by
 unfold Se
 rw [a,Option.bind_some,if_pos ⟨by omega,by omega⟩,Int.toNat_natCast,e,if_pos (by omega),b]
 unfold Fi
 rw [if_pos ⟨by omega,by omega⟩,Int.toNat_natCast,e,p,Option.bind_some,if_neg (by simp)]
theorem Ot {h:Ac} {B:List Ag} {all:List Int} {may:PMap Bool} (hl:h.tasks.length≤9223372036854775807) (c:∀ n,Ao (Xr h B all) n h.tasks 0 (PMap.empty false)=n may):Cz h B all=Pl B may:=by
 unfold Cz
 rw [if_pos hl,c]
theorem Lx {h:Ac} {B:List Ag} {all:List Int} {may:PMap Bool} {root br:Ag} {ids ids1:List Int} {g t:Int} {i:Nat}
  (h1:Cz h B all=Pl B may) (a0:Vu B 1=some ((0:Nat):Int)) (l0:0<B.length) (e0:B.getD 0 default=root) (n0:root.queue.items.length≤192)
  (b0:∀ n,Ao (Nq may ((0:Nat):Int)) (Fi B n ((0:Nat):Int)) root.queue.items 0 []=Fi B n ((0:Nat):Int) ids) (p0:Cp root.queue ids=some (g,true)) (hg:0<g)
  (a1:Vu B g=some (i:Int)) (li:i<B.length) (e1:B.getD i default=br) (n1:br.queue.items.length≤192)
  (b1:∀ n,Ao (Nq may (i:Int)) (Fi B n (i:Int)) br.queue.items 0 []=Fi B n (i:Int) ids1) (p1:Cp br.queue ids1=some (-t,true)) (ht:0<t) (ht2:t≤1000) :
  Cz h B all=some (t,true):=by
 rw [h1]
 unfold Pl
 rw [Vt,down_ok a0 l0 e0 n0 b0 p0,if_neg (by rw [decide_eq_true_eq]; omega),Wg,down_ok a1 li e1 n1 b1 p1,if_pos (by rw [decide_eq_true_eq]; omega),Bv (by omega) (by omega)]
 congr 2
 omega
theorem set_sameB {l:List Ag} {k:Nat} (hk:k<l.length) {x:Ag} (hx:x=l.getD k default):l.set k x=l:=by
 subst hx
 rw [Agm hk]
 exact List.set_getElem_self hk
theorem Zi {B:List Ag} (hl:B.length≤192) (hx:∀ b∈B,b.queue.items.length≤192):Kr B=some B:=by
 refine Ok.eq ?_
 unfold Kr
 refine Ok.step (a:=B) (by unfold Gf; rw [if_pos (by omega)]) ?_
 refine Ok.guard (by omega) (Ok.for (fun _ s=>s=B) rfl ?_ ?_)
 ·intro k s n hk hs kk
  subst hs
  have hk':k<s.length:=by omega
  unfold Abi
  rw [show (0:Int)+(k:Int)=(k:Int) by omega]
  simp only [Int.toNat_natCast]
  refine Ok.guard ⟨by omega,by omega⟩ (Ok.guard hk' ?_)
  have hlen:=hx _ (Acw (d:=default) hk')
  refine Ok.step (a:=(s.getD k default).queue.items) (by unfold Ca; rw [if_pos (by omega)]) ?_
  refine Ok.guard ⟨by omega,by omega⟩ (Ok.guard hk' ?_)
  exact kk _ (set_sameB hk' rfl)
 ·intro s hs
  subst hs
  exact Ok.ret rfl
theorem Pa {h:Ac} {B:List Ag} {task x y:Int} {t:Cf} {i:Nat} {qi q0:Ah} (f:Tq h task=some (t,true)) (cp:Kr B=some B)
  (pa:Xj h B t=some [({ branch:=(i:Int),id:=x } : item),({ branch:=0,id:=y } : item)]) (li:i<B.length) (hi:i≠0)
  (s1:Hz (B.getD i default).queue x=some (qi,0)) (s0:Hz (B.getD 0 default).queue y=some (q0,0)) :
  Me h B task=some ((B.set i ({ group:=(B.getD i default).group,queue:=qi } : Ag)).set 0 ({ group:=(B.getD 0 default).group,queue:=q0 } : Ag),0):=by
 refine Ok.eq ?_
 unfold Me
 refine Ok.step f ?_
 rw [if_neg (by simp)]
 refine Ok.step cp (Ok.step pa (Ok.guard (by simp) ?_))
 rw [Ao]
 unfold Zl
 simp only [Int.toNat_natCast]
 refine Ok.guard ⟨by omega,by omega⟩ (Ok.guard li (Ok.step s1 ?_))
 rw [if_neg (by simp)]
 refine Ok.guard ⟨by omega,by omega⟩ (Ok.guard li ?_)
 rw [Ao]
 simp only [show Int.toNat 0=0 from rfl,List.length_set]
 have e0:(B.set i ({ group:=(B.getD i default).group,queue:=qi } : Ag)).getD 0 default=B.getD 0 default:=by
  simp only [List.getD_eq_getElem?_getD,List.getElem?_set_ne hi]
 rw [e0]
 refine Ok.guard ⟨by omega,by omega⟩ (Ok.guard (by omega) (Ok.step s0 ?_))
 rw [if_neg (by simp)]
 refine Ok.guard ⟨by omega,by omega⟩ (Ok.guard (by omega) ?_)
 rw [Ao]
 exact Ok.ret rfl
end Go.Dm

/- TopFlat: the hierarchies, and the branches that they begin with. -/
namespace Go.Dm
def eqLI : List Aa→List Aa→Bool
 | [],[]=>true
 | x::l,y::m=>eqItem x y&&eqLI l m
 | _,_=>false
def Aep : List Ag→List Ag→Bool
 | [],[]=>true
 | x::l,y::m=>(x.group==y.group)&&((x.queue.clock==y.queue.clock)&&(eqLI x.queue.items y.queue.items&&Aep l m))
 | _,_=>false
theorem eqItem_of {x y:Aa} (h:eqItem x y=true):x=y:=by
 cases x; cases y
 simp only [eqItem,Bool.and_eq_true,beq_iff_eq,and_true] at h
 obtain ⟨h1,h2,h3,h4⟩:=h
 subst h1 h2 h3
 congr 1
theorem eqLI_of : ∀ {l m:List Aa},eqLI l m=true→l=m
 | [],[],_=>rfl
 | x::l,y::m,h=>by
  simp only [eqLI,Bool.and_eq_true] at h
  rw [eqItem_of h.1,eqLI_of h.2]
 | [],_::_,h=>by simp [eqLI] at h
 | _::_,[],h=>by simp [eqLI] at h
theorem AhC : ∀ {l m:List Ag},Aep l m=true→l=m
 | [],[],_=>rfl
 | ⟨g,c,i⟩::l,⟨g',c',i'⟩::m,h=>by
  simp only [Aep,Bool.and_eq_true,beq_iff_eq] at h
  obtain ⟨h1,h2,h3,h4⟩:=h
  rw [h1,h2,eqLI_of h3,AhC h4]
 | [],_::_,h=>by simp [Aep] at h
 | _::_,[],h=>by simp [Aep] at h
abbrev WS : List Int := [100,200,400,50,800]
theorem okW_iff {w:Int} : okW w↔w∈WS:=by unfold okW; simp
def AbC : Option Bool→Bool
 | some b=>b
 | none=>false
theorem AcZ {x:Option Bool} (h:AbC x=true):x=some true:=by
 cases x with
 | none=>simp [AbC] at h
 | some b=>simp only [AbC] at h; rw [h]
def isL (B:List Ag):Option (List Ag)→Bool
 | some C=>Aep C B
 | none=>false
theorem isL_of {B:List Ag} {x:Option (List Ag)} (h:isL B x=true):x=some B:=by
 cases x with
 | none=>simp [isL] at h
 | some b=>simp only [isL] at h; rw [AhC h]
def H0 : Ac := { tree := { nodes := [{ id:=1,parent:=0,name:=ByteArray.empty,control:=0,kind:=0,owner:=0 }],next:=2 },tasks := [],next:=1 }
def H1 : Ac := { tree := { nodes := [{ id:=1,parent:=0,name:=ByteArray.empty,control:=0,kind:=0,owner:=0 },{ id:=2,parent:=1,name:=bs [97],control:=0,kind:=0,owner:=0 }],next:=3 },tasks := [{ id:=1,process:=1,group:=2,user:=0 }],next:=2 }
def H2 : Ac := { tree := { nodes := [{ id:=1,parent:=0,name:=ByteArray.empty,control:=0,kind:=0,owner:=0 },{ id:=2,parent:=1,name:=bs [97],control:=0,kind:=0,owner:=0 },{ id:=3,parent:=1,name:=bs [98],control:=0,kind:=0,owner:=0 }],next:=4 },tasks := [{ id:=1,process:=1,group:=2,user:=0 },{ id:=2,process:=2,group:=3,user:=0 }],next:=3 }
def H3 : Ac := { tree := { nodes := [{ id:=1,parent:=0,name:=ByteArray.empty,control:=0,kind:=0,owner:=0 },{ id:=2,parent:=1,name:=bs [97],control:=0,kind:=0,owner:=0 },{ id:=3,parent:=1,name:=bs [98],control:=0,kind:=0,owner:=0 },{ id:=4,parent:=1,name:=bs [99],control:=0,kind:=0,owner:=0 }],next:=5 },tasks := [{ id:=1,process:=1,group:=2,user:=0 },{ id:=2,process:=2,group:=3,user:=0 },{ id:=3,process:=3,group:=4,user:=0 }],next:=4 }
def H4 : Ac := { tree := { nodes := [{ id:=1,parent:=0,name:=ByteArray.empty,control:=0,kind:=0,owner:=0 },{ id:=2,parent:=1,name:=bs [97],control:=0,kind:=0,owner:=0 },{ id:=3,parent:=1,name:=bs [98],control:=0,kind:=0,owner:=0 },{ id:=4,parent:=1,name:=bs [99],control:=0,kind:=0,owner:=0 },{ id:=5,parent:=1,name:=bs [100],control:=0,kind:=0,owner:=0 }],next:=6 },tasks := [{ id:=1,process:=1,group:=2,user:=0 },{ id:=2,process:=2,group:=3,user:=0 },{ id:=3,process:=3,group:=4,user:=0 },{ id:=4,process:=4,group:=5,user:=0 }],next:=5 }
def Br2 (cl w1 w2 v1 v2 u1 u2:Int):List Ag := [⟨1,⟨cl,[⟨2,w1,v1,true⟩,⟨3,w2,v2,true⟩]⟩⟩,⟨2,⟨u1,[⟨-1,100,u1,true⟩]⟩⟩,⟨3,⟨u2,[⟨-2,100,u2,true⟩]⟩⟩]
def begOk2 : Bool:=WS.all fun w1=>WS.all fun w2=>isL (Br2 0 w1 w2 0 0 0 0) (Lv H2 [] [100,w1,w2] [1,2])&&AbC (Kg H2 (Br2 0 w1 w2 0 0 0 0))
theorem beg2 : begOk2=true:=by kernel_rfl
theorem sync2 {w1 w2:Int} (h1:okW w1) (h2:okW w2):Lv H2 [] [100,w1,w2] [1,2]=some (Br2 0 w1 w2 0 0 0 0)∧Kg H2 (Br2 0 w1 w2 0 0 0 0)=some true:=by
 have h:=beg2
 unfold begOk2 at h
 have h:=List.all_eq_true.1 h w1 (okW_iff.1 h1)
 have h:=List.all_eq_true.1 h w2 (okW_iff.1 h2)
 rw [Bool.and_eq_true] at h
 exact ⟨isL_of h.1,AcZ h.2⟩
def Br3 (cl w1 w2 w3 v1 v2 v3 u1 u2 u3:Int):List Ag := [⟨1,⟨cl,[⟨2,w1,v1,true⟩,⟨3,w2,v2,true⟩,⟨4,w3,v3,true⟩]⟩⟩,⟨2,⟨u1,[⟨-1,100,u1,true⟩]⟩⟩,⟨3,⟨u2,[⟨-2,100,u2,true⟩]⟩⟩,⟨4,⟨u3,[⟨-3,100,u3,true⟩]⟩⟩]
def begOk3 : Bool:=WS.all fun w1=>WS.all fun w2=>WS.all fun w3=>isL (Br3 0 w1 w2 w3 0 0 0 0 0 0) (Lv H3 [] [100,w1,w2,w3] [1,2,3])&&AbC (Kg H3 (Br3 0 w1 w2 w3 0 0 0 0 0 0))
theorem beg3 : begOk3=true:=by kernel_rfl
theorem sync3 {w1 w2 w3:Int} (h1:okW w1) (h2:okW w2) (h3:okW w3):Lv H3 [] [100,w1,w2,w3] [1,2,3]=some (Br3 0 w1 w2 w3 0 0 0 0 0 0)∧Kg H3 (Br3 0 w1 w2 w3 0 0 0 0 0 0)=some true:=by
 have h:=beg3
 unfold begOk3 at h
 have h:=List.all_eq_true.1 h w1 (okW_iff.1 h1)
 have h:=List.all_eq_true.1 h w2 (okW_iff.1 h2)
 have h:=List.all_eq_true.1 h w3 (okW_iff.1 h3)
 rw [Bool.and_eq_true] at h
 exact ⟨isL_of h.1,AcZ h.2⟩
def Br4 (cl w1 w2 w3 w4 v1 v2 v3 v4 u1 u2 u3 u4:Int):List Ag := [⟨1,⟨cl,[⟨2,w1,v1,true⟩,⟨3,w2,v2,true⟩,⟨4,w3,v3,true⟩,⟨5,w4,v4,true⟩]⟩⟩,⟨2,⟨u1,[⟨-1,100,u1,true⟩]⟩⟩,⟨3,⟨u2,[⟨-2,100,u2,true⟩]⟩⟩,⟨4,⟨u3,[⟨-3,100,u3,true⟩]⟩⟩,⟨5,⟨u4,[⟨-4,100,u4,true⟩]⟩⟩]
def Aal (w1:Int):Bool:=WS.all fun w2=>WS.all fun w3=>WS.all fun w4=>isL (Br4 0 w1 w2 w3 w4 0 0 0 0 0 0 0 0) (Lv H4 [] [100,w1,w2,w3,w4] [1,2,3,4])&&AbC (Kg H4 (Br4 0 w1 w2 w3 w4 0 0 0 0 0 0 0 0))
theorem beg4a : Aal 100=true:=by kernel_rfl
theorem beg4b : Aal 200=true:=by kernel_rfl
theorem beg4c : Aal 400=true:=by kernel_rfl
theorem beg4d : Aal 50=true:=by kernel_rfl
theorem beg4e : Aal 800=true:=by kernel_rfl
theorem beg4 {w:Int} (h:okW w):Aal w=true:=by
 rcases h with rfl|rfl|rfl|rfl|rfl
 ·exact beg4a
 ·exact beg4b
 ·exact beg4c
 ·exact beg4d
 ·exact beg4e
theorem sync4 {w1 w2 w3 w4:Int} (h1:okW w1) (h2:okW w2) (h3:okW w3) (h4:okW w4):Lv H4 [] [100,w1,w2,w3,w4] [1,2,3,4]=some (Br4 0 w1 w2 w3 w4 0 0 0 0 0 0 0 0)∧Kg H4 (Br4 0 w1 w2 w3 w4 0 0 0 0 0 0 0 0)=some true:=by
 have h:=beg4 h1
 unfold Aal at h
 have h:=List.all_eq_true.1 h w2 (okW_iff.1 h2)
 have h:=List.all_eq_true.1 h w3 (okW_iff.1 h3)
 have h:=List.all_eq_true.1 h w4 (okW_iff.1 h4)
 rw [Bool.and_eq_true] at h
 exact ⟨isL_of h.1,AcZ h.2⟩
end Go.Dm

/- TopFlat: how tasks are served. -/
namespace Go.Dm
def ascI : List Aa→Bool
 | x::y::l=>decide (x.id<y.id)&&ascI (y::l)
 | _=>true
theorem Aac : ∀ {l:List Aa},ascI l=true→∀ i,i+1<l.length→(l.getD i default).id<(l.getD (i+1) default).id
 | [],_,i,hi=>by simp at hi
 | [x],_,i,hi=>by simp at hi
 | x::y::l,h,0,_=>by
  simp only [ascI,Bool.and_eq_true,decide_eq_true_eq] at h
  exact h.1
 | x::y::l,h,i+1,hi=>by
  simp only [ascI,Bool.and_eq_true] at h
  have:=Aac h.2 i (by simpa using hi)
  simpa using this
theorem Dx {α:Type} {P:α→Prop} : ∀ x∈([]:List α),P x:=by simp
theorem At {α:Type} {P:α→Prop} {a:α} {l:List α} (h:P a) (t:∀ x∈l,P x):∀ x∈a::l,P x:=List.forall_mem_cons.2 ⟨h,t⟩
theorem cost100 : Cj 100=some 10737419:=by kernel_rfl
theorem Ahq {u t:Int} (h0:0≤u) (h1:u≤1000000000000000) (ht:t≠0):QOk ({ clock:=u,items := [({ id:=t,weight:=100,v:=u,active:=true } : Aa)] } : Ah) :=
 ⟨h0,h1,by simp,Aac rfl,At ⟨ht,Int.le_refl _,10737419,cost100,by decide,by decide,by show u≤u+10737419; omega⟩ Dx⟩
theorem Kl {u t:Int} (h0:0≤u) (h1:u≤1000000000000000) (ht:t≠0) (hc:Dk [t] t=some true) :
  Cp ({ clock:=u,items := [({ id:=t,weight:=100,v:=u,active:=true } : Aa)] } : Ah) [t]=some (t,true):=by
 obtain ⟨j,hj,hp,_⟩:=Aeo (l := [t]) (Ahq h0 h1 ht) (At rfl Dx) (by simp) (At hc Dx)
 have:j=0:=by simpa using hj
 subst this
 exact hp
theorem Iu {u t:Int} (h0:0≤u) (h1:u≤1000000000000000) (ht:t≠0) (hat:Mm ({ clock:=u,items := [({ id:=t,weight:=100,v:=u,active:=true } : Aa)] } : Ah) t=some ((0:Nat):Int)) :
  Hz ({ clock:=u,items := [({ id:=t,weight:=100,v:=u,active:=true } : Aa)] } : Ah) t =
   some (({ clock:=u+10737419,items := [({ id:=t,weight:=100,v:=u+10737419,active:=true } : Aa)] } : Ah),0):=by
 obtain ⟨m,hs,⟨y,hy,hym⟩,_⟩:=My (j:=0) (Ahq h0 h1 ht) (At rfl Dx) (by simp) hat cost100 (by decide) (by decide) (At (Int.le_refl _) Dx)
 have hm:m=u+10737419:=by
  rw [← hym]
  have:y=({ id:=t,weight:=100,v:=u+10737419,active:=true } : Aa):=by simpa using hy
  rw [this]
 rw [hs,hm]
 rfl
def Inv2 (w1 w2 c1 c2 n:Int) (out:List Int) (B:List Ag):Prop:=∃ cl v1 v2 g1 g2:Int,B=Br2 cl w1 w2 v1 v2 (10737419*g1) (10737419*g2)∧0≤cl∧cl≤42949674*n ∧
 (0≤g1∧v1=c1*g1∧cl≤v1∧v1≤cl+c1∧((out.countP (fun x=>x==1):Nat):Int)=g1)∧(0≤g2∧v2=c2*g2∧cl≤v2∧v2≤cl+c2∧((out.countP (fun x=>x==2):Nat):Int)=g2)∧g1+g2=n∧(out.length:Int)=n∧∀ x∈out,x=1∨x=2
theorem step2 {w1 w2 c1 c2 n:Int} {out:List Int} {B:List Ag} (hc1:Cj w1=some c1) (p1:0<c1) (q1:c1≤21474837) (hc2:Cj w2=some c2) (p2:0<c2) (q2:c2≤21474837) (h:Inv2 w1 w2 c1 c2 n out B) (hn:0≤n) (hn2:n<60) :
  ∃ t B',Cz H2 B [1,2]=some (t,true)∧Me H2 B t=some (B',0)∧Inv2 w1 w2 c1 c2 (n+1) (out ++ [t]) B':=by
 obtain ⟨cl,v1,v2,g1,g2,rfl,h0,h1,⟨n1,e1,l1,r1,o1⟩,⟨n2,e2,l2,r2,o2⟩,hs,hl,hm⟩:=h
 have hq:QOk ({ clock:=cl,items := [({ id:=2,weight:=w1,v:=v1,active:=true } : Aa),({ id:=3,weight:=w2,v:=v2,active:=true } : Aa)] } : Ah):=⟨h0,by show cl≤_; omega,by simp,Aac rfl,(At ⟨(by show (2:Int)≠0; decide),l1,c1,hc1,p1,by omega,r1⟩ (At ⟨(by show (3:Int)≠0; decide),l2,c2,hc2,p2,by omega,r2⟩ Dx))⟩
 obtain ⟨j,hj,hp,hmin⟩:=Aeo (l := [2,3]) hq (At rfl (At rfl Dx)) (by simp) (At (by kernel_rfl) (At (by kernel_rfl) Dx))
 have hj2:j=0∨j=1:=by
  have:j<2:=hj
  omega
 have hcopy:Kr (Br2 cl w1 w2 v1 v2 (10737419*g1) (10737419*g2))=some (Br2 cl w1 w2 v1 v2 (10737419*g1) (10737419*g2)):=Zi (by simp [Br2]) (by simp [Br2])
 rcases hj2 with rfl|rfl
 ·have hp:Cp ({ clock:=cl,items := [({ id:=2,weight:=w1,v:=v1,active:=true } : Aa),({ id:=3,weight:=w2,v:=v2,active:=true } : Aa)] } : Ah) [2,3]=some (2,true):=hp
  have k2:v1≤v2:=hmin ({ id:=3,weight:=w2,v:=v2,active:=true } : Aa) (by simp)
  have hz:0≤10737419*g1:=by omega
  have hz1:10737419*g1≤1000000000000000:=by omega
  obtain ⟨m,s1,⟨z,hzm,hzv⟩,hall⟩:=My (j:=0) (id:=2) hq (At rfl (At rfl Dx)) (by simp) (by kernel_rfl) hc1 p1 (by omega) (At (Int.le_refl _) (At k2 Dx))
  have hcs:Cz H2 (Br2 cl w1 w2 v1 v2 (10737419*g1) (10737419*g2)) [1,2]=some (1,true) :=
   Lx (may:=(((((PMap.empty false).set 1 (-1) true).set 0 2 true).set 2 (-2) true).set 0 3 true)) (ids := [2,3]) (ids1 := [-1]) (g:=2) (i:=1) (Ot (by decide) (fun _=>by kernel_rfl)) (by kernel_rfl) (by simp [Br2]) rfl (by simp [Br2]) (fun _=>by kernel_rfl) hp (by decide) (by kernel_rfl) (by simp [Br2]) rfl (by simp [Br2]) (fun _=>by kernel_rfl)
    (Kl hz hz1 (by decide) (by kernel_rfl)) (by decide) (by decide)
  have hsv:=Pa (h:=H2) (B:=Br2 cl w1 w2 v1 v2 (10737419*g1) (10737419*g2)) (task:=1) (t := { id:=1,process:=1,group:=2,user:=0 }) (i:=1) (x := -1) (y:=2) (by kernel_rfl) hcopy (by kernel_rfl) (by simp [Br2]) (by decide)
   (Iu hz hz1 (by decide) (by kernel_rfl)) s1
  refine ⟨1,_,hcs,hsv,?_⟩
  have hb:∀ y ∈ [({ id:=2,weight:=w1,v:=v1+c1,active:=true } : Aa),({ id:=3,weight:=w2,v:=v2,active:=true } : Aa)],m≤y.v:=hall
  have b1:m≤v1+c1:=hb ({ id:=2,weight:=w1,v:=v1+c1,active:=true } : Aa) (by simp)
  have b2:m≤v2:=hb ({ id:=3,weight:=w2,v:=v2,active:=true } : Aa) (by simp)
  have hz2:m=v1+c1∨m=v2:=by
   have:z ∈ [({ id:=2,weight:=w1,v:=v1+c1,active:=true } : Aa),({ id:=3,weight:=w2,v:=v2,active:=true } : Aa)]:=hzm
   simp only [List.mem_cons,List.not_mem_nil,or_false] at this
   rw [← hzv]
   rcases this with rfl|rfl
   all_goals simp
  refine ⟨m,v1+c1,v2,g1+1,g2,?_,?_,?_,⟨?_,?_,?_,?_,?_⟩,⟨?_,?_,?_,?_,?_⟩,?_,?_,?_⟩
  ·show _=Br2 m w1 w2 (v1+c1) v2 (10737419*(g1+1)) (10737419*g2)
   rw [show 10737419*(g1+1)=10737419*g1+10737419 by omega]
   rfl
  ·omega
  ·omega
  ·omega
  ·rw [Int.mul_add,Int.mul_one,← e1]
  ·omega
  ·omega
  ·rw [List.countP_append,Int.natCast_add,o1]; simp
  ·omega
  ·exact e2
  ·omega
  ·omega
  ·rw [List.countP_append,Int.natCast_add,o2]; simp
  ·omega
  ·simp; omega
  ·intro x hx
   rcases List.mem_append.1 hx with hx|hx
   ·exact hm x hx
   ·simp only [List.mem_singleton] at hx
    subst hx
    simp
 ·have hp:Cp ({ clock:=cl,items := [({ id:=2,weight:=w1,v:=v1,active:=true } : Aa),({ id:=3,weight:=w2,v:=v2,active:=true } : Aa)] } : Ah) [2,3]=some (3,true):=hp
  have k1:v2≤v1:=hmin ({ id:=2,weight:=w1,v:=v1,active:=true } : Aa) (by simp)
  have hz:0≤10737419*g2:=by omega
  have hz1:10737419*g2≤1000000000000000:=by omega
  obtain ⟨m,s1,⟨z,hzm,hzv⟩,hall⟩:=My (j:=1) (id:=3) hq (At rfl (At rfl Dx)) (by simp) (by kernel_rfl) hc2 p2 (by omega) (At k1 (At (Int.le_refl _) Dx))
  have hcs:Cz H2 (Br2 cl w1 w2 v1 v2 (10737419*g1) (10737419*g2)) [1,2]=some (2,true) :=
   Lx (may:=(((((PMap.empty false).set 1 (-1) true).set 0 2 true).set 2 (-2) true).set 0 3 true)) (ids := [2,3]) (ids1 := [-2]) (g:=3) (i:=2) (Ot (by decide) (fun _=>by kernel_rfl)) (by kernel_rfl) (by simp [Br2]) rfl (by simp [Br2]) (fun _=>by kernel_rfl) hp (by decide) (by kernel_rfl) (by simp [Br2]) rfl (by simp [Br2]) (fun _=>by kernel_rfl)
    (Kl hz hz1 (by decide) (by kernel_rfl)) (by decide) (by decide)
  have hsv:=Pa (h:=H2) (B:=Br2 cl w1 w2 v1 v2 (10737419*g1) (10737419*g2)) (task:=2) (t := { id:=2,process:=2,group:=3,user:=0 }) (i:=2) (x := -2) (y:=3) (by kernel_rfl) hcopy (by kernel_rfl) (by simp [Br2]) (by decide)
   (Iu hz hz1 (by decide) (by kernel_rfl)) s1
  refine ⟨2,_,hcs,hsv,?_⟩
  have hb:∀ y ∈ [({ id:=2,weight:=w1,v:=v1,active:=true } : Aa),({ id:=3,weight:=w2,v:=v2+c2,active:=true } : Aa)],m≤y.v:=hall
  have b1:m≤v1:=hb ({ id:=2,weight:=w1,v:=v1,active:=true } : Aa) (by simp)
  have b2:m≤v2+c2:=hb ({ id:=3,weight:=w2,v:=v2+c2,active:=true } : Aa) (by simp)
  have hz2:m=v1∨m=v2+c2:=by
   have:z ∈ [({ id:=2,weight:=w1,v:=v1,active:=true } : Aa),({ id:=3,weight:=w2,v:=v2+c2,active:=true } : Aa)]:=hzm
   simp only [List.mem_cons,List.not_mem_nil,or_false] at this
   rw [← hzv]
   rcases this with rfl|rfl
   all_goals simp
  refine ⟨m,v1,v2+c2,g1,g2+1,?_,?_,?_,⟨?_,?_,?_,?_,?_⟩,⟨?_,?_,?_,?_,?_⟩,?_,?_,?_⟩
  ·show _=Br2 m w1 w2 v1 (v2+c2) (10737419*g1) (10737419*(g2+1))
   rw [show 10737419*(g2+1)=10737419*g2+10737419 by omega]
   rfl
  ·omega
  ·omega
  ·omega
  ·exact e1
  ·omega
  ·omega
  ·rw [List.countP_append,Int.natCast_add,o1]; simp
  ·omega
  ·rw [Int.mul_add,Int.mul_one,← e2]
  ·omega
  ·omega
  ·rw [List.countP_append,Int.natCast_add,o2]; simp
  ·omega
  ·simp; omega
  ·intro x hx
   rcases List.mem_append.1 hx with hx|hx
   ·exact hm x hx
   ·simp only [List.mem_singleton] at hx
    subst hx
    simp
def Inv3 (w1 w2 w3 c1 c2 c3 n:Int) (out:List Int) (B:List Ag):Prop:=∃ cl v1 v2 v3 g1 g2 g3:Int,B=Br3 cl w1 w2 w3 v1 v2 v3 (10737419*g1) (10737419*g2) (10737419*g3)∧0≤cl∧cl≤42949674*n ∧
 (0≤g1∧v1=c1*g1∧cl≤v1∧v1≤cl+c1∧((out.countP (fun x=>x==1):Nat):Int)=g1)∧(0≤g2∧v2=c2*g2∧cl≤v2∧v2≤cl+c2∧((out.countP (fun x=>x==2):Nat):Int)=g2)∧(0≤g3∧v3=c3*g3∧cl≤v3∧v3≤cl+c3∧((out.countP (fun x=>x==3):Nat):Int)=g3)∧g1+g2+g3=n∧(out.length:Int)=n∧∀ x∈out,x=1∨x=2∨x=3
theorem step3 {w1 w2 w3 c1 c2 c3 n:Int} {out:List Int} {B:List Ag} (hc1:Cj w1=some c1) (p1:0<c1) (q1:c1≤21474837) (hc2:Cj w2=some c2) (p2:0<c2) (q2:c2≤21474837) (hc3:Cj w3=some c3) (p3:0<c3) (q3:c3≤21474837) (h:Inv3 w1 w2 w3 c1 c2 c3 n out B) (hn:0≤n) (hn2:n<60) :
  ∃ t B',Cz H3 B [1,2,3]=some (t,true)∧Me H3 B t=some (B',0)∧Inv3 w1 w2 w3 c1 c2 c3 (n+1) (out ++ [t]) B':=by
 obtain ⟨cl,v1,v2,v3,g1,g2,g3,rfl,h0,h1,⟨n1,e1,l1,r1,o1⟩,⟨n2,e2,l2,r2,o2⟩,⟨n3,e3,l3,r3,o3⟩,hs,hl,hm⟩:=h
 have hq:QOk ({ clock:=cl,items := [({ id:=2,weight:=w1,v:=v1,active:=true } : Aa),({ id:=3,weight:=w2,v:=v2,active:=true } : Aa),({ id:=4,weight:=w3,v:=v3,active:=true } : Aa)] } : Ah):=⟨h0,by show cl≤_; omega,by simp,Aac rfl,(At ⟨(by show (2:Int)≠0; decide),l1,c1,hc1,p1,by omega,r1⟩ (At ⟨(by show (3:Int)≠0; decide),l2,c2,hc2,p2,by omega,r2⟩ (At ⟨(by show (4:Int)≠0; decide),l3,c3,hc3,p3,by omega,r3⟩ Dx)))⟩
 obtain ⟨j,hj,hp,hmin⟩:=Aeo (l := [2,3,4]) hq (At rfl (At rfl (At rfl Dx))) (by simp) (At (by kernel_rfl) (At (by kernel_rfl) (At (by kernel_rfl) Dx)))
 have hj2:j=0∨j=1∨j=2:=by
  have:j<3:=hj
  omega
 have hcopy:Kr (Br3 cl w1 w2 w3 v1 v2 v3 (10737419*g1) (10737419*g2) (10737419*g3))=some (Br3 cl w1 w2 w3 v1 v2 v3 (10737419*g1) (10737419*g2) (10737419*g3)):=Zi (by simp [Br3]) (by simp [Br3])
 rcases hj2 with rfl|rfl|rfl
 ·have hp:Cp ({ clock:=cl,items := [({ id:=2,weight:=w1,v:=v1,active:=true } : Aa),({ id:=3,weight:=w2,v:=v2,active:=true } : Aa),({ id:=4,weight:=w3,v:=v3,active:=true } : Aa)] } : Ah) [2,3,4]=some (2,true):=hp
  have k2:v1≤v2:=hmin ({ id:=3,weight:=w2,v:=v2,active:=true } : Aa) (by simp)
  have k3:v1≤v3:=hmin ({ id:=4,weight:=w3,v:=v3,active:=true } : Aa) (by simp)
  have hz:0≤10737419*g1:=by omega
  have hz1:10737419*g1≤1000000000000000:=by omega
  obtain ⟨m,s1,⟨z,hzm,hzv⟩,hall⟩:=My (j:=0) (id:=2) hq (At rfl (At rfl (At rfl Dx))) (by simp) (by kernel_rfl) hc1 p1 (by omega) (At (Int.le_refl _) (At k2 (At k3 Dx)))
  have hcs:Cz H3 (Br3 cl w1 w2 w3 v1 v2 v3 (10737419*g1) (10737419*g2) (10737419*g3)) [1,2,3]=some (1,true) :=
   Lx (may:=(((((((PMap.empty false).set 1 (-1) true).set 0 2 true).set 2 (-2) true).set 0 3 true).set 3 (-3) true).set 0 4 true)) (ids := [2,3,4]) (ids1 := [-1]) (g:=2) (i:=1) (Ot (by decide) (fun _=>by kernel_rfl)) (by kernel_rfl) (by simp [Br3]) rfl (by simp [Br3]) (fun _=>by kernel_rfl) hp (by decide) (by kernel_rfl) (by simp [Br3]) rfl (by simp [Br3]) (fun _=>by kernel_rfl)
    (Kl hz hz1 (by decide) (by kernel_rfl)) (by decide) (by decide)
  have hsv:=Pa (h:=H3) (B:=Br3 cl w1 w2 w3 v1 v2 v3 (10737419*g1) (10737419*g2) (10737419*g3)) (task:=1) (t := { id:=1,process:=1,group:=2,user:=0 }) (i:=1) (x := -1) (y:=2) (by kernel_rfl) hcopy (by kernel_rfl) (by simp [Br3]) (by decide)
   (Iu hz hz1 (by decide) (by kernel_rfl)) s1
  refine ⟨1,_,hcs,hsv,?_⟩
  have hb:∀ y ∈ [({ id:=2,weight:=w1,v:=v1+c1,active:=true } : Aa),({ id:=3,weight:=w2,v:=v2,active:=true } : Aa),({ id:=4,weight:=w3,v:=v3,active:=true } : Aa)],m≤y.v:=hall
  have b1:m≤v1+c1:=hb ({ id:=2,weight:=w1,v:=v1+c1,active:=true } : Aa) (by simp)
  have b2:m≤v2:=hb ({ id:=3,weight:=w2,v:=v2,active:=true } : Aa) (by simp)
  have b3:m≤v3:=hb ({ id:=4,weight:=w3,v:=v3,active:=true } : Aa) (by simp)
  have hz2:m=v1+c1∨m=v2∨m=v3:=by
   have:z ∈ [({ id:=2,weight:=w1,v:=v1+c1,active:=true } : Aa),({ id:=3,weight:=w2,v:=v2,active:=true } : Aa),({ id:=4,weight:=w3,v:=v3,active:=true } : Aa)]:=hzm
   simp only [List.mem_cons,List.not_mem_nil,or_false] at this
   rw [← hzv]
   rcases this with rfl|rfl|rfl
   all_goals simp
  refine ⟨m,v1+c1,v2,v3,g1+1,g2,g3,?_,?_,?_,⟨?_,?_,?_,?_,?_⟩,⟨?_,?_,?_,?_,?_⟩,⟨?_,?_,?_,?_,?_⟩,?_,?_,?_⟩
  ·show _=Br3 m w1 w2 w3 (v1+c1) v2 v3 (10737419*(g1+1)) (10737419*g2) (10737419*g3)
   rw [show 10737419*(g1+1)=10737419*g1+10737419 by omega]
   rfl
  ·omega
  ·omega
  ·omega
  ·rw [Int.mul_add,Int.mul_one,← e1]
  ·omega
  ·omega
  ·rw [List.countP_append,Int.natCast_add,o1]; simp
  ·omega
  ·exact e2
  ·omega
  ·omega
  ·rw [List.countP_append,Int.natCast_add,o2]; simp
  ·omega
  ·exact e3
  ·omega
  ·omega
  ·rw [List.countP_append,Int.natCast_add,o3]; simp
  ·omega
  ·simp; omega
  ·intro x hx
   rcases List.mem_append.1 hx with hx|hx
   ·exact hm x hx
   ·simp only [List.mem_singleton] at hx
    subst hx
    simp
 ·have hp:Cp ({ clock:=cl,items := [({ id:=2,weight:=w1,v:=v1,active:=true } : Aa),({ id:=3,weight:=w2,v:=v2,active:=true } : Aa),({ id:=4,weight:=w3,v:=v3,active:=true } : Aa)] } : Ah) [2,3,4]=some (3,true):=hp
  have k1:v2≤v1:=hmin ({ id:=2,weight:=w1,v:=v1,active:=true } : Aa) (by simp)
  have k3:v2≤v3:=hmin ({ id:=4,weight:=w3,v:=v3,active:=true } : Aa) (by simp)
  have hz:0≤10737419*g2:=by omega
  have hz1:10737419*g2≤1000000000000000:=by omega
  obtain ⟨m,s1,⟨z,hzm,hzv⟩,hall⟩:=My (j:=1) (id:=3) hq (At rfl (At rfl (At rfl Dx))) (by simp) (by kernel_rfl) hc2 p2 (by omega) (At k1 (At (Int.le_refl _) (At k3 Dx)))
  have hcs:Cz H3 (Br3 cl w1 w2 w3 v1 v2 v3 (10737419*g1) (10737419*g2) (10737419*g3)) [1,2,3]=some (2,true) :=
   Lx (may:=(((((((PMap.empty false).set 1 (-1) true).set 0 2 true).set 2 (-2) true).set 0 3 true).set 3 (-3) true).set 0 4 true)) (ids := [2,3,4]) (ids1 := [-2]) (g:=3) (i:=2) (Ot (by decide) (fun _=>by kernel_rfl)) (by kernel_rfl) (by simp [Br3]) rfl (by simp [Br3]) (fun _=>by kernel_rfl) hp (by decide) (by kernel_rfl) (by simp [Br3]) rfl (by simp [Br3]) (fun _=>by kernel_rfl)
    (Kl hz hz1 (by decide) (by kernel_rfl)) (by decide) (by decide)
  have hsv:=Pa (h:=H3) (B:=Br3 cl w1 w2 w3 v1 v2 v3 (10737419*g1) (10737419*g2) (10737419*g3)) (task:=2) (t := { id:=2,process:=2,group:=3,user:=0 }) (i:=2) (x := -2) (y:=3) (by kernel_rfl) hcopy (by kernel_rfl) (by simp [Br3]) (by decide)
   (Iu hz hz1 (by decide) (by kernel_rfl)) s1
  refine ⟨2,_,hcs,hsv,?_⟩
  have hb:∀ y ∈ [({ id:=2,weight:=w1,v:=v1,active:=true } : Aa),({ id:=3,weight:=w2,v:=v2+c2,active:=true } : Aa),({ id:=4,weight:=w3,v:=v3,active:=true } : Aa)],m≤y.v:=hall
  have b1:m≤v1:=hb ({ id:=2,weight:=w1,v:=v1,active:=true } : Aa) (by simp)
  have b2:m≤v2+c2:=hb ({ id:=3,weight:=w2,v:=v2+c2,active:=true } : Aa) (by simp)
  have b3:m≤v3:=hb ({ id:=4,weight:=w3,v:=v3,active:=true } : Aa) (by simp)
  have hz2:m=v1∨m=v2+c2∨m=v3:=by
   have:z ∈ [({ id:=2,weight:=w1,v:=v1,active:=true } : Aa),({ id:=3,weight:=w2,v:=v2+c2,active:=true } : Aa),({ id:=4,weight:=w3,v:=v3,active:=true } : Aa)]:=hzm
   simp only [List.mem_cons,List.not_mem_nil,or_false] at this
   rw [← hzv]
   rcases this with rfl|rfl|rfl
   all_goals simp
  refine ⟨m,v1,v2+c2,v3,g1,g2+1,g3,?_,?_,?_,⟨?_,?_,?_,?_,?_⟩,⟨?_,?_,?_,?_,?_⟩,⟨?_,?_,?_,?_,?_⟩,?_,?_,?_⟩
  ·show _=Br3 m w1 w2 w3 v1 (v2+c2) v3 (10737419*g1) (10737419*(g2+1)) (10737419*g3)
   rw [show 10737419*(g2+1)=10737419*g2+10737419 by omega]
   rfl
  ·omega
  ·omega
  ·omega
  ·exact e1
  ·omega
  ·omega
  ·rw [List.countP_append,Int.natCast_add,o1]; simp
  ·omega
  ·rw [Int.mul_add,Int.mul_one,← e2]
  ·omega
  ·omega
  ·rw [List.countP_append,Int.natCast_add,o2]; simp
  ·omega
  ·exact e3
  ·omega
  ·omega
  ·rw [List.countP_append,Int.natCast_add,o3]; simp
  ·omega
  ·simp; omega
  ·intro x hx
   rcases List.mem_append.1 hx with hx|hx
   ·exact hm x hx
   ·simp only [List.mem_singleton] at hx
    subst hx
    simp
 ·have hp:Cp ({ clock:=cl,items := [({ id:=2,weight:=w1,v:=v1,active:=true } : Aa),({ id:=3,weight:=w2,v:=v2,active:=true } : Aa),({ id:=4,weight:=w3,v:=v3,active:=true } : Aa)] } : Ah) [2,3,4]=some (4,true):=hp
  have k1:v3≤v1:=hmin ({ id:=2,weight:=w1,v:=v1,active:=true } : Aa) (by simp)
  have k2:v3≤v2:=hmin ({ id:=3,weight:=w2,v:=v2,active:=true } : Aa) (by simp)
  have hz:0≤10737419*g3:=by omega
  have hz1:10737419*g3≤1000000000000000:=by omega
  obtain ⟨m,s1,⟨z,hzm,hzv⟩,hall⟩:=My (j:=2) (id:=4) hq (At rfl (At rfl (At rfl Dx))) (by simp) (by kernel_rfl) hc3 p3 (by omega) (At k1 (At k2 (At (Int.le_refl _) Dx)))
  have hcs:Cz H3 (Br3 cl w1 w2 w3 v1 v2 v3 (10737419*g1) (10737419*g2) (10737419*g3)) [1,2,3]=some (3,true) :=
   Lx (may:=(((((((PMap.empty false).set 1 (-1) true).set 0 2 true).set 2 (-2) true).set 0 3 true).set 3 (-3) true).set 0 4 true)) (ids := [2,3,4]) (ids1 := [-3]) (g:=4) (i:=3) (Ot (by decide) (fun _=>by kernel_rfl)) (by kernel_rfl) (by simp [Br3]) rfl (by simp [Br3]) (fun _=>by kernel_rfl) hp (by decide) (by kernel_rfl) (by simp [Br3]) rfl (by simp [Br3]) (fun _=>by kernel_rfl)
    (Kl hz hz1 (by decide) (by kernel_rfl)) (by decide) (by decide)
  have hsv:=Pa (h:=H3) (B:=Br3 cl w1 w2 w3 v1 v2 v3 (10737419*g1) (10737419*g2) (10737419*g3)) (task:=3) (t := { id:=3,process:=3,group:=4,user:=0 }) (i:=3) (x := -3) (y:=4) (by kernel_rfl) hcopy (by kernel_rfl) (by simp [Br3]) (by decide)
   (Iu hz hz1 (by decide) (by kernel_rfl)) s1
  refine ⟨3,_,hcs,hsv,?_⟩
  have hb:∀ y ∈ [({ id:=2,weight:=w1,v:=v1,active:=true } : Aa),({ id:=3,weight:=w2,v:=v2,active:=true } : Aa),({ id:=4,weight:=w3,v:=v3+c3,active:=true } : Aa)],m≤y.v:=hall
  have b1:m≤v1:=hb ({ id:=2,weight:=w1,v:=v1,active:=true } : Aa) (by simp)
  have b2:m≤v2:=hb ({ id:=3,weight:=w2,v:=v2,active:=true } : Aa) (by simp)
  have b3:m≤v3+c3:=hb ({ id:=4,weight:=w3,v:=v3+c3,active:=true } : Aa) (by simp)
  have hz2:m=v1∨m=v2∨m=v3+c3:=by
   have:z ∈ [({ id:=2,weight:=w1,v:=v1,active:=true } : Aa),({ id:=3,weight:=w2,v:=v2,active:=true } : Aa),({ id:=4,weight:=w3,v:=v3+c3,active:=true } : Aa)]:=hzm
   simp only [List.mem_cons,List.not_mem_nil,or_false] at this
   rw [← hzv]
   rcases this with rfl|rfl|rfl
   all_goals simp
  refine ⟨m,v1,v2,v3+c3,g1,g2,g3+1,?_,?_,?_,⟨?_,?_,?_,?_,?_⟩,⟨?_,?_,?_,?_,?_⟩,⟨?_,?_,?_,?_,?_⟩,?_,?_,?_⟩
  ·show _=Br3 m w1 w2 w3 v1 v2 (v3+c3) (10737419*g1) (10737419*g2) (10737419*(g3+1))
   rw [show 10737419*(g3+1)=10737419*g3+10737419 by omega]
   rfl
  ·omega
  ·omega
  ·omega
  ·exact e1
  ·omega
  ·omega
  ·rw [List.countP_append,Int.natCast_add,o1]; simp
  ·omega
  ·exact e2
  ·omega
  ·omega
  ·rw [List.countP_append,Int.natCast_add,o2]; simp
  ·omega
  ·rw [Int.mul_add,Int.mul_one,← e3]
  ·omega
  ·omega
  ·rw [List.countP_append,Int.natCast_add,o3]; simp
  ·omega
  ·simp; omega
  ·intro x hx
   rcases List.mem_append.1 hx with hx|hx
   ·exact hm x hx
   ·simp only [List.mem_singleton] at hx
    subst hx
    simp
def Inv4 (w1 w2 w3 w4 c1 c2 c3 c4 n:Int) (out:List Int) (B:List Ag):Prop:=∃ cl v1 v2 v3 v4 g1 g2 g3 g4:Int,B=Br4 cl w1 w2 w3 w4 v1 v2 v3 v4 (10737419*g1) (10737419*g2) (10737419*g3) (10737419*g4)∧0≤cl∧cl≤42949674*n ∧
 (0≤g1∧v1=c1*g1∧cl≤v1∧v1≤cl+c1∧((out.countP (fun x=>x==1):Nat):Int)=g1)∧(0≤g2∧v2=c2*g2∧cl≤v2∧v2≤cl+c2∧((out.countP (fun x=>x==2):Nat):Int)=g2)∧(0≤g3∧v3=c3*g3∧cl≤v3∧v3≤cl+c3∧((out.countP (fun x=>x==3):Nat):Int)=g3)∧(0≤g4∧v4=c4*g4∧cl≤v4∧v4≤cl+c4∧((out.countP (fun x=>x==4):Nat):Int)=g4)∧g1+g2+g3+g4=n∧(out.length:Int)=n∧∀ x∈out,x=1∨x=2∨x=3∨x=4
theorem step4 {w1 w2 w3 w4 c1 c2 c3 c4 n:Int} {out:List Int} {B:List Ag} (hc1:Cj w1=some c1) (p1:0<c1) (q1:c1≤21474837) (hc2:Cj w2=some c2) (p2:0<c2) (q2:c2≤21474837) (hc3:Cj w3=some c3) (p3:0<c3) (q3:c3≤21474837) (hc4:Cj w4=some c4) (p4:0<c4) (q4:c4≤21474837) (h:Inv4 w1 w2 w3 w4 c1 c2 c3 c4 n out B) (hn:0≤n) (hn2:n<60) :
  ∃ t B',Cz H4 B [1,2,3,4]=some (t,true)∧Me H4 B t=some (B',0)∧Inv4 w1 w2 w3 w4 c1 c2 c3 c4 (n+1) (out ++ [t]) B':=by
 obtain ⟨cl,v1,v2,v3,v4,g1,g2,g3,g4,rfl,h0,h1,⟨n1,e1,l1,r1,o1⟩,⟨n2,e2,l2,r2,o2⟩,⟨n3,e3,l3,r3,o3⟩,⟨n4,e4,l4,r4,o4⟩,hs,hl,hm⟩:=h
 have hq:QOk ({ clock:=cl,items := [({ id:=2,weight:=w1,v:=v1,active:=true } : Aa),({ id:=3,weight:=w2,v:=v2,active:=true } : Aa),({ id:=4,weight:=w3,v:=v3,active:=true } : Aa),({ id:=5,weight:=w4,v:=v4,active:=true } : Aa)] } : Ah):=⟨h0,by show cl≤_; omega,by simp,Aac rfl,(At ⟨(by show (2:Int)≠0; decide),l1,c1,hc1,p1,by omega,r1⟩ (At ⟨(by show (3:Int)≠0; decide),l2,c2,hc2,p2,by omega,r2⟩ (At ⟨(by show (4:Int)≠0; decide),l3,c3,hc3,p3,by omega,r3⟩ (At ⟨(by show (5:Int)≠0; decide),l4,c4,hc4,p4,by omega,r4⟩ Dx))))⟩
 obtain ⟨j,hj,hp,hmin⟩:=Aeo (l := [2,3,4,5]) hq (At rfl (At rfl (At rfl (At rfl Dx)))) (by simp) (At (by kernel_rfl) (At (by kernel_rfl) (At (by kernel_rfl) (At (by kernel_rfl) Dx))))
 have hj2:j=0∨j=1∨j=2∨j=3:=by
  have:j<4:=hj
  omega
 have hcopy:Kr (Br4 cl w1 w2 w3 w4 v1 v2 v3 v4 (10737419*g1) (10737419*g2) (10737419*g3) (10737419*g4))=some (Br4 cl w1 w2 w3 w4 v1 v2 v3 v4 (10737419*g1) (10737419*g2) (10737419*g3) (10737419*g4)):=Zi (by simp [Br4]) (by simp [Br4])
 rcases hj2 with rfl|rfl|rfl|rfl
 ·have hp:Cp ({ clock:=cl,items := [({ id:=2,weight:=w1,v:=v1,active:=true } : Aa),({ id:=3,weight:=w2,v:=v2,active:=true } : Aa),({ id:=4,weight:=w3,v:=v3,active:=true } : Aa),({ id:=5,weight:=w4,v:=v4,active:=true } : Aa)] } : Ah) [2,3,4,5]=some (2,true):=hp
  have k2:v1≤v2:=hmin ({ id:=3,weight:=w2,v:=v2,active:=true } : Aa) (by simp)
  have k3:v1≤v3:=hmin ({ id:=4,weight:=w3,v:=v3,active:=true } : Aa) (by simp)
  have k4:v1≤v4:=hmin ({ id:=5,weight:=w4,v:=v4,active:=true } : Aa) (by simp)
  have hz:0≤10737419*g1:=by omega
  have hz1:10737419*g1≤1000000000000000:=by omega
  obtain ⟨m,s1,⟨z,hzm,hzv⟩,hall⟩:=My (j:=0) (id:=2) hq (At rfl (At rfl (At rfl (At rfl Dx)))) (by simp) (by kernel_rfl) hc1 p1 (by omega) (At (Int.le_refl _) (At k2 (At k3 (At k4 Dx))))
  have hcs:Cz H4 (Br4 cl w1 w2 w3 w4 v1 v2 v3 v4 (10737419*g1) (10737419*g2) (10737419*g3) (10737419*g4)) [1,2,3,4]=some (1,true) :=
   Lx (may:=(((((((((PMap.empty false).set 1 (-1) true).set 0 2 true).set 2 (-2) true).set 0 3 true).set 3 (-3) true).set 0 4 true).set 4 (-4) true).set 0 5 true)) (ids := [2,3,4,5]) (ids1 := [-1]) (g:=2) (i:=1) (Ot (by decide) (fun _=>by kernel_rfl)) (by kernel_rfl) (by simp [Br4]) rfl (by simp [Br4]) (fun _=>by kernel_rfl) hp (by decide) (by kernel_rfl) (by simp [Br4]) rfl (by simp [Br4]) (fun _=>by kernel_rfl)
    (Kl hz hz1 (by decide) (by kernel_rfl)) (by decide) (by decide)
  have hsv:=Pa (h:=H4) (B:=Br4 cl w1 w2 w3 w4 v1 v2 v3 v4 (10737419*g1) (10737419*g2) (10737419*g3) (10737419*g4)) (task:=1) (t := { id:=1,process:=1,group:=2,user:=0 }) (i:=1) (x := -1) (y:=2) (by kernel_rfl) hcopy (by kernel_rfl) (by simp [Br4]) (by decide)
   (Iu hz hz1 (by decide) (by kernel_rfl)) s1
  refine ⟨1,_,hcs,hsv,?_⟩
  have hb:∀ y ∈ [({ id:=2,weight:=w1,v:=v1+c1,active:=true } : Aa),({ id:=3,weight:=w2,v:=v2,active:=true } : Aa),({ id:=4,weight:=w3,v:=v3,active:=true } : Aa),({ id:=5,weight:=w4,v:=v4,active:=true } : Aa)],m≤y.v:=hall
  have b1:m≤v1+c1:=hb ({ id:=2,weight:=w1,v:=v1+c1,active:=true } : Aa) (by simp)
  have b2:m≤v2:=hb ({ id:=3,weight:=w2,v:=v2,active:=true } : Aa) (by simp)
  have b3:m≤v3:=hb ({ id:=4,weight:=w3,v:=v3,active:=true } : Aa) (by simp)
  have b4:m≤v4:=hb ({ id:=5,weight:=w4,v:=v4,active:=true } : Aa) (by simp)
  have hz2:m=v1+c1∨m=v2∨m=v3∨m=v4:=by
   have:z ∈ [({ id:=2,weight:=w1,v:=v1+c1,active:=true } : Aa),({ id:=3,weight:=w2,v:=v2,active:=true } : Aa),({ id:=4,weight:=w3,v:=v3,active:=true } : Aa),({ id:=5,weight:=w4,v:=v4,active:=true } : Aa)]:=hzm
   simp only [List.mem_cons,List.not_mem_nil,or_false] at this
   rw [← hzv]
   rcases this with rfl|rfl|rfl|rfl
   all_goals simp
  refine ⟨m,v1+c1,v2,v3,v4,g1+1,g2,g3,g4,?_,?_,?_,⟨?_,?_,?_,?_,?_⟩,⟨?_,?_,?_,?_,?_⟩,⟨?_,?_,?_,?_,?_⟩,⟨?_,?_,?_,?_,?_⟩,?_,?_,?_⟩
  ·show _=Br4 m w1 w2 w3 w4 (v1+c1) v2 v3 v4 (10737419*(g1+1)) (10737419*g2) (10737419*g3) (10737419*g4)
   rw [show 10737419*(g1+1)=10737419*g1+10737419 by omega]
   rfl
  ·omega
  ·omega
  ·omega
  ·rw [Int.mul_add,Int.mul_one,← e1]
  ·omega
  ·omega
  ·rw [List.countP_append,Int.natCast_add,o1]; simp
  ·omega
  ·exact e2
  ·omega
  ·omega
  ·rw [List.countP_append,Int.natCast_add,o2]; simp
  ·omega
  ·exact e3
  ·omega
  ·omega
  ·rw [List.countP_append,Int.natCast_add,o3]; simp
  ·omega
  ·exact e4
  ·omega
  ·omega
  ·rw [List.countP_append,Int.natCast_add,o4]; simp
  ·omega
  ·simp; omega
  ·intro x hx
   rcases List.mem_append.1 hx with hx|hx
   ·exact hm x hx
   ·simp only [List.mem_singleton] at hx
    subst hx
    simp
 ·have hp:Cp ({ clock:=cl,items := [({ id:=2,weight:=w1,v:=v1,active:=true } : Aa),({ id:=3,weight:=w2,v:=v2,active:=true } : Aa),({ id:=4,weight:=w3,v:=v3,active:=true } : Aa),({ id:=5,weight:=w4,v:=v4,active:=true } : Aa)] } : Ah) [2,3,4,5]=some (3,true):=hp
  have k1:v2≤v1:=hmin ({ id:=2,weight:=w1,v:=v1,active:=true } : Aa) (by simp)
  have k3:v2≤v3:=hmin ({ id:=4,weight:=w3,v:=v3,active:=true } : Aa) (by simp)
  have k4:v2≤v4:=hmin ({ id:=5,weight:=w4,v:=v4,active:=true } : Aa) (by simp)
  have hz:0≤10737419*g2:=by omega
  have hz1:10737419*g2≤1000000000000000:=by omega
  obtain ⟨m,s1,⟨z,hzm,hzv⟩,hall⟩:=My (j:=1) (id:=3) hq (At rfl (At rfl (At rfl (At rfl Dx)))) (by simp) (by kernel_rfl) hc2 p2 (by omega) (At k1 (At (Int.le_refl _) (At k3 (At k4 Dx))))
  have hcs:Cz H4 (Br4 cl w1 w2 w3 w4 v1 v2 v3 v4 (10737419*g1) (10737419*g2) (10737419*g3) (10737419*g4)) [1,2,3,4]=some (2,true) :=
   Lx (may:=(((((((((PMap.empty false).set 1 (-1) true).set 0 2 true).set 2 (-2) true).set 0 3 true).set 3 (-3) true).set 0 4 true).set 4 (-4) true).set 0 5 true)) (ids := [2,3,4,5]) (ids1 := [-2]) (g:=3) (i:=2) (Ot (by decide) (fun _=>by kernel_rfl)) (by kernel_rfl) (by simp [Br4]) rfl (by simp [Br4]) (fun _=>by kernel_rfl) hp (by decide) (by kernel_rfl) (by simp [Br4]) rfl (by simp [Br4]) (fun _=>by kernel_rfl)
    (Kl hz hz1 (by decide) (by kernel_rfl)) (by decide) (by decide)
  have hsv:=Pa (h:=H4) (B:=Br4 cl w1 w2 w3 w4 v1 v2 v3 v4 (10737419*g1) (10737419*g2) (10737419*g3) (10737419*g4)) (task:=2) (t := { id:=2,process:=2,group:=3,user:=0 }) (i:=2) (x := -2) (y:=3) (by kernel_rfl) hcopy (by kernel_rfl) (by simp [Br4]) (by decide)
   (Iu hz hz1 (by decide) (by kernel_rfl)) s1
  refine ⟨2,_,hcs,hsv,?_⟩
  have hb:∀ y ∈ [({ id:=2,weight:=w1,v:=v1,active:=true } : Aa),({ id:=3,weight:=w2,v:=v2+c2,active:=true } : Aa),({ id:=4,weight:=w3,v:=v3,active:=true } : Aa),({ id:=5,weight:=w4,v:=v4,active:=true } : Aa)],m≤y.v:=hall
  have b1:m≤v1:=hb ({ id:=2,weight:=w1,v:=v1,active:=true } : Aa) (by simp)
  have b2:m≤v2+c2:=hb ({ id:=3,weight:=w2,v:=v2+c2,active:=true } : Aa) (by simp)
  have b3:m≤v3:=hb ({ id:=4,weight:=w3,v:=v3,active:=true } : Aa) (by simp)
  have b4:m≤v4:=hb ({ id:=5,weight:=w4,v:=v4,active:=true } : Aa) (by simp)
  have hz2:m=v1∨m=v2+c2∨m=v3∨m=v4:=by
   have:z ∈ [({ id:=2,weight:=w1,v:=v1,active:=true } : Aa),({ id:=3,weight:=w2,v:=v2+c2,active:=true } : Aa),({ id:=4,weight:=w3,v:=v3,active:=true } : Aa),({ id:=5,weight:=w4,v:=v4,active:=true } : Aa)]:=hzm
   simp only [List.mem_cons,List.not_mem_nil,or_false] at this
   rw [← hzv]
   rcases this with rfl|rfl|rfl|rfl
   all_goals simp
  refine ⟨m,v1,v2+c2,v3,v4,g1,g2+1,g3,g4,?_,?_,?_,⟨?_,?_,?_,?_,?_⟩,⟨?_,?_,?_,?_,?_⟩,⟨?_,?_,?_,?_,?_⟩,⟨?_,?_,?_,?_,?_⟩,?_,?_,?_⟩
  ·show _=Br4 m w1 w2 w3 w4 v1 (v2+c2) v3 v4 (10737419*g1) (10737419*(g2+1)) (10737419*g3) (10737419*g4)
   rw [show 10737419*(g2+1)=10737419*g2+10737419 by omega]
   rfl
  ·omega
  ·omega
  ·omega
  ·exact e1
  ·omega
  ·omega
  ·rw [List.countP_append,Int.natCast_add,o1]; simp
  ·omega
  ·rw [Int.mul_add,Int.mul_one,← e2]
  ·omega
  ·omega
  ·rw [List.countP_append,Int.natCast_add,o2]; simp
  ·omega
  ·exact e3
  ·omega
  ·omega
  ·rw [List.countP_append,Int.natCast_add,o3]; simp
  ·omega
  ·exact e4
  ·omega
  ·omega
  ·rw [List.countP_append,Int.natCast_add,o4]; simp
  ·omega
  ·simp; omega
  ·intro x hx
   rcases List.mem_append.1 hx with hx|hx
   ·exact hm x hx
   ·simp only [List.mem_singleton] at hx
    subst hx
    simp
 ·have hp:Cp ({ clock:=cl,items := [({ id:=2,weight:=w1,v:=v1,active:=true } : Aa),({ id:=3,weight:=w2,v:=v2,active:=true } : Aa),({ id:=4,weight:=w3,v:=v3,active:=true } : Aa),({ id:=5,weight:=w4,v:=v4,active:=true } : Aa)] } : Ah) [2,3,4,5]=some (4,true):=hp
  have k1:v3≤v1:=hmin ({ id:=2,weight:=w1,v:=v1,active:=true } : Aa) (by simp)
  have k2:v3≤v2:=hmin ({ id:=3,weight:=w2,v:=v2,active:=true } : Aa) (by simp)
  have k4:v3≤v4:=hmin ({ id:=5,weight:=w4,v:=v4,active:=true } : Aa) (by simp)
  have hz:0≤10737419*g3:=by omega
  have hz1:10737419*g3≤1000000000000000:=by omega
  obtain ⟨m,s1,⟨z,hzm,hzv⟩,hall⟩:=My (j:=2) (id:=4) hq (At rfl (At rfl (At rfl (At rfl Dx)))) (by simp) (by kernel_rfl) hc3 p3 (by omega) (At k1 (At k2 (At (Int.le_refl _) (At k4 Dx))))
  have hcs:Cz H4 (Br4 cl w1 w2 w3 w4 v1 v2 v3 v4 (10737419*g1) (10737419*g2) (10737419*g3) (10737419*g4)) [1,2,3,4]=some (3,true) :=
   Lx (may:=(((((((((PMap.empty false).set 1 (-1) true).set 0 2 true).set 2 (-2) true).set 0 3 true).set 3 (-3) true).set 0 4 true).set 4 (-4) true).set 0 5 true)) (ids := [2,3,4,5]) (ids1 := [-3]) (g:=4) (i:=3) (Ot (by decide) (fun _=>by kernel_rfl)) (by kernel_rfl) (by simp [Br4]) rfl (by simp [Br4]) (fun _=>by kernel_rfl) hp (by decide) (by kernel_rfl) (by simp [Br4]) rfl (by simp [Br4]) (fun _=>by kernel_rfl)
    (Kl hz hz1 (by decide) (by kernel_rfl)) (by decide) (by decide)
  have hsv:=Pa (h:=H4) (B:=Br4 cl w1 w2 w3 w4 v1 v2 v3 v4 (10737419*g1) (10737419*g2) (10737419*g3) (10737419*g4)) (task:=3) (t := { id:=3,process:=3,group:=4,user:=0 }) (i:=3) (x := -3) (y:=4) (by kernel_rfl) hcopy (by kernel_rfl) (by simp [Br4]) (by decide)
   (Iu hz hz1 (by decide) (by kernel_rfl)) s1
  refine ⟨3,_,hcs,hsv,?_⟩
  have hb:∀ y ∈ [({ id:=2,weight:=w1,v:=v1,active:=true } : Aa),({ id:=3,weight:=w2,v:=v2,active:=true } : Aa),({ id:=4,weight:=w3,v:=v3+c3,active:=true } : Aa),({ id:=5,weight:=w4,v:=v4,active:=true } : Aa)],m≤y.v:=hall
  have b1:m≤v1:=hb ({ id:=2,weight:=w1,v:=v1,active:=true } : Aa) (by simp)
  have b2:m≤v2:=hb ({ id:=3,weight:=w2,v:=v2,active:=true } : Aa) (by simp)
  have b3:m≤v3+c3:=hb ({ id:=4,weight:=w3,v:=v3+c3,active:=true } : Aa) (by simp)
  have b4:m≤v4:=hb ({ id:=5,weight:=w4,v:=v4,active:=true } : Aa) (by simp)
  have hz2:m=v1∨m=v2∨m=v3+c3∨m=v4:=by
   have:z ∈ [({ id:=2,weight:=w1,v:=v1,active:=true } : Aa),({ id:=3,weight:=w2,v:=v2,active:=true } : Aa),({ id:=4,weight:=w3,v:=v3+c3,active:=true } : Aa),({ id:=5,weight:=w4,v:=v4,active:=true } : Aa)]:=hzm
   simp only [List.mem_cons,List.not_mem_nil,or_false] at this
   rw [← hzv]
   rcases this with rfl|rfl|rfl|rfl
   all_goals simp
  refine ⟨m,v1,v2,v3+c3,v4,g1,g2,g3+1,g4,?_,?_,?_,⟨?_,?_,?_,?_,?_⟩,⟨?_,?_,?_,?_,?_⟩,⟨?_,?_,?_,?_,?_⟩,⟨?_,?_,?_,?_,?_⟩,?_,?_,?_⟩
  ·show _=Br4 m w1 w2 w3 w4 v1 v2 (v3+c3) v4 (10737419*g1) (10737419*g2) (10737419*(g3+1)) (10737419*g4)
   rw [show 10737419*(g3+1)=10737419*g3+10737419 by omega]
   rfl
  ·omega
  ·omega
  ·omega
  ·exact e1
  ·omega
  ·omega
  ·rw [List.countP_append,Int.natCast_add,o1]; simp
  ·omega
  ·exact e2
  ·omega
  ·omega
  ·rw [List.countP_append,Int.natCast_add,o2]; simp
  ·omega
  ·rw [Int.mul_add,Int.mul_one,← e3]
  ·omega
  ·omega
  ·rw [List.countP_append,Int.natCast_add,o3]; simp
  ·omega
  ·exact e4
  ·omega
  ·omega
  ·rw [List.countP_append,Int.natCast_add,o4]; simp
  ·omega
  ·simp; omega
  ·intro x hx
   rcases List.mem_append.1 hx with hx|hx
   ·exact hm x hx
   ·simp only [List.mem_singleton] at hx
    subst hx
    simp
 ·have hp:Cp ({ clock:=cl,items := [({ id:=2,weight:=w1,v:=v1,active:=true } : Aa),({ id:=3,weight:=w2,v:=v2,active:=true } : Aa),({ id:=4,weight:=w3,v:=v3,active:=true } : Aa),({ id:=5,weight:=w4,v:=v4,active:=true } : Aa)] } : Ah) [2,3,4,5]=some (5,true):=hp
  have k1:v4≤v1:=hmin ({ id:=2,weight:=w1,v:=v1,active:=true } : Aa) (by simp)
  have k2:v4≤v2:=hmin ({ id:=3,weight:=w2,v:=v2,active:=true } : Aa) (by simp)
  have k3:v4≤v3:=hmin ({ id:=4,weight:=w3,v:=v3,active:=true } : Aa) (by simp)
  have hz:0≤10737419*g4:=by omega
  have hz1:10737419*g4≤1000000000000000:=by omega
  obtain ⟨m,s1,⟨z,hzm,hzv⟩,hall⟩:=My (j:=3) (id:=5) hq (At rfl (At rfl (At rfl (At rfl Dx)))) (by simp) (by kernel_rfl) hc4 p4 (by omega) (At k1 (At k2 (At k3 (At (Int.le_refl _) Dx))))
  have hcs:Cz H4 (Br4 cl w1 w2 w3 w4 v1 v2 v3 v4 (10737419*g1) (10737419*g2) (10737419*g3) (10737419*g4)) [1,2,3,4]=some (4,true) :=
   Lx (may:=(((((((((PMap.empty false).set 1 (-1) true).set 0 2 true).set 2 (-2) true).set 0 3 true).set 3 (-3) true).set 0 4 true).set 4 (-4) true).set 0 5 true)) (ids := [2,3,4,5]) (ids1 := [-4]) (g:=5) (i:=4) (Ot (by decide) (fun _=>by kernel_rfl)) (by kernel_rfl) (by simp [Br4]) rfl (by simp [Br4]) (fun _=>by kernel_rfl) hp (by decide) (by kernel_rfl) (by simp [Br4]) rfl (by simp [Br4]) (fun _=>by kernel_rfl)
    (Kl hz hz1 (by decide) (by kernel_rfl)) (by decide) (by decide)
  have hsv:=Pa (h:=H4) (B:=Br4 cl w1 w2 w3 w4 v1 v2 v3 v4 (10737419*g1) (10737419*g2) (10737419*g3) (10737419*g4)) (task:=4) (t := { id:=4,process:=4,group:=5,user:=0 }) (i:=4) (x := -4) (y:=5) (by kernel_rfl) hcopy (by kernel_rfl) (by simp [Br4]) (by decide)
   (Iu hz hz1 (by decide) (by kernel_rfl)) s1
  refine ⟨4,_,hcs,hsv,?_⟩
  have hb:∀ y ∈ [({ id:=2,weight:=w1,v:=v1,active:=true } : Aa),({ id:=3,weight:=w2,v:=v2,active:=true } : Aa),({ id:=4,weight:=w3,v:=v3,active:=true } : Aa),({ id:=5,weight:=w4,v:=v4+c4,active:=true } : Aa)],m≤y.v:=hall
  have b1:m≤v1:=hb ({ id:=2,weight:=w1,v:=v1,active:=true } : Aa) (by simp)
  have b2:m≤v2:=hb ({ id:=3,weight:=w2,v:=v2,active:=true } : Aa) (by simp)
  have b3:m≤v3:=hb ({ id:=4,weight:=w3,v:=v3,active:=true } : Aa) (by simp)
  have b4:m≤v4+c4:=hb ({ id:=5,weight:=w4,v:=v4+c4,active:=true } : Aa) (by simp)
  have hz2:m=v1∨m=v2∨m=v3∨m=v4+c4:=by
   have:z ∈ [({ id:=2,weight:=w1,v:=v1,active:=true } : Aa),({ id:=3,weight:=w2,v:=v2,active:=true } : Aa),({ id:=4,weight:=w3,v:=v3,active:=true } : Aa),({ id:=5,weight:=w4,v:=v4+c4,active:=true } : Aa)]:=hzm
   simp only [List.mem_cons,List.not_mem_nil,or_false] at this
   rw [← hzv]
   rcases this with rfl|rfl|rfl|rfl
   all_goals simp
  refine ⟨m,v1,v2,v3,v4+c4,g1,g2,g3,g4+1,?_,?_,?_,⟨?_,?_,?_,?_,?_⟩,⟨?_,?_,?_,?_,?_⟩,⟨?_,?_,?_,?_,?_⟩,⟨?_,?_,?_,?_,?_⟩,?_,?_,?_⟩
  ·show _=Br4 m w1 w2 w3 w4 v1 v2 v3 (v4+c4) (10737419*g1) (10737419*g2) (10737419*g3) (10737419*(g4+1))
   rw [show 10737419*(g4+1)=10737419*g4+10737419 by omega]
   rfl
  ·omega
  ·omega
  ·omega
  ·exact e1
  ·omega
  ·omega
  ·rw [List.countP_append,Int.natCast_add,o1]; simp
  ·omega
  ·exact e2
  ·omega
  ·omega
  ·rw [List.countP_append,Int.natCast_add,o2]; simp
  ·omega
  ·exact e3
  ·omega
  ·omega
  ·rw [List.countP_append,Int.natCast_add,o3]; simp
  ·omega
  ·rw [Int.mul_add,Int.mul_one,← e4]
  ·omega
  ·omega
  ·rw [List.countP_append,Int.natCast_add,o4]; simp
  ·omega
  ·simp; omega
  ·intro x hx
   rcases List.mem_append.1 hx with hx|hx
   ·exact hm x hx
   ·simp only [List.mem_singleton] at hx
    subst hx
    simp
end Go.Dm

/- TopFlat: how units are divided. -/
namespace Go.Dm
theorem Mk {l:List Int} {lo hi:Int} (hl:l.length≤1000) (h:∀ x∈l,lo≤x∧x≤hi):Jv l lo hi=some true:=by
 unfold Jv Dh
 have:Db l lo hi=some (-1):=by
  refine Ok.eq ?_
  unfold Db
  refine Ok.guard (by omega) (Ok.range (fun _ _=>True) trivial ?_ (fun _ _=>Ok.ret rfl))
  intro pre x post s n e _ k
  have hx:=h x (by rw [e]; simp)
  unfold Ei Qh
  rw [Option.bind_some,if_neg (by simp; omega)]
  exact k () trivial
 rw [this]
 rfl
theorem Rv {D given:List Int} {full:List Bool} {k:Nat} {x:Int} {s:Int×Int} {n:Int×Int→Option (List Int)} (h:k<full.length) (hf:full.getD k false=false) :
  Ni D (given,full,true) k x s n=n (s.1,w64 (s.2+x)):=by
 unfold Ni Mo
 simp only
 rw [if_pos h,if_pos h,if_neg (by rw [hf]; simp)]
theorem Rz {D given:List Int} {full:List Bool} {ch:Bool} {k:Nat} {x v:Int} {s:Int×Int} {n:(List Int)×(List Bool)×Bool→Option (List Int)} (h:k<full.length) (hf:full.getD k false=false) (hs:s.2≠0)
  (hg:k<given.length) (hd:k<D.length) (hv:w64 (Int.tdiv (w64 (s.1*x)) s.2)=v) (hl:v<D.getD k 0) :
  Rh D s k x (given,full,ch) n=n (given.set k v,full,ch):=by
 unfold Rh Ji
 simp only [hv]
 have e:(given.set k v).getD k 0=v:=by
  rw [List.getD_eq_getElem?_getD,List.getElem?_set_self hg]
  rfl
 rw [if_pos h,if_pos h,if_neg (by rw [hf]; simp),if_pos hs,if_pos hg,if_pos hg,if_pos (by simpa using hg),if_pos (by simpa using hg),if_pos hd,if_neg (by rw [e,decide_eq_true_eq]; omega)]
theorem Agy {D W given:List Int} {full:List Bool} {n:Int} {f:(List Int)×(List Bool)×Bool→Option (List Int)} : Ro n W D (given,full,true) f =
  (if W.length≤9223372036854775807 then Ao (Ni D (given,full,true)) (Kz W D (given,full,true) f) W 0 (n,0) else none):=rfl
theorem Agh {D W given:List Int} {full:List Bool} {n:Int} {f:(List Int)×(List Bool)×Bool→Option (List Int)} : Ro n W D (given,full,false) f=some given:=rfl
theorem Yw {k:Nat} {x s:Int} {n:Int→Option Int} : Zq k x s n=n (w64 (s+x)):=rfl
theorem level_ok {W p:List Int} {i j:Int} (hl:W.length=p.length) (hi:0≤i) (hi2:i<(p.length:Int)) (hj:0≤j) (hj2:j<(p.length:Int)):Ok (Qt W p i j) (fun _=>True):=by
 unfold Qt
 refine Ok.guard ⟨hi,hi2⟩ (Ok.guard ⟨hj,by omega⟩ (Ok.guard ⟨hj,hj2⟩ (Ok.guard ⟨hi,by omega⟩ ?_)))
 repeat' split
 all_goals exact Ok.ret trivial
theorem Adg {W p D:List Int} (h1:W.length=p.length) (h2:D.length=p.length) (h0:p ≠ []) (hlen:p.length≤1000) (hd:∀ i,i<p.length→p.getD i 0<D.getD i 0) :
  Ok (Qu W p D) (fun r=>r.2=true∧0≤r.1∧r.1<(p.length:Int)):=by
 unfold Qu
 refine Ok.guard (by omega) (Ok.range (fun pre s=>(pre = []∧s = -1)∨(0≤s∧s<(pre.length:Int))) (.inl ⟨rfl,rfl⟩) ?_ ?_)
 ·intro pre x post s n e hi k
  have hl:D.length=pre.length+(post.length+1):=by rw [e]; simp
  have hx:D.getD pre.length 0=x:=by rw [e]; exact Afn
  have hp:=hd pre.length (by omega)
  rw [hx] at hp
  unfold Vj
  refine Ok.guard (by omega) ?_
  rw [if_pos (by simpa using hp)]
  have hJ:∀ y,Ok (Ik pre.length s n y) (fun r=>r.2=true∧0≤r.1∧r.1<(p.length:Int))∨(y=false∧s = -1):=by
   intro y
   unfold Ik Nj
   cases y with
   | true=>exact .inl (k _ (.inr ⟨by omega,by simp; omega⟩))
   | false =>
    rcases hi with ⟨_,rfl⟩|⟨a,b⟩
    ·exact .inr ⟨rfl,rfl⟩
    ·exact .inl (k _ (.inr ⟨a,by simp; omega⟩))
  rcases hi with ⟨rfl,rfl⟩|⟨a,b⟩
  ·rw [if_pos (by decide)]
   rcases hJ true with h|⟨h,_⟩
   ·exact h
   ·simp at h
  ·rw [if_neg (by rw [decide_eq_true_eq]; omega)]
   refine Ok.bind (level_ok h1 (by omega) (by omega) a (by omega)) fun v _ => ?_
   rcases hJ (decide (v<0)) with h|⟨_,h⟩
   ·exact h
   ·omega
 ·intro s hi
  rcases hi with ⟨h,_⟩|⟨a,b⟩
  ·rw [h] at h2
   exact absurd (List.eq_nil_of_length_eq_zero h2.symm) h0
  ·unfold Wc
   refine Ok.ret ⟨by simpa using a,?_,?_⟩
   ·show 0≤Fd s 0
    unfold Fd; split <;> omega
   ·show Fd s 0<_
    unfold Fd; split <;> omega
theorem begin2 {n w1 w2:Int} (hn:0≤n) (hn2:n<60) (a1:1≤w1) (b1:w1≤10000) (a2:1≤w2) (b2:w2≤10000):∃ f1 f2:Int,Hj n [w1,w2] [65536,65536]=some [f1,f2]∧(0≤f1∧f1≤n∧f1*(w1+w2)≤n*w1∧n*w1+1≤f1*(w1+w2)+(w1+w2))∧(0≤f2∧f2≤n∧f2*(w1+w2)≤n*w2∧n*w2+1≤f2*(w1+w2)+(w1+w2)):=by
 obtain ⟨S,hS⟩:∃ S:Int,S=(w1+w2):=⟨_,rfl⟩
 have hS0:0<S:=by omega
 have fl:∀ w:Int,1≤w→w≤10000→w≤S→w64 (Int.tdiv (w64 (n*w)) S)=n*w / S∧0≤n*w / S∧n*w / S*S≤n*w∧n*w+1≤n*w / S*S+S∧n*w / S≤n:=by
  intro w h1 h2 h3
  have p0:0≤n*w:=Int.mul_nonneg hn (by omega)
  have p1:n*w≤60*10000:=Int.mul_le_mul (by omega) h2 (by omega) (by omega)
  have p2:n*w≤n*S:=Int.mul_le_mul_of_nonneg_left h3 hn
  have q0:0≤n*w / S:=Int.ediv_nonneg p0 (by omega)
  have q1:n*w / S≤n:=Int.ediv_le_of_le_mul hS0 p2
  have e1:w64 (n*w)=n*w:=Bv (by omega) (by omega)
  have e2:Int.tdiv (n*w) S=n*w / S:=Int.tdiv_eq_ediv_of_nonneg p0
  refine ⟨?_,q0,Int.ediv_mul_le _ (by omega),?_,q1⟩
  ·rw [e1,e2,Bv (by omega) (by omega)]
  ·have:=Int.lt_ediv_add_one_mul_self (n*w) hS0
   rw [Int.add_mul,Int.one_mul] at this
   omega
 obtain ⟨u1,x1,y1,z1,o1⟩:=fl w1 a1 b1 (by omega)
 obtain ⟨u2,x2,y2,z2,o2⟩:=fl w2 a2 b2 (by omega)
 refine ⟨n*w1 / S,n*w2 / S,?_,by rw [← hS]; exact ⟨⟨x1,o1,y1,z1⟩,⟨x2,o2,y2,z2⟩⟩⟩
 refine Ok.eq ?_
 unfold Hj
 refine Ok.guard (by simp) (Ok.guard (by simp) ?_)
 rw [Vt,Agy]
 refine Ok.guard (by simp) ?_
 rw [Ao,Rv (by simp) (by rfl)]
 simp only
 rw [Bv (by omega) (by omega)]
 rw [Ao,Rv (by simp) (by rfl)]
 simp only
 rw [Bv (by omega) (by omega)]
 rw [Ao]
 unfold Kz
 refine Ok.guard (by simp) ?_
 have hsum:((0+w1)+w2)=S:=by omega
 simp only [Nat.zero_add]
 rw [hsum]
 rw [Ao,Rz (k:=0) (x:=w1) (s:=(n,S)) (v:=n*w1 / S) (by simp) (by rfl) (by show S≠0; omega) (by simp) (by simp) u1 (by show n*w1 / S<65536; omega)]
 rw [Ao,Rz (k:=1) (x:=w2) (s:=(n,S)) (v:=n*w2 / S) (by simp) (by rfl) (by show S≠0; omega) (by simp) (by simp) u2 (by show n*w2 / S<65536; omega)]
 rw [Ao]
 unfold Ng
 simp only
 rw [Wg,Agh]
 exact Ok.ret rfl
theorem div2 {n w1 w2:Int} (hn:0≤n) (hn2:n<60) (a1:1≤w1) (b1:w1≤10000) (a2:1≤w2) (b2:w2≤10000):∃ p1 p2:Int,Ds n [w1,w2] [65536,65536]=some [p1,p2]∧p1+p2=n∧n*w1+1≤p1*(w1+w2)+(w1+w2)∧n*w2+1≤p2*(w1+w2)+(w1+w2):=by
 obtain ⟨f1,f2,hb,⟨g1,h1,y1,z1⟩,⟨g2,h2,y2,z2⟩⟩:=begin2 hn hn2 a1 b1 a2 b2
 have hS0:0<(w1+w2):=by omega
 have hle:f1+f2≤n:=by
  refine Int.le_of_mul_le_mul_right (a:=(w1+w2)) ?_ hS0
  simp only [Int.add_mul,Int.mul_add] at y1 y2 ⊢
  omega
 have key:Ok (Ds n [w1,w2] [65536,65536]) (fun p=>∃ p1 p2:Int,p = [p1,p2]∧p1+p2=n∧n*w1+1≤p1*(w1+w2)+(w1+w2)∧n*w2+1≤p2*(w1+w2)+(w1+w2)):=by
  unfold Ds
  have hv:Ho n [w1,w2] [65536,65536]=some true:=by
   unfold Ho
   rw [Mk (by simp) (by intro x hx; simp at hx; omega),Option.bind_some,if_pos rfl,if_pos (by simp),if_pos (by simp),Mk (by simp) (by intro x hx; simp only [List.mem_cons,List.not_mem_nil,or_false] at hx; omega),Option.bind_some,if_pos rfl,
    Mk (by simp) (by intro x hx; simp only [List.mem_cons,List.not_mem_nil,or_false] at hx; omega),Option.bind_some]
   rfl
  refine Ok.step hv ?_
  rw [if_neg (by simp)]
  refine Ok.bind (P:=fun p=>∃ p1 p2:Int,p = [p1,p2]∧p1+p2=n∧n*w1+1≤p1*(w1+w2)+(w1+w2)∧n*w2+1≤p2*(w1+w2)+(w1+w2)) ?_ (fun p hp=>Ok.ret hp)
  unfold Lq
  refine Ok.step hb ?_
  have hs:Kf [f1,f2]=some ((0+f1)+f2):=by
   unfold Kf
   rw [if_pos (by simp)]
   rw [Ao,Yw,Bv (by omega) (by omega)]
   rw [Ao,Yw,Bv (by omega) (by omega)]
   rw [Ao]
   rfl
  refine Ok.step hs ?_
  rw [Bv (by omega) (by omega)]
  refine Ok.guard (by omega) (Ok.for (fun j p=>∃ p1 p2:Int,p = [p1,p2]∧p1+p2=f1+f2+(j:Int)∧f1≤p1∧f2≤p2) ⟨f1,f2,rfl,by omega,Int.le_refl _,Int.le_refl _⟩ ?_ ?_)
  ·rintro j p nn hj ⟨p1,p2,rfl,hs2,l1,l2⟩ kk
   unfold Mj
   refine Ok.bind (Adg (by simp) (by simp) (by simp) (by simp) (fun i hi => ?_)) fun r hr => ?_
   ·have:i<2:=hi
    have:i=0∨i=1:=by omega
    rcases this with rfl|rfl
    all_goals (simp only [List.getD_cons_zero,List.getD_cons_succ]; omega)
   ·obtain ⟨r1,r2⟩:=r
    obtain ⟨rfl,hr2,hr3⟩:=hr
    simp only at hr2 hr3 ⊢
    have hr4:r1<2:=hr3
    rw [if_neg (by simp)]
    refine Ok.guard ⟨hr2,hr3⟩ (Ok.guard (by show r1.toNat<2; omega) (Ok.guard ⟨hr2,hr3⟩ (Ok.guard (by show r1.toNat<2; omega) ?_)))
    have:r1=0∨r1=1:=by omega
    rcases this with rfl|rfl
    ·refine kk _ ⟨p1+1,p2,?_,by omega,by omega,by omega⟩
     show [w64 (p1+1),p2]=_
     rw [Bv (by omega) (by omega)]
    ·refine kk _ ⟨p1,p2+1,?_,by omega,by omega,by omega⟩
     show [p1,w64 (p2+1)]=_
     rw [Bv (by omega) (by omega)]
  ·rintro p ⟨p1,p2,rfl,hs2,l1,l2⟩
   have hs3:p1+p2=n:=by omega
   refine Ok.ret ⟨p1,p2,rfl,hs3,?_⟩
   have m1:=Int.mul_le_mul_of_nonneg_right l1 (show (0:Int)≤(w1+w2) by omega)
   have m2:=Int.mul_le_mul_of_nonneg_right l2 (show (0:Int)≤(w1+w2) by omega)
   exact ⟨by omega,by omega⟩
 obtain ⟨p,h1,p1,p2,rfl,h2⟩:=key
 exact ⟨p1,p2,h1,h2⟩
theorem begin3 {n w1 w2 w3:Int} (hn:0≤n) (hn2:n<60) (a1:1≤w1) (b1:w1≤10000) (a2:1≤w2) (b2:w2≤10000) (a3:1≤w3) (b3:w3≤10000):∃ f1 f2 f3:Int,Hj n [w1,w2,w3] [65536,65536,65536]=some [f1,f2,f3]∧(0≤f1∧f1≤n∧f1*(w1+w2+w3)≤n*w1∧n*w1+1≤f1*(w1+w2+w3)+(w1+w2+w3))∧(0≤f2∧f2≤n∧f2*(w1+w2+w3)≤n*w2∧n*w2+1≤f2*(w1+w2+w3)+(w1+w2+w3))∧(0≤f3∧f3≤n∧f3*(w1+w2+w3)≤n*w3∧n*w3+1≤f3*(w1+w2+w3)+(w1+w2+w3)):=by
 obtain ⟨S,hS⟩:∃ S:Int,S=(w1+w2+w3):=⟨_,rfl⟩
 have hS0:0<S:=by omega
 have fl:∀ w:Int,1≤w→w≤10000→w≤S→w64 (Int.tdiv (w64 (n*w)) S)=n*w / S∧0≤n*w / S∧n*w / S*S≤n*w∧n*w+1≤n*w / S*S+S∧n*w / S≤n:=by
  intro w h1 h2 h3
  have p0:0≤n*w:=Int.mul_nonneg hn (by omega)
  have p1:n*w≤60*10000:=Int.mul_le_mul (by omega) h2 (by omega) (by omega)
  have p2:n*w≤n*S:=Int.mul_le_mul_of_nonneg_left h3 hn
  have q0:0≤n*w / S:=Int.ediv_nonneg p0 (by omega)
  have q1:n*w / S≤n:=Int.ediv_le_of_le_mul hS0 p2
  have e1:w64 (n*w)=n*w:=Bv (by omega) (by omega)
  have e2:Int.tdiv (n*w) S=n*w / S:=Int.tdiv_eq_ediv_of_nonneg p0
  refine ⟨?_,q0,Int.ediv_mul_le _ (by omega),?_,q1⟩
  ·rw [e1,e2,Bv (by omega) (by omega)]
  ·have:=Int.lt_ediv_add_one_mul_self (n*w) hS0
   rw [Int.add_mul,Int.one_mul] at this
   omega
 obtain ⟨u1,x1,y1,z1,o1⟩:=fl w1 a1 b1 (by omega)
 obtain ⟨u2,x2,y2,z2,o2⟩:=fl w2 a2 b2 (by omega)
 obtain ⟨u3,x3,y3,z3,o3⟩:=fl w3 a3 b3 (by omega)
 refine ⟨n*w1 / S,n*w2 / S,n*w3 / S,?_,by rw [← hS]; exact ⟨⟨x1,o1,y1,z1⟩,⟨x2,o2,y2,z2⟩,⟨x3,o3,y3,z3⟩⟩⟩
 refine Ok.eq ?_
 unfold Hj
 refine Ok.guard (by simp) (Ok.guard (by simp) ?_)
 rw [Vt,Agy]
 refine Ok.guard (by simp) ?_
 rw [Ao,Rv (by simp) (by rfl)]
 simp only
 rw [Bv (by omega) (by omega)]
 rw [Ao,Rv (by simp) (by rfl)]
 simp only
 rw [Bv (by omega) (by omega)]
 rw [Ao,Rv (by simp) (by rfl)]
 simp only
 rw [Bv (by omega) (by omega)]
 rw [Ao]
 unfold Kz
 refine Ok.guard (by simp) ?_
 have hsum:(((0+w1)+w2)+w3)=S:=by omega
 simp only [Nat.zero_add]
 rw [hsum]
 rw [Ao,Rz (k:=0) (x:=w1) (s:=(n,S)) (v:=n*w1 / S) (by simp) (by rfl) (by show S≠0; omega) (by simp) (by simp) u1 (by show n*w1 / S<65536; omega)]
 rw [Ao,Rz (k:=1) (x:=w2) (s:=(n,S)) (v:=n*w2 / S) (by simp) (by rfl) (by show S≠0; omega) (by simp) (by simp) u2 (by show n*w2 / S<65536; omega)]
 rw [Ao,Rz (k:=2) (x:=w3) (s:=(n,S)) (v:=n*w3 / S) (by simp) (by rfl) (by show S≠0; omega) (by simp) (by simp) u3 (by show n*w3 / S<65536; omega)]
 rw [Ao]
 unfold Ng
 simp only
 rw [Wg,Agh]
 exact Ok.ret rfl
theorem div3 {n w1 w2 w3:Int} (hn:0≤n) (hn2:n<60) (a1:1≤w1) (b1:w1≤10000) (a2:1≤w2) (b2:w2≤10000) (a3:1≤w3) (b3:w3≤10000):∃ p1 p2 p3:Int,Ds n [w1,w2,w3] [65536,65536,65536]=some [p1,p2,p3]∧p1+p2+p3=n∧n*w1+1≤p1*(w1+w2+w3)+(w1+w2+w3)∧n*w2+1≤p2*(w1+w2+w3)+(w1+w2+w3)∧n*w3+1≤p3*(w1+w2+w3)+(w1+w2+w3):=by
 obtain ⟨f1,f2,f3,hb,⟨g1,h1,y1,z1⟩,⟨g2,h2,y2,z2⟩,⟨g3,h3,y3,z3⟩⟩:=begin3 hn hn2 a1 b1 a2 b2 a3 b3
 have hS0:0<(w1+w2+w3):=by omega
 have hle:f1+f2+f3≤n:=by
  refine Int.le_of_mul_le_mul_right (a:=(w1+w2+w3)) ?_ hS0
  simp only [Int.add_mul,Int.mul_add] at y1 y2 y3 ⊢
  omega
 have key:Ok (Ds n [w1,w2,w3] [65536,65536,65536]) (fun p=>∃ p1 p2 p3:Int,p = [p1,p2,p3]∧p1+p2+p3=n∧n*w1+1≤p1*(w1+w2+w3)+(w1+w2+w3)∧n*w2+1≤p2*(w1+w2+w3)+(w1+w2+w3)∧n*w3+1≤p3*(w1+w2+w3)+(w1+w2+w3)):=by
  unfold Ds
  have hv:Ho n [w1,w2,w3] [65536,65536,65536]=some true:=by
   unfold Ho
   rw [Mk (by simp) (by intro x hx; simp at hx; omega),Option.bind_some,if_pos rfl,if_pos (by simp),if_pos (by simp),Mk (by simp) (by intro x hx; simp only [List.mem_cons,List.not_mem_nil,or_false] at hx; omega),Option.bind_some,if_pos rfl,
    Mk (by simp) (by intro x hx; simp only [List.mem_cons,List.not_mem_nil,or_false] at hx; omega),Option.bind_some]
   rfl
  refine Ok.step hv ?_
  rw [if_neg (by simp)]
  refine Ok.bind (P:=fun p=>∃ p1 p2 p3:Int,p = [p1,p2,p3]∧p1+p2+p3=n∧n*w1+1≤p1*(w1+w2+w3)+(w1+w2+w3)∧n*w2+1≤p2*(w1+w2+w3)+(w1+w2+w3)∧n*w3+1≤p3*(w1+w2+w3)+(w1+w2+w3)) ?_ (fun p hp=>Ok.ret hp)
  unfold Lq
  refine Ok.step hb ?_
  have hs:Kf [f1,f2,f3]=some (((0+f1)+f2)+f3):=by
   unfold Kf
   rw [if_pos (by simp)]
   rw [Ao,Yw,Bv (by omega) (by omega)]
   rw [Ao,Yw,Bv (by omega) (by omega)]
   rw [Ao,Yw,Bv (by omega) (by omega)]
   rw [Ao]
   rfl
  refine Ok.step hs ?_
  rw [Bv (by omega) (by omega)]
  refine Ok.guard (by omega) (Ok.for (fun j p=>∃ p1 p2 p3:Int,p = [p1,p2,p3]∧p1+p2+p3=f1+f2+f3+(j:Int)∧f1≤p1∧f2≤p2∧f3≤p3) ⟨f1,f2,f3,rfl,by omega,Int.le_refl _,Int.le_refl _,Int.le_refl _⟩ ?_ ?_)
  ·rintro j p nn hj ⟨p1,p2,p3,rfl,hs2,l1,l2,l3⟩ kk
   unfold Mj
   refine Ok.bind (Adg (by simp) (by simp) (by simp) (by simp) (fun i hi => ?_)) fun r hr => ?_
   ·have:i<3:=hi
    have:i=0∨i=1∨i=2:=by omega
    rcases this with rfl|rfl|rfl
    all_goals (simp only [List.getD_cons_zero,List.getD_cons_succ]; omega)
   ·obtain ⟨r1,r2⟩:=r
    obtain ⟨rfl,hr2,hr3⟩:=hr
    simp only at hr2 hr3 ⊢
    have hr4:r1<3:=hr3
    rw [if_neg (by simp)]
    refine Ok.guard ⟨hr2,hr3⟩ (Ok.guard (by show r1.toNat<3; omega) (Ok.guard ⟨hr2,hr3⟩ (Ok.guard (by show r1.toNat<3; omega) ?_)))
    have:r1=0∨r1=1∨r1=2:=by omega
    rcases this with rfl|rfl|rfl
    ·refine kk _ ⟨p1+1,p2,p3,?_,by omega,by omega,by omega,by omega⟩
     show [w64 (p1+1),p2,p3]=_
     rw [Bv (by omega) (by omega)]
    ·refine kk _ ⟨p1,p2+1,p3,?_,by omega,by omega,by omega,by omega⟩
     show [p1,w64 (p2+1),p3]=_
     rw [Bv (by omega) (by omega)]
    ·refine kk _ ⟨p1,p2,p3+1,?_,by omega,by omega,by omega,by omega⟩
     show [p1,p2,w64 (p3+1)]=_
     rw [Bv (by omega) (by omega)]
  ·rintro p ⟨p1,p2,p3,rfl,hs2,l1,l2,l3⟩
   have hs3:p1+p2+p3=n:=by omega
   refine Ok.ret ⟨p1,p2,p3,rfl,hs3,?_⟩
   have m1:=Int.mul_le_mul_of_nonneg_right l1 (show (0:Int)≤(w1+w2+w3) by omega)
   have m2:=Int.mul_le_mul_of_nonneg_right l2 (show (0:Int)≤(w1+w2+w3) by omega)
   have m3:=Int.mul_le_mul_of_nonneg_right l3 (show (0:Int)≤(w1+w2+w3) by omega)
   exact ⟨by omega,by omega,by omega⟩
 obtain ⟨p,h1,p1,p2,p3,rfl,h2⟩:=key
 exact ⟨p1,p2,p3,h1,h2⟩
theorem begin4 {n w1 w2 w3 w4:Int} (hn:0≤n) (hn2:n<60) (a1:1≤w1) (b1:w1≤10000) (a2:1≤w2) (b2:w2≤10000) (a3:1≤w3) (b3:w3≤10000) (a4:1≤w4) (b4:w4≤10000):∃ f1 f2 f3 f4:Int,Hj n [w1,w2,w3,w4] [65536,65536,65536,65536]=some [f1,f2,f3,f4]∧(0≤f1∧f1≤n∧f1*(w1+w2+w3+w4)≤n*w1∧n*w1+1≤f1*(w1+w2+w3+w4)+(w1+w2+w3+w4))∧(0≤f2∧f2≤n∧f2*(w1+w2+w3+w4)≤n*w2∧n*w2+1≤f2*(w1+w2+w3+w4)+(w1+w2+w3+w4))∧(0≤f3∧f3≤n∧f3*(w1+w2+w3+w4)≤n*w3∧n*w3+1≤f3*(w1+w2+w3+w4)+(w1+w2+w3+w4))∧(0≤f4∧f4≤n∧f4*(w1+w2+w3+w4)≤n*w4∧n*w4+1≤f4*(w1+w2+w3+w4)+(w1+w2+w3+w4)):=by
 obtain ⟨S,hS⟩:∃ S:Int,S=(w1+w2+w3+w4):=⟨_,rfl⟩
 have hS0:0<S:=by omega
 have fl:∀ w:Int,1≤w→w≤10000→w≤S→w64 (Int.tdiv (w64 (n*w)) S)=n*w / S∧0≤n*w / S∧n*w / S*S≤n*w∧n*w+1≤n*w / S*S+S∧n*w / S≤n:=by
  intro w h1 h2 h3
  have p0:0≤n*w:=Int.mul_nonneg hn (by omega)
  have p1:n*w≤60*10000:=Int.mul_le_mul (by omega) h2 (by omega) (by omega)
  have p2:n*w≤n*S:=Int.mul_le_mul_of_nonneg_left h3 hn
  have q0:0≤n*w / S:=Int.ediv_nonneg p0 (by omega)
  have q1:n*w / S≤n:=Int.ediv_le_of_le_mul hS0 p2
  have e1:w64 (n*w)=n*w:=Bv (by omega) (by omega)
  have e2:Int.tdiv (n*w) S=n*w / S:=Int.tdiv_eq_ediv_of_nonneg p0
  refine ⟨?_,q0,Int.ediv_mul_le _ (by omega),?_,q1⟩
  ·rw [e1,e2,Bv (by omega) (by omega)]
  ·have:=Int.lt_ediv_add_one_mul_self (n*w) hS0
   rw [Int.add_mul,Int.one_mul] at this
   omega
 obtain ⟨u1,x1,y1,z1,o1⟩:=fl w1 a1 b1 (by omega)
 obtain ⟨u2,x2,y2,z2,o2⟩:=fl w2 a2 b2 (by omega)
 obtain ⟨u3,x3,y3,z3,o3⟩:=fl w3 a3 b3 (by omega)
 obtain ⟨u4,x4,y4,z4,o4⟩:=fl w4 a4 b4 (by omega)
 refine ⟨n*w1 / S,n*w2 / S,n*w3 / S,n*w4 / S,?_,by rw [← hS]; exact ⟨⟨x1,o1,y1,z1⟩,⟨x2,o2,y2,z2⟩,⟨x3,o3,y3,z3⟩,⟨x4,o4,y4,z4⟩⟩⟩
 refine Ok.eq ?_
 unfold Hj
 refine Ok.guard (by simp) (Ok.guard (by simp) ?_)
 rw [Vt,Agy]
 refine Ok.guard (by simp) ?_
 rw [Ao,Rv (by simp) (by rfl)]
 simp only
 rw [Bv (by omega) (by omega)]
 rw [Ao,Rv (by simp) (by rfl)]
 simp only
 rw [Bv (by omega) (by omega)]
 rw [Ao,Rv (by simp) (by rfl)]
 simp only
 rw [Bv (by omega) (by omega)]
 rw [Ao,Rv (by simp) (by rfl)]
 simp only
 rw [Bv (by omega) (by omega)]
 rw [Ao]
 unfold Kz
 refine Ok.guard (by simp) ?_
 have hsum:((((0+w1)+w2)+w3)+w4)=S:=by omega
 simp only [Nat.zero_add]
 rw [hsum]
 rw [Ao,Rz (k:=0) (x:=w1) (s:=(n,S)) (v:=n*w1 / S) (by simp) (by rfl) (by show S≠0; omega) (by simp) (by simp) u1 (by show n*w1 / S<65536; omega)]
 rw [Ao,Rz (k:=1) (x:=w2) (s:=(n,S)) (v:=n*w2 / S) (by simp) (by rfl) (by show S≠0; omega) (by simp) (by simp) u2 (by show n*w2 / S<65536; omega)]
 rw [Ao,Rz (k:=2) (x:=w3) (s:=(n,S)) (v:=n*w3 / S) (by simp) (by rfl) (by show S≠0; omega) (by simp) (by simp) u3 (by show n*w3 / S<65536; omega)]
 rw [Ao,Rz (k:=3) (x:=w4) (s:=(n,S)) (v:=n*w4 / S) (by simp) (by rfl) (by show S≠0; omega) (by simp) (by simp) u4 (by show n*w4 / S<65536; omega)]
 rw [Ao]
 unfold Ng
 simp only
 rw [Wg,Agh]
 exact Ok.ret rfl
theorem div4 {n w1 w2 w3 w4:Int} (hn:0≤n) (hn2:n<60) (a1:1≤w1) (b1:w1≤10000) (a2:1≤w2) (b2:w2≤10000) (a3:1≤w3) (b3:w3≤10000) (a4:1≤w4) (b4:w4≤10000):∃ p1 p2 p3 p4:Int,Ds n [w1,w2,w3,w4] [65536,65536,65536,65536]=some [p1,p2,p3,p4]∧p1+p2+p3+p4=n∧n*w1+1≤p1*(w1+w2+w3+w4)+(w1+w2+w3+w4)∧n*w2+1≤p2*(w1+w2+w3+w4)+(w1+w2+w3+w4)∧n*w3+1≤p3*(w1+w2+w3+w4)+(w1+w2+w3+w4)∧n*w4+1≤p4*(w1+w2+w3+w4)+(w1+w2+w3+w4):=by
 obtain ⟨f1,f2,f3,f4,hb,⟨g1,h1,y1,z1⟩,⟨g2,h2,y2,z2⟩,⟨g3,h3,y3,z3⟩,⟨g4,h4,y4,z4⟩⟩:=begin4 hn hn2 a1 b1 a2 b2 a3 b3 a4 b4
 have hS0:0<(w1+w2+w3+w4):=by omega
 have hle:f1+f2+f3+f4≤n:=by
  refine Int.le_of_mul_le_mul_right (a:=(w1+w2+w3+w4)) ?_ hS0
  simp only [Int.add_mul,Int.mul_add] at y1 y2 y3 y4 ⊢
  omega
 have key:Ok (Ds n [w1,w2,w3,w4] [65536,65536,65536,65536]) (fun p=>∃ p1 p2 p3 p4:Int,p = [p1,p2,p3,p4]∧p1+p2+p3+p4=n∧n*w1+1≤p1*(w1+w2+w3+w4)+(w1+w2+w3+w4)∧n*w2+1≤p2*(w1+w2+w3+w4)+(w1+w2+w3+w4)∧n*w3+1≤p3*(w1+w2+w3+w4)+(w1+w2+w3+w4)∧n*w4+1≤p4*(w1+w2+w3+w4)+(w1+w2+w3+w4)):=by
  unfold Ds
  have hv:Ho n [w1,w2,w3,w4] [65536,65536,65536,65536]=some true:=by
   unfold Ho
   rw [Mk (by simp) (by intro x hx; simp at hx; omega),Option.bind_some,if_pos rfl,if_pos (by simp),if_pos (by simp),Mk (by simp) (by intro x hx; simp only [List.mem_cons,List.not_mem_nil,or_false] at hx; omega),Option.bind_some,if_pos rfl,
    Mk (by simp) (by intro x hx; simp only [List.mem_cons,List.not_mem_nil,or_false] at hx; omega),Option.bind_some]
   rfl
  refine Ok.step hv ?_
  rw [if_neg (by simp)]
  refine Ok.bind (P:=fun p=>∃ p1 p2 p3 p4:Int,p = [p1,p2,p3,p4]∧p1+p2+p3+p4=n∧n*w1+1≤p1*(w1+w2+w3+w4)+(w1+w2+w3+w4)∧n*w2+1≤p2*(w1+w2+w3+w4)+(w1+w2+w3+w4)∧n*w3+1≤p3*(w1+w2+w3+w4)+(w1+w2+w3+w4)∧n*w4+1≤p4*(w1+w2+w3+w4)+(w1+w2+w3+w4)) ?_ (fun p hp=>Ok.ret hp)
  unfold Lq
  refine Ok.step hb ?_
  have hs:Kf [f1,f2,f3,f4]=some ((((0+f1)+f2)+f3)+f4):=by
   unfold Kf
   rw [if_pos (by simp)]
   rw [Ao,Yw,Bv (by omega) (by omega)]
   rw [Ao,Yw,Bv (by omega) (by omega)]
   rw [Ao,Yw,Bv (by omega) (by omega)]
   rw [Ao,Yw,Bv (by omega) (by omega)]
   rw [Ao]
   rfl
  refine Ok.step hs ?_
  rw [Bv (by omega) (by omega)]
  refine Ok.guard (by omega) (Ok.for (fun j p=>∃ p1 p2 p3 p4:Int,p = [p1,p2,p3,p4]∧p1+p2+p3+p4=f1+f2+f3+f4+(j:Int)∧f1≤p1∧f2≤p2∧f3≤p3∧f4≤p4) ⟨f1,f2,f3,f4,rfl,by omega,Int.le_refl _,Int.le_refl _,Int.le_refl _,Int.le_refl _⟩ ?_ ?_)
  ·rintro j p nn hj ⟨p1,p2,p3,p4,rfl,hs2,l1,l2,l3,l4⟩ kk
   unfold Mj
   refine Ok.bind (Adg (by simp) (by simp) (by simp) (by simp) (fun i hi => ?_)) fun r hr => ?_
   ·have:i<4:=hi
    have:i=0∨i=1∨i=2∨i=3:=by omega
    rcases this with rfl|rfl|rfl|rfl
    all_goals (simp only [List.getD_cons_zero,List.getD_cons_succ]; omega)
   ·obtain ⟨r1,r2⟩:=r
    obtain ⟨rfl,hr2,hr3⟩:=hr
    simp only at hr2 hr3 ⊢
    have hr4:r1<4:=hr3
    rw [if_neg (by simp)]
    refine Ok.guard ⟨hr2,hr3⟩ (Ok.guard (by show r1.toNat<4; omega) (Ok.guard ⟨hr2,hr3⟩ (Ok.guard (by show r1.toNat<4; omega) ?_)))
    have:r1=0∨r1=1∨r1=2∨r1=3:=by omega
    rcases this with rfl|rfl|rfl|rfl
    ·refine kk _ ⟨p1+1,p2,p3,p4,?_,by omega,by omega,by omega,by omega,by omega⟩
     show [w64 (p1+1),p2,p3,p4]=_
     rw [Bv (by omega) (by omega)]
    ·refine kk _ ⟨p1,p2+1,p3,p4,?_,by omega,by omega,by omega,by omega,by omega⟩
     show [p1,w64 (p2+1),p3,p4]=_
     rw [Bv (by omega) (by omega)]
    ·refine kk _ ⟨p1,p2,p3+1,p4,?_,by omega,by omega,by omega,by omega,by omega⟩
     show [p1,p2,w64 (p3+1),p4]=_
     rw [Bv (by omega) (by omega)]
    ·refine kk _ ⟨p1,p2,p3,p4+1,?_,by omega,by omega,by omega,by omega,by omega⟩
     show [p1,p2,p3,w64 (p4+1)]=_
     rw [Bv (by omega) (by omega)]
  ·rintro p ⟨p1,p2,p3,p4,rfl,hs2,l1,l2,l3,l4⟩
   have hs3:p1+p2+p3+p4=n:=by omega
   refine Ok.ret ⟨p1,p2,p3,p4,rfl,hs3,?_⟩
   have m1:=Int.mul_le_mul_of_nonneg_right l1 (show (0:Int)≤(w1+w2+w3+w4) by omega)
   have m2:=Int.mul_le_mul_of_nonneg_right l2 (show (0:Int)≤(w1+w2+w3+w4) by omega)
   have m3:=Int.mul_le_mul_of_nonneg_right l3 (show (0:Int)≤(w1+w2+w3+w4) by omega)
   have m4:=Int.mul_le_mul_of_nonneg_right l4 (show (0:Int)≤(w1+w2+w3+w4) by omega)
   exact ⟨by omega,by omega,by omega,by omega⟩
 obtain ⟨p,h1,p1,p2,p3,p4,rfl,h2⟩:=key
 exact ⟨p1,p2,p3,p4,h1,h2⟩
end Go.Dm

/- TopFlat holds. -/
namespace Go.Dm
theorem Ge {w:Int} (h:okW w):Cj w=some (Gw w)∧0<Gw w∧Gw w≤21474837∧1≤w∧w≤10000:=by
 rcases h with rfl|rfl|rfl|rfl|rfl <;> exact ⟨by kernel_rfl,by decide,by decide,by decide,by decide⟩
def T0 : Ac := { tree := { nodes := [{ id:=1,parent:=0,name:=ByteArray.empty,control:=0,kind:=0,owner:=0 },{ id:=2,parent:=1,name:=bs [97],control:=0,kind:=0,owner:=0 }],next:=3 },tasks := [],next:=1 }
def T1 : Ac := { tree := { nodes := [{ id:=1,parent:=0,name:=ByteArray.empty,control:=0,kind:=0,owner:=0 },{ id:=2,parent:=1,name:=bs [97],control:=0,kind:=0,owner:=0 },{ id:=3,parent:=1,name:=bs [98],control:=0,kind:=0,owner:=0 }],next:=4 },tasks := [{ id:=1,process:=1,group:=2,user:=0 }],next:=2 }
def T2 : Ac := { tree := { nodes := [{ id:=1,parent:=0,name:=ByteArray.empty,control:=0,kind:=0,owner:=0 },{ id:=2,parent:=1,name:=bs [97],control:=0,kind:=0,owner:=0 },{ id:=3,parent:=1,name:=bs [98],control:=0,kind:=0,owner:=0 },{ id:=4,parent:=1,name:=bs [99],control:=0,kind:=0,owner:=0 }],next:=5 },tasks := [{ id:=1,process:=1,group:=2,user:=0 },{ id:=2,process:=2,group:=3,user:=0 }],next:=3 }
def T3 : Ac := { tree := { nodes := [{ id:=1,parent:=0,name:=ByteArray.empty,control:=0,kind:=0,owner:=0 },{ id:=2,parent:=1,name:=bs [97],control:=0,kind:=0,owner:=0 },{ id:=3,parent:=1,name:=bs [98],control:=0,kind:=0,owner:=0 },{ id:=4,parent:=1,name:=bs [99],control:=0,kind:=0,owner:=0 },{ id:=5,parent:=1,name:=bs [100],control:=0,kind:=0,owner:=0 }],next:=6 },tasks := [{ id:=1,process:=1,group:=2,user:=0 },{ id:=2,process:=2,group:=3,user:=0 },{ id:=3,process:=3,group:=4,user:=0 }],next:=4 }
theorem On {p1:Int} {h T h':Ac} {ids W:List Int} {d:Ey} {rem id t:Int} {Q:Bool→Prop} {n:Ac×Ey×(List Int)×(List Int)×Int→Option Bool}
  (hi:ids.length<5) (hW:W.length<5) (hr:0<rem) (hr2:rem≤10) (hd:Xk d)
  (hc:Pw h 1 ([(bs [97]),(bs [98]),(bs [99]),(bs [100]),(bs [101])].getD ids.length ByteArray.empty)=some (T,id,0)) (hs:Uf T id 0=some (h',t,0))
  (k:∀ d' w,Xk d'→okW w→Ok (n (h',d',ids ++ [id],W ++ [w],rem-1)) Q):Ok (Jp p1 (h,d,ids,W,rem) n) Q:=by
 unfold Jp
 simp only
 rw [if_pos (by simpa using hr)]
 refine Ok.guard (by simpa using hi) (Ok.guard (by simpa using hi) (Ok.step hc (Ok.step hs ?_)))
 simp only
 rw [if_neg (by simp)]
 refine Ok.guard (by omega) (Ok.bind (AfW hd 5 (by decide) (by decide)) fun r hr3 => ?_)
 obtain ⟨x,d'⟩:=r
 obtain ⟨g1,g2,g3⟩:=hr3
 simp only at g1 g2 g3 ⊢
 refine Ok.guard ⟨g2,g3⟩ (Ok.guard (by show x.toNat<5; omega) (Ok.guard (by omega) ?_))
 rw [Bv (by omega) (by omega)]
 refine k _ _ g1 ?_
 have:x=0∨x=1∨x=2∨x=3∨x=4:=by omega
 unfold okW
 rcases this with rfl|rfl|rfl|rfl|rfl <;> simp
theorem Tx {H:Ac} {s1:Ac×Ey×(List Int)×(List Int)×Int} {r701 out:List Int} {k24:Nat} {id i g p:Int} {n24:Unit→Option Bool} {Q:Bool→Prop} (e:s1.1=H)
  (hf:∀ x∈out,∃ t,Wn H x=some (t,true)∧(t.group==id)=(x==i)) (hl:out.length≤1000) (hg:((out.countP (fun x=>x==i):Nat):Int)=g) (hk:k24<r701.length) (hp:r701.getD k24 0=p)
  (hb : -1000≤p∧p≤1000) (hlen:s1.2.2.1.length≤10) (h1:g-p≤2*(s1.2.2.1.length:Int)) (h2:p-g≤2*(s1.2.2.1.length:Int)) (hk2:Ok (n24 ()) Q) :
  Ok (if out.length≤9223372036854775807 then Ao (No s1 id) (Ky s1 r701 k24 n24) out 0 0 else none) Q:=by
 refine Ok.guard (by omega) ?_
 have hc:Ao (No s1 id) (Ky s1 r701 k24 n24) out 0 0=Ky s1 r701 k24 n24 ((out.countP (fun x=>x==i):Nat):Int):=by
  refine Aim (p:=fun x=>x==i) (fun k x s n hx => ?_) (fun _=>rfl) (by omega)
  obtain ⟨t,h3,h4⟩:=hf x hx
  unfold No Lr
  rw [e,h3,Option.bind_some]
  simp only [Bool.true_and,h4]
 rw [hc,hg]
 have hcl:out.countP (fun x=>x==i)≤out.length:=List.countP_le_length
 unfold Ky Mb
 refine Ok.guard hk (Ok.guard hk ?_)
 rw [hp,Bv (n:=g-p) (by omega) (by omega),Bv (n:=2*(s1.2.2.1.length:Int)) (by omega) (by omega),if_neg (by rw [decide_eq_true_eq]; omega)]
 refine Ok.guard hk (Ok.guard hk ?_)
 rw [Bv (n:=p-g) (by omega) (by omega),if_neg (by rw [decide_eq_true_eq]; omega)]
 exact hk2
theorem run2 {n w1 w2:Int} (hn:0≤n) (hn2:n<60) (k1:okW w1) (k2:okW w2):Ok (Pb H2 (Br2 0 w1 w2 0 0 0 0) n) (fun r=>Inv2 w1 w2 (Gw w1) (Gw w2) n r.2 r.1):=by
 obtain ⟨hc1,p1,q1,a1,b1⟩:=Ge k1
 obtain ⟨hc2,p2,q2,a2,b2⟩:=Ge k2
 have h1:Pb H2 (Br2 0 w1 w2 0 0 0 0) n=Mh H2 (Br2 0 w1 w2 0 0 0 0) n [1,2]:=by kernel_rfl
 rw [h1]
 unfold Mh
 refine Ok.step (sync2 k1 k2).2 ?_
 rw [if_neg (by simp)]
 refine Ok.step (Zi (by simp [Br2]) (by simp [Br2])) ?_
 have e1:Fd n 0=n:=by unfold Fd; split <;> omega
 have e2:Lj n 65536=n:=by unfold Lj; split <;> omega
 rw [e1,e2]
 refine Ok.guard (by omega) (Ok.for (fun j s=>Inv2 w1 w2 (Gw w1) (Gw w2) (j:Int) s.1 s.2) ?_ ?_ ?_)
 ·exact ⟨0,0,0,0,0,rfl,by omega,by omega,⟨by omega,by simp,by omega,by omega,by simp⟩,⟨by omega,by simp,by omega,by omega,by simp⟩,by simp,by simp,by simp⟩
 ·intro j s nn hj hi kk
  obtain ⟨t,B',c1,c2,c3⟩:=step2 hc1 p1 q1 hc2 p2 q2 hi (by omega) (by omega)
  have hlen:(s.1.length:Int)=(j:Int):=by
   obtain ⟨_,_,_,_,_,_,_,_,_,_,_,hl,_⟩:=hi
   exact hl
  unfold Ul
  refine Ok.step c1 ?_
  rw [if_neg (by simp)]
  refine Ok.step c2 ?_
  rw [if_neg (by simp)]
  refine Ok.guard (by omega) (kk _ ?_)
  have:((j+1:Nat):Int)=(j:Int)+1:=by omega
  rw [this]
  exact c3
 ·intro s hi
  unfold Ug Mi
  refine Ok.ret ?_
  have:((Int.toNat (n-0):Nat):Int)=n:=by omega
  rw [this] at hi
  exact hi
theorem end2 {u0 rem w1 w2:Int} {d:Ey} {n:Ac×Ey×(List Int)×(List Int)×Int→Option Bool} (hp:0≤u0) (hp2:u0≤255) (k1:okW w1) (k2:okW w2) :
  Ok (Gt u0 (H2,d,[2,3],[w1,w2],rem) ([1,2],[65536,65536])) (· = true):=by
 obtain ⟨hc1,p1,q1,a1,b1⟩:=Ge k1
 obtain ⟨hc2,p2,q2,a2,b2⟩:=Ge k2
 unfold Gt
 simp only [List.cons_append,List.nil_append]
 obtain ⟨m,hm⟩:∃ m:Int,m=w64 (Int.tmod u0 60):=⟨_,rfl⟩
 have e0:Int.tmod u0 60=u0 % 60:=Int.tmod_eq_emod_of_nonneg hp
 have e1:w64 (Int.tmod u0 60)=u0 % 60:=by rw [e0]; exact Bv (by omega) (by omega)
 have hm0:0≤m:=by rw [hm,e1]; omega
 have hm1:m<60:=by rw [hm,e1]; omega
 rw [← hm]
 refine Ok.step (sync2 k1 k2).1 (Ok.bind (run2 hm0 hm1 k1 k2) fun r hr => ?_)
 obtain ⟨B,out⟩:=r
 obtain ⟨cl,v1,v2,g1,g2,-,h0,h1,⟨n1,e1,l1,r1,o1⟩,⟨n2,e2,l2,r2,o2⟩,hs,hl,hmem⟩:=hr
 obtain ⟨d1,d2,hd,hps,f1,f2⟩:=div2 hm0 hm1 a1 b1 a2 b2
 refine Ok.step hd ?_
 simp only at hl hmem ⊢
 rw [if_neg (by simp; omega)]
 refine Ok.guard (by simp) ?_
 rw [Int.mul_comm m w1,Int.mul_comm d1 (w1+w2)] at f1
 rw [Int.mul_comm m w2,Int.mul_comm d2 (w1+w2)] at f2
 have x12:w1*(g2-1)≤w2*g1:=Dl k1 k2 n1 (by omega) n2 (by omega) (by rw [Int.mul_sub,Int.mul_one,← e2,← e1]; omega)
 have x21:w2*(g1-1)≤w1*g2:=Dl k2 k1 n2 (by omega) n1 (by omega) (by rw [Int.mul_sub,Int.mul_one,← e1,← e2]; omega)
 have y1:=Mt w1 (w2) g1 (g2) d1 (d2) m 1 (by omega) (by omega) (by omega) (by omega) (by omega)
  (by simp only [Int.mul_add,Int.add_mul,Int.mul_sub,Int.mul_one] at x12 ⊢; omega) (by simp only [Int.mul_add,Int.add_mul,Int.mul_sub,Int.mul_one] at x21 ⊢; omega)
  (by simp only [Int.mul_add,Int.add_mul] at f1 ⊢; omega) (by simp only [Int.mul_add,Int.add_mul] at f2 ⊢; omega)
 have y2:=Mt w2 (w1) g2 (g1) d2 (d1) m 1 (by omega) (by omega) (by omega) (by omega) (by omega)
  (by simp only [Int.mul_add,Int.add_mul,Int.mul_sub,Int.mul_one] at x21 ⊢; omega) (by simp only [Int.mul_add,Int.add_mul,Int.mul_sub,Int.mul_one] at x12 ⊢; omega)
  (by simp only [Int.mul_add,Int.add_mul] at f2 ⊢; omega) (by simp only [Int.mul_add,Int.add_mul] at f1 ⊢; omega)
 have hpos:(-1000≤d1∧d1≤1000)∧(-1000≤d2∧d2≤1000):=⟨⟨by omega,by omega⟩,⟨by omega,by omega⟩⟩
 rw [Ao]
 refine Tx (out:=out) (H:=H2) (i:=1) (g:=g1) (p:=d1) rfl (fun x hx => ?_) (by omega) o1 (by simp) rfl (by omega) (by simp) (by simp only [List.length_cons,List.length_nil]; omega) (by simp only [List.length_cons,List.length_nil]; omega) ?_
 ·rcases hmem x hx with rfl|rfl
  ·exact ⟨{ id:=1,process:=1,group:=2,user:=0 },by kernel_rfl,by kernel_rfl⟩
  ·exact ⟨{ id:=2,process:=2,group:=3,user:=0 },by kernel_rfl,by kernel_rfl⟩
 rw [Ao]
 refine Tx (out:=out) (H:=H2) (i:=2) (g:=g2) (p:=d2) rfl (fun x hx => ?_) (by omega) o2 (by simp) rfl (by omega) (by simp) (by simp only [List.length_cons,List.length_nil]; omega) (by simp only [List.length_cons,List.length_nil]; omega) ?_
 ·rcases hmem x hx with rfl|rfl
  ·exact ⟨{ id:=1,process:=1,group:=2,user:=0 },by kernel_rfl,by kernel_rfl⟩
  ·exact ⟨{ id:=2,process:=2,group:=3,user:=0 },by kernel_rfl,by kernel_rfl⟩
 rw [Ao]
 exact Ok.ret rfl
theorem run3 {n w1 w2 w3:Int} (hn:0≤n) (hn2:n<60) (k1:okW w1) (k2:okW w2) (k3:okW w3):Ok (Pb H3 (Br3 0 w1 w2 w3 0 0 0 0 0 0) n) (fun r=>Inv3 w1 w2 w3 (Gw w1) (Gw w2) (Gw w3) n r.2 r.1):=by
 obtain ⟨hc1,p1,q1,a1,b1⟩:=Ge k1
 obtain ⟨hc2,p2,q2,a2,b2⟩:=Ge k2
 obtain ⟨hc3,p3,q3,a3,b3⟩:=Ge k3
 have h1:Pb H3 (Br3 0 w1 w2 w3 0 0 0 0 0 0) n=Mh H3 (Br3 0 w1 w2 w3 0 0 0 0 0 0) n [1,2,3]:=by kernel_rfl
 rw [h1]
 unfold Mh
 refine Ok.step (sync3 k1 k2 k3).2 ?_
 rw [if_neg (by simp)]
 refine Ok.step (Zi (by simp [Br3]) (by simp [Br3])) ?_
 have e1:Fd n 0=n:=by unfold Fd; split <;> omega
 have e2:Lj n 65536=n:=by unfold Lj; split <;> omega
 rw [e1,e2]
 refine Ok.guard (by omega) (Ok.for (fun j s=>Inv3 w1 w2 w3 (Gw w1) (Gw w2) (Gw w3) (j:Int) s.1 s.2) ?_ ?_ ?_)
 ·exact ⟨0,0,0,0,0,0,0,rfl,by omega,by omega,⟨by omega,by simp,by omega,by omega,by simp⟩,⟨by omega,by simp,by omega,by omega,by simp⟩,⟨by omega,by simp,by omega,by omega,by simp⟩,by simp,by simp,by simp⟩
 ·intro j s nn hj hi kk
  obtain ⟨t,B',c1,c2,c3⟩:=step3 hc1 p1 q1 hc2 p2 q2 hc3 p3 q3 hi (by omega) (by omega)
  have hlen:(s.1.length:Int)=(j:Int):=by
   obtain ⟨_,_,_,_,_,_,_,_,_,_,_,_,_,_,hl,_⟩:=hi
   exact hl
  unfold Ul
  refine Ok.step c1 ?_
  rw [if_neg (by simp)]
  refine Ok.step c2 ?_
  rw [if_neg (by simp)]
  refine Ok.guard (by omega) (kk _ ?_)
  have:((j+1:Nat):Int)=(j:Int)+1:=by omega
  rw [this]
  exact c3
 ·intro s hi
  unfold Ug Mi
  refine Ok.ret ?_
  have:((Int.toNat (n-0):Nat):Int)=n:=by omega
  rw [this] at hi
  exact hi
theorem end3 {u0 rem w1 w2 w3:Int} {d:Ey} {n:Ac×Ey×(List Int)×(List Int)×Int→Option Bool} (hp:0≤u0) (hp2:u0≤255) (k1:okW w1) (k2:okW w2) (k3:okW w3) :
  Ok (Gt u0 (H3,d,[2,3,4],[w1,w2,w3],rem) ([1,2,3],[65536,65536,65536])) (· = true):=by
 obtain ⟨hc1,p1,q1,a1,b1⟩:=Ge k1
 obtain ⟨hc2,p2,q2,a2,b2⟩:=Ge k2
 obtain ⟨hc3,p3,q3,a3,b3⟩:=Ge k3
 unfold Gt
 simp only [List.cons_append,List.nil_append]
 obtain ⟨m,hm⟩:∃ m:Int,m=w64 (Int.tmod u0 60):=⟨_,rfl⟩
 have e0:Int.tmod u0 60=u0 % 60:=Int.tmod_eq_emod_of_nonneg hp
 have e1:w64 (Int.tmod u0 60)=u0 % 60:=by rw [e0]; exact Bv (by omega) (by omega)
 have hm0:0≤m:=by rw [hm,e1]; omega
 have hm1:m<60:=by rw [hm,e1]; omega
 rw [← hm]
 refine Ok.step (sync3 k1 k2 k3).1 (Ok.bind (run3 hm0 hm1 k1 k2 k3) fun r hr => ?_)
 obtain ⟨B,out⟩:=r
 obtain ⟨cl,v1,v2,v3,g1,g2,g3,-,h0,h1,⟨n1,e1,l1,r1,o1⟩,⟨n2,e2,l2,r2,o2⟩,⟨n3,e3,l3,r3,o3⟩,hs,hl,hmem⟩:=hr
 obtain ⟨d1,d2,d3,hd,hps,f1,f2,f3⟩:=div3 hm0 hm1 a1 b1 a2 b2 a3 b3
 refine Ok.step hd ?_
 simp only at hl hmem ⊢
 rw [if_neg (by simp; omega)]
 refine Ok.guard (by simp) ?_
 rw [Int.mul_comm m w1,Int.mul_comm d1 (w1+w2+w3)] at f1
 rw [Int.mul_comm m w2,Int.mul_comm d2 (w1+w2+w3)] at f2
 rw [Int.mul_comm m w3,Int.mul_comm d3 (w1+w2+w3)] at f3
 have x12:w1*(g2-1)≤w2*g1:=Dl k1 k2 n1 (by omega) n2 (by omega) (by rw [Int.mul_sub,Int.mul_one,← e2,← e1]; omega)
 have x13:w1*(g3-1)≤w3*g1:=Dl k1 k3 n1 (by omega) n3 (by omega) (by rw [Int.mul_sub,Int.mul_one,← e3,← e1]; omega)
 have x21:w2*(g1-1)≤w1*g2:=Dl k2 k1 n2 (by omega) n1 (by omega) (by rw [Int.mul_sub,Int.mul_one,← e1,← e2]; omega)
 have x23:w2*(g3-1)≤w3*g2:=Dl k2 k3 n2 (by omega) n3 (by omega) (by rw [Int.mul_sub,Int.mul_one,← e3,← e2]; omega)
 have x31:w3*(g1-1)≤w1*g3:=Dl k3 k1 n3 (by omega) n1 (by omega) (by rw [Int.mul_sub,Int.mul_one,← e1,← e3]; omega)
 have x32:w3*(g2-1)≤w2*g3:=Dl k3 k2 n3 (by omega) n2 (by omega) (by rw [Int.mul_sub,Int.mul_one,← e2,← e3]; omega)
 have y1:=Mt w1 (w2+w3) g1 (g2+g3) d1 (d2+d3) m 2 (by omega) (by omega) (by omega) (by omega) (by omega)
  (by simp only [Int.mul_add,Int.add_mul,Int.mul_sub,Int.mul_one] at x12 x13 ⊢; omega) (by simp only [Int.mul_add,Int.add_mul,Int.mul_sub,Int.mul_one] at x21 x31 ⊢; omega)
  (by simp only [Int.mul_add,Int.add_mul] at f1 ⊢; omega) (by simp only [Int.mul_add,Int.add_mul] at f2 f3 ⊢; omega)
 have y2:=Mt w2 (w1+w3) g2 (g1+g3) d2 (d1+d3) m 2 (by omega) (by omega) (by omega) (by omega) (by omega)
  (by simp only [Int.mul_add,Int.add_mul,Int.mul_sub,Int.mul_one] at x21 x23 ⊢; omega) (by simp only [Int.mul_add,Int.add_mul,Int.mul_sub,Int.mul_one] at x12 x32 ⊢; omega)
  (by simp only [Int.mul_add,Int.add_mul] at f2 ⊢; omega) (by simp only [Int.mul_add,Int.add_mul] at f1 f3 ⊢; omega)
 have y3:=Mt w3 (w1+w2) g3 (g1+g2) d3 (d1+d2) m 2 (by omega) (by omega) (by omega) (by omega) (by omega)
  (by simp only [Int.mul_add,Int.add_mul,Int.mul_sub,Int.mul_one] at x31 x32 ⊢; omega) (by simp only [Int.mul_add,Int.add_mul,Int.mul_sub,Int.mul_one] at x13 x23 ⊢; omega)
  (by simp only [Int.mul_add,Int.add_mul] at f3 ⊢; omega) (by simp only [Int.mul_add,Int.add_mul] at f1 f2 ⊢; omega)
 have hpos:(-1000≤d1∧d1≤1000)∧(-1000≤d2∧d2≤1000)∧(-1000≤d3∧d3≤1000):=⟨⟨by omega,by omega⟩,⟨by omega,by omega⟩,⟨by omega,by omega⟩⟩
 rw [Ao]
 refine Tx (out:=out) (H:=H3) (i:=1) (g:=g1) (p:=d1) rfl (fun x hx => ?_) (by omega) o1 (by simp) rfl (by omega) (by simp) (by simp only [List.length_cons,List.length_nil]; omega) (by simp only [List.length_cons,List.length_nil]; omega) ?_
 ·rcases hmem x hx with rfl|rfl|rfl
  ·exact ⟨{ id:=1,process:=1,group:=2,user:=0 },by kernel_rfl,by kernel_rfl⟩
  ·exact ⟨{ id:=2,process:=2,group:=3,user:=0 },by kernel_rfl,by kernel_rfl⟩
  ·exact ⟨{ id:=3,process:=3,group:=4,user:=0 },by kernel_rfl,by kernel_rfl⟩
 rw [Ao]
 refine Tx (out:=out) (H:=H3) (i:=2) (g:=g2) (p:=d2) rfl (fun x hx => ?_) (by omega) o2 (by simp) rfl (by omega) (by simp) (by simp only [List.length_cons,List.length_nil]; omega) (by simp only [List.length_cons,List.length_nil]; omega) ?_
 ·rcases hmem x hx with rfl|rfl|rfl
  ·exact ⟨{ id:=1,process:=1,group:=2,user:=0 },by kernel_rfl,by kernel_rfl⟩
  ·exact ⟨{ id:=2,process:=2,group:=3,user:=0 },by kernel_rfl,by kernel_rfl⟩
  ·exact ⟨{ id:=3,process:=3,group:=4,user:=0 },by kernel_rfl,by kernel_rfl⟩
 rw [Ao]
 refine Tx (out:=out) (H:=H3) (i:=3) (g:=g3) (p:=d3) rfl (fun x hx => ?_) (by omega) o3 (by simp) rfl (by omega) (by simp) (by simp only [List.length_cons,List.length_nil]; omega) (by simp only [List.length_cons,List.length_nil]; omega) ?_
 ·rcases hmem x hx with rfl|rfl|rfl
  ·exact ⟨{ id:=1,process:=1,group:=2,user:=0 },by kernel_rfl,by kernel_rfl⟩
  ·exact ⟨{ id:=2,process:=2,group:=3,user:=0 },by kernel_rfl,by kernel_rfl⟩
  ·exact ⟨{ id:=3,process:=3,group:=4,user:=0 },by kernel_rfl,by kernel_rfl⟩
 rw [Ao]
 exact Ok.ret rfl
theorem run4 {n w1 w2 w3 w4:Int} (hn:0≤n) (hn2:n<60) (k1:okW w1) (k2:okW w2) (k3:okW w3) (k4:okW w4):Ok (Pb H4 (Br4 0 w1 w2 w3 w4 0 0 0 0 0 0 0 0) n) (fun r=>Inv4 w1 w2 w3 w4 (Gw w1) (Gw w2) (Gw w3) (Gw w4) n r.2 r.1):=by
 obtain ⟨hc1,p1,q1,a1,b1⟩:=Ge k1
 obtain ⟨hc2,p2,q2,a2,b2⟩:=Ge k2
 obtain ⟨hc3,p3,q3,a3,b3⟩:=Ge k3
 obtain ⟨hc4,p4,q4,a4,b4⟩:=Ge k4
 have h1:Pb H4 (Br4 0 w1 w2 w3 w4 0 0 0 0 0 0 0 0) n=Mh H4 (Br4 0 w1 w2 w3 w4 0 0 0 0 0 0 0 0) n [1,2,3,4]:=by kernel_rfl
 rw [h1]
 unfold Mh
 refine Ok.step (sync4 k1 k2 k3 k4).2 ?_
 rw [if_neg (by simp)]
 refine Ok.step (Zi (by simp [Br4]) (by simp [Br4])) ?_
 have e1:Fd n 0=n:=by unfold Fd; split <;> omega
 have e2:Lj n 65536=n:=by unfold Lj; split <;> omega
 rw [e1,e2]
 refine Ok.guard (by omega) (Ok.for (fun j s=>Inv4 w1 w2 w3 w4 (Gw w1) (Gw w2) (Gw w3) (Gw w4) (j:Int) s.1 s.2) ?_ ?_ ?_)
 ·exact ⟨0,0,0,0,0,0,0,0,0,rfl,by omega,by omega,⟨by omega,by simp,by omega,by omega,by simp⟩,⟨by omega,by simp,by omega,by omega,by simp⟩,⟨by omega,by simp,by omega,by omega,by simp⟩,⟨by omega,by simp,by omega,by omega,by simp⟩,by simp,by simp,by simp⟩
 ·intro j s nn hj hi kk
  obtain ⟨t,B',c1,c2,c3⟩:=step4 hc1 p1 q1 hc2 p2 q2 hc3 p3 q3 hc4 p4 q4 hi (by omega) (by omega)
  have hlen:(s.1.length:Int)=(j:Int):=by
   obtain ⟨_,_,_,_,_,_,_,_,_,_,_,_,_,_,_,_,_,hl,_⟩:=hi
   exact hl
  unfold Ul
  refine Ok.step c1 ?_
  rw [if_neg (by simp)]
  refine Ok.step c2 ?_
  rw [if_neg (by simp)]
  refine Ok.guard (by omega) (kk _ ?_)
  have:((j+1:Nat):Int)=(j:Int)+1:=by omega
  rw [this]
  exact c3
 ·intro s hi
  unfold Ug Mi
  refine Ok.ret ?_
  have:((Int.toNat (n-0):Nat):Int)=n:=by omega
  rw [this] at hi
  exact hi
theorem end4 {u0 rem w1 w2 w3 w4:Int} {d:Ey} {n:Ac×Ey×(List Int)×(List Int)×Int→Option Bool} (hp:0≤u0) (hp2:u0≤255) (k1:okW w1) (k2:okW w2) (k3:okW w3) (k4:okW w4) :
  Ok (Gt u0 (H4,d,[2,3,4,5],[w1,w2,w3,w4],rem) ([1,2,3,4],[65536,65536,65536,65536])) (· = true):=by
 obtain ⟨hc1,p1,q1,a1,b1⟩:=Ge k1
 obtain ⟨hc2,p2,q2,a2,b2⟩:=Ge k2
 obtain ⟨hc3,p3,q3,a3,b3⟩:=Ge k3
 obtain ⟨hc4,p4,q4,a4,b4⟩:=Ge k4
 unfold Gt
 simp only [List.cons_append,List.nil_append]
 obtain ⟨m,hm⟩:∃ m:Int,m=w64 (Int.tmod u0 60):=⟨_,rfl⟩
 have e0:Int.tmod u0 60=u0 % 60:=Int.tmod_eq_emod_of_nonneg hp
 have e1:w64 (Int.tmod u0 60)=u0 % 60:=by rw [e0]; exact Bv (by omega) (by omega)
 have hm0:0≤m:=by rw [hm,e1]; omega
 have hm1:m<60:=by rw [hm,e1]; omega
 rw [← hm]
 refine Ok.step (sync4 k1 k2 k3 k4).1 (Ok.bind (run4 hm0 hm1 k1 k2 k3 k4) fun r hr => ?_)
 obtain ⟨B,out⟩:=r
 obtain ⟨cl,v1,v2,v3,v4,g1,g2,g3,g4,-,h0,h1,⟨n1,e1,l1,r1,o1⟩,⟨n2,e2,l2,r2,o2⟩,⟨n3,e3,l3,r3,o3⟩,⟨n4,e4,l4,r4,o4⟩,hs,hl,hmem⟩:=hr
 obtain ⟨d1,d2,d3,d4,hd,hps,f1,f2,f3,f4⟩:=div4 hm0 hm1 a1 b1 a2 b2 a3 b3 a4 b4
 refine Ok.step hd ?_
 simp only at hl hmem ⊢
 rw [if_neg (by simp; omega)]
 refine Ok.guard (by simp) ?_
 rw [Int.mul_comm m w1,Int.mul_comm d1 (w1+w2+w3+w4)] at f1
 rw [Int.mul_comm m w2,Int.mul_comm d2 (w1+w2+w3+w4)] at f2
 rw [Int.mul_comm m w3,Int.mul_comm d3 (w1+w2+w3+w4)] at f3
 rw [Int.mul_comm m w4,Int.mul_comm d4 (w1+w2+w3+w4)] at f4
 have x12:w1*(g2-1)≤w2*g1:=Dl k1 k2 n1 (by omega) n2 (by omega) (by rw [Int.mul_sub,Int.mul_one,← e2,← e1]; omega)
 have x13:w1*(g3-1)≤w3*g1:=Dl k1 k3 n1 (by omega) n3 (by omega) (by rw [Int.mul_sub,Int.mul_one,← e3,← e1]; omega)
 have x14:w1*(g4-1)≤w4*g1:=Dl k1 k4 n1 (by omega) n4 (by omega) (by rw [Int.mul_sub,Int.mul_one,← e4,← e1]; omega)
 have x21:w2*(g1-1)≤w1*g2:=Dl k2 k1 n2 (by omega) n1 (by omega) (by rw [Int.mul_sub,Int.mul_one,← e1,← e2]; omega)
 have x23:w2*(g3-1)≤w3*g2:=Dl k2 k3 n2 (by omega) n3 (by omega) (by rw [Int.mul_sub,Int.mul_one,← e3,← e2]; omega)
 have x24:w2*(g4-1)≤w4*g2:=Dl k2 k4 n2 (by omega) n4 (by omega) (by rw [Int.mul_sub,Int.mul_one,← e4,← e2]; omega)
 have x31:w3*(g1-1)≤w1*g3:=Dl k3 k1 n3 (by omega) n1 (by omega) (by rw [Int.mul_sub,Int.mul_one,← e1,← e3]; omega)
 have x32:w3*(g2-1)≤w2*g3:=Dl k3 k2 n3 (by omega) n2 (by omega) (by rw [Int.mul_sub,Int.mul_one,← e2,← e3]; omega)
 have x34:w3*(g4-1)≤w4*g3:=Dl k3 k4 n3 (by omega) n4 (by omega) (by rw [Int.mul_sub,Int.mul_one,← e4,← e3]; omega)
 have x41:w4*(g1-1)≤w1*g4:=Dl k4 k1 n4 (by omega) n1 (by omega) (by rw [Int.mul_sub,Int.mul_one,← e1,← e4]; omega)
 have x42:w4*(g2-1)≤w2*g4:=Dl k4 k2 n4 (by omega) n2 (by omega) (by rw [Int.mul_sub,Int.mul_one,← e2,← e4]; omega)
 have x43:w4*(g3-1)≤w3*g4:=Dl k4 k3 n4 (by omega) n3 (by omega) (by rw [Int.mul_sub,Int.mul_one,← e3,← e4]; omega)
 have y1:=Mt w1 (w2+w3+w4) g1 (g2+g3+g4) d1 (d2+d3+d4) m 3 (by omega) (by omega) (by omega) (by omega) (by omega)
  (by simp only [Int.mul_add,Int.add_mul,Int.mul_sub,Int.mul_one] at x12 x13 x14 ⊢; omega) (by simp only [Int.mul_add,Int.add_mul,Int.mul_sub,Int.mul_one] at x21 x31 x41 ⊢; omega)
  (by simp only [Int.mul_add,Int.add_mul] at f1 ⊢; omega) (by simp only [Int.mul_add,Int.add_mul] at f2 f3 f4 ⊢; omega)
 have y2:=Mt w2 (w1+w3+w4) g2 (g1+g3+g4) d2 (d1+d3+d4) m 3 (by omega) (by omega) (by omega) (by omega) (by omega)
  (by simp only [Int.mul_add,Int.add_mul,Int.mul_sub,Int.mul_one] at x21 x23 x24 ⊢; omega) (by simp only [Int.mul_add,Int.add_mul,Int.mul_sub,Int.mul_one] at x12 x32 x42 ⊢; omega)
  (by simp only [Int.mul_add,Int.add_mul] at f2 ⊢; omega) (by simp only [Int.mul_add,Int.add_mul] at f1 f3 f4 ⊢; omega)
 have y3:=Mt w3 (w1+w2+w4) g3 (g1+g2+g4) d3 (d1+d2+d4) m 3 (by omega) (by omega) (by omega) (by omega) (by omega)
  (by simp only [Int.mul_add,Int.add_mul,Int.mul_sub,Int.mul_one] at x31 x32 x34 ⊢; omega) (by simp only [Int.mul_add,Int.add_mul,Int.mul_sub,Int.mul_one] at x13 x23 x43 ⊢; omega)
  (by simp only [Int.mul_add,Int.add_mul] at f3 ⊢; omega) (by simp only [Int.mul_add,Int.add_mul] at f1 f2 f4 ⊢; omega)
 have y4:=Mt w4 (w1+w2+w3) g4 (g1+g2+g3) d4 (d1+d2+d3) m 3 (by omega) (by omega) (by omega) (by omega) (by omega)
  (by simp only [Int.mul_add,Int.add_mul,Int.mul_sub,Int.mul_one] at x41 x42 x43 ⊢; omega) (by simp only [Int.mul_add,Int.add_mul,Int.mul_sub,Int.mul_one] at x14 x24 x34 ⊢; omega)
  (by simp only [Int.mul_add,Int.add_mul] at f4 ⊢; omega) (by simp only [Int.mul_add,Int.add_mul] at f1 f2 f3 ⊢; omega)
 have hpos:(-1000≤d1∧d1≤1000)∧(-1000≤d2∧d2≤1000)∧(-1000≤d3∧d3≤1000)∧(-1000≤d4∧d4≤1000):=⟨⟨by omega,by omega⟩,⟨by omega,by omega⟩,⟨by omega,by omega⟩,⟨by omega,by omega⟩⟩
 rw [Ao]
 refine Tx (out:=out) (H:=H4) (i:=1) (g:=g1) (p:=d1) rfl (fun x hx => ?_) (by omega) o1 (by simp) rfl (by omega) (by simp) (by simp only [List.length_cons,List.length_nil]; omega) (by simp only [List.length_cons,List.length_nil]; omega) ?_
 ·rcases hmem x hx with rfl|rfl|rfl|rfl
  ·exact ⟨{ id:=1,process:=1,group:=2,user:=0 },by kernel_rfl,by kernel_rfl⟩
  ·exact ⟨{ id:=2,process:=2,group:=3,user:=0 },by kernel_rfl,by kernel_rfl⟩
  ·exact ⟨{ id:=3,process:=3,group:=4,user:=0 },by kernel_rfl,by kernel_rfl⟩
  ·exact ⟨{ id:=4,process:=4,group:=5,user:=0 },by kernel_rfl,by kernel_rfl⟩
 rw [Ao]
 refine Tx (out:=out) (H:=H4) (i:=2) (g:=g2) (p:=d2) rfl (fun x hx => ?_) (by omega) o2 (by simp) rfl (by omega) (by simp) (by simp only [List.length_cons,List.length_nil]; omega) (by simp only [List.length_cons,List.length_nil]; omega) ?_
 ·rcases hmem x hx with rfl|rfl|rfl|rfl
  ·exact ⟨{ id:=1,process:=1,group:=2,user:=0 },by kernel_rfl,by kernel_rfl⟩
  ·exact ⟨{ id:=2,process:=2,group:=3,user:=0 },by kernel_rfl,by kernel_rfl⟩
  ·exact ⟨{ id:=3,process:=3,group:=4,user:=0 },by kernel_rfl,by kernel_rfl⟩
  ·exact ⟨{ id:=4,process:=4,group:=5,user:=0 },by kernel_rfl,by kernel_rfl⟩
 rw [Ao]
 refine Tx (out:=out) (H:=H4) (i:=3) (g:=g3) (p:=d3) rfl (fun x hx => ?_) (by omega) o3 (by simp) rfl (by omega) (by simp) (by simp only [List.length_cons,List.length_nil]; omega) (by simp only [List.length_cons,List.length_nil]; omega) ?_
 ·rcases hmem x hx with rfl|rfl|rfl|rfl
  ·exact ⟨{ id:=1,process:=1,group:=2,user:=0 },by kernel_rfl,by kernel_rfl⟩
  ·exact ⟨{ id:=2,process:=2,group:=3,user:=0 },by kernel_rfl,by kernel_rfl⟩
  ·exact ⟨{ id:=3,process:=3,group:=4,user:=0 },by kernel_rfl,by kernel_rfl⟩
  ·exact ⟨{ id:=4,process:=4,group:=5,user:=0 },by kernel_rfl,by kernel_rfl⟩
 rw [Ao]
 refine Tx (out:=out) (H:=H4) (i:=4) (g:=g4) (p:=d4) rfl (fun x hx => ?_) (by omega) o4 (by simp) rfl (by omega) (by simp) (by simp only [List.length_cons,List.length_nil]; omega) (by simp only [List.length_cons,List.length_nil]; omega) ?_
 ·rcases hmem x hx with rfl|rfl|rfl|rfl
  ·exact ⟨{ id:=1,process:=1,group:=2,user:=0 },by kernel_rfl,by kernel_rfl⟩
  ·exact ⟨{ id:=2,process:=2,group:=3,user:=0 },by kernel_rfl,by kernel_rfl⟩
  ·exact ⟨{ id:=3,process:=3,group:=4,user:=0 },by kernel_rfl,by kernel_rfl⟩
  ·exact ⟨{ id:=4,process:=4,group:=5,user:=0 },by kernel_rfl,by kernel_rfl⟩
 rw [Ao]
 exact Ok.ret rfl
theorem AhJ (p0:List Int) (p1:Int) (hp:0≤p1) (hp2:p1≤255):Wq p0 p1=some true:=by
 refine Ok.eq ?_
 unfold Wq
 refine Ok.step (a:=true) rfl ?_
 rw [if_neg (by simp)]
 refine Ok.step (a:=decide (((p0.length:Nat):Int)≤600)) rfl ?_
 unfold Pf
 by_cases hl:p0.length≤600
 case neg =>
  rw [if_pos (by simp; omega)]
  exact Ok.step (a:=true) rfl (Ok.ret rfl)
 rw [if_neg (by simp; omega)]
 refine Ok.step (a := { l:=p0,atF:=0 }) rfl (Ok.step (a:=H0) (by kernel_rfl) (Ok.bind (AfW (dice_roll hl) 3 (by decide) (by decide)) fun r hr => ?_))
 obtain ⟨x,d⟩:=r
 obtain ⟨g1,g2,g3⟩:=hr
 simp only at g1 g2 g3 ⊢
 rw [Bv (by omega) (by omega)]
 have:x=0∨x=1∨x=2:=by omega
 rcases this with rfl|rfl|rfl
 ·skip
  rw [Vt]
  refine On (T:=T0) (h':=H1) (id:=2) (t:=1) (by simp) (by simp) (by omega) (by omega) g1 (by kernel_rfl) (by kernel_rfl) (fun d1 w1 g1 k1 => ?_)
  rw [Wg]
  refine On (T:=T1) (h':=H2) (id:=3) (t:=2) (by simp) (by simp) (by omega) (by omega) g1 (by kernel_rfl) (by kernel_rfl) (fun d2 w2 g1 k2 => ?_)
  rw [Agi]
  unfold Jp
  rw [if_neg (by simp)]
  refine Ok.guard (by simp) (Ok.guard (show H2.tasks.length≤9223372036854775807 by decide) ?_)
  exact end2 (n:=fun _=>none) hp hp2 k1 k2
 ·skip
  rw [Vt]
  refine On (T:=T0) (h':=H1) (id:=2) (t:=1) (by simp) (by simp) (by omega) (by omega) g1 (by kernel_rfl) (by kernel_rfl) (fun d1 w1 g1 k1 => ?_)
  rw [Wg]
  refine On (T:=T1) (h':=H2) (id:=3) (t:=2) (by simp) (by simp) (by omega) (by omega) g1 (by kernel_rfl) (by kernel_rfl) (fun d2 w2 g1 k2 => ?_)
  rw [Agi]
  refine On (T:=T2) (h':=H3) (id:=4) (t:=3) (by simp) (by simp) (by omega) (by omega) g1 (by kernel_rfl) (by kernel_rfl) (fun d3 w3 g1 k3 => ?_)
  rw [while_d]
  unfold Jp
  rw [if_neg (by simp)]
  refine Ok.guard (by simp) (Ok.guard (show H3.tasks.length≤9223372036854775807 by decide) ?_)
  exact end3 (n:=fun _=>none) hp hp2 k1 k2 k3
 ·skip
  rw [Vt]
  refine On (T:=T0) (h':=H1) (id:=2) (t:=1) (by simp) (by simp) (by omega) (by omega) g1 (by kernel_rfl) (by kernel_rfl) (fun d1 w1 g1 k1 => ?_)
  rw [Wg]
  refine On (T:=T1) (h':=H2) (id:=3) (t:=2) (by simp) (by simp) (by omega) (by omega) g1 (by kernel_rfl) (by kernel_rfl) (fun d2 w2 g1 k2 => ?_)
  rw [Agi]
  refine On (T:=T2) (h':=H3) (id:=4) (t:=3) (by simp) (by simp) (by omega) (by omega) g1 (by kernel_rfl) (by kernel_rfl) (fun d3 w3 g1 k3 => ?_)
  rw [while_d]
  refine On (T:=T3) (h':=H4) (id:=5) (t:=4) (by simp) (by simp) (by omega) (by omega) g1 (by kernel_rfl) (by kernel_rfl) (fun d4 w4 g1 k4 => ?_)
  rw [while_e]
  unfold Jp
  rw [if_neg (by simp)]
  refine Ok.guard (by simp) (Ok.guard (show H4.tasks.length≤9223372036854775807 by decide) ?_)
  exact end4 (n:=fun _=>none) hp hp2 k1 k2 k3 k4
end Go.Dm

/- The data machine: the step of a loop over a map, for any state. -/
namespace Go.Dm
section
variable {P : Program} {cx:Cx} {Q:Exit→St→Prop}
theorem Rel.anySt {β:Bi} {a:Act} {w:World} {sl:Nat→MV} {objs:As} {d d2:Nat} {x y:MV} (h:Rel cx β ⟨Az (Az sl d x) d2 y,objs⟩ a w):Rel cx β ⟨Az (Az sl d .any) d2 y,objs⟩ a w:=by
 refine ⟨h.nd,h.sz,fun t => ?_,h.ob,h.blk,h.inj,h.kept,h.avo,h.avlt,h.mle,h.oloc⟩
 have hs:=h.sl t
 simp only [Az] at hs ⊢
 cases h2:Nat.beq t d2 with
 | true=>rw [h2,cond_true] at hs; exact hs
 | false =>
  rw [h2,cond_false] at hs
  simp only [cond_false]
  cases h1:Nat.beq t d with
  | true=>exact .any _
  | false=>rw [h1,cond_false] at hs; exact hs
theorem DWP.next {σ:St} {ops:Array Oper} {id:Nat} {t d d2 k g:Nat} {f:Int→PV} {rem:Int→Bool} {cur:Option Int} (hlt1:d<cx.nt) (hlt2:d2<cx.nt)
  (h0:AdK ops.toList=some (t,d,d2)) (h2:σ.slots t = .ref k g 0) (h3:σ.objs k=some ⟨g,.mq (.it f rem cur)⟩)
  (hgo:∀ n,rem n=true→Q .normal ⟨Az (Az σ.slots d .any) d2 (pB true),Bj σ.objs k ⟨g,.mq (.it f (Cc rem n false) (some n))⟩⟩)
  (hend:(∀ n,rem n=false)→Q .normal ⟨Az (Az σ.slots d .any) d2 (pB false),σ.objs⟩):DWP P cx (.region id ops false) σ Q:=by
 obtain ⟨o0,o1,hops,p1,p2,p3,p4,p5,p6⟩:=AhS h0
 have e0:ops[0]? = some o0:=by rw [← Array.getElem?_toList,hops]; rfl
 have e1:ops[1]? = some o1:=by rw [← Array.getElem?_toList,hops]; rfl
 have esz:ops.size=2:=by rw [← Array.length_toList,hops]; rfl
 intro β a w hrel
 refine wpIn_region ?_
 rw [esz]
 show wpOpsIn (fen cx.rd) 0 P ops _ [0,1] a w
 rw [wpOpsIn_cons]
 unfold wpOpIn
 rw [e0]
 simp only
 rw [if_pos (AeU p3 _)]
 refine Pt (by rw [p2]; rfl) ?_
 have ht:σ.slots t = .ref k g 0:=h2
 have rt:=hrel.sl t
 rw [ht] at rt
 obtain ⟨b,hbv,hkn⟩:=rt.inv_ref
 have ho1:σ.objs k=some ⟨g,.mq (.it f rem cur)⟩:=h3
 have hl:=hkn.get ho1
 obtain ⟨b',bm,es,clock,since,seen,c0,has,hl',q1,q2,q3,q4,q5,q6,q7,q8,q9⟩:=hrel.ob k _ ho1
 rw [hl] at hl'
 injection hl' with hl'
 subst hl'
 have hborn:∀ x∈es.toList,x.born<since:=by
  intro x hx
  obtain ⟨i,hi,rfl⟩:=List.getElem_of_mem hx
  have:=q4.2.2.2.1 i es.toList[i] (by simp at hi ⊢)
  omega
 have fin:∀ (v:Bool) (cs:List MV) (vs:Value) (objs:As) (β2:Bi) (w2:World),Rel cx β2 ⟨σ.slots,objs⟩ a w2→RelV β2 objs (Am cx.Av β2 objs w2) w2 vs (.tup (.p (.v (.bool v))::cs)) →
   Q .normal ⟨Az (Az σ.slots d .any) d2 (pB v),objs⟩ →
   wpOpsIn (fen cx.rd) 0 P ops (fun e a' w'=>∃ β' σ',Q e σ'∧Rel cx β' σ' a' w') [1] (a.put (some d) vs) w2:=by
  intro v cs vs objs β2 w2 hr hv hcont
  rw [wpOpsIn_cons]
  unfold wpOpIn
  rw [e1]
  simp only
  rw [if_pos (AeU p6 _)]
  refine Pt (by rw [p5]; rfl) ?_
  have hr2:=putO hr (some d) (fun t ht=>by injection ht with ht; omega) vs _ hv
  refine AiK (d:=d) (b:=v) (cs:=cs) p5 p4 hlt2 hr2 (by simp [Nf,Az,Ct]) fun a2 hr3 => ?_
  exact ⟨β2,_,hcont,Rel.anySt hr3⟩
 have hexec:execOp a.eval o0=(do pure (.value (← Instr.next (.pointer (some ⟨b,0,none⟩)) false o0.type))):=by
  obtain ⟨od,op,ot,opos,oafter,oguard⟩:=o0
  simp only at p2
  subst p2
  have:a.eval (.tmp t) = .pointer (some ⟨b,0,none⟩):=hbv
  simp [execOp,this]
 unfold Oper.wp
 rw [hexec]
 rcases run_next_at (P:=P) w o0.type b bm since c0 seen es clock q1 q3 hborn (by omega) with ⟨z1,z2⟩|⟨e,he,w1,hw1,z2⟩
 ·simp only [Sem.run_bind,z2,Result.andThen_ok,Sem.run_pure,Oper.upon,p1]
  refine fin false [] _ σ.objs β w hrel ?_ (hend fun n => ?_)
  ·refine .tup _ _ rfl (fun i x hx => ?_)
   match i,hx with
   | 0,hx=>simp at hx; subst hx; exact .mk_v rfl
   | i+1,hx=>simp at hx
  ·cases hr:rem n with
   | false=>rfl
   | true =>
    obtain ⟨i,e,r1,r2,r3⟩:=(q8 n).1 hr
    have hmem:e∈leftOf es seen:=by
     unfold leftOf
     rw [Array.mem_filter]
     exact ⟨Array.mem_of_getElem? r1,by simpa using r3⟩
    have:=Array.eq_empty_of_size_eq_zero z1
    rw [this] at hmem
    simp at hmem
 ·simp only [Sem.run_bind,z2,Result.andThen_ok,Sem.run_pure,Oper.upon,p1]
  have hmem:e∈es∧seen.contains e.born=false:=by
   have:e∈leftOf es seen:=by simpa using he
   unfold leftOf at this
   rw [Array.mem_filter] at this
   exact ⟨this.1,by simpa using this.2⟩
  obtain ⟨i,hi⟩:=Array.mem_iff_getElem?.1 hmem.1
  obtain ⟨n,hn,_⟩:=q4.1 i e hi
  have hremn:rem n=true:=(q8 n).2 ⟨i,e,hi,hn,hmem.2⟩
  have hrel1:Rel cx β σ a w1:=by
   rcases hw1 with rfl|rfl
   ·exact hrel
   ·exact hrel.drew
  have hq1:w1.heap[b]? = some (.mapIter (some bm) since seen c0):=by rcases hw1 with rfl|rfl <;> exact q1
  have hq3:w1.heap[bm]? = some (.map es clock):=by rcases hw1 with rfl|rfl <;> exact q3
  have hsf:Am cx.Av β σ.objs w1 bm:=by rcases hw1 with rfl|rfl <;> exact q2
  have hrep:∀ (i:Nat) (e:MapEntry) (n:Int),es[i]? = some e→e.key = .int .i64 n→Rep (Am cx.Av β σ.objs w1) w1 e.val (f n):=fun i e n hi hn=>(q7 i e n hi hn).mono (fun b hb=>by rcases hw1 with rfl|rfl <;> exact hb) (fun b hb=>by rcases hw1 with rfl|rfl <;> rfl)
  have hput:=hrel1.reput (bd' := .mq (.it f (Cc rem n false) (some n))) ho1 hl trivial trivial trivial hq1 (.mapIter (some bm) since (seen.push e.born) clock) fun S' w' hS hw hb objs'=>by
   refine ⟨b,bm,es,clock,since,seen.push e.born,clock,has,rfl,hb,hS _ hsf,by rw [hw _ hsf]; exact hq3,q4,q5,rfl,fun i e n hi hn=>(hrep i e n hi hn).mono hS hw,fun m => ?_,fun m hm => ?_⟩
   ·constructor
    ·intro hm
     simp only [Cc] at hm
     split at hm
     ·simp at hm
     ·rename_i hne
      obtain ⟨j,e',r1,r2,r3⟩:=(q8 m).1 hm
      refine ⟨j,e',r1,r2,?_⟩
      simp only [Array.contains_push,Bool.or_eq_false_iff] 
      refine ⟨r3,?_⟩
      simp only [beq_eq_false_iff_ne,ne_eq]
      intro hbb
      have:=q4.2.2.2.2 j i e' e r1 hi hbb
      subst this
      rw [hi] at r1
      injection r1 with r1
      subst r1
      rw [hn] at r2
      injection r2 with _ r2
      exact hne r2.symm
    ·rintro ⟨j,e',r1,r2,r3⟩
     simp only [Array.contains_push,Bool.or_eq_false_iff] at r3
     have hm:=(q8 m).2 ⟨j,e',r1,r2,r3.1⟩
     simp only [Cc]
     split
     ·rename_i hmn
      subst hmn
      have:=q4.2.2.1 j i e' e m r1 hi r2 hn
      subst this
      rw [hi] at r1
      injection r1 with r1
      subst r1
      simp at r3
     ·exact hm
   ·injection hm with hm
    subst hm
    exact ⟨rfl,i,e,hi,hn,by simp⟩
  refine fin true [.any,.any] _ _ β _ hput ?_ (hgo n hremn)
  refine .tup _ _ rfl (fun i x hx => ?_)
  match i,hx with
  | 0,hx=>simp at hx; subst hx; exact .mk_v rfl
  | 1,hx=>simp at hx; subst hx; exact .any _
  | 2,hx=>simp at hx; subst hx; exact .any _
  | i+3,hx=>simp at hx
end
end Go.Dm
