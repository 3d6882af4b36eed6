/- Texts of the proof of TopIsolated: the data machine, the models of the Go functions, their contracts. -/
import Derived.Test.YtlgpejehffhplaaGreatDoorTopIsolatedA2
import Derived.Test.YtlgpejehffhplaaGreatDoorTopIsolatedA1
import Derived.Maps.RangeRun
import Derived.RangeFuncSeq
import Derived.RangeFuncBox
import Derived.Shelf.Abstract
import Derived.WalkKit
import Derived.OwnWalkIn
import Derived.TacticsInMore
import Derived.LoopNIn
import Derived.LoopIn
import Derived.Test.YtlgpejehffhplaaGreatDoorProg
set_option linter.unusedVariables false
set_option linter.unusedSimpArgs false
namespace Go.Dm
theorem set_at{L:List Ah}(f:L.Pairwise (fun a b=>a.id<b.id)){i:Nat}(hi:i<L.length){y:Ah}(e:(L.getD i default).id=y.id):L.set i y=L.map (Ln y):=by
 apply I6
 ·simp
 ·intro j h n;rw[M3,K3];have o:j<L.length:=by simpa using h
  have k:L.getD i default=L[i]:=Ev hi;rw[k]at e
  by_cases ej:i=j
  ·grind[Ln]
  ·rw[if_neg ej];unfold Ln;rw[if_neg];intro g;have l:L[j].id=y.id:=by simpa using g
   have m:=C9.mp f;grind
theorem all2{p:Int->Int->Bool}(h:(List.range 32).all (fun a=>(List.range 32).all (fun b=>p (a:Int) (b:Int)))=true){a b:Int}(a0:0<=a)(a1:a<=31)(i:0<=b)(b1:b<=31):p a b=true:=by
 have f:=B6.mp h a.toNat (by rw[F8];omega);have g:=B6.mp f b.toNat (by rw[F8];omega);grind
def bitsB(a b:Int):Bool:=(kand .i64 (Bp .i64 a b) 6==Bp .i64 (kand .i64 a 6) b)&&decide (0<=Bp .i64 a b)&&decide (Bp .i64 a b<=31)&&decide (0<=kor .i64 a b)&&decide (kor .i64 a b<=31)
theorem Avq:(List.range 32).all (fun a=>(List.range 32).all (fun b=>bitsB (a:Int) (b:Int)))=true:=by decide +kernel
theorem bits_set:(List.range 34).all (fun a=>(decide ((a:Int)-1>=0)&&(Bp .i64 ((a:Int)-1) 31==0))==(decide ((a:Int)-1>=0)&&decide ((a:Int)-1<=31)))=true:=by decide +kernel
theorem AsP{a b:Int}(a0:0<=a)(a1:a<=31)(f:0<=b)(b1:b<=31):0<=Bp .i64 a b/\Bp .i64 a b<=31:=by
 have:=all2 (p:=bitsB) Avq a0 a1 f b1;grind[only,bitsB]
theorem or_bounds{a b:Int}(a0:0<=a)(a1:a<=31)(f:0<=b)(b1:b<=31):0<=kor .i64 a b/\kor .i64 a b<=31:=by
 have:=all2 (p:=bitsB) Avq a0 a1 f b1;grind[only,bitsB]
def Akm(n:Int):Bool:=decide (n>=0)&&decide (n<=31)
theorem Alz{a:Int}(f:-1<=a)(b:a<=32):Aas a=some (Akm a):=by
 have:=B6.mp bits_set (a+1).toNat (by rw[F8];omega);grind[Aas,Akm]
def AcO(x:Ah)(a d:Int):Ah:={x with control:=kor .i64 (Bp .i64 x.control d) a}
def Rw(h:Aa)(id a d:Int):Aa×Int:=
 if !Akm a||!Akm d||(kand .i64 a d !=0)then(zH,1)else if !Aw h.tree id then(zH,4)
 else if Bp .i64 a (Jd h.tree (Az h.tree id))!=0 then(zH,9)
 else if h.tree.nodes.any (fun x=>(x.parent==id)&&(kand .i64 x.control d !=0))then(zH,9)
 else if(kand .i64 (Bp .i64 (AcO (Az h.tree id) a d).control (Az h.tree id).control) 6 !=0)&&((id !=1)&&decide ((((tasksK h id).length:Nat):Int)>0))then(zH,6)
 else(Hj h (AcO (Az h.tree id) a d),0)
theorem AuK{V U:Type}{p:V->Bool}{a b:U}{xs:List V}:(xs.find? p).elim a (fun _=>b)=if xs.any p then b else a:=by
 cases h:xs.find? p with
 |none=>grind
 |some x=>grind
theorem at_node{t:Ae}(w:WfT t){id:Int}(h:Aw t id=true):∃i:Nat,i<t.nodes.length/\Fp t id=some (i:Int)/\t.nodes.getD i default=Az t id:=by
 have f:=w.len2;rcases Fh (fun x:Ah=>x.id==id) t.nodes default with⟨i,b,a,g⟩|⟨b,a⟩
 all_goals grind[Yp,Az,Ha,Aw]
theorem at_none{t:Ae}(f:t.nodes.length<=1000000){id:Int}(h:Aw t id=false):Fp t id=some (-1):=by
 rcases Fh (fun x:Ah=>x.id==id) t.nodes default with⟨i,b,a,g⟩|⟨b,a⟩
 all_goals grind[Aw,Ha,Yp]
theorem ApZ{h:Aa}(s:Acd h)(id:Int){a d:Int}(a0:-1<=a)(a1:a<=32)(q:-1<=d)(y:d<=32):Abk h id a d=some (Rw h id a d):=by
 have w:=s.wf;have B:=w.len;have C:=w.tree.len2
 have u:Qs h=some true:=by
  obtain⟨b,e,t⟩:=Aft w.raw;rw[e,t.mpr s]
 unfold Abk Rw;rw[u,A0,if_neg (by simp),Alz a0 a1,A0,Alz q y,A0]
 cases D:Akm a with
 |false=>rfl
 |true=>
 cases z:Akm d with
 |false=>rfl
 |true=>
 simp only[B4,A2,if_false,E8];unfold Nv
 cases A:(kand .i64 a d !=0)with
 |true=>rfl
 |false=>
 simp only[A2,if_false]
 cases o:Aw h.tree id with
 |false=>
  rw[at_none (by omega) o,A0]
  rfl
 |true=>
 obtain⟨i,hi,m,j⟩:=at_node w.tree o;have l:Int.toNat (i:Int)=i:=by omega
 rw[m,A0,if_neg (by simp),if_pos (by omega),l,j,Ajk w.tree,A0];simp only[B4,A2,if_false]
 cases r:(Bp .i64 a (Jd h.tree (Az h.tree id))!=0)with
 |true=>rfl
 |false=>
 simp only[A2,if_false];rw[if_pos (by omega)]
 have g:∀b,Ns h a d (i:Int) b=some (if b then(zH,6)else(Hj h (AcO (Az h.tree id) a d),0)):=by
  intro b;unfold Ns;cases b
  ·rw[if_neg (by simp),Py h (by omega) (by omega),A0,if_pos (by omega),l,if_pos hi,j];simp only[A2,if_false];unfold Hj setT;rw[<-set_at w.tree.sorted hi (by rw[j];rfl)];rfl
  ·rfl
 have v:Acn h id a d (i:Int) ()=some (if(kand .i64 (Bp .i64 (AcO (Az h.tree id) a d).control (Az h.tree id).control) 6 !=0)&&((id !=1)&&decide ((((tasksK h id).length:Nat):Int)>0))then(zH,6)else(Hj h (AcO (Az h.tree id) a d),0)):=by
  unfold Acn;rw[l,j,g];simp only[g];rw[show kor .i64 (Bp .i64 (Az h.tree id).control d) a=(AcO (Az h.tree id) a d).control from rfl];cases (kand .i64 (Bp .i64 (AcO (Az h.tree id) a d).control (Az h.tree id).control) 6 !=0)
  ·rfl
  ·cases (id !=1)
   ·rfl
   ·simp only[if_true,G5];rw[Tq w.sorted (by omega),A0]
 rw[Jh (p:=fun x=>(x.parent==id)&&(kand .i64 x.control d !=0)) (f:=fun _=>(zH,9)) (fun k x n=>rfl) v,AuK]
theorem AsG{h:Aa}(w:WfH h){x:Ah}(g:x∈h.tree.nodes){y:Ah}(e1:y.id=x.id)(e2:y.parent=x.parent)(b:y.name=x.name)(v:Xj y)(k:x.id=1->y.kind=0):WfH (Hj h y):=by
 refine⟨setT_wf w.tree g e1 e2 b v k,w.len,w.n1,w.n2,w.sorted,w.lt,?_⟩;intro t f;have:=w.val t f;refine⟨this.pos,?_,this.u1,this.u2,this.ldr⟩;have a:=this.grp;rw[hasN_iff]at a ⊢;obtain⟨z,i,j⟩:=a;refine⟨Ln y z,N3 i,?_⟩;grind[Ln]
theorem ArY{h:Aa}(s:Acd h){id a d:Int}(e:(Rw h id a d).2=0):WfH (Rw h id a d).1/\Aw h.tree id=true/\Rw h id a d=(Hj h (AcO (Az h.tree id) a d),0):=by
 unfold Rw at e ⊢;split at e
 ·simp at e
 rename_i c1;rw[if_neg c1];split at e
 ·simp at e
 rename_i c2;rw[if_neg c2];split at e
 ·simp at e
 rename_i m;rw[if_neg m];split at e
 ·simp at e
 rename_i q;rw[if_neg q];split at e
 ·simp at e
 rename_i n;rw[if_neg n];have k:Aw h.tree id=true:=by simpa using c2
 refine⟨?_,k,rfl⟩;obtain⟨o,b⟩:=Vk k;have f:=(s.wf.tree.p.val _ b);simp only[Akm,B7,D7,not_or,N9,A6,decide_eq_true_eq]at c1;have l:=c1.1.1;have j:=c1.1.2;have i:=AsP f.c1 f.c2 j.1 j.2;have g:=or_bounds i.1 i.2 l.1 l.2;exact AsG s.wf b rfl rfl rfl ⟨f.kind,g.1,g.2,f.o1,f.o2⟩ (fun e1=>(Aif s.wf.tree b e1).2)
noncomputable def AbD(h:Aa)(id a d:Int):Aa×Int:=
 open Classical in
 if(Rw h id a d).2 !=0 then(zH,(Rw h id a d).2)else if Bz (Rw h id a d).1 then((Rw h id a d).1,0)else(zH,10)
theorem AnL{h:Aa}(f:Bz h)(id:Int){a d:Int}(a0:-1<=a)(a1:a<=32)(b:-1<=d)(i:d<=32):Xk h id a d=some (AbD h id a d):=by
 unfold Xk AbD Bv;rw[Ep f,A0,if_neg (by simp),ApZ f.snd id a0 a1 b i,A0]
 cases e:((Rw h id a d).2 !=0)with
 |true=>rfl
 |false=>
  simp only[A2,if_false];have w:=(ArY f.snd (by simpa using e)).1
  by_cases g:Bz (Rw h id a d).1
  ·grind[Ep]
  ·rw[Aia w.raw g,A0,if_neg g];rfl
theorem Awv{h:Aa}(f:Bz h){id a d:Int}(e:(AbD h id a d).2=0):Bz (AbD h id a d).1/\Aw h.tree id=true/\AbD h id a d=(Hj h (AcO (Az h.tree id) a d),0)/\(Rw h id a d).2=0:=by
 grind[AbD,Rw,only,ArY]
def Zo(x:Ah):Ah:={x with kind:=1}
noncomputable def Yr(h:Aa)(id:Int):Aa×Int:=
 open Classical in
 if !Aw h.tree id then(zH,4)else if(id==1)||((Az h.tree id).kind==1)then(zH,9)
 else if(Em h.tree (Az h.tree id).parent==3)||(((Az h.tree id).parent !=1)&&(kand .i64 (Az h.tree (Az h.tree id).parent).control 6 !=0))then(zH,10)
 else if kand .i64 (Az h.tree id).control 6 !=0 then(zH,9)
 else if decide ((((tasksK h id).length:Nat):Int)>0)then(zH,6)
 else if Bz (Hj h (Zo (Az h.tree id)))then(Hj h (Zo (Az h.tree id)),0)else(zH,6)
theorem Ang{h:Aa}(f:Bz h)(id:Int):Vp h id=some (Yr h id):=by
 have w:=f.snd.wf;have y:=w.len;have z:=w.tree.len2;unfold Vp Yr Bv;rw[Ep f,A0,if_neg (by simp)]
 cases o:Aw h.tree id with
 |false=>
  rw[at_none (by omega) o,A0]
  rfl
 |true=>
 obtain⟨v,j⟩:=Vk o;obtain⟨i,hi,q,l⟩:=at_node w.tree o;have r:Int.toNat (i:Int)=i:=by omega
 rw[q,A0,if_neg (by simp),if_pos (by omega),r,l,AfH w.tree,A0];simp only[B4,A2,if_false]
 cases s:((id==1)||((Az h.tree id).kind==1))with
 |true=>rfl
 |false=>
 simp only[A2,if_false]
 have x:id≠1:=by
  simp at s;exact s.1
 rw[ApD w.tree,A0]
 have u:WfH (Hj h (Zo (Az h.tree id))):=by
  have n:=(w.tree.p.val _ j);exact AsG w j rfl rfl rfl ⟨.inr rfl,n.c1,n.c2,n.o1,n.o2⟩ (fun e1=>absurd e1 (by omega))
 have m:h.tree.nodes.set i (Zo (Az h.tree id))=h.tree.nodes.map (Ln (Zo (Az h.tree id))):=set_at w.tree.sorted hi (by rw[l];rfl)
 have a:({h with tree:=(⟨(h.tree.nodes.set i (Zo (Az h.tree id))),h.tree.next⟩:Ae)}:Aa)=Hj h (Zo (Az h.tree id)):=by
  rw[m];rfl
 have k:∀b,Nk (i:Int) h b=some (if b then(zH,6)else(Hj h (Zo (Az h.tree id)),0)):=by
  intro b;unfold Nk Bv;rw[r,l];cases b
  ·simp only[A2,if_false];rw[<-a];rfl
  ·rfl
 have t:∀b,Jr h id (i:Int) b=some (open Classical in if b then(zH,10)else if kand .i64 (Az h.tree id).control 6 !=0 then(zH,9)else if decide ((((tasksK h id).length:Nat):Int)>0)then(zH,6)else if Bz (Hj h (Zo (Az h.tree id)))then(Hj h (Zo (Az h.tree id)),0)else(zH,6)):=by
  intro b;unfold Jr Bv;cases b
  ·rw[r,l];simp only[A2,if_false]
   cases (kand .i64 (Az h.tree id).control 6 !=0)with
   |true=>rfl
   |false=>
    simp only[A2,if_false];rw[Py h (by omega) (by omega),A0,if_pos (by omega),if_pos hi,Tq w.sorted (by omega),A0,k];rw[l,show(⟨(Az h.tree id).id,(Az h.tree id).parent,(Az h.tree id).name,(Az h.tree id).control,1,(Az h.tree id).owner⟩:Ah)=Zo (Az h.tree id)from rfl,a];split
    ·rfl
    ·by_cases g:Bz (Hj h (Zo (Az h.tree id)))
     ·grind[Ep]
     ·rw[Aia u.raw g,A0,if_neg g,k];rfl
  ·rfl
 grind
theorem AvF{h:Aa}{id:Int}(e:(Yr h id).2=0):Bz (Yr h id).1/\Aw h.tree id=true/\Yr h id=(Hj h (Zo (Az h.tree id)),0):=by
 grind[Yr]
end Go.Dm

namespace Go.Dm
end Go.Dm

namespace Go.Dm
def Fw(n:Int):Bool:=decide (n>=0)&&decide (n<=1048576)
def Aag(t:Ae)(u a:Int):Bool:=(Az t a).owner==u
def Eu(t:Ae)(u id:Int):Bool:=Fw u&&(decide (0<(upT t id).length)&&(u==0||((upT t id).drop 1).any (Aag t u)))
def Ca(t:Ae)(u id:Int):Bool:=Eu t u id||(Fw u&&(u !=0&&(upT t id).any (Aag t u)))
theorem Anh{t:Ae}(id:Int):(upT t id).length<=t.nodes.length:=by
 grind[Kn,upT]
theorem AhH{t:Ae}(w:WfT t)(u:Int){l:List Int}(f:l.length<=1000000):Vx t u l=some (l.any (Aag t u)):=by
 have g:=w.len2;unfold Vx Gr Ht;rw[if_pos (by omega),Jg (p:=Aag t u) (fun k x n=>by unfold Lw Aco;rw[AfH w,A0,A0];rfl) rfl,A0,A0];congr 1;rcases Fh (Aag t u) l 0 with⟨i,b,a,h⟩|⟨b,a⟩
 all_goals grind
theorem AbY{t:Ae}(w:WfT t)(u id:Int):Qu t u id=some (Eu t u id):=by
 have g:=w.len2;have b:=Anh (t:=t) id;unfold Qu Eu Fd;rw[De w,A0,A0];rw[show(decide (u>=0)&&decide (u<=1048576))=Fw u from rfl]
 cases Fw u with
 |false=>rfl
 |true=>
  rw[if_pos rfl]
  by_cases h:0<(upT t id).length
  ·rw[if_pos (by simpa using h)]
   cases f:(u==0)with
   |true=>
    simp[Kl]
    exact h
   |false=>
    rw[if_neg (by simp),if_pos (by omega)]
    have:(((upT t id).drop 1).take (Cq (upT t id).length 1))=(upT t id).drop 1:=by
     apply F9;grind[Cq,upT]
    grind[AhH,Kl,upT]
  ·rw[if_neg (by simpa using h)];have a:decide (0<(upT t id).length)=false:=by simpa using h
   rw[a];rfl
theorem Up{t:Ae}(w:WfT t)(u id:Int):Js t u id=some (Ca t u id):=by
 have b:=w.len2;have a:=Anh (t:=t) id;unfold Js Ca Fd Mm;rw[AbY w,A0];grind[Eu,Fw,De,AhH]
theorem Aqn{t:Ae}(w:WfT t)(u id:Int):Abd t u id=some (Eu t u id):=by
 unfold Abd;rw[Ng w,A0,if_pos rfl,AbY w];rfl
theorem AoQ{t:Ae}(w:WfT t)(u id:Int):Zc t u id=some (Ca t u id):=by
 unfold Zc;rw[Ng w,A0,if_pos rfl,Up w];rfl
theorem AvW{t:Ae}(w:WfT t)(u id:Int):Aii t u id=some (Eu t u id):=by
 apply Ok.eq;have y:=w.len2;have m:=Anh (t:=t) id;unfold Aii;refine Ok.step (Uq w id) ?_;rw[ancN_up];have r:AaA t u (upT t id) true=some false:=rfl;refine Aya (fun c=>Ok.of_eq r ?_) fun c=>?_
 ·grind[upT,Eu]
 have h:0<(upT t id).length:=by grind
 have k:decide (0<(upT t id).length)=true:=by simpa using h
 unfold Aer;refine Ok.step rfl ?_;rw[show(decide (u>=0)&&decide (u<=1048576))=Fw u from rfl]
 cases l:Fw u with
 |false=>grind[Ok.of_eq,Eu]
 |true=>
  unfold AaA;rw[if_neg (by simp)];refine Aya (fun e=>Ok.ret ?_) fun e=>?_
  ·unfold Eu;rw[l,k,e];rfl
  refine Ok.guard (by omega) ?_
  have f:Eu t u id=((upT t id).drop 1).any (Aag t u):=by
   unfold Eu;rw[l,k,e];rfl
  rw[f];have v:Int.toNat (((upT t id).length:Int)-1)=(upT t id).length-1:=by omega
  rw[v];refine AxZ (fun j _=>∀a∈((upT t id).drop 1).take j,Aag t u a=false) (by simp) ?_ ?_
  ·intro j _ n x i s;unfold AoL;have q:Int.toNat (1+(j:Int))=j+1:=by omega
   have g:j+1<(upT t id).length:=by omega
   refine Ok.guard (by omega) ?_;rw[q];refine Ok.guard g ?_;have o:(upT t id).getD (j+1) 0=(upT t id)[j+1]:=Ev g;rw[o];refine Ok.step (AcL w _) ?_;refine Aya (fun c=>Ok.ret ?_) fun c=>s () ?_
   ·symm
    rw[F6];refine⟨(upT t id)[j+1],?_,c⟩;have:((upT t id).drop 1)[j]'(by simp;omega)=(upT t id)[j+1]:=by simp[Nat.add_comm]
    rw[<-this];exact H0 _
   ·intro a b;rw[G7]at b;rcases B1.mp b with b|b
    ·exact i a b
    ·have:((upT t id).drop 1)[j]?=some (upT t id)[j+1]:=by grind
     rw[this]at b;simp at b;subst b;exact c
  ·intro _ i;refine Ok.ret ?_
   symm
   rw[List.any_eq_false];intro a b;have:=i a (by rw[F9 (by simp)];exact b);simp[this]
theorem AsB{t:Ae}(w:WfT t)(u id:Int):Ca t u id=(Aw t id&&(Eu t u id||(Fw u&&(u !=0&&((Az t id).owner==u))))):=by
 cases b:Aw t id with
 |false=>grind[up_not,Ca,Eu]
 |true=>
  have a:=Ajz w b;grind[upT,Az,Aag,Ca,Eu,Fw]
theorem AuL{t:Ae}(w:WfT t)(u id:Int):AfJ t u id=some (Ca t u id):=by
 unfold AfJ Aer Qe;grind[AcL,AsB,Aw,AvW,Eu,Fw]
def comN(t:Ae)(a b:Int):Int:=((upT t a).find? (fun x=>(upT t b).contains x)).getD 0
theorem Aqv{t:Ae}(w:WfT t)(a b:Int):∃q,AaZ t a b=some (comN t a b,q):=by
 have h:=w.len2;have i:=Anh (t:=t) a;have g:=Anh (t:=t) b;unfold AaZ comN;rw[De w,A0,De w,A0,if_pos (by omega)];rw[Jh (p:=fun x=>(upT t b).contains x) (f:=fun x=>(x,true)) (z:=(0,false)) ?_ rfl]
 ·cases (upT t a).find? (fun x=>(upT t b).contains x)with
  |none=>exact⟨false,rfl⟩
  |some x=>exact⟨true,rfl⟩
 grind[AhC,AoG]
end Go.Dm

namespace Go.Dm
theorem Ado(l:List Int)(a:l.length<=1000000):AbO l l=some true:=by
 unfold AbO;rw[if_neg (by simp),if_pos (by omega)];apply Ok.eq;refine Ok.range (fun _ _=>True) trivial ?_ fun _ _=>Ok.ret rfl
 grind[Aow,AdH]
def AcT(h:Aa)(u id:Int)(right:Bool):Int:=if !Fw u then 1 else if !Aw h.tree id then 4 else if !right then 8 else 0
def actC(h:Aa)(u p:Int)(s:ByteArray):Aa×Int×Int:=if AcT h u p (Ca h.tree u p)!=0 then(zH,0,AcT h u p (Ca h.tree u p))else Tw h p s
def actR(h:Aa)(u id:Int):Aa×Int:=if AcT h u id (Eu h.tree u id)!=0 then(zH,AcT h u id (Eu h.tree u id))else Pu h id
noncomputable def actW(h:Aa)(u id a d:Int):Aa×Int:=if AcT h u id (Ca h.tree u id)!=0 then(zH,AcT h u id (Ca h.tree u id))else AbD h id a d
noncomputable def actV(h:Aa)(u id:Int):Aa×Int:=if AcT h u id (Eu h.tree u id)!=0 then(zH,AcT h u id (Eu h.tree u id))else Yr h id
def Xz(h:Aa)(u g k:Int):Bool:=(u==0||((Bx h.tasks k).getD zK).user==u)&&(Ca h.tree u g&&Ca h.tree u (comN h.tree g ((Bx h.tasks k).getD zK).group))
def actM(h:Aa)(u k g:Int):Aa×Int:=
 if !Fw u then(zH,1)else if !((Bx h.tasks k).isSome&&(((Bx h.tasks k).getD zK).process==k)&&Aw h.tree g)then(zH,4)
 else if !(Fk h k).all (Xz h u g)then(zH,8)else attK h k g
def actT(h:Aa)(u k g:Int):Aa×Int:=
 if !Fw u then(zH,1)else if !((Bx h.tasks k).isSome&&Aw h.tree g)then(zH,4)else if !Xz h u g k then(zH,8)else Aca h k g
theorem AoH{h:Aa}(f:Bz h)(u id:Int):Gh h u id=some (AcT h u id (Ca h.tree u id)):=by
 have w:=f.snd.wf;have b:=w.tree.len2;unfold Gh AcT Fd Hp;rw[A0,show(decide (u>=0)&&decide (u<=1048576))=Fw u from rfl,Ep f]
 cases Fw u with
 |false=>rfl
 |true=>
  obtain⟨q,eq,a,_⟩:=Li h.tree id (by omega);simp only[B4,A2,if_false,A0,eq,a,Up w.tree];grind
theorem AqP{h:Aa}(f:Bz h)(u id:Int):Gm h u id=some (AcT h u id (Eu h.tree u id)):=by
 have w:=f.snd.wf;have b:=w.tree.len2;unfold Gm AcT Fd Ie;rw[A0,show(decide (u>=0)&&decide (u<=1048576))=Fw u from rfl,Ep f]
 cases Fw u with
 |false=>rfl
 |true=>
  obtain⟨q,eq,a,_⟩:=Li h.tree id (by omega);simp only[B4,A2,if_false,A0,eq,a,AbY w.tree];grind
theorem AnQ{h:Aa}(f:Bz h)(u p:Int){s:ByteArray}(a:s.size<=1073741824):Xa h u p s=some (actC h u p s):=by
 unfold Xa actC;rw[AoH f,A0,Aoi f p a];split<;>rfl
theorem AnV{h:Aa}(f:Bz h)(u id:Int):Xp h u id=some (actR h u id):=by
 unfold Xp actR Dj;rw[AqP f,A0,Aqr f.snd.wf];split<;>rfl
theorem AmZ{h:Aa}(f:Bz h)(u id:Int){a d:Int}(a0:-1<=a)(a1:a<=32)(b:-1<=d)(g:d<=32):Vl h u id a d=some (actW h u id a d):=by
 unfold Vl actW Dj;rw[AoH f,A0,AnL f id a0 a1 b g];split<;>rfl
theorem AmS{h:Aa}(f:Bz h)(u id:Int):Vo h u id=some (actV h u id):=by
 unfold Vo actV Dj;rw[AqP f,A0,Ang f];split<;>rfl
theorem moves_t{h:Aa}(w:WfH h)(u g:Int){ks:List Int}(a:ks≠[])(l:ks.length<=1000000):Ua h u g ks=some (if !Aw h.tree g then 4 else if !ks.all (Xz h u g)then 8 else 0):=by
 have j:=w.tree.len2;unfold Ua;obtain⟨q,eq,b,_⟩:=Li h.tree g (by omega);rw[eq,A0,b]
 cases Aw h.tree g with
 |false=>rfl
 |true=>
 simp only[B4,A2,if_false];rw[Up w.tree,A0]
 cases i:Ca h.tree u g with
 |false=>
  obtain⟨k,r,rfl⟩:=List.exists_cons_of_ne_nil a
  simp[Xz,i]
 |true=>
 simp only[B4,A2,if_false];rw[if_pos (by omega)];rw[Jh (p:=fun k=>!Xz h u g k) (f:=fun _=>(8:Int)) (z:=(0:Int)) ?_ rfl,AuK]
 ·grind
 ·intro _ k n;unfold AgH Qd;obtain⟨q,e⟩:=Aqv w.tree g ((Bx h.tasks k).getD zK).group;rw[findC w,A0,e,A0,Up w.tree,A0];unfold Xz;grind
theorem Axh{h:Aa}{k:Int}{x:Ar}(a:Bx h.tasks k=some x)(b:x.process=k):Fk h k≠[]:=by
 intro e;have f:=(Rn a).1;simp_all[Fk]
theorem Awj(h:Aa)(k:Int):(Fk h k).length<=h.tasks.length:=by
 grind[Fk]
theorem AqC{h:Aa}(f:Bz h)(u k g:Int):Abp h u k g=some (actM h u k g):=by
 have w:=f.snd.wf;have j:=w.len;have l:=w.tree.len2;unfold Abp actM Fd Xg Dj;rw[A0,show(decide (u>=0)&&decide (u<=1048576))=Fw u from rfl,Ep f]
 cases Fw u with
 |false=>rfl
 |true=>
 simp only[B4,A2,if_false,A0];rw[findC w,A0]
 cases b:Bx h.tasks k with
 |none=>rfl
 |some x=>
 simp only[I0,E1,B4,E8,G5]
 cases a:(x.process==k)with
 |false=>
  have:(x.process !=k)=true:=by simpa[bne]using a
  rw[this]
  rfl
 |true=>
  have:(x.process !=k)=false:=by simpa[bne]using a
  have i:=Awj h k;rw[this,if_neg (by simp),AqT w.sorted (by omega),A0,moves_t w u g (Axh b (by simpa using a)) (by omega),A0,Aoe f]
  cases Aw h.tree g with
  |false=>rfl
  |true=>cases (Fk h k).all (Xz h u g)<;>rfl
theorem Ajx{h:Aa}(f:Bz h)(u k g:Int):Qi h u k g=some (actT h u k g):=by
 have w:=f.snd.wf;have l:=w.len;have m:=w.tree.len2;unfold Qi actT Fd Oa Dj;rw[A0,show(decide (u>=0)&&decide (u<=1048576))=Fw u from rfl,Ep f]
 cases Fw u with
 |false=>rfl
 |true=>
 simp only[B4,A2,if_false,A0]
 have a:∃i:Int,AbE h k=some i/\decide (i<0)=!(Bx h.tasks k).isSome:=by
  rw[Agg h k (by omega)];rcases Fh (fun x:Ar=>x.id==k) h.tasks default with⟨i,j,b,n⟩|⟨j,b⟩
  all_goals grind[Bx]
 obtain⟨i,e,hi⟩:=a;rw[e,A0,hi]
 cases (Bx h.tasks k).isSome with
 |false=>rfl
 |true=>
  rw[if_neg (by simp),moves_t w u g (by simp) (by simp),A0,Ahs f];have:[k].all (Xz h u g)=Xz h u g k:=by simp
  rw[this]
  cases Aw h.tree g with
  |false=>rfl
  |true=>cases Xz h u g k<;>rfl
end Go.Dm

namespace Go.Dm
theorem AlR{t:Ae}{u:Int}(b:u≠0)(id:Int):Ca t u id=(Fw u&&(upT t id).any (Aag t u)):=by
 have g:(u==0)=false:=by simpa using b
 have f:(u !=0)=true:=by simpa using b
 unfold Ca Eu;rw[g,f]
 cases Fw u with
 |false=>rfl
 |true=>
  simp only[G5,E8]
  cases upT t id with
  |nil=>rfl
  |cons a r=>
   simp only[List.drop_succ_cons,List.drop_zero,N6,E9];cases r.any (Aag t u)<;>simp
theorem Avk{t:Ae}(w:WfT t){u:Int}(b:u≠0){x:Ah}(f:x∈t.nodes):Eu t u x.id=(Fw u&&(upT t x.parent).any (Aag t u)):=by
 have a:(u==0)=false:=by simpa using b
 unfold Eu;rw[a,w.up f];simp
theorem AeI{t:Ae}{u id:Int}(w:WfT t)(h:Ca t u id=true):Aw t id=true:=by
 rw[AsB w]at h;simp only[A6]at h;exact h.1
theorem AkR{t:Ae}(w:WfT t){u:Int}(i:u≠0){a b:Int}(h:Ca t u a=true)(f:a∈upT t b):Ca t u b=true:=by
 rw[AlR i]at h ⊢;simp only[A6]at h ⊢;refine⟨h.1,?_⟩;obtain⟨y,g,rfl⟩:=Gi f;obtain⟨c,j,e⟩:=F6.mp h.2;exact F6.mpr ⟨c,AkX w j y g f,e⟩
theorem com_mem{t:Ae}(w:WfT t){u g b:Int}(h:Ca t u (comN t g b)=true):comN t g b∈upT t g/\comN t g b∈upT t b:=by
 unfold comN at h ⊢
 cases e:(upT t g).find? (fun x=>(upT t b).contains x)with
 |none=>
  rw[e]at h;have:=AeI w h;rw[O3,AuA w]at this
  simp at this
 |some c=>
  have a:=F3 e;simp only[E1];exact⟨D0 e,by simpa using a⟩
theorem Ase{h:Aa}(w:WfH h){u g k:Int}(f:u≠0)(b:Xz h u g k=true):((Bx h.tasks k).getD zK).user=u/\Ca h.tree u g=true/\Ca h.tree u ((Bx h.tasks k).getD zK).group=true:=by
 unfold Xz at b;simp only[A6,B7,beq_iff_eq]at b;obtain⟨a,j,i⟩:=b;refine⟨?_,j,AkR w.tree f i (com_mem w.tree i).2⟩;rcases a with a|a
 ·exact absurd a f
 ·exact a
theorem actM_ok{h:Aa}{u k g:Int}(e:(actM h u k g).2=0):Fw u=true/\(Bx h.tasks k).isSome=true/\((Bx h.tasks k).getD zK).process=k/\Aw h.tree g=true/\(Fk h k).all (Xz h u g)=true/\actM h u k g=attK h k g:=by
 unfold actM at e ⊢;split at e
 ·simp at e
 rename_i c1;rw[if_neg c1];split at e
 ·simp at e
 rename_i c2;rw[if_neg c2];split at e
 ·simp at e
 rename_i a;rw[if_neg a];simp only[D7,N9,A6,beq_iff_eq]at c1 c2 a;exact⟨c1,c2.1.1,c2.1.2,c2.2,a,rfl⟩
theorem actT_ok{h:Aa}{u k g:Int}(e:(actT h u k g).2=0):Fw u=true/\(Bx h.tasks k).isSome=true/\Aw h.tree g=true/\Xz h u g k=true/\actT h u k g=Aca h k g:=by
 unfold actT at e ⊢;split at e
 ·simp at e
 rename_i c1;rw[if_neg c1];split at e
 ·simp at e
 rename_i c2;rw[if_neg c2];split at e
 ·simp at e
 rename_i a;rw[if_neg a];simp only[D7,N9,A6]at c1 c2 a;exact⟨c1,c2.1,c2.2,a,rfl⟩
theorem AnG{h:Aa}{u id:Int}{b:Bool}(e:AcT h u id b=0):Fw u=true/\Aw h.tree id=true/\b=true:=by
 unfold AcT at e
 cases a:Fw u with
 |false=>simp[a]at e
 |true=>
  cases f:Aw h.tree id with
  |false=>simp[a,f]at e
  |true=>
   cases b with
   |false=>simp[a,f]at e
   |true=>exact⟨rfl,rfl,rfl⟩
theorem actC_ok{h:Aa}{u p:Int}{s:ByteArray}(e:(actC h u p s).2.2=0):Fw u=true/\Aw h.tree p=true/\Ca h.tree u p=true/\actC h u p s=Tw h p s:=by
 unfold actC at e ⊢;split at e
 ·rename_i c;simp at c;exact absurd e c
 ·rename_i c;rw[if_neg c];have:=AnG (by simpa using c);exact⟨this.1,this.2.1,this.2.2,rfl⟩
theorem actR_ok{h:Aa}{u id:Int}(e:(actR h u id).2=0):Fw u=true/\Aw h.tree id=true/\Eu h.tree u id=true/\actR h u id=Pu h id:=by
 unfold actR at e ⊢;split at e
 ·rename_i c;simp at c;exact absurd e c
 ·rename_i c;rw[if_neg c];have:=AnG (by simpa using c);exact⟨this.1,this.2.1,this.2.2,rfl⟩
theorem actW_ok{h:Aa}{u id a d:Int}(e:(actW h u id a d).2=0):Fw u=true/\Aw h.tree id=true/\Ca h.tree u id=true/\actW h u id a d=AbD h id a d:=by
 unfold actW at e ⊢;split at e
 ·rename_i c;simp at c;exact absurd e c
 ·rename_i c;rw[if_neg c];have:=AnG (by simpa using c);exact⟨this.1,this.2.1,this.2.2,rfl⟩
theorem actV_ok{h:Aa}{u id:Int}(e:(actV h u id).2=0):Fw u=true/\Aw h.tree id=true/\Eu h.tree u id=true/\actV h u id=Yr h id:=by
 unfold actV at e ⊢;split at e
 ·rename_i c;simp at c;exact absurd e c
 ·rename_i c;rw[if_neg c];have:=AnG (by simpa using c);exact⟨this.1,this.2.1,this.2.2,rfl⟩
end Go.Dm

namespace Go.Dm
theorem Aql{h:Aa}{id:Int}(e:(Pu h id).2=0):Aw h.tree id=true/\id≠1/\(∀x∈h.tree.nodes,x.parent≠id)/\tasksK h id=[]/\Pu h id=({h with tree:={nodes:=h.tree.nodes.filter (fun x=>x.id !=id),next:=h.tree.next}},0):=by
 unfold Pu at e ⊢;split at e
 ·rename_i c;simp at c;exact absurd e c
 rename_i c;rw[if_neg c];split at e
 ·simp at e
 rename_i c2;rw[if_neg c2];have a:(Mo h.tree id).2=0:=by simpa using c
 have g:tasksK h id=[]:=by simp_all
 clear c e;unfold Mo at a ⊢;split at a
 ·simp at a
 rename_i f;rw[if_neg f];split at a
 ·simp at a
 rename_i d2;rw[if_neg d2];split at a
 ·simp at a
 rename_i b;rw[if_neg b];simp_all[Bb]
structure Cut(t t':Ae)(id:Int):Prop where
 nodes:t'.nodes=t.nodes.filter (fun x=>x.id !=id)
 leaf:∀x∈t.nodes,x.parent≠id
theorem Cut.get{t b:Ae}{id:Int}(c:Cut t b id){a:Int}(h:a≠id):Ha b a=Ha t a:=by
 unfold Ha;rw[c.nodes,List.find?_filter];grind
theorem Cut.has{t b:Ae}{id:Int}(c:Cut t b id){a:Int}(h:a≠id):Aw b a=Aw t a:=by
 unfold Aw;rw[c.get h]
theorem Cut.node{t b:Ae}{id:Int}(c:Cut t b id){a:Int}(h:a≠id):Az b a=Az t a:=by
 unfold Az;rw[c.get h]
theorem Cut.up{t b:Ae}{id:Int}(c:Cut t b id){a:Int}(h:a≠id):upT b a=upT t a:=by
 unfold upT;rw[c.nodes,<-List.filter_reverse];exact Aqp h (fun x f=>c.leaf x (by simpa using f))
theorem Cut.inUp{t i:Ae}{id:Int}(c:Cut t i id)(w:WfT t){a b:Int}(h:a≠id)(f:b∈upT t a):b≠id:=by
 obtain⟨x,j,rfl⟩:=Gi f;rcases AoM w x j f with e|⟨k,l,_⟩
 ·omega
 ·obtain⟨y,g,e,_⟩:=kids_iff.mp l;intro m;rw[m]at e;exact c.leaf y g e
theorem Cut.thr{t b:Ae}{id:Int}(c:Cut t b id){a:Int}(h:a≠id):Dx b a=Dx t a:=by
 unfold Dx;rw[c.node h]
theorem Apn{V:Type}{p q:V->Bool}{l:List V}(h:∀x∈l,p x=q x):l.find? p=l.find? q:=by
 induction l with
 |nil=>rfl
 |cons a r b=>grind
theorem Cut.dom{t b:Ae}{id:Int}(c:Cut t b id)(w:WfT t){a:Int}(h:a≠id):Fi b a=Fi t a:=by
 unfold Fi;rw[c.up h,Apn (fun x f=>by rw[c.thr (c.inUp w h f)])]
theorem Cut.inv{t b:Ae}{id:Int}(c:Cut t b id)(w:WfT t){a:Int}(h:a≠id):Td b a=Td t a:=by
 unfold Td;rw[c.up h,Apn (fun x f=>c.thr (c.inUp w h f))]
theorem Cut.type{t b:Ae}{id:Int}(c:Cut t b id)(w:WfT t){a:Int}(h:a≠id):Em b a=3↔Em t a=3:=by
 rw[type_inv,type_inv,c.has h,c.thr h,c.inv w h]
theorem Awh{h:Aa}(f:Bz h){id:Int}(e:(Pu h id).2=0):Bz (Pu h id).1:=by
 have w:=f.snd.wf;have w':=Axp w rfl e;obtain⟨y,q,m,v,e2⟩:=Aql e;rw[e2]at w' ⊢;simp only at w' ⊢;have c:Cut h.tree {nodes:=h.tree.nodes.filter (fun x=>x.id !=id),next:=h.tree.next} id:=⟨rfl,m⟩;generalize A:(⟨h.tree.nodes.filter (fun x=>x.id !=id),h.tree.next⟩:Ae)=T at w' c;have g:∀x∈T.nodes,x∈h.tree.nodes/\x.id≠id:=by grind
 have k:∀x∈h.tasks,x.group≠id:=tasks_nil.mp v;have z:∀a,tasksK {h with tree:=T} a=tasksK h a:=fun _=>rfl
 refine⟨⟨w',fun x l=>?_⟩,fun x l=>?_,fun x l=>?_⟩
 ·obtain⟨b,j⟩:=g x l;have t:=f.snd.snd x b
  have e1:Jd T x=Jd h.tree x:=by
   unfold Jd topN;rw[c.node (m x b)]
  exact⟨by show Bp .i64 x.control (Jd T x)=0;rw[e1];exact t.av,t.busy⟩
 ·have i:x∈h.tasks:=l;have s:=Rz w i;show Fi T x.group=Fi T (Kg h x).group;rw[c.dom w.tree (k x i),c.dom w.tree (k _ s.2.1)];exact f.dom x i
 ·obtain⟨b,j⟩:=g x l;have n:=f.nod x b;refine⟨fun r=>?_,fun q=>?_⟩
  ·exact n.inv ((c.type w.tree j).mp r)
  ·show(x.parent≠1->kand .i64 (Az T x.parent).control 6=0)/\Em T x.parent≠3;rw[c.node (m x b)];exact⟨(n.thr q).1,fun r=>(n.thr q).2 ((c.type w.tree (m x b)).mp r)⟩
structure TaskRel(t:Ae)(u:Int)(x y:Ar):Prop where
 id:y.id=x.id
 proc:y.process=x.process
 user:y.user=x.user
 mine:x.user≠u->y=x
 out:Ca t u x.group=false->y.group=x.group
 into:Aw t y.group=true->Ca t u y.group=false->y.group=x.group
section
variable {o h:Aa} {u:Int}
theorem Akw{t:Ae}{u a:Int}(h:Eu t u a=true):Ca t u a=true:=by
 unfold Ca;rw[h];rfl
end
end Go.Dm

namespace Go.Dm
theorem up_line{t:Ae}(w:WfT t){a c:Int}:∀x∈t.nodes,a∈upT t x.id->c∈upT t x.id->a∈upT t c\/c∈upT t a:=by
  refine w.induct ?_;intro x g i b f;rw[w.up g]at b f;rcases C0.mp b with e|b
  · subst e;refine .inr ?_;rw[w.up g];exact f
  rcases C0.mp f with e|f
  · subst e;refine .inl ?_;rw[w.up g];exact H5 _ b
  grind[Gi]
theorem Avh{h:Aa}(w:WfH h){u g k:Int}(q:u≠0)(i:Xz h u g k=true){a:Int}(s:Ca h.tree u a=false):
    a∈upT h.tree g↔a∈upT h.tree ((Bx h.tasks k).getD zK).group:=by
  unfold Xz at i;simp only[A6]at i;obtain⟨_,_,j⟩:=i;obtain⟨c1,c2⟩:=com_mem w.tree j
  have key:∀b f,comN h.tree g ((Bx h.tasks k).getD zK).group∈upT h.tree b->comN h.tree g ((Bx h.tasks k).getD zK).group∈upT h.tree f->a∈upT h.tree b->a∈upT h.tree f:=by
    intro b f l m t;obtain⟨x,r,rfl⟩:=Gi l;obtain⟨y,n,rfl⟩:=Gi m;rcases up_line w.tree x r t l with e|e
    · exact AkX w.tree e y n m
    · have:=AkR w.tree q j e;rw[s]at this;simp at this
  exact⟨key _ _ c1 c2,key _ _ c2 c1⟩
structure IsoC(o h:Aa)(u:Int):Prop where
  fits:Bz h
  next:o.tree.next<=h.tree.next
  old:∀y∈h.tree.nodes,y.id<o.tree.next->∃x∈o.tree.nodes,x.id=y.id/\x.parent=y.parent/\x.owner=y.owner
  keep:∀x∈o.tree.nodes,Eu o.tree u x.id=false->Aw h.tree x.id=true
  enter:∀x∈o.tree.nodes,Ca o.tree u x.id=false->x∈h.tree.nodes
  kids:∀x∈o.tree.nodes,Ca o.tree u x.id=false->Bb h.tree x.id=Bb o.tree x.id
  tasks:∃(f:Ar->Ar) (new:List Ar),h.tasks=o.tasks.map f++new/\(∀x∈o.tasks,TaskRel o.tree u x (f x))/\∀y∈new,Aw o.tree y.group=true->Ca o.tree u y.group=true
  cnt:∀x∈o.tree.nodes,Ca o.tree u x.id=false->Ge h x.id+o.tasks.length<=Ge o x.id+h.tasks.length
theorem Axa{o:Aa}(f:Bz o)(u:Int):IsoC o o u:=
  ⟨f,J7 _,fun y b _=>⟨y,b,rfl,rfl,rfl⟩,fun x a _=>Vz a,fun x a _=>a,fun _ _ _=>rfl,⟨id,[],by simp,fun x _=>⟨rfl,rfl,rfl,fun _=>rfl,fun _=>rfl,fun _ _=>rfl⟩,by simp⟩,fun _ _ _=>B2 _⟩
theorem Ape{h h':Aa}(a:h'.tasks=h.tasks)(b:∀t∈h.tasks,upT h'.tree t.group=upT h.tree t.group)(k:Int):Ge h' k=Ge h k:=by
  unfold Ge;rw[a];apply N8;intro t m;rw[b t m]
section
variable {o h:Aa} {u:Int}
theorem IsoC.up(I:IsoC o h u)(wo:WfT o.tree):∀y∈h.tree.nodes,y.id<o.tree.next->upT h.tree y.id=upT o.tree y.id:=by
  have w:=I.fits.snd.wf.tree;refine w.induct ?_;intro y a g b;obtain⟨x,i,e1,e2,k⟩:=I.old y a b;rw[w.up a,<-e1,wo.up i,e1,e2];congr 1
  by_cases h1:y.id=1
  · have:=Aif w a h1;rw[this.1,w.upZero,wo.upZero]
  · obtain⟨z,j,f⟩:=hasN_iff.mp (AkY w a h1);have:=w.par_lt a;rw[<-f];exact g z j f (by omega)
theorem IsoC.owner(I:IsoC o h u)(wo:WfT o.tree){a:Int}(g:Aw h.tree a=true)(f:a<o.tree.next):Aw o.tree a=true/\(Az h.tree a).owner=(Az o.tree a).owner:=by
  have w:=I.fits.snd.wf.tree;obtain⟨y,b,rfl⟩:=hasN_iff.mp g;obtain⟨x,j,e1,e2,i⟩:=I.old y b f;grind[Vz,Uz]
theorem IsoC.owned(I:IsoC o h u)(wo:WfT o.tree){y:Ah}(f:y∈h.tree.nodes)(i:y.id<o.tree.next)(l:List Int)(g:∀a∈l,a∈upT h.tree y.id):l.any (Aag h.tree u)=l.any (Aag o.tree u):=by
  have w:=I.fits.snd.wf.tree
  have key:∀a∈l,Aag h.tree u a=Aag o.tree u a:=by
    intro a b;obtain⟨n,j,en⟩:=Aji w y f a (g a b);have:=up_le w y f a (g a b);unfold Aag;rw[(I.owner wo (a:=a) (by rw[<-en];exact Vz j) (by omega)).2]
  grind
theorem IsoC.rights(I:IsoC o h u)(wo:WfT o.tree){a:Int}(i:Aw h.tree a=true)(g:a<o.tree.next):Eu h.tree u a=Eu o.tree u a/\Ca h.tree u a=Ca o.tree u a:=by
  obtain⟨y,f,rfl⟩:=hasN_iff.mp i;have j:=I.up wo y f g;have e1:=I.owned wo f g (upT h.tree y.id) (fun a b=>b);have e2:=I.owned wo f g ((upT h.tree y.id).drop 1) (fun a b=>List.mem_of_mem_drop b);grind[Eu,Ca]
theorem Ajw{t:Ae}(wo:WfT t){a:Int}(h:Aw t a=true):a<t.next:=by
  obtain⟨x,b,rfl⟩:=hasN_iff.mp h;exact wo.next x b
theorem Adx{t:Ae}{u a:Int}(h:Ca t u a=false):Eu t u a=false:=by
  grind[Eu,Akw]
/-- a group outside is outside for good -/
theorem IsoC.out(I:IsoC o h u)(wo:WfT o.tree){x:Ah}(b:x∈o.tree.nodes)(a:Ca o.tree u x.id=false):Ca h.tree u x.id=false:=by
  have:=I.keep x b (Adx a);rw[(I.rights wo this (wo.next x b)).2,a]
/-- what is above a group outside is outside -/
theorem ApR{t:Ae}(w:WfT t)(b:u≠0){x:Ah}(i:x∈t.nodes)(f:Ca t u x.id=false){a:Int}(g:a∈upT t x.id):Ca t u a=false:=by
  grind[Ca,AkR]
theorem kids_snoc{t b:Ae}{n:Ah}(e:b.nodes=t.nodes++[n]){a:Int}(h:n.parent≠a):Bb b a=Bb t a:=by
  grind[Bb]
theorem IsoC.create(I:IsoC o h u)(wo:WfT o.tree){p:Int}{s:ByteArray}(q:Ca h.tree u p=true)(e:(Tw h p s).2.2=0):IsoC o (Tw h p s).1 u:=by
  have l:=Aui I.fits e;have f:Tw h p s=({h with tree:=(Wt h.tree p s).1},(Wt h.tree p s).2.1,0)/\(Wt h.tree p s).2.2=0:=by grind[Tw]
  obtain⟨e1,e2⟩:=f;obtain⟨g,_⟩:=Akr I.fits.snd.wf.tree rfl e2;rw[e1]at l ⊢;simp only at l ⊢;generalize (Wt h.tree p s).1=T at g l
  have j:∀x∈h.tree.nodes,x∈T.nodes:=fun x b=>by
    rw[g.nodes];exact List.mem_append_left _ b
  have w:=I.fits.snd.wf;refine⟨l,?_,?_,?_,?_,?_,I.tasks,?_⟩
  · have:=I.next;have:=g.next;show o.tree.next<=T.next;omega
  · intro y a k;have a:y∈T.nodes:=a;rw[g.nodes]at a;rcases B1.mp a with a|a
    · exact I.old y a k
    · obtain rfl:y={id:=h.tree.next,parent:=p,name:=s,control:=0,kind:=0,owner:=0}:=by simpa using a
      have:=I.next;simp only at k;omega
  · intro x b i;obtain⟨y,a,e⟩:=hasN_iff.mp (I.keep x b i);exact hasN_iff.mpr ⟨y,j y a,e⟩
  · intro x b i;exact j x (I.enter x b i)
  · intro x b i;rw[<-I.kids x b i];refine kids_snoc g.nodes ?_;intro m;have m:p=x.id:=m;have:=I.out wo b i;rw[<-m,q]at this;simp at this
  · intro x b i
    have r:Ge {h with tree:=T} x.id=Ge h x.id:=by
      refine Ape (h:=h) (h':={h with tree:=T}) rfl (fun t n=>?_) _;have:=Ajw w.tree (w.val t n).grp;exact g.up (by omega)
    rw[r];exact I.cnt x b i
theorem IsoC.remove(I:IsoC o h u)(wo:WfT o.tree)(n:u≠0){id:Int}(e:(Pu h id).2=0)(m:Eu h.tree u id=true):IsoC o (Pu h id).1 u:=by
  have l:=Awh I.fits e;have w:=I.fits.snd.wf;obtain⟨r,A,s,q,e2⟩:=Aql e;rw[e2]at l ⊢;have c:Cut h.tree {nodes:=h.tree.nodes.filter (fun x=>x.id !=id),next:=h.tree.next} id:=⟨rfl,s⟩
  have i:∀x∈o.tree.nodes,Eu o.tree u x.id=false->x.id≠id:=by
    intro x a b v;have:=(I.rights wo r (by rw[<-v];exact wo.next x a)).1;grind
  refine⟨l,I.next,?_,?_,?_,?_,I.tasks,?_⟩
  · intro y k g;exact I.old y (C1.mp k).1 g
  · intro x a b;show Aw {nodes:=h.tree.nodes.filter (fun x=>x.id !=id),next:=h.tree.next} x.id=true;rw[c.has (i x a b)];exact I.keep x a b
  · intro x a b;refine C1.mpr ⟨I.enter x a b,?_⟩;grind[Adx]
  · intro x a b;rw[<-I.kids x a b];show Bb {nodes:=h.tree.nodes.filter (fun x=>x.id !=id),next:=h.tree.next} x.id=_;unfold Bb;simp only[List.filter_filter];congr 1;apply J9;intro y k
    by_cases hp:y.parent=x.id
    · have f:y.id≠id:=by
        intro f;rw[<-f,Avk w.tree n k,hp,<-AlR n,I.out wo a b]at m;simp at m
      simp[hp,f]
    · simp[hp]
  · intro x a b
    have z:Ge {h with tree:={nodes:=h.tree.nodes.filter (fun x=>x.id !=id),next:=h.tree.next}} x.id=Ge h x.id:=
      Ape (h:=h) (h':={h with tree:={nodes:=h.tree.nodes.filter (fun x=>x.id !=id),next:=h.tree.next}}) rfl (fun t j=>c.up (tasks_nil.mp q t j)) _
    rw[z];exact I.cnt x a b
theorem IsoC.change(I:IsoC o h u)(wo:WfT o.tree){id:Int}{b:Ah}(E:Aw h.tree id=true)(J:Ca h.tree u id=true)(e1:b.id=(Az h.tree id).id)(e2:b.parent=(Az h.tree id).parent)(L:b.owner=(Az h.tree id).owner)
    (H:Bz (Hj h b)):IsoC o (Hj h b) u:=by
  have w:=I.fits.snd.wf.tree;obtain⟨A,C⟩:=Vk E
  have i:∀z∈h.tree.nodes,Ln b z=z\/(z=Az h.tree id/\Ln b z=b):=by
    intro z l;unfold Ln;split
    · rename_i c;have:z.id=b.id:=by simpa using c
      exact .inr ⟨Rv w.sorted l C (by omega),rfl⟩
    · exact .inl rfl
  have n:∀z∈h.tree.nodes,(Ln b z).id=z.id/\(Ln b z).parent=z.parent:=by grind
  have s:∀a,upT (Hj h b).tree a=upT h.tree a:=by
    intro a;show upT (setT h.tree b) a=_;unfold upT setT;rw[<-O6];grind[Arp]
  have m:∀a,Bb (Hj h b).tree a=Bb h.tree a:=by
    intro a;show Bb (setT h.tree b) a=_;unfold Bb setT;rw[P2,H7];have K:h.tree.nodes.filter ((fun x=>x.parent==a) ∘ Ln b)=h.tree.nodes.filter (fun x=>x.parent==a):=J9 fun y G=>by simp[(n y G).2]
    simp_all
  refine⟨H,I.next,?_,?_,?_,?_,I.tasks,?_⟩
  · intro z l j;obtain⟨v,D,rfl⟩:=B8.mp l;rcases i v D with k|⟨k,B⟩
    · rw[k]at j ⊢;exact I.old v D j
    · rw[B]at j ⊢;obtain⟨x,f,a1,a2,a3⟩:=I.old (Az h.tree id) C (by omega);grind
  · intro x f g;obtain⟨z,l,F⟩:=hasN_iff.mp (I.keep x f g);exact hasN_iff.mpr ⟨Ln b z,N3 l,by rw[(n z l).1,F]⟩
  · intro x f g;have r:=I.enter x f g;refine B8.mpr ⟨x,r,?_⟩;rcases i x r with k|⟨k,B⟩
    · exact k
    · exfalso;have q:x.id=id:=by rw[k,A]
      have:=I.out wo f g;rw[q,J]at this;simp at this
  · intro x f g;rw[m];exact I.kids x f g
  · intro x f g;rw[Ape (h:=h) (h':=Hj h b) rfl (fun t _=>s t.group)];exact I.cnt x f g
theorem IsoC.move(I:IsoC o h u)(wo:WfH o)(J:u≠0){g:Int}{p:Ar->Bool}{mv:Ar->Ar}(i:∀y,mv y=if p y then{y with group:=g}else y)
    (v:∀y∈h.tasks,p y=true->y.user=u/\Ca h.tree u g=true/\Ca h.tree u y.group=true) (C:∀y∈h.tasks,p y=true->∀a,Ca h.tree u a=false->(a∈upT h.tree g↔a∈upT h.tree y.group))
    (F:Bz {h with tasks:=h.tasks.map mv}):IsoC o {h with tasks:=h.tasks.map mv} u:=by
  have w:=I.fits.snd.wf;obtain⟨f,new,E,G,H⟩:=I.tasks;refine⟨F,I.next,I.old,I.keep,I.enter,I.kids,⟨mv ∘ f,new.map mv,?_,?_,?_⟩,?_⟩
  · grind
  · intro x k;have r:=G x k;have j:f x∈h.tasks:=by grind
    show TaskRel o.tree u x (mv (f x));rw[i]
    cases b:p (f x)with
    |false=>exact r
    |true=>
      obtain⟨p1,p2,m⟩:=v _ j b;have n:x.user=u:=by rw[<-r.user];exact p1
      rw[if_pos rfl];refine⟨r.id,r.proc,r.user,fun h=>absurd n h,fun h=>?_,fun l s=>?_⟩
      · exfalso;have e:=r.out h;rw[e]at m;have A:=(w.val _ j).grp;rw[e]at A;have:=(I.rights wo.tree A (Ajw wo.tree (wo.val x k).grp)).2;rw[m,h]at this;simp at this
      · exfalso;simp only at l s;have:=(I.rights wo.tree (AeI w.tree p2) (Ajw wo.tree l)).2;rw[p2,s]at this;simp at this
  · intro z B;obtain⟨y,j,rfl⟩:=B8.mp B;rw[i]
    cases b:p y with
    |false=>exact H y j
    |true=>
      rw[if_pos rfl];intro l;simp only at l ⊢
      have q:y∈h.tasks:=by
        rw[E];exact List.mem_append_right _ j
      obtain⟨p1,p2,m⟩:=v y q b;rw[<-(I.rights wo.tree (AeI w.tree p2) (Ajw wo.tree l)).2];exact p2
  · intro x k t
    have D:Ge {h with tasks:=h.tasks.map mv} x.id=Ge h x.id:=by
      unfold Ge;rw[List.countP_map];apply N8;intro y j;simp only[Function.comp];rw[i]
      cases b:p y with
      |false=>simp
      |true=>
        rw[if_pos rfl];have:=C y j b x.id (I.out wo.tree k t);simpa using this
    rw[D];show _<=Ge o x.id+(h.tasks.map mv).length;rw[G8];exact I.cnt x k t
theorem IsoC.clone(I:IsoC o h u)(wo:WfH o){h':Aa}{x:Ar}(b:h'.tree=h.tree)(m:h'.tasks=h.tasks++[x])(g:Ca h.tree u x.group=true)(k:Bz h'):IsoC o h' u:=by
  have w:=I.fits.snd.wf;obtain⟨f,new,j,n,q⟩:=I.tasks;refine⟨k,by rw[b];exact I.next,by rw[b];exact I.old,by rw[b];exact I.keep,by rw[b];exact I.enter,by rw[b];exact I.kids,⟨f,new++[x],by rw[m,j,H8],n,?_⟩,?_⟩
  · intro y a i;rcases B1.mp a with a|a
    · exact q y a i
    · obtain rfl:y=x:=by simpa using a
      rw[<-(I.rights wo.tree (AeI w.tree g) (Ajw wo.tree i)).2];exact g
  · intro z r l;have:=I.cnt z r l;grind[ArZ]
theorem IsoC.tasksK(I:IsoC o h u){x:Ah}(k:x∈o.tree.nodes)(j:Ca o.tree u x.id=false):tasksK o x.id=tasksK h x.id:=by
  obtain⟨f,new,m,l,q⟩:=I.tasks;unfold Go.Dm.tasksK
  have b:new.filter (fun t=>t.group==x.id)=[]:=by
    rw[List.filter_eq_nil_iff];intro y n g;have g:y.group=x.id:=by simpa using g
    have:=q y n (by rw[g];exact Vz k);rw[g,j]at this;simp at this
  rw[m,E6,b,I3,P2,H7]
  have a:o.tasks.filter (fun t=>t.group==x.id)=o.tasks.filter ((fun t=>t.group==x.id) ∘ f):=by
    apply J9;intro t i;have r:=l t i;simp only[Function.comp]
    by_cases h1:t.group=x.id
    · have:=r.out (by rw[h1];exact j);rw[this]
    · by_cases h2:(f t).group=x.id
      · have:=r.into (by rw[h2];exact Vz k) (by rw[h2];exact j);rw[this]
      · have e1:(t.group==x.id)=false:=by simpa using h1
        have e2:((f t).group==x.id)=false:=by simpa using h2
        rw[e1,e2]
  rw[<-a];apply C8;intro t i;exact(l t (C1.mp i).1).id.symm
end
end Go.Dm

namespace Go.Dm
structure Frost where
 group:Int
 want:Bool
 frozen:Bool
 changes:Int
 deriving Inhabited
structure Freezer where
 frosts:List Frost
 stopped:List Int
 deriving Inhabited
def Eg(a:List Int):Option (List Int):=(if 0+a.length<=1073741824 then(some a)else none)
def Ade(a:List Int):Option (List Int):=(some [])
end Go.Dm

namespace Go.Dm
end Go.Dm

namespace Go.Dm
def req1(k n:Nat):MV->List Prop
 | .own k' _ off len=>bif Nat.beq k' k then[off+len<=n]else[]
 | .eref k' _ i _=>bif Nat.beq k' k then[i<n]else[]
 | .agg _=>[False]
 | .tup _=>[False]
 | .fn _ _=>[False]
 |_=>[]
def reqs(k n:Nat):List MV->List Prop
 |[]=>[]
 |x::r=>req1 k n x++reqs k n r
def reqV(k n:Nat):MV->List Prop
 | .agg cs=>reqs k n cs
 | .tup cs=>reqs k n cs
 | .fn _ cs=>reqs k n cs
 |x=>req1 k n x
def reqS(k n:Nat):List (Nat×MV)->List Prop
 |[]=>[]
 |(_,x)::r=>reqV k n x++reqS k n r
def reqB(k n:Nat):Body->List Prop
 | .box cs=>reqs k n cs
 |_=>[]
def reqO(k n:Nat):List (Nat×Obj)->List Prop
 |[]=>[]
 |(_,o)::r=>reqB k n o.body++reqO k n r
def cutB(n:Nat):Body->Body
 | .row W _ f=>.row W n f
 |b=>b
def Abx(k n:Nat):List (Nat×Obj)->List (Nat×Obj)
 |[]=>[]
 |(j,o)::r=>bif Nat.beq j k then(j,⟨o.gen,cutB n o.body⟩)::Abx k n r else(j,o)::Abx k n r
def rowN:Option Obj->Option Nat
 |some ⟨_,.row _ n _⟩=>some n
 |_=>none
theorem AkB(k n:Nat):∀(l:List (Nat×Obj)) (j:Nat),assoc (Abx k n l) j=(assoc l j).map fun o=>bif Nat.beq j k then⟨o.gen,cutB n o.body⟩else o
 |[],j=>rfl
 |(i,o)::r,j=>by
  simp only[Abx]
  cases f:Nat.beq i k with
  |true=>
   simp only[cond_true,assoc]
   cases b:Nat.beq j i with
   |true=>
    have e1:=A3 b;subst e1
    simp[f]
   |false=>simpa using AkB k n r j
  |false=>
   simp only[cond_false,assoc]
   cases b:Nat.beq j i with
   |true=>
    have e1:=A3 b;subst e1
    simp[f]
   |false=>simpa using AkB k n r j
theorem AtO{k n:Nat}:∀{l:List (Nat×MV)} {t:Nat} {x:MV},All (reqS k n l)->assoc l t=some x->All (reqV k n x)
 |[],t,x,_,h=>by simp[assoc]at h
 |(i,y)::r,t,x,ha,h=>by
  simp only[reqS,All_append]at ha;simp only[assoc]at h
  cases b:Nat.beq t i with
  |true=>simp[b]at h;subst h;exact ha.1
  |false=>simp[b]at h;exact AtO ha.2 h
theorem Auq{k n:Nat}:∀{l:List (Nat×Obj)} {t:Nat} {x:Obj},All (reqO k n l)->assoc l t=some x->All (reqB k n x.body)
 |[],t,x,_,h=>by simp[assoc]at h
 |(i,y)::r,t,x,ha,h=>by
  simp only[reqO,All_append]at ha;simp only[assoc]at h
  cases b:Nat.beq t i with
  |true=>simp[b]at h;subst h;exact ha.1
  |false=>simp[b]at h;exact Auq ha.2 h
theorem Agy{k n:Nat}:∀{l:List MV} {j:Nat} {x:MV},All (reqs k n l)->l[j]?=some x->All (req1 k n x)
 |[],j,x,_,h=>by simp at h
 |y::r,0,x,ha,h=>by
  simp only[reqs,All_append]at ha;simp at h;subst h
  exact ha.1
 |y::r,j+1,x,ha,h=>by
  simp only[reqs,All_append]at ha;exact Agy ha.2 (by simpa using h)
section
variable {P:Program} {cx:Cx P} {U:Bs} {a:Act} {w:World}
theorem Rel.cut{k n n0:Nat}{sl:List (Nat×MV)}{ob:List (Nat×Obj)}(h:Rel cx U (Ac sl ob) a w)(X:rowN (assoc ob k)=some n0)(hle:n<=n0)(hs:All (reqS k n sl))(ho:All (reqO k n ob)):Rel cx U (Ac sl (Abx k n ob)) a w:=by
 obtain⟨g0,W,f,hk⟩:∃g0 W f,assoc ob k=some ⟨g0,.row W n0 f⟩:=by
  unfold rowN at X;split at X
  ·rename_i g W m f he;simp at X;subst X;exact⟨g,W,f,he⟩
  ·simp at X
 have C:∀j A,assoc (Abx k n ob) j=some A->∃o,assoc ob j=some o/\A.gen=o.gen/\(A.body.live↔o.body.live)/\(j≠k->A=o)/\(j=k->A.body=.row W n f/\o.body=.row W n0 f):=by
  intro j A D;rw[AkB]at D
  cases r:assoc ob j with
  |none=>simp[r]at D
  |some o=>
   simp only[r,E0,A1]at D;subst D
   cases G:Nat.beq j k with
   |true=>
    have e:=A3 G;subst e;rw[hk]at r;injection r with r
    subst r
    exact⟨_,rfl,rfl,by simp[cutB,Body.live],fun e=>absurd rfl e,fun _=>⟨rfl,rfl⟩⟩
   |false=>
    have e:j≠k:=fun e=>by rw[e,Cr]at G;simp at G
    exact⟨o,rfl,rfl,Iff.rfl,fun _=>rfl,fun T=>absurd T e⟩
 have hput:∀j o,assoc ob j=some o->∃A,assoc (Abx k n ob) j=some A/\A.gen=o.gen/\(j≠k->A=o)/\(j=k->A.body=.row W n f/\o.body=.row W n0 f):=by
  intro j o D
  cases r:assoc (Abx k n ob) j with
  |none=>rw[AkB,D]at r;simp at r
  |some A=>
   obtain⟨o1,B,L,_,Q,h4⟩:=C j A r;rw[D]at B;injection B with B
   subst B;exact⟨A,rfl,L,Q,h4⟩
 have Y:∀b,Ap cx.Av U (assoc ob) w b->Ap cx.Av U (assoc (Abx k n ob)) w b:=by
  intro b G;refine⟨G.1,G.2.1,fun j A D E=>?_⟩;obtain⟨o,B,_,L,_⟩:=C j A D;exact G.2.2 j o B (L.1 E)
 have known:∀(j g:Nat) (F F':Loc->Body->Prop),Known U (assoc ob) j g F->(∀l b,j≠k->F l b->F' l b)->(∀l,j=k->F l (.row W n0 f)->F' l (.row W n f))->Known U (assoc (Abx k n ob)) j g F':=by
  rintro j g F F' ⟨o,H,J,M⟩ B L;obtain⟨A,r1,r2,r3,r4⟩:=hput j o H;refine⟨A,r1,by omega,fun e=>?_⟩;have I:=M (by omega)
  by_cases e2:j=k
  ·obtain⟨e3,e4⟩:=r4 e2;rw[e3];rw[e4]at I;exact L _ e2 I
  ·rw[r3 e2];exact B _ _ e2 I
 have one:∀(v:Value) (x:MV),RelV U (assoc ob) (Ap cx.Av U (assoc ob) w) w v x->All (req1 k n x)->RelV U (assoc (Abx k n ob)) (Ap cx.Av U (assoc (Abx k n ob)) w) w v x:=by
  intro v x s r
  cases s with
  |p _ _ h=>exact .p _ _ (h.mono Y (fun _ _=>rfl))
  |own O g off len base c h=>
   refine .own _ _ _ _ _ _ (known O g _ _ h (fun l b _ I=>I) fun l e I=>?_);subst e;simp only[req1,Cr,cond_true,All,and_true]at r
   exact⟨r,I.2⟩
  |ref O g off b h=>exact .ref _ _ _ _ (known O g _ _ h (fun _ _ _ h=>h) fun _ _ h=>h)
  |eref O g i off b oo h=>
   refine .eref _ _ _ _ _ _ (known O g _ _ h (fun l b _ I=>I) fun l e I=>?_);subst e;simp only[req1,Cr,cond_true,All,and_true]at r
   exact⟨r,I.2⟩
  |fptr cs b o hs c hc B s=>exact .fptr _ _ _ (Y _ hs) c hc B (fun j x hx=>(s j x hx).mono Y (fun _ _=>rfl))
  |mref O g b h=>exact .mref _ _ _ (known O g _ _ h (fun _ _ _ h=>h) fun _ _ h=>h)
  |und=>exact .und
  |any v=>exact .any v
  |agg cs vs E s B=>simp[req1,All]at r
  |tup cs vs E s=>simp[req1,All]at r
  |fn f cs vs E s=>simp[req1,All]at r
 have all:∀(v:Value) (x:MV),RelV U (assoc ob) (Ap cx.Av U (assoc ob) w) w v x->All (reqV k n x)->RelV U (assoc (Abx k n ob)) (Ap cx.Av U (assoc (Abx k n ob)) w) w v x:=by
  intro v x s r
  cases s with
  |agg cs vs E s B=>exact .agg _ _ E (fun i y N=>one _ _ (s i y N) (Agy r N)) B
  |tup cs vs E s=>exact .tup _ _ E (fun i y N=>one _ _ (s i y N) (Agy r N))
  |fn f cs vs E s=>exact .fn _ _ _ E (fun i y N=>one _ _ (s i y N) (Agy r N))
  |p _ _ h=>exact one _ _ (.p _ _ h) r
  |own i g off len base c h=>exact one _ _ (.own _ _ _ _ _ _ h) r
  |ref i g off b h=>exact one _ _ (.ref _ _ _ _ h) r
  |eref i g ix off b oo h=>exact one _ _ (.eref _ _ _ _ _ _ h) r
  |fptr cs b o hs c hc B s=>exact one _ _ (.fptr _ _ _ hs c hc B s) r
  |mref i g b h=>exact one _ _ (.mref _ _ _ h) r
  |und=>exact one _ _ .und r
  |any v=>exact one _ _ (.any v) r
 refine⟨h.nd,h.sz,fun t=>?_,fun j A D=>?_,fun j A b D E G=>?_,fun j j' o A b D hj' E hl' hne G=>?_,h.kept,h.avo,h.avlt,h.mle,fun j A hjm D hg=>?_⟩
 ·have:=h.sl t;simp only[Ac]at this ⊢
  cases ht:assoc sl t with
  |none=>exact .any _
  |some x=>
   rw[ht]at this;exact all _ _ this (AtO hs ht)
 ·obtain⟨o,B,L,_,Q,h4⟩:=C j A D;have s:=h.ob j o B
  by_cases e:j=k
  ·obtain⟨e1,e2⟩:=h4 e;rw[e1];rw[e2]at s;rcases s with⟨H,J⟩|⟨b,oo,cap,cur,T,R,H,J,M,V⟩
   ·exact .inl ⟨H,by omega⟩
   ·exact .inr ⟨b,oo,cap,cur,T,R,H,J,by omega,fun i hi=>⟨(V i (by omega)).1,(V i (by omega)).2.mono Y (fun _ _=>rfl)⟩⟩
  ·rw[Q e];have r:=Auq ho B
   cases K:o.body with
   |dead=>trivial
   |mq q=>rw[K]at s;exact QRel.mono Y (fun _ _=>rfl) (fun _ _=>rfl) s
   |row W' n' f'=>
    rw[K]at s;rcases s with q|⟨b,oo,cap,cur,T,R,H,J,M,V⟩
    ·exact .inl q
    ·exact .inr ⟨b,oo,cap,cur,T,R,H,J,M,fun i hi=>⟨(V i hi).1,(V i hi).2.mono Y (fun _ _=>rfl)⟩⟩
   |mp z has f'=>
    rw[K]at s;obtain⟨b,es,clock,R,H,J,M,V⟩:=s
    exact⟨b,es,clock,R,H,J,M,fun i e n he X=>(V i e n he X).mono Y (fun _ _=>rfl)⟩
   |box cs=>
    rw[K]at s r;obtain⟨b,cur,T,R,H,J,M⟩:=s;refine⟨b,cur,T,R,H,J,fun i x hx=>?_⟩;obtain⟨u,u1,u2,u3⟩:=M i x hx;exact⟨u,u1,u2,one _ _ u3 (Agy r hx)⟩
 ·obtain⟨o,B,L,Q,_⟩:=C j A D;exact h.blk j o b B (Q.1 E) G
 ·obtain⟨q,B,_,Q,_⟩:=C j o D;obtain⟨q',r1,_,r3,_⟩:=C j' A hj';exact h.inj j j' q q' b B r1 (Q.1 E) (r3.1 hl') hne G
 ·obtain⟨o,B,L,_⟩:=C j A D;exact h.oloc j o hjm B (by omega)
def cutQ(k n:Nat)(sl:List (Nat×MV))(ob:List (Nat×Obj)):Option ((List (Nat×MV)×List (Nat×Obj))×Prop):=
 match rowN (assoc ob k)with
 |some b=>some ((sl,Abx k n ob),n<=b/\All (reqS k n sl++reqO k n ob))
 |none=>none
theorem Conv.cut(k n:Nat){sl f:List (Nat×MV)}{ob b:List (Nat×Obj)}{q:Prop}(g:q)(h:cutQ k n sl ob=some ((f,b),q):=by kernel_rfl):Conv cx (Ac sl ob) (Ac f b):=by
 intro U a w j;unfold cutQ at h;split at h
 ·rename_i m l;simp only[A1,A4]at h;obtain⟨⟨rfl,rfl⟩,rfl⟩:=h;have i:=All_append.1 g.2;exact⟨U,j.cut l g.1 i.1 i.2⟩
 ·simp at h
end
end Go.Dm

namespace Go.Dm
def rk(k b j:Nat):Nat:=bif Nat.beq j k then b else j
section
variable {P:Program} {cx:Cx P} {U:Bs} {a:Act} {w:World}
end
end Go.Dm

namespace Go.Dm
open Classical
instance {V:Type} [Inhabited V]:Inhabited (IMap V):=⟨⟨fun _=>false,fun _=>default⟩⟩
noncomputable def rangeM{S R:Type}(B:Int->S->(S->Option R)->Option R)(D:S->Option R):Nat->(Int->Bool)->S->Option R
 |0,_,_=>none
 |m+1,rem,s=>
  if(∀n,rem n=false)then D s
  else if h:∃r,∀n,rem n=true->B n s (rangeM B D m (Bf rem n false))=some r then some h.choose else none
theorem AvB{S R:Type}{B:Int->S->(S->Option R)->Option R}{D:S->Option R}{m:Nat}{rem:Int->Bool}{s:S}{r:R}(h:rangeM B D (m+1) rem s=some r):
  ((∀n,rem n=false)->D s=some r)/\∀n,rem n=true->B n s (rangeM B D m (Bf rem n false))=some r:=by
 rw[rangeM]at h
 by_cases h0:∀n,rem n=false
 ·rw[if_pos h0]at h;exact⟨fun _=>h,fun n b=>by rw[h0 n]at b;simp at b⟩
 ·rw[if_neg h0]at h;refine⟨fun a=>absurd a h0,?_⟩
  by_cases a:∃r,∀n,rem n=true->B n s (rangeM B D m (Bf rem n false))=some r
  ·rw[dif_pos a]at h;injection h with h
   subst h;exact a.choose_spec
  ·rw[dif_neg a]at h;simp at h
theorem AvG{S R:Type}{B:Int->S->(S->Option R)->Option R}{D:S->Option R}{rem:Int->Bool}{s:S}{r:R}(h:rangeM B D 0 rem s=some r):False:=by
 rw[rangeM]at h;simp at h
theorem DW.rangeM{P:Program}{cx:Cx P}{O:St}{Q:Exit->St->Prop}{S R:Type}{c:Code}{r:List Code}(I:(Int->Bool)->S->St){B:Int->S->(S->Option R)->Option R}{D:S->Option R}{n:Nat}{b:Int->Bool}{s0:S}{res:R}
  (E:Dm.rangeM B D n b s0=some res) (z:Conv cx O (I b s0))
  (round:∀rem s (N:Int->S->Option R),(∀n,rem n=true->B n s (N n)=some res)->((∀n,rem n=false)->D s=some res) ->
   DW P cx [c] (I rem s) (Nq cx (fun(q:Int×S)=>I (Bf rem q.1 false) q.2) (fun q=>rem q.1=true/\N q.1 q.2=some res) (KQ P cx r Q))):DW P cx (.loop c::r) O Q:=by
 intro U a w i;obtain⟨o,g⟩:=z U a w i;refine Vv (ι:=Nat×(Int->Bool)×S) (fun q a w=>∃U,Rel cx U (I q.2.1 q.2.2) a w/\Dm.rangeM B D q.1 q.2.1 q.2.2=some res) (fun q=>q.1) (n,b,s0) ⟨o,g,E⟩ ?_;rintro⟨m,rem,s⟩ a w ⟨U,v,f⟩;simp only at v f
 cases m with
 |zero=>exact(AvG f).elim
 |succ m=>
  obtain⟨C,y⟩:=AvB f;refine wpIn_mono (round rem s (fun n=>Dm.rangeM B D m (Bf rem n false)) y C U a w v) ?_;rintro e A w' ⟨j,t,u,h⟩
  cases e with
  |normal=>
   obtain⟨⟨n,x⟩,⟨H,F⟩,G⟩:=u;obtain⟨k,l⟩:=G j A w' h
   exact⟨(m,Bf rem n false,x),⟨k,l,F⟩,O5 m⟩
  |_=>exact⟨j,t,u,h⟩
def Ajy:List Oper->Option (Nat×Nat×Nat)
 |[⟨some d,.next (.tmp t) false,_,_,_,none⟩,⟨some d2,.extract (.tmp d') 0,_,_,_,none⟩]=>bif Nat.beq d d' then some (t,d,d2)else none
 |_=>none
theorem Aop{l:List Oper}{t d d2:Nat}(h:Ajy l=some (t,d,d2)):∃a o1:Oper,l=[a,o1]/\a.dst=some d/\a.op=.next (.tmp t) false/\a.guard=none/\o1.dst=some d2/\o1.op=.extract (.tmp d) 0/\o1.guard=none:=by
 unfold Ajy at h;split at h
 ·rename_i f t0 _ _ _ g i _ _ _
  cases b:Nat.beq f i with
  |false=>simp[b]at h
  |true=>
   simp only[b,cond_true,A1,A4]at h;obtain⟨rfl,rfl,rfl⟩:=h;have:=A3 b;subst this;exact⟨_,_,rfl,rfl,rfl,rfl,rfl,rfl,rfl⟩
 ·simp at h
theorem AdK{o:Oper}(h:o.guard=none)(y:Nat->Option Bool):Region.wanted o y=true:=by
 unfold Region.wanted;rw[h]
section
variable {P:Program} {cx:Cx P} {Q:Exit->St->Prop}
theorem AxL{U:Bs}{a:Act}{w:World}{sl:List (Nat×MV)}{ob:List (Nat×Obj)}{d d2:Nat}{x y:MV}{objs:Ay}(j:assoc sl d=none)
  (h:Rel cx U ⟨Cg (Cg (Ac sl ob).slots d x) d2 y,objs⟩ a w) {b:List (Nat×Obj)} (l:∀k,assoc b k=objs k):Rel cx U (Ac ((d2,y)::sl) b) a w:=by
 have e:assoc b=objs:=funext l;have h':Rel cx U ⟨Cg (Cg (Ac sl ob).slots d x) d2 y,assoc b⟩ a w:=by rw[e];exact h
 refine⟨h'.nd,h'.sz,fun t=>?_,h'.ob,h'.blk,h'.inj,h'.kept,h'.avo,h'.avlt,h'.mle,h'.oloc⟩;have f:=h'.sl t;show RelV U (assoc b) _ w _ ((assoc ((d2,y)::sl) t).getD .any);simp only[Cg,Ac]at f;simp only[assoc]
 cases g:Nat.beq t d2 with
 |true=>
  rw[g,cond_true]at f
  exact f
 |false=>
  rw[g,cond_false]at f;simp only[cond_false]
  cases i:Nat.beq t d with
  |true=>
   have:=A3 i;subst this;rw[j]
   exact .any _
  |false=>
   rw[i,cond_false]at f;exact f
theorem ApJ{U:Bs}{O:St}{a:Act}{w:World}{o:Oper}{d d2:Nat}{b:Bool}{cs:List MV}(g:o.op=.extract (.tmp d) 0)(f:o.dst=some d2)(r:d2<cx.nt)
  (h:Rel cx U O a w) (y:O.slots d=.tup (.p (.v (.bool b))::cs)) {K:Act->World->Prop} {R:Exit->Act->World->Prop} (s:∀a,Rel cx U ⟨Cg O.slots d2 (.p (.v (.bool b))),O.objs⟩ a w->K a w):o.wp P a w K R:=by
 obtain⟨B,op,D,m,i,j⟩:=o;simp only at g f;subst g;subst f;have l:=h.sl d;rw[y]at l;unfold Oper.wp
 have A:∃vs:Array Value,a.tmps.getD d undef=.tuple vs/\vs[0]?=some (.bool b):=by
  generalize C:a.tmps.getD d undef=v at l
  cases l with
  |tup x vs u k=>
   refine⟨vs,rfl,?_⟩;have:=k 0 (.p (.v (.bool b))) (by simp);have q:0<vs.size:=by rw[u];simp
   have e:=this.inv_v.1;rw[A5,C4 q]at e;simp only[E1]at e;rw[C4 q,e]
 obtain⟨vs,e1,e2⟩:=A;have z:a.eval (.tmp d)=.tuple vs:=e1;simp only[execOp,z,Instr.extract,e2,Sem.run_bind,Sem.run_pure,Result.andThen_ok,Oper.upon];exact s _ (AeY h (some d2) (fun t n=>by injection n with n;omega) (.bool b) _ (.mk_v rfl))
theorem DW.next{ops:Array Oper}{id:Nat}{r:List Code}{nt t d d2 k:Nat}{f:Int->PV}{rem:Int->Bool}{cur:Option Int}{sl:List (Nat×MV)}{ob:List (Nat×Obj)}(R:cx.nt=nt)
  (hgo:∀n,rem n=true->DW P cx r (Ac ((d2,pB true)::sl) ((k,⟨0,.mq (.it f (Bf rem n false) (some n))⟩)::ob)) Q)
  (O:(∀n,rem n=false)->DW P cx r (Ac ((d2,pB false)::sl) ob) Q)
  (h0:Ajy ops.toList=some (t,d,d2):=by kernel_rfl) (h1:(Nat.blt d nt&&Nat.blt d2 nt&&!Nat.beq t d&&!Nat.beq t d2&&(assoc sl d).isNone)=true:=by kernel_rfl)
  (h2:assoc sl t=some (.ref k 0 0):=by kernel_rfl) (h3:assoc ob k=some ⟨0,.mq (.it f rem cur)⟩:=by kernel_rfl):DW P cx (.region id ops false::r) (Ac sl ob) Q:=by
 simp only[A6,D7]at h1;obtain⟨⟨⟨⟨b1,b2⟩,b3⟩,b4⟩,b5⟩:=h1;have hd:assoc sl d=none:=by simpa using b5
 have hlt1:d<cx.nt:=by rw[R];exact A8 b1
 have hlt2:d2<cx.nt:=by rw[R];exact A8 b2
 obtain⟨o0,o1,u,p1,p2,p3,p4,p5,p6⟩:=Aop h0;have e0:ops[0]?=some o0:=by rw[<-I2,u];rfl
 have e1:ops[1]?=some o1:=by rw[<-I2,u];rfl
 have esz:ops.size=2:=by rw[<-K5,u];rfl
 show DWP P cx (.region id ops false) (Ac sl ob) (KQ P cx r Q);intro U a w l;refine wpIn_region ?_;rw[esz];show wpOpsIn (fen cx.rd) 0 P ops _ [0,1] a w;rw[wpOpsIn_cons];unfold wpOpIn;rw[e0];simp only;rw[if_pos (AdK p3 _)];refine Pq (by rw[p2];rfl) ?_;have ht:(Ac sl ob).slots t=.ref k 0 0:=by simp[Ac,h2]
 have rt:=l.sl t;rw[ht]at rt;obtain⟨b,hbv,hkn⟩:=rt.inv_ref;have H:(Ac sl ob).objs k=some ⟨0,.mq (.it f rem cur)⟩:=h3;have hl:=hkn.get H;obtain⟨b',M,B,clock,g,seen,c0,has,A,q1,q2,q3,W,q5,q6,q7,q8,q9⟩:=l.ob k _ H;rw[hl]at A;injection A with A
 subst A
 have J:∀x∈B.toList,x.born<g:=by
  intro x h;obtain⟨i,hi,rfl⟩:=D1 h;have:=W.2.2.2.1 i B.toList[i] (by simp at hi ⊢);omega
 have fin:∀(v:Bool) (cs:List MV) (vs:Value) (objs:Ay) (y:Bs) (w2:World),Rel cx y ⟨(Ac sl ob).slots,objs⟩ a w2->RelV y objs (Ap cx.Av y objs w2) w2 vs (.tup (.p (.v (.bool v))::cs)) ->
   ∀(I:List (Nat×Obj)),(∀j,assoc I j=objs j)->DW P cx r (Ac ((d2,pB v)::sl) I) Q ->
   wpOpsIn (fen cx.rd) 0 P ops (fun e a' w'=>∃β' Y,KQ P cx r Q e Y/\Rel cx β' Y a' w') [1] (a.put (some d) vs) w2:=by
  intro v cs vs objs y w2 hr hv I T K;rw[wpOpsIn_cons];unfold wpOpIn;rw[e1];simp only;rw[if_pos (AdK p6 _)];refine Pq (by rw[p5];rfl) ?_;have hr2:=AeY hr (some d) (fun t ht=>by injection ht with ht;omega) vs _ hv;refine ApJ (d:=d) (b:=v) (cs:=cs) p5 p4 hlt2 hr2 (by simp[Rx,Cg,Cr]) fun a2 hr3=>?_
  exact⟨y,_,K,AxL (ob:=ob) (objs:=objs) hd hr3 T⟩
 have F:execOp a.eval o0=(do pure (.value (<-Instr.next (.pointer (some ⟨b,0,none⟩)) false o0.type))):=by
  obtain⟨od,op,ot,opos,oafter,oguard⟩:=o0;simp only at p2;subst p2;have:a.eval (.tmp t)=.pointer (some ⟨b,0,none⟩):=hbv;simp[execOp,this]
 unfold Oper.wp;rw[F];rcases run_next_at (P:=P) w o0.type b M g c0 seen B clock q1 q3 J (by omega)with⟨z1,z2⟩|⟨e,he,N,s,z2⟩
 ·simp only[Sem.run_bind,z2,Result.andThen_ok,Sem.run_pure,Oper.upon,p1];refine fin false [] _ (Ac sl ob).objs U w l ?_ ob (fun _=>rfl) (O fun n=>?_)
  ·refine .tup _ _ rfl (fun i x h=>?_)
   match i,h with
   |0,h=>simp at h;subst h;exact .mk_v rfl
   |i+1,h=>simp at h
  ·cases hr:rem n with
   |false=>rfl
   |true=>
    obtain⟨i,e,q,C,E⟩:=(q8 n).1 hr
    have o:e∈leftOf B seen:=by
     unfold leftOf;rw[M4];exact⟨F0 q,by simpa using E⟩
    have:=H6 z1;rw[this]at o;simp at o
 ·simp only[Sem.run_bind,z2,Result.andThen_ok,Sem.run_pure,Oper.upon,p1]
  have o:e∈B/\seen.contains e.born=false:=by
   have:e∈leftOf B seen:=by simpa using he
   unfold leftOf at this;rw[M4]at this;exact⟨this.1,by simpa using this.2⟩
  obtain⟨i,hi⟩:=L6.1 o.1;obtain⟨n,D,_⟩:=W.1 i e hi;have G:rem n=true:=(q8 n).2 ⟨i,e,hi,D,o.2⟩
  have L:Rel cx U (Ac sl ob) a N:=by
   rcases s with rfl|rfl
   ·exact l
   ·exact l.drew
  have hq1:N.heap[b]?=some (.mapIter (some M) g seen c0):=by rcases s with rfl|rfl<;>exact q1
  have hq3:N.heap[M]?=some (.map B clock):=by rcases s with rfl|rfl<;>exact q3
  have X:Ap cx.Av U (Ac sl ob).objs N M:=by rcases s with rfl|rfl<;>exact q2
  have hrep:∀(i:Nat) (e:MapEntry) (n:Int),B[i]?=some e->e.key=.int .i64 n->Rep (Ap cx.Av U (Ac sl ob).objs N) N e.val (f n):=fun i e n hi D=>(q7 i e n hi D).mono (fun b hb=>by rcases s with rfl|rfl<;>exact hb) (fun b hb=>by rcases s with rfl|rfl<;>rfl)
  have hput:=L.reput (bd':=.mq (.it f (Bf rem n false) (some n))) H hl trivial trivial trivial hq1 (.mapIter (some M) g (seen.push e.born) clock) fun S' w' hS hw hb objs'=>by
   refine⟨b,M,B,clock,g,seen.push e.born,clock,has,rfl,hb,hS _ X,by rw[hw _ X];exact hq3,W,q5,rfl,fun i e n hi D=>(hrep i e n hi D).mono hS hw,fun m=>?_,fun m z=>?_⟩
   ·constructor
    ·intro z;simp only[Bf]at z;split at z
     ·simp at z
     ·rename_i hne;obtain⟨j,V,q,C,E⟩:=(q8 m).1 z;refine⟨j,V,q,C,?_⟩;simp only[K7,E3];refine⟨E,?_⟩;simp only[beq_eq_false_iff_ne,ne_eq];intro hbb;have:=W.2.2.2.2 j i V e q hi hbb;subst this;rw[hi]at q;injection q with q
      subst q;rw[D]at C;injection C with _ C
      exact hne C.symm
    ·rintro⟨j,V,q,C,E⟩;simp only[K7,E3]at E;have z:=(q8 m).2 ⟨j,V,q,C,E.1⟩;simp only[Bf];split
     ·rename_i hmn;subst hmn;have:=W.2.2.1 j i V e m q hi C D;subst this;rw[hi]at q;injection q with q
      subst q;simp at E
     ·exact z
   ·injection z with z
    subst z;exact⟨rfl,i,e,hi,D,by simp⟩
  refine fin true [.any,.any] _ _ U _ hput ?_ ((k,⟨0,.mq (.it f (Bf rem n false) (some n))⟩)::ob) (fun j=>rfl) (hgo n G);refine .tup _ _ rfl (fun i x h=>?_)
  match i,h with
  |0,h=>simp at h;subst h;exact .mk_v rfl
  |1,h=>simp at h;subst h;exact .any _
  |2,h=>simp at h;subst h;exact .any _
  |i+3,h=>simp at h
def opn(k:Nat)(born:Int->Nat)(clock:Nat):List (Nat×Obj)->List (Nat×Obj)
 |[]=>[]
 |(j,o)::r=>bif Nat.beq j k then(match o with
  |⟨g,.mp z has f⟩=>(j,⟨g,.mq (.clk z has f born clock)⟩)::r
  |o=>(j,o)::r)else(j,o)::opn k born clock r
theorem opn_get{k:Nat}{born:Int->Nat}{clock:Nat}:∀{ob:List (Nat×Obj)} {g:Nat} {z:PV} {has:Int->Bool} {f:Int->PV},assoc ob k=some ⟨g,.mp z has f⟩ ->
  ∀j,assoc (opn k born clock ob) j=if j=k then some ⟨g,.mq (.clk z has f born clock)⟩else assoc ob j:=by
 intro ob
 induction ob with
 |nil=>intro g z has f h;simp[assoc]at h
 |cons p r l=>
  intro g z has f h j;obtain⟨i,o⟩:=p;simp only[assoc]at h;simp only[opn]
  cases a:Nat.beq i k with
  |true=>
   have e:=A3 a;subst e;rw[Cr,cond_true]at h;injection h with h
   subst h;simp only[cond_true,assoc]
   by_cases hj:j=i
   ·subst hj;simp[Cr]
   ·rw[Dt hj,if_neg hj]
    rfl
  |false=>
   have b:k≠i:=fun e=>by subst e;rw[Cr]at a;simp at a
   rw[Dt b,cond_false]at h;simp only[cond_false,assoc]
   by_cases hj:j=i
   ·subst hj;rw[if_neg (fun e=>b e.symm),Cr];rfl
   ·rw[Dt hj,cond_false,cond_false];exact l h j
def isMap:Option Obj->Bool
 |some ⟨_,.mp _ _ _⟩=>true
 |_=>false
theorem Rel.openMap{U:Bs}{a:Act}{w:World}{k:Nat}{sl:List (Nat×MV)}{ob:List (Nat×Obj)}(E:isMap (assoc ob k)=true)(h:Rel cx U (Ac sl ob) a w):
  ∃born clock,Rel cx U (Ac sl (opn k born clock ob)) a w:=by
 cases C:assoc ob k with
 |none=>rw[C]at E;simp[isMap]at E
 |some o=>
  obtain⟨g,bd⟩:=o;rw[C]at E
  cases bd with
  |mp z has f=>
   have q:(Ac sl ob).objs k=some ⟨g,.mp z has f⟩:=C;obtain⟨b,s,clock,T,W,R,X,Y⟩:=h.ob k _ q
   let born:Int->Nat:=fun n=>((s.toList.find? (fun e=>decide (e.key=.int .i64 n))).map (·.born)).getD 0
   have x:∀(i:Nat) (e:MapEntry) (n:Int),s[i]?=some e->e.key=.int .i64 n->e.born=born n:=by
    intro i e n hi D;show e.born=((s.toList.find? (fun e=>decide (e.key=.int .i64 n))).map (·.born)).getD 0
    cases B:s.toList.find? (fun e=>decide (e.key=.int .i64 n))with
    |none=>
     rw[G4]at B
     exact absurd D (by simpa using B e (by simpa using F0 hi))
    |some O=>
     have V:=F3 B;have A:=D0 B;obtain⟨j,l⟩:=L6.1 (by simpa using A:O∈s);have:=R.2.2.1 i j e O n hi l D (by simpa using V);subst this;rw[hi]at l;injection l with l
     subst l;rfl
   have e:Ac sl (opn k born clock ob)=⟨(Ac sl ob).slots,Bm (Ac sl ob).objs k ⟨g,.mq (.clk z has f born clock)⟩⟩:=by
    show St.mk _ (assoc (opn k born clock ob))=_;congr 1;funext j;rw[opn_get C];simp only[Bm]
    by_cases l:j=k
    ·subst l;simp[Cr]
    ·rw[if_neg l,Dt l];rfl
   refine⟨born,clock,?_⟩;rw[e]
   have L:∀H,Ap cx.Av U (Ac sl ob).objs w H->Ap cx.Av U (Bm (Ac sl ob).objs k ⟨g,.mq (.clk z has f born clock)⟩) w H:=by
    intro H r;refine⟨r.1,r.2.1,fun j o l y=>?_⟩
    by_cases e:j=k
    ·subst e;exact r.2.2 j _ q trivial
    ·rw[Cl _ _ e]at l;exact r.2.2 j o l y
   have N:Grows U U (Ac sl ob).objs (Bm (Ac sl ob).objs k ⟨g,.mq (.clk z has f born clock)⟩):=by
    intro j o l
    by_cases e:j=k
    ·subst e;rw[q]at l;injection l with l;subst l
     exact⟨_,Bj _ _ _,B2 _,fun _=>⟨rfl,trivial⟩⟩
    ·exact⟨o,by rw[Cl _ _ e];exact l,B2 _,fun _=>⟨rfl,Body.same_refl _⟩⟩
   have hold:∀j m,Bm (Ac sl ob).objs k ⟨g,.mq (.clk z has f born clock)⟩ j=some m->∃o,(Ac sl ob).objs j=some o/\o.gen=m.gen/\(o.body.live↔m.body.live):=by
    intro j m l
    by_cases e:j=k
    ·subst e;rw[Bj]at l;injection l with l;subst l
     exact⟨_,q,rfl,Iff.rfl⟩
    ·rw[Cl _ _ e]at l;exact⟨_,l,rfl,Iff.rfl⟩
   refine⟨h.nd,h.sz,fun t=>(h.sl t).mono N L (fun _ _=>rfl),fun j m l=>?_,fun j m b l y x=>?_,fun j M o m b l I y J G x=>?_,h.kept,h.avo,h.avlt,h.mle,fun j m K l u=>?_⟩
   ·have l:Bm (Ac sl ob).objs k ⟨g,.mq (.clk z has f born clock)⟩ j=some m:=l
    by_cases e:j=k
    ·subst e;rw[Bj]at l;injection l with l;subst l
     exact⟨b,s,T,W,R,X,fun i e n hi D=>(Y i e n hi D).mono L (fun _ _=>rfl),x⟩
    ·rw[Cl _ _ e]at l;exact(h.ob j m l).mono N L (fun _ _=>rfl) (fun _ _=>rfl)
   ·obtain⟨o,v,_,F⟩:=hold j m l;exact h.blk j o b v (F.2 y) x
   ·obtain⟨p,v,_,F⟩:=hold j o l;obtain⟨p',s1,_,s3⟩:=hold M m I;exact h.inj j M p p' b v s1 (F.2 y) (s3.2 J) G x
   ·obtain⟨o,v,r2,_⟩:=hold j m l
    exact h.oloc j o K v (by rw[r2];exact u)
  |_=>simp[isMap]at E
theorem DW.openMap{c:Code}{r:List Code}(k:Nat){sl:List (Nat×MV)}{ob:List (Nat×Obj)}(h:∀born clock,DW P cx (c::r) (Ac sl (opn k born clock ob)) Q)(f:isMap (assoc ob k)=true:=by kernel_rfl):DW P cx (c::r) (Ac sl ob) Q:=by
 intro U a w g;obtain⟨born,clock,b⟩:=g.openMap f;exact h born clock U a w b
end
end Go.Dm

namespace Go.Dm
structure Ia where
 min:Int
 low:Int
 high:Int
 max:Int
 swapMax:Int
 together:Bool
 deriving Inhabited
def Aak(x:Ia):List PV:=[vi x.min,vi x.low,vi x.high,vi x.max,vi x.swapMax,vb x.together]
def Ahj(x y:Ia):Bool:=((x.min==y.min)&&((x.low==y.low)&&((x.high==y.high)&&((x.max==y.max)&&((x.swapMax==y.swapMax)&&((x.together==y.together)&&true))))))
structure Be where
 device:Int
 weight:Int
 readPages:Int
 writePages:Int
 readOps:Int
 writeOps:Int
 target:Int
 deriving Inhabited
def Dv(x:Be):List PV:=[vi x.device,vi x.weight,vi x.readPages,vi x.writePages,vi x.readOps,vi x.writeOps,vi x.target]
abbrev Hi:Be:=default
abbrev Ef(L:List Be):PV:=Lq 7 Dv default L
abbrev Bd(L:List Be):Body:=AkE 7 Dv default L
abbrev Apk(L:List Be):Nat->List PV:=elems Dv default L
def AgE(x y:Be):Bool:=((x.device==y.device)&&((x.weight==y.weight)&&((x.readPages==y.readPages)&&((x.writePages==y.writePages)&&((x.readOps==y.readOps)&&((x.writeOps==y.writeOps)&&((x.target==y.target)&&true)))))))
structure As where
 pidsMax:Int
 weight:Int
 quota:Int
 period:Int
 burst:Int
 clampMin:Int
 clampMax:Int
 cpus:List Int
 mems:List Int
 partition:Int
 memory:Ia
 devices:List Be
 deriving Inhabited
def Ee(x:As):List PV:=[vi x.pidsMax,vi x.weight,vi x.quota,vi x.period,vi x.burst,vi x.clampMin,vi x.clampMax,Lq 1 Cj 0 x.cpus,Lq 1 Cj 0 x.mems,vi x.partition,vi x.memory.min,vi x.memory.low,vi x.memory.high,vi x.memory.max,vi x.memory.swapMax,vb x.memory.together,Lq 7 Dv default x.devices]
structure Ai where
 group:Int
 settings:As
 deriving Inhabited
def Ew(x:Ai):List PV:=[vi x.group,vi x.settings.pidsMax,vi x.settings.weight,vi x.settings.quota,vi x.settings.period,vi x.settings.burst,vi x.settings.clampMin,vi x.settings.clampMax,Lq 1 Cj 0 x.settings.cpus,Lq 1 Cj 0 x.settings.mems,vi x.settings.partition,vi x.settings.memory.min,vi x.settings.memory.low,vi x.settings.memory.high,vi x.settings.memory.max,vi x.settings.memory.swapMax,vb x.settings.memory.together,Lq 7 Dv default x.settings.devices]
abbrev Ix:Ai:=default
abbrev Bc(L:List Ai):PV:=Lq 18 Ew default L
abbrev Ct(L:List Ai):Body:=AkE 18 Ew default L
abbrev Apj(L:List Ai):Nat->List PV:=elems Ew default L
structure plan where
 tree:Ae
 configs:List Ai
 sets:IMap (List Int)
 partitions:IMap Bool
 deriving Inhabited
def Ake(a:As):Option As:=(if a.cpus.length<=1073741824 then(if a.mems.length<=1073741824 then(if a.devices.length<=1073741824 then(some a)else none)else none)else none)
def Aac:Option Ia:=(some (⟨0,0,4611686018427387904,4611686018427387904,4611686018427387904,false⟩:Ia))
def Yq:Option (List Be):=(some [])
def Vu:Option As:=(Option.bind Aac fun b=>(Option.bind Yq fun a=>(some (⟨4611686018427387904,100,4611686018427387904,100000,0,0,10000,[],[],0,b,a⟩:As))))
def Aor(p1:Int)(k1:Nat)(b:Ai)(f:Unit)(n1:Unit->Option As):Option As:=(if(b.group==p1)then((Ake b.settings).bind fun a=>(some a))else(n1 ()))
def Awf(b:Unit):Option As:=(Option.bind Vu fun a=>(some a))
def Asp(a:List Ai)(p1:Int):Option As:=(if a.length<=9223372036854775807 then Ba (Aor p1) Awf a 0 ()else none)
def Db(a:Int)(p1:Int)(p2:Int):Option Bool:=(some ((decide (a>=p1))&&(decide (a<=p2))))
def Pa(a:Bool):Option Bool:=(some a)
def Kq(a:Bool):Option Bool:=(some a)
def My(a:As):Option Bool:=(if(a.quota==4611686018427387904)then((Db a.period 1 1000000).bind fun b=>(if b then(Pa (a.burst==0))else(Pa false)))else((Db a.period 1 1000000).bind fun f=>(if f then((Db a.quota 1 1000000).bind fun g=>(if g then((Db a.burst 0 a.quota).bind fun h=>(Kq h))else(Kq false)))else(Kq false))))
def Th(n1:Unit->Option Bool)(a:Bool):Option Bool:=(if a then(some false)else(n1 ()))
def Amy(b:List Int)(p1:Int)(k1:Nat)(a:Int)(f:Unit)(n1:Unit->Option Bool):Option Bool:=(if(decide (a<0))then((Th n1) true)else(if(decide (a>=p1))then((Th n1) true)else(if(decide ((k1:Int)>0))then(if 0<=(w64 ((k1:Int)-1))/\(w64 ((k1:Int)-1))<(b.length:Int)then((Th n1) (decide (a<=(b.getD (Int.toNat (w64 ((k1:Int)-1))) 0))))else none)else((Th n1) false))))
def Avg(a:Unit):Option Bool:=(some true)
def Pb(a:List Int)(p1:Int):Option Bool:=(if a.length<=9223372036854775807 then Ba (Amy a p1) Avg a 0 ()else none)
def Fr(a:Int)(p1:Int)(p2:Int):Option Bool:=(some (((decide (a>=p1))&&(decide (a<=p2)))||(a==4611686018427387904)))
def Iq(a:Bool):Option Bool:=(some a)
def Hf(a:Ia):Option Bool:=((Fr a.min 0 1099511627776).bind fun i=>(if i then((Fr a.low 0 1099511627776).bind fun f=>(if f then((Fr a.high 0 1099511627776).bind fun h=>(if h then((Fr a.max 0 1099511627776).bind fun g=>(if g then((Fr a.swapMax 0 1099511627776).bind fun b=>(Iq b))else(Iq false)))else(Iq false)))else(Iq false)))else(Iq false)))
def Bq(n1:Unit->Option Bool)(a:Bool):Option Bool:=(if a then(some false)else(n1 ()))
def Aeo(m:List Be)(k1:Nat)(a:Be)(n:Unit)(n1:Unit->Option Bool):Option Bool:=(if(decide (a.device<0))then((Bq n1) true)else(if(decide (a.device>=8))then((Bq n1) true)else(if(decide ((k1:Int)>0))then(if 0<=(w64 ((k1:Int)-1))/\(w64 ((k1:Int)-1))<(m.length:Int)then(if(decide (a.device<=(m.getD (Int.toNat (w64 ((k1:Int)-1))) default).device))then((Bq n1) true)else(if(decide (a.weight<1))then((Bq n1) true)else(if(decide (a.weight>10000))then((Bq n1) true)else((Fr a.readPages 1 1073741824).bind fun j=>(if(!j)then((Bq n1) true)else((Fr a.writePages 1 1073741824).bind fun h=>(if(!h)then((Bq n1) true)else((Fr a.readOps 1 1073741824).bind fun k=>(if(!k)then((Bq n1) true)else((Fr a.writeOps 1 1073741824).bind fun f=>(if(!f)then((Bq n1) true)else(if(decide (a.target<0))then((Bq n1) true)else((Bq n1) (decide (a.target>1048576)))))))))))))))else none)else(if(decide (a.weight<1))then((Bq n1) true)else(if(decide (a.weight>10000))then((Bq n1) true)else((Fr a.readPages 1 1073741824).bind fun b=>(if(!b)then((Bq n1) true)else((Fr a.writePages 1 1073741824).bind fun i=>(if(!i)then((Bq n1) true)else((Fr a.readOps 1 1073741824).bind fun g=>(if(!g)then((Bq n1) true)else((Fr a.writeOps 1 1073741824).bind fun l=>(if(!l)then((Bq n1) true)else(if(decide (a.target<0))then((Bq n1) true)else((Bq n1) (decide (a.target>1048576)))))))))))))))))
def AmF(a:List Be)(b:Unit):Option Bool:=(some (decide ((a.length:Int)<=8)))
def Gj(a:List Be):Option Bool:=(if a.length<=9223372036854775807 then Ba (Aeo a) (AmF a) a 0 ()else none)
def Cc(a:Bool):Option Bool:=(some a)
def Ps(a:As):Option Bool:=(if(a.pidsMax==4611686018427387904)then((Db a.weight 1 10000).bind fun h=>(if h then((My a).bind fun s=>(if s then((Db a.clampMin 0 10000).bind fun q=>(if q then((Db a.clampMax 0 10000).bind fun l=>(if l then((Pb a.cpus 16).bind fun j=>(if j then((Pb a.mems 8).bind fun b=>(if b then((Db a.partition 0 1).bind fun g=>(if g then((Hf a.memory).bind fun n=>(if n then((Gj a.devices).bind fun r=>(Cc r))else(Cc false)))else(Cc false)))else(Cc false)))else(Cc false)))else(Cc false)))else(Cc false)))else(Cc false)))else(Cc false)))else((Db a.pidsMax 0 1099511627776).bind fun u=>(if u then((Db a.weight 1 10000).bind fun v=>(if v then((My a).bind fun x=>(if x then((Db a.clampMin 0 10000).bind fun y=>(if y then((Db a.clampMax 0 10000).bind fun o=>(if o then((Pb a.cpus 16).bind fun m=>(if m then((Pb a.mems 8).bind fun k=>(if k then((Db a.partition 0 1).bind fun t=>(if t then((Hf a.memory).bind fun f=>(if f then((Gj a.devices).bind fun i=>(Cc i))else(Cc false)))else(Cc false)))else(Cc false)))else(Cc false)))else(Cc false)))else(Cc false)))else(Cc false)))else(Cc false)))else(Cc false))))
def Xq(n1:Unit->Option Bool)(a:Bool):Option Bool:=(if a then(some false)else(n1 ()))
def Aiw(p1:List Ai)(k1:Nat)(b:Ah)(f:Unit)(n1:Unit->Option Bool):Option Bool:=(if k1<p1.length then(if((p1.getD k1 default).group !=b.id)then((Xq n1) true)else(if k1<p1.length then((Ps (p1.getD k1 default).settings).bind fun a=>((Xq n1) (!a)))else none))else none)
def Aqq(a:Unit):Option Bool:=(some true)
def Rr(a:Ae)(p1:List Ai)(b:Bool):Option Bool:=(if b then(some false)else(if a.nodes.length<=9223372036854775807 then Ba (Aiw p1) Aqq a.nodes 0 ()else none))
def Lj(a:Ae)(p1:List Ai):Option Bool:=((Ig a).bind fun b=>(if(!b)then((Rr a p1) true)else((Rr a p1) ((p1.length:Int)!=(a.nodes.length:Int)))))
def Ru(a:Bool):Option Bool:=(some a)
def Qz(f:Ae)(p1:List Ai)(p2:List Int)(b:Int):Option Bool:=((Lj f p1).bind fun g=>(if g then(if(decide ((p2.length:Int)>0))then((Pb p2 b).bind fun a=>(Ru a))else(Ru false))else(Ru false)))
def Abf(a:Ai)(p1:Int):Option Bool:=(some (a.group==p1))
def Gq(a:Int)(k1:Nat)(f:Ai)(g:Unit)(n1:Unit->Option Int):Option Int:=((Abf f a).bind fun b=>(if b then(some (k1:Int))else(n1 ())))
def Wb(a:Unit):Option Int:=(some (-1))
def Fb(b:List Ai)(a:Int):Option Int:=(if b.length<=9223372036854775807 then Ba (Gq a) Wb b 0 ()else none)
def AaJ(b:List Ai)(p1:Int):Option Int:=((Fb b p1).bind fun a=>(some a))
def AgZ:Option As:=(Option.bind Aac fun b=>(Option.bind Yq fun a=>(some (⟨4611686018427387904,100,4611686018427387904,100000,0,0,10000,[],[],0,b,a⟩:As))))
def Gf(a:List Be):Option (List Be):=(if 0+a.length<=1073741824 then(some a)else none)
def Rf(a:List Be):Option (List Be):=(some [])
def Oc(a:As):Option As:=((Eg a.cpus).bind fun f=>((Eg a.mems).bind fun b=>((Gf a.devices).bind fun g=>(some ({a with cpus:=f,mems:=b,devices:=g}:As)))))
def Gn(b:List Ai)(p1:Int):Option As:=((AaJ b p1).bind fun a=>(if(decide (a<0))then(Option.bind AgZ fun f=>(some f))else(if 0<=a/\a<(b.length:Int)then((Oc (b.getD a.toNat default).settings).bind fun g=>(some g))else none)))
def AdI(b:List Int)(p1:Int):Option Bool:=((Fq b p1).bind fun a=>(some a))
def AeW(b:Int)(p1:List Int):Option Bool:=((AdI p1 b).bind fun a=>(some (!a)))
def Nd(a:List Int)(k1:Nat)(f:Int)(g:Unit)(n1:Unit->Option Int):Option Int:=((AeW f a).bind fun b=>(if b then(some (k1:Int))else(n1 ())))
def Xy(a:Unit):Option Int:=(some (-1))
def Ir(b:List Int)(a:List Int):Option Int:=(if b.length<=9223372036854775807 then Ba (Nd a) Xy b 0 ()else none)
def Hk(f:List Int)(a:List Int):Option Bool:=((Ir f a).bind fun b=>(some (decide (b>=0))))
def AaW(b:List Int)(p1:List Int):Option Bool:=((Hk b p1).bind fun a=>(some (!a)))
def AaL(g:List Int):Option (List Int):=((Eg g).bind fun f=>((Nz f).bind fun b=>(if f.length=b.length then((Jw b).bind fun a=>(if b.length=a.2.length then(if a.1<=a.2.length then(some (a.2.take a.1))else none)else none))else none)))
def Ahi(b:Int)(p1:List Int):Option Bool:=((AdI p1 b).bind fun a=>(some (!a)))
def Hh(f:Int)(a:List Int):Option Bool:=((Ahi f a).bind fun b=>(some (!b)))
def Hn(a:List Int)(k1:Nat)(f:Int)(g:Unit)(n1:Unit->Option Int):Option Int:=((Hh f a).bind fun b=>(if b then(some (k1:Int))else(n1 ())))
def Pv(a:Unit):Option Int:=(some (-1))
def Ex(b:List Int)(a:List Int):Option Int:=(if b.length<=9223372036854775807 then Ba (Hn a) Pv b 0 ()else none)
def Df(b:(List Int)×Int×Int)(n1:((List Int)×Int×Int)->Option (Nat×(List Int)×(List Int)))(a:(List Int)×Int):Option (Nat×(List Int)×(List Int)):=(n1 (a.1,a.2,(w64 (b.2.2+1))))
def El(b:List Int)(a:(List Int)×Int×Int)(n1:((List Int)×Int×Int)->Option (Nat×(List Int)×(List Int))):Option (Nat×(List Int)×(List Int)):=(if(decide (a.2.2<(a.1.length:Int)))then(if 0<=a.2.2/\a.2.2<(a.1.length:Int)then(if a.2.2.toNat<a.1.length then((Hh (a.1.getD a.2.2.toNat 0) b).bind fun f=>(if(!f)then(if 0<=a.2.1/\a.2.1<(a.1.length:Int)then(if a.2.1.toNat<a.1.length then((Df a n1) ((a.1.set a.2.1.toNat (a.1.getD a.2.2.toNat 0)),(w64 (a.2.1+1))))else none)else none)else((Df a n1) (a.1,a.2.1))))else none)else none)else(if 0<=a.2.1/\a.2.1<=(a.1.length:Int)then(if a.2.1.toNat+(Cq a.1.length a.2.1.toNat)<=a.1.length then(if 0<=a.2.1/\a.2.1<=(((Iu a.1 a.2.1.toNat (Cq a.1.length a.2.1.toNat) 0).length:Nat):Int)then(some (a.2.1.toNat,(Iu a.1 a.2.1.toNat (Cq a.1.length a.2.1.toNat) 0),b))else none)else none)else none))
def Di(b:List Int)(a:List Int):Option (Nat×(List Int)×(List Int)):=((Ex b a).bind fun f=>(if(f==(-1))then(some (b.length,b,a))else(whileO (El a) Ik (b,f,(w64 (f+1))))))
def Qp(g:List Int)(b:List Int):Option ((List Int)×(List Int)):=((AaL g).bind fun f=>((Di f b).bind fun a=>(if f.length=a.2.1.length then(if a.1<=a.2.1.length then(some ((a.2.1.take a.1),a.2.2))else none)else none)))
def AbV(b:List Int)(p1:List Int):Option (List Int):=((Qp b p1).bind fun a=>(some a.1))
def Abu(b:Int)(p1:List Int):Option Bool:=((AdI p1 b).bind fun a=>(some a))
def Fo(f:Int)(a:List Int):Option Bool:=((Abu f a).bind fun b=>(some (!b)))
def Gl(a:List Int)(k1:Nat)(f:Int)(g:Unit)(n1:Unit->Option Int):Option Int:=((Fo f a).bind fun b=>(if b then(some (k1:Int))else(n1 ())))
def Np(a:Unit):Option Int:=(some (-1))
def Ek(b:List Int)(a:List Int):Option Int:=(if b.length<=9223372036854775807 then Ba (Gl a) Np b 0 ()else none)
def Cv(b:(List Int)×Int×Int)(n1:((List Int)×Int×Int)->Option (Nat×(List Int)×(List Int)))(a:(List Int)×Int):Option (Nat×(List Int)×(List Int)):=(n1 (a.1,a.2,(w64 (b.2.2+1))))
def Ea(b:List Int)(a:(List Int)×Int×Int)(n1:((List Int)×Int×Int)->Option (Nat×(List Int)×(List Int))):Option (Nat×(List Int)×(List Int)):=(if(decide (a.2.2<(a.1.length:Int)))then(if 0<=a.2.2/\a.2.2<(a.1.length:Int)then(if a.2.2.toNat<a.1.length then((Fo (a.1.getD a.2.2.toNat 0) b).bind fun f=>(if(!f)then(if 0<=a.2.1/\a.2.1<(a.1.length:Int)then(if a.2.1.toNat<a.1.length then((Cv a n1) ((a.1.set a.2.1.toNat (a.1.getD a.2.2.toNat 0)),(w64 (a.2.1+1))))else none)else none)else((Cv a n1) (a.1,a.2.1))))else none)else none)else(if 0<=a.2.1/\a.2.1<=(a.1.length:Int)then(if a.2.1.toNat+(Cq a.1.length a.2.1.toNat)<=a.1.length then(if 0<=a.2.1/\a.2.1<=(((Iu a.1 a.2.1.toNat (Cq a.1.length a.2.1.toNat) 0).length:Nat):Int)then(some (a.2.1.toNat,(Iu a.1 a.2.1.toNat (Cq a.1.length a.2.1.toNat) 0),b))else none)else none)else none))
def Cy(b:List Int)(a:List Int):Option (Nat×(List Int)×(List Int)):=((Ek b a).bind fun f=>(if(f==(-1))then(some (b.length,b,a))else(whileO (Ea a) Ik (b,f,(w64 (f+1))))))
def Nc(g:List Int)(b:List Int):Option ((List Int)×(List Int)):=((AaL g).bind fun f=>((Cy f b).bind fun a=>(if f.length=a.2.1.length then(if a.1<=a.2.1.length then(some ((a.2.1.take a.1),a.2.2))else none)else none)))
def Zb(b:List Int)(p1:List Int):Option (List Int):=((Nc b p1).bind fun a=>(some a.1))
def Yd(b:List Int)(p1:List Int):Option (List Int):=((Zb b p1).bind fun a=>(if(decide ((a.length:Int)>0))then(some a)else((Eg p1).bind fun f=>(some f))))
noncomputable def Nu(n1:((IMap (List Int))×(List Int)×(IMap Bool)×(List Int))->Option plan)(a:(IMap (List Int))×(List Int)×(IMap Bool)×(List Int)):Option plan:=(n1 (a.1,a.2.1,a.2.2.1,a.2.2.2))
noncomputable def Fv(f:Int)(a:(IMap (List Int))×(List Int)×(IMap Bool)×(List Int))(n1:((IMap (List Int))×(List Int)×(IMap Bool)×(List Int))->Option plan)(b:As)(h:Bool):Option plan:=(if h then((AbV a.2.2.2 b.cpus).bind fun g=>((Nu n1) ((a.1.set f b.cpus),a.2.1,(a.2.2.1.set f true),g)))else(if a.2.1.length+1<=1073741824 then((Nu n1) (a.1,(a.2.1++[f]),a.2.2.1,a.2.2.2))else none))
noncomputable def AbH(h:plan)(p1:Int)(k1:Nat)(f:Int)(b:(IMap (List Int))×(List Int)×(IMap Bool)×(List Int))(n1:((IMap (List Int))×(List Int)×(IMap Bool)×(List Int))->Option plan):Option plan:=((Gn h.configs f).bind fun a=>(if(a.partition==1)then(if(b.2.2.1.get p1)then(if(decide ((a.cpus.length:Int)>0))then((AaW a.cpus b.2.2.2).bind fun g=>(if g then((Fv f b n1 a) (decide ((b.2.2.2.length:Int)>(a.cpus.length:Int))))else((Fv f b n1 a) false)))else((Fv f b n1 a) false))else((Fv f b n1 a) false))else((Fv f b n1 a) false)))
noncomputable def Aau(k:plan)(j:(IMap (List Int))×(List Int)×(IMap Bool)×(List Int))(i:Nat)(a:Int)(h:IMap (List Int))(g:(IMap (List Int))->Option plan):Option plan:=((Gn k.configs a).bind fun f=>((Yd f.cpus j.2.2.2).bind fun b=>(g (h.set a b))))
noncomputable def AaD(h:plan->Int->(List Int)->Option plan)(g:IMap (List Int))(f:Int)(b:(List Ah)×Int×(List Ai)×(IMap (List Int))×(IMap Bool))(i:((List Ah)×Int×(List Ai)×(IMap (List Int))×(IMap Bool))->Option plan):Option plan:=((h (⟨⟨b.1,b.2.1⟩,b.2.2.1,b.2.2.2.1,b.2.2.2.2⟩:plan) f (g.get f)).bind fun a=>(i (a.tree.nodes,a.tree.next,a.configs,a.sets,a.partitions)))
noncomputable def AaF(a:(List Ah)×Int×(List Ai)×(IMap (List Int))×(IMap Bool)):Option plan:=(some (⟨⟨a.1,a.2.1⟩,a.2.2.1,a.2.2.2.1,a.2.2.2.2⟩:plan))
noncomputable def Ry(f:plan->Int->(List Int)->Option plan)(b:plan)(p1:Int)(g:(IMap (List Int))×(List Int)×(IMap Bool)×(List Int))(a:IMap (List Int)):Option plan:=(rangeM (AaD f a) AaF Ik a.has (b.tree.nodes,b.tree.next,b.configs,(b.sets.set p1 g.2.2.2),g.2.2.1))
noncomputable def Nt(b:plan->Int->(List Int)->Option plan)(f:plan)(p1:Int)(a:(IMap (List Int))×(List Int)×(IMap Bool)×(List Int)):Option plan:=(if a.2.1.length<=9223372036854775807 then Ba (Aau f a) (Ry b f p1 a) a.2.1 0 a.1 else none)
noncomputable def Ox(b:plan->Int->(List Int)->Option plan)(a:plan)(p1:Int)(p2:List Int):Option plan:=((Nw a.tree p1).bind fun f=>(if f.length<=9223372036854775807 then Ba (AbH a p1) (Nt b a p1) f 0 ((IMap.empty ([]:List Int)),[],a.partitions,p2)else none))
noncomputable def Gk:Nat->plan->Int->(List Int)->Option plan
 |0,_,_,_=>none
 |n+1,p0,p1,p2=>Ox (Gk n) p0 p1 p2
noncomputable def Ws(a:plan)(p1:Int)(p2:List Int):Option plan:=Gk Ik a p1 p2
noncomputable def Aio(b:Ae)(p1:List Ai)(p2:List Int):Option plan:=((Eg p2).bind fun f=>((Ws (⟨b,p1,(IMap.empty ([]:List Int)),((IMap.empty false).set 1 true)⟩:plan) 1 f).bind fun a=>(some ({a with partitions:=(a.partitions.del 1 false)}:plan))))
noncomputable def AaS(a:Ae)(p1:List Ai)(p2:List Int)(f:Int):Option (List Int):=((Qz a p1 p2 16).bind fun h=>(if(!h)then(some [])else((Aio a p1 p2).bind fun g=>((Eg (g.sets.get f)).bind fun b=>(some b)))))
def Wz(n1:(Aj×(List Int))->Option ((List Int)×Aj))(a:Aj×(List Int)):Option ((List Int)×Aj):=(n1 (a.1,a.2))
def AiE(k1:Int)(a:Aj×(List Int))(n1:(Aj×(List Int))->Option ((List Int)×Aj)):Option ((List Int)×Aj):=((Dk a.1 3).bind fun b=>(if b.1 then(if a.2.length+1<=1073741824 then((Wz n1) (b.2,(a.2++[k1])))else none)else((Wz n1) (b.2,a.2))))
def AhI(a:Aj×(List Int)):Option ((List Int)×Aj):=(some (a.2,a.1))
def Qx(a:Aj)(p1:Int):Option ((List Int)×Aj):=(if p1<=9223372036854775807 then(forO AiE AhI (Int.toNat (p1-0)) 0 (a,[]))else none)
def Aen(k1:Int)(a:List Int)(n1:(List Int)->Option ((List Int)×Aj)):Option ((List Int)×Aj):=(if a.length+1<=1073741824 then(n1 (a++[k1]))else none)
def AeP(b:(List Int)×Aj)(a:List Int):Option ((List Int)×Aj):=(some (a,b.2))
def Va(b:Aj)(p1:Int):Option ((List Int)×Aj):=((Qx b p1).bind fun a=>(if(decide ((a.1.length:Int)>0))then(some (a.1,a.2))else(if p1<=9223372036854775807 then(forO Aen (AeP a) (Int.toNat (p1-0)) 0 [])else none)))
end Go.Dm

namespace Go.Dm
def Uu(f:Aj):Option (Int×Aj):=((Bo f 1000).bind fun b=>((Bo b.2 8).bind fun a=>(if 0<=a.1/\a.1<(([1,100,300,10000,50,200,7,(w64 (1+b.1))].length:Nat):Int)then(if a.1.toNat < [1,100,300,10000,50,200,7,(w64 (1+b.1))].length then(some (([1,100,300,10000,50,200,7,(w64 (1+b.1))].getD a.1.toNat 0),a.2))else none)else none)))
def Lb(k:As)(m:Aj×Int)(n:Int×Aj)(h:Aj×Int×Int)(b:Int×Aj)(g:Int×Aj)(a:Int×Aj)(j:Aj×(List Int))(i:Aj×(List Int))(f:Bool×Aj)(l:Int):Option (As×Aj):=(some (({k with pidsMax:=m.2,weight:=n.1,quota:=h.2.1,period:=(w64 (1+b.1)),burst:=h.2.2,clampMin:=g.1,clampMax:=a.1,cpus:=j.2,mems:=i.2,partition:=l}:As),f.2))
def Ko(i:As)(k:Aj×Int)(m:Int×Aj)(l:Aj×Int×Int)(f:Int×Aj)(g:Int×Aj)(b:Int×Aj)(j:Aj×(List Int))(h:Aj×(List Int)):Option (As×Aj):=((Dk h.1 3).bind fun a=>(if a.1 then((Lb i k m l f g b j h a) 1)else((Lb i k m l f g b j h a) i.partition)))
def Kw(j:As)(k:Aj×Int)(m:Int×Aj)(l:Aj×Int×Int)(g:Int×Aj)(h:Int×Aj)(b:Int×Aj)(i:Aj×(List Int)):Option (As×Aj):=((Dk i.1 2).bind fun a=>(if a.1 then((Qx a.2 4).bind fun f=>((Ko j k m l g h b i) (f.2,f.1)))else((Ko j k m l g h b i) (a.2,j.mems))))
def Kv(i:As)(k:Aj×Int)(l:Int×Aj)(j:Aj×Int×Int):Option (As×Aj):=((Bo j.1 9).bind fun f=>((Bo f.2 10001).bind fun g=>((Bo g.2 10001).bind fun b=>((Dk b.2 2).bind fun a=>(if a.1 then((Qx a.2 6).bind fun h=>((Kw i k l j f g b) (h.2,h.1)))else((Kw i k l j f g b) (a.2,i.cpus)))))))
def Le(a:As)(g:Aj×Int):Option (As×Aj):=((Uu g.1).bind fun h=>((Dk h.2 2).bind fun b=>(if b.1 then((Bo b.2 9).bind fun f=>((Bo f.2 (w64 ((w64 (1+f.1))+1))).bind fun i=>((Kv a g h) (i.2,(w64 (1+f.1)),i.1))))else((Kv a g h) (b.2,a.quota,a.burst)))))
def Mz(g:Aj):Option (As×Aj):=(Option.bind Vu fun b=>((Dk g 2).bind fun a=>(if a.1 then((Bo a.2 6).bind fun f=>((Le b) (f.2,f.1)))else((Le b) (a.2,b.pidsMax)))))
def Lv(f:Ah)(b:Aj×(List Ai))(n1:(Aj×(List Ai))->Option ((List Ai)×Aj))(a:Aj×As):Option ((List Ai)×Aj):=(if b.2.length+1<=1073741824 then(n1 (a.1,(b.2++[(⟨f.id,a.2⟩:Ai)])))else none)
def Ada(k1:Nat)(h:Ah)(g:Aj×(List Ai))(n1:(Aj×(List Ai))->Option ((List Ai)×Aj)):Option ((List Ai)×Aj):=(Option.bind Vu fun f=>((Dk g.1 2).bind fun a=>(if a.1 then((Mz a.2).bind fun b=>((Lv h g n1) (b.2,b.1)))else((Lv h g n1) (a.2,f)))))
def Adb(a:Aj×(List Ai)):Option ((List Ai)×Aj):=(some (a.2,a.1))
def So(a:Aj)(p1:Ae):Option ((List Ai)×Aj):=(if p1.nodes.length<=9223372036854775807 then Ba Ada Adb p1.nodes 0 (a,[])else none)
end Go.Dm

namespace Go.Dm
def Re:Go.Obj->Bool
 | .loop _=>true
 | .deferred _=>true
 |_=>false
theorem Arv{P:Program}{g:Operand}{C:Array Tmp}{assign body:Code}{Q:Exit->Act->World->Prop}{a:Act}{w:World}{gf:Nat}{lb:Array Value}
  (hg:a.eval g=.func (.func gf) #[] lb) (eg:∀args w,(callFunc gf args).run P w=.ok (.enter gf args) w)
  (N:Nat) (encs:Nat->Array Value) (T:∀k,(encs k).size=C.size) (Hd:World->Prop)
  (A:∀(l:Nat) (J:Nat->World->Prop) (W:World),(∀k j,J k j->Hd j) ->
   (∀k j,k<N->J k j->YieldAt (fen none) 0 P l (encs k) j fun e z=>e=.returned (.bool true)/\J (k+1) z)->J 0 W ->
   CallsIn (fen none) 0 P gf (#[.func (.yield l) #[] #[]]++lb) W fun e z=>(∃v,e=.returned v)/\J N z)
  (I:Nat->World->Prop) (hI:∀k W,I k W->Hd W)
  (m:∀k W b o o',I k W->w.heap.size<=b->b<=w.heap.size+1->W.heap[b]?=some o->Re o=true->Re o'=true->I k (W.putObj b o'))
  (h0:∀L,I 0 ((w.alloc (.deferred (some []))).alloc (.loop L))) (r:Nat->Act)
  (n:∀(l k:Nat) (W:World) (K:Act->World->Prop),k<N->K (r k) W ->
   assign.wpIn (fen (some l)) 0 P (Exit.then K (fun _ _ _=>False)) {tmps:=(C.zip (encs k)).foldl (fun t (p,v)=>t.setIfInBounds p v) a.tmps,defers:=[]} W)
  (y:∀(l k:Nat) (W:World),k<N->I k W->body.wpIn (fen (some l)) 0 P (fun e _ z=>e=.normal/\I (k+1) z /\
   ∀b o,w.heap.size<=b->b<=w.heap.size+1->W.heap[b]?=some o->Re o=true->z.heap[b]?=some o) (r k) W)
  (s:∀W,I N W->W.heap[w.heap.size]?=some (.deferred (some []))->Q .normal {a with defers:={target:=.collected w.heap.size,args:=#[]}::a.defers} W):
  (Code.rangeFunc g C assign body).wpIn (fen none) 0 P Q a w:=by
 refine wpIn_rangeFunc fun fn V=>?_
 obtain⟨i,f⟩:∃i:LoopState->Option Code->Loop,i=fun st pe=>{state:=st,pending:=pe,fn,tmps:=a.tmps,params:=C,assign,body,defers:=w.heap.size}:=⟨_,rfl⟩
 obtain⟨j,q⟩:∃j,(w.alloc (.deferred (some []))).alloc (.loop (i .ready none))=j:=⟨_,rfl⟩
 have M:j.heap[w.heap.size+1]?=some (.loop (i .ready none)):=by
  rw[<-q];have:=World.alloc_heap_new (w.alloc (.deferred (some []))) (.loop (i .ready none));rwa [World.size_alloc]at this
 have Y:j.heap[w.heap.size]?=some (.deferred (some [])):=by
  rw[<-q];exact(RowKit.Below.heap_alloc _ _ _ (by simp)).trans (World.alloc_heap_new w _)
 have R:I 0 j:=by rw[<-q];exact h0 _
 refine⟨w.heap.size+1,[{target:=.collected w.heap.size,args:=#[]}],j,{target:=.fn (.func gf) lb,args:=#[.func (.yield (w.heap.size+1)) #[] #[]]},j,gf,
  #[.func (.yield (w.heap.size+1)) #[] #[]]++lb,j,?_,?_,fun _ _=>trivial,?_,fun h=>by simp[fen,Fence.wide]at h,?_⟩
 ·rw[<-q,f];exact run_enterLoop_outer _ _ _ _ _
 ·simp only[resolve,hg];simp[go_sem]
 ·simp[invoke,go_sem,eg]
 ·refine(A (w.heap.size+1)
   (fun k W=>I k W/\W.heap[w.heap.size+1]?=some (.loop (i .ready none))/\W.heap[w.heap.size]?=some (.deferred (some [])))
   j (fun k W h=>hI k W h.1) ?_ ⟨R,M,Y⟩).mono ?_
  ·rintro k W hk ⟨hi,u,D⟩;have F:w.heap.size+1<W.heap.size:=(C3.1 u).1;have hy:=run_yield (P:=P) (args:=encs k) u (by rw[f];exact T k);rw[f]at hy;refine⟨fn,_,assign,body,hy,roundIn_of_wpIn V (n _ k W _ hk ⟨_,run_beginRound u (by rw[f]),?_⟩)⟩;have G:(W.putObj (w.heap.size+1) (.loop {i .ready none with state:=.busy})).heap[w.heap.size+1]?=some (.loop {i .ready none with state:=.busy}):=World.putObj_heap_same F;have E:(W.putObj (w.heap.size+1) (.loop {i .ready none with state:=.busy})).heap[w.heap.size]?=some (.deferred (some [])):=(World.putObj_heap_other (by omega)).trans D;refine wpIn_mono (y _ k _ hk (m k W _ _ _ hi (by omega) (B2 _) u rfl rfl)) ?_;rintro e a3 W3 ⟨rfl,X,B⟩;have x:=B _ _ (by omega) (B2 _) G rfl;have H:=B _ _ (B2 _) (by omega) E rfl;have hr:=run_endRound (P:=P) none x;refine⟨_,_,hr,rfl,m _ _ _ _ _ X (by omega) (B2 _) x rfl rfl,?_,(World.putObj_heap_other (by omega)).trans H⟩;rw[World.putObj_heap_same (C3.1 x).1,f];rfl
  ·rintro e W2 ⟨⟨v,rfl⟩,hi,u,D⟩;refine⟨none,W2.putObj (w.heap.size+1) (.loop (i .exhausted none)),?_,s _ (m _ _ _ _ (.loop (i .exhausted none)) hi (by omega) (B2 _) u rfl rfl) ((World.putObj_heap_other (by omega)).trans D)⟩;have:=run_endLoop (P:=P) u (by rw[f];simp);rw[f]at this;rw[f];exact this
section
variable {P:Program} {cx:Cx P} {U:Bs} {O:St} {a:Act} {w:World} {Q:Exit->St->Prop}
theorem Rel.turn{W:World}{b:Nat}{o B:Go.Obj}(h:Rel cx U O a W)(H:W.heap[b]?=some o)(m:Re o=true)(L:cx.w0.heap.size<=b)(K:∀d∈a.defers,∀D,d.target=.collected D->D≠b):Rel cx U O a (W.putObj b B):=by
 have g:∀j,j≠b->(W.putObj b B).heap[j]?=W.heap[j]?:=fun j i=>World.putObj_heap_other i
 have x:(W.putObj b B).heap.size=W.heap.size:=by simp[World.putObj]
 have J:∀j,Ap cx.Av U O.objs W j->Ap cx.Av U O.objs (W.putObj b B) j:=fun j i=>⟨by rw[x];exact i.1,i.2.1,i.2.2⟩
 have y:Ap cx.Av U O.objs W b:=h.mark_safe L H (fun _ _ _ e=>by rw[e]at m;simp[Re]at m) (fun _ _ e=>by rw[e]at m;simp[Re]at m) (fun _ _ _ _ e=>by rw[e]at m;simp[Re]at m) (fun _ _ e=>by rw[e]at m;simp[Re]at m)
 have l:Same (Ap cx.Av U O.objs W) W (W.putObj b B):=by
  refine⟨fun j q v _ I=>?_,fun j R c _ E=>?_⟩
  ·by_cases i:j=b
   ·subst i;simp only[World.cell?,at_,H]at I;cases o<;>simp[Re]at m<;>simp at I
   ·rw[World.cell?_of_block (g j i)];exact I
  ·by_cases i:j=b
   ·subst i;rw[H]at E;injection E with E
    subst E;simp[Re]at m
   ·rw[g j i];exact E
 have u:∀k q j,O.objs k=some q->q.body.live->(U k).block=some j->(W.putObj b B).heap[j]?=W.heap[j]?:=by
  intro k q j A r i;exact g j fun e=>y.2.2 k q A r (e▸i)
 refine⟨⟨h.nd.nodup,fun d F=>?_⟩,h.sz,fun t=>(h.sl t).move J l,fun k q A=>?_,fun k q j A r i=>?_,h.inj,?_,h.avo,h.avlt,h.mle,h.oloc⟩
 ·obtain⟨D,e,M,N⟩:=h.nd.mark d F;exact⟨D,e,M,(g D (K d F D (by rw[e]))).trans N⟩
 ·by_cases r:q.body.live
  ·exact(h.ob k q A).move J l r fun j i=>u k q j A r i
  ·cases s:q.body with
   |dead=>trivial
   |box cs=>simp[s,Body.live]at r
   |row W n f=>simp[s,Body.live]at r
   |mp z has f=>simp[s,Body.live]at r
   |mq q=>simp[s,Body.live]at r
 ·have:=h.blk k q j A r i;exact⟨by rw[x];exact this.1,this.2⟩
 ·have C:=h.kept;refine⟨C.os,C.tape,C.output,by rw[x];exact C.size,fun j i G=>?_⟩;rw[g j (by omega)];exact C.block j i G
def SlAt(W:World)(v:Value)(L:List Int):Prop:=
 (L=[]/\v=.slice none 0 0)\/∃b o cap,v=.slice (some (at_ b o)) L.length cap/\L.length<=cap/\∀i,i<L.length->W.cell? (at_ b (o+i))=some (.int .i64 (L.getD i 0))
def HdAt(b:Nat)(L:List Int)(W:World):Prop:=∃v,W.cell? (at_ b 0)=some v/\SlAt W v L
def Api(P:Program)(gf:Nat):Prop:=
 (∀args w,(callFunc gf args).run P w=.ok (.enter gf args) w) /\
 ∀(b:Nat) (L:List Int),L.length<2 ^ 62->∀(l:Nat) (J:Nat->World->Prop) (W:World),(∀k f,J k f->HdAt b L f) ->
  (∀k f,k<L.length->J k f->YieldAt (fen none) 0 P l #[.int .i64 ((L.length-1-k:Nat):Int),.int .i64 (L.getD (L.length-1-k) 0)] f fun e g=>e=.returned (.bool true)/\J (k+1) g)->J 0 W ->
  CallsIn (fen none) 0 P gf (#[.func (.yield l) #[] #[]]++#[.pointer (some (at_ b 0))]) W fun e g=>(∃v,e=.returned v)/\J L.length g
def Zy{S:Type}(step:Int->S->Option S):List Int->S->Option S
 |[],s=>some s
 |x::r,s=>match step x s with
  |some b=>Zy step r b
  |none=>none
theorem Asr{S:Type}{step:Int->S->Option S}:∀{l:List Int} {s res:S},Zy step l s=some res->∃st:Nat->S,st 0=s/\st l.length=res/\∀k,k<l.length->step (l.getD k 0) (st k)=some (st (k+1))
 |[],s,res,h=>by
  simp[Zy]at h
  exact⟨fun _=>s,rfl,h,fun k b=>by simp at b⟩
 |x::r,s,res,h=>by
  simp only[Zy]at h;split at h
  case h_2=>simp at h
  rename_i m j;obtain⟨st,i,g,f⟩:=Asr h;refine⟨fun k=>match k with|0=>s|k+1=>st k,rfl,g,fun k b=>?_⟩
  cases k with
  |zero=>simpa[i]using j
  |succ k=>simpa using f k (by simpa using b)
def argsB(slots:Nat->MV)(nt:Nat)(ls:List Nat)(d:Nat)(x:Int):List MV:=(upN nt 0).map fun t=>bif Nat.beq t d then .p (vi x)else bif elem t ls then slots t else .any
theorem Axx{k:Nat}{b:Nat}{L:List Int}{fl:Fl}{f:Nat->List PV}(h:Rel cx U O a w)(v:U k=.box b)(D:O.objs k=some ⟨0,.box [.p (.sl fl 1 L.length f)]⟩)(C:∀i,i<L.length->f i=[vi (L.getD i 0)]):HdAt b L w:=by
 obtain⟨J,cur,e,g,E,K,x⟩:=h.ob k _ D;rw[v]at g;injection g with g
 subst g;obtain⟨u,z,R,B⟩:=x 0 _ rfl;refine⟨u,by simp[World.cell?,at_,E,z],?_⟩;have j:=B.inv_p;generalize s:L.length=n at j
 cases j with
 |slnil l G f' h'=>exact .inl ⟨L2.1 s,rfl⟩
 |sl l G H cap t o f' c F m N q A M j=>
  refine .inr ⟨t,o,cap,by rw[s],by omega,fun i hi=>?_⟩;have:=A i 0 (by omega) (by omega);rw[show o+(i*1+0)=o+i by omega]at this;rw[this];have r:=j i 0 (vi (L.getD i 0)) (by omega) (by rw[C i hi];rfl)
  have y:c i 0=.int .i64 (L.getD i 0):=by
   generalize c i 0=I at r;cases r;rfl
  rw[y]
theorem Rel.unmark(h:Rel cx U O a w)(W:World)(D:Nat)(i:cx.w0.heap.size<=D)(j:w.heap[D]?=some (.deferred (some [])))(g:∀d∈a.defers,∀E,d.target=.collected E->E≠D):
  Rel cx U O {a with defers:={target:=.collected D,args:=#[]}::a.defers} w:=by
 refine⟨⟨?_,fun d b=>?_⟩,h.sz,h.sl,h.ob,h.blk,h.inj,h.kept,h.avo,h.avlt,h.mle,h.oloc⟩
 ·rw[H4];exact⟨fun f=>g _ f D rfl rfl,h.nd.nodup⟩
 ·rcases C0.1 b with e|b
  ·exact⟨D,e,i,j⟩
  ·exact h.nd.mark d b
theorem DWP.rangeB{S:Type}{nt tg p1 p2 d aid:Nat}{ty:TypeId}{pos:String}{body:Code}{gf kb:Nat}{L:List Int}{fl:Fl}{f:Nat->List PV}(hrd:cx.rd=none)(Y:cx.nt=nt)(hit:Api P gf)(hlen:L.length<2 ^ 62)
  (slots:Nat->MV) (objs:S->Ay) {step:Int->S->Option S} {s0 res:S} (hm:Zy step L.reverse s0=some res) (hσ:O=⟨slots,objs s0⟩)
  (hg:slots tg=.fn gf [.ref kb 0 0]) (hkb:∀s,objs s kb=some ⟨0,.box [.p (.sl fl 1 L.length f)]⟩) (hf:∀i,i<L.length->f i=[vi (L.getD i 0)])
  (ks ls:List Nat) (hls:(!elem p1 ls&&!elem p2 ls&&!elem d ls&&Nat.blt p1 nt&&Nat.blt p2 nt&&Nat.blt d nt&&!Nat.beq p1 p2)=true)
  (J:∀x s s',x∈L->step x s=some s'->∃args r outs' y wo obl,Wl (objs s) 0 ks (argsB slots nt ls d x) true (.p (.tup [])) outs' []=some (args,r,y,wo,obl)/\All obl /\
   BSpec P nt body args r outs'/\All (AfW r outs')/\Cf (objs s) wo=objs s')
  (hQ:Q .normal ⟨slots,objs res⟩) (hgf:Nat.blt gf BND=true:=by rfl):
  DWP P cx (.rangeFunc (.tmp tg) #[p1,p2] (.region aid #[⟨some d,.assign (.tmp p2),ty,pos,#[],none⟩] false) body) O Q:=by
 simp only[A6,D7]at hls;obtain⟨⟨⟨⟨⟨⟨e1,e2⟩,e3⟩,e4⟩,e5⟩,e6⟩,e7⟩:=hls;have l1:p1<nt:=A8 e4;have l2:p2<nt:=A8 e5;have l3:d<nt:=A8 e6;have n12:p1≠p2:=fun e=>by rw[e,D4]at e7;simp at e7
 have nel:∀{t p:Nat},elem p ls=false->elem t ls=true->t≠p:=fun M h2 e=>by rw[e,M]at h2;simp at h2
 intro U a w m;subst hσ;rw[hrd];have hsl:=m.sl tg;simp only[hg]at hsl
 obtain⟨vs,hv,hl,hc⟩:∃vs:Array Value,a.tmps.getD tg undef=.func (.func gf) #[] vs/\vs.size=1/\RelV U (objs s0) (Ap cx.Av U (objs s0) w) w (vs.getD 0 undef) (.ref kb 0 0):=by
  generalize a.tmps.getD tg undef=v at hsl
  cases hsl with
  |fn _ _ vs hl n=>exact⟨vs,AgM hgf,by simpa using hl,n 0 _ rfl⟩
 obtain⟨b,hbv,hbk⟩:=hc.inv_ref
 have hvs:vs= #[.pointer (some (at_ b 0))]:=by
  apply Array.ext
  ·simp[hl]
  ·intro i M h2;have:i=0:=by omega
   subst this;rw[A5,C4 M]at hbv;simpa using hbv
 subst hvs
 have hfix:∀(g:Bs) (s:S) (W:World),Rel cx g ⟨slots,objs s⟩ a W->g kb=.box b:=by
  intro g s W n;have M:=n.sl tg;simp only[hg]at M;generalize N:a.tmps.getD tg undef=v at M
  cases M with
  |fn _ _ vs1 _ hr1=>
   rw[hv,AgM hgf]at N;injection N with _ _ N
   subst N;obtain⟨b',q1,q2⟩:=(hr1 0 _ rfl).inv_ref;have q3:=q2.get (hkb s);simp at q1
   have:b=b':=by
    have:=q1;simp[at_]at this;exact this
   rw[q3,this]
 obtain⟨st,st0,st1,st2⟩:=Asr hm;rw[N1]at st1 st2
 have T:∀d∈a.defers,∀D,d.target=.collected D->D<w.heap.size:=by
  intro d hd D R;obtain⟨E,e,_,g1⟩:=m.nd.mark d hd;rw[e]at R;injection R with R
  subst R;exact(C3.1 g1).1
 have hw0:=m.kept.size
 have u:∀(H A:Value) (K:Act->World->Prop) (l:Nat) (W:World),K {tmps:=((a.tmps.setIfInBounds p1 H).setIfInBounds p2 A).setIfInBounds d A,defers:=[]} W ->
   (Code.region aid #[⟨some d,.assign (.tmp p2),ty,pos,#[],none⟩] false).wpIn (fen (some l)) 0 P (Exit.then K (fun _ _ _=>False)) {tmps:=(a.tmps.setIfInBounds p1 H).setIfInBounds p2 A,defers:=[]} W:=by
  intro H A K l W hK;refine wpIn_region ?_;show wpOpsIn (fen (some l)) 0 P _ _ [0] _ W;rw[wpOpsIn_cons];unfold wpOpIn;simp only[List.size_toArray,E9,J6,F5,List.getElem?_cons_zero,Region.wanted,if_true];refine Pq rfl ?_;unfold Oper.wp;simp only[execOp,Sem.run_bind,Sem.run_pure,Result.andThen_ok,Oper.upon];show Exit.then K (fun _ _ _=>False) .normal _ W
  have e:Act.eval {tmps:=(a.tmps.setIfInBounds p1 H).setIfInBounds p2 A,defers:=[]} (.tmp p2)=A:=by
   show((a.tmps.setIfInBounds p1 H).setIfInBounds p2 A).getD p2 undef=A;have:p2<a.tmps.size:=by rw[m.sz,Y];exact l2
   simp[A5,this]
  simp only[Exit.then,Act.put,e];exact hK
 refine Arv (gf:=gf) (lb:=#[.pointer (some (at_ b 0))]) hv hit.1 L.length (fun k=>#[.int .i64 ((L.length-1-k:Nat):Int),.int .i64 (L.getD (L.length-1-k) 0)]) (fun _=>rfl) (HdAt b L)
  (hit.2 b L hlen) (fun k W=>∃U,Rel cx U ⟨slots,objs (st k)⟩ a W) (fun k W ⟨g,n⟩=>Axx n (hfix g _ W n) (hkb _) hf) ?_ ?_
  (fun k=>{tmps:=((a.tmps.setIfInBounds p1 (.int .i64 ((L.length-1-k:Nat):Int))).setIfInBounds p2 (.int .i64 (L.getD (L.length-1-k) 0))).setIfInBounds d (.int .i64 (L.getD (L.length-1-k) 0)),defers:=[]}) ?_ ?_ ?_
 ·rintro k W j o o' ⟨g,n⟩ M h2 h3 G h5;exact⟨g,n.turn h3 G (by omega) fun d hd D R=>by have:=T d hd D R;omega⟩
 ·intro Lp;obtain⟨r1,_⟩:=m.free (w.alloc (.deferred (some []))) (.deferred (some [])) ⟨rfl,rfl,rfl,rfl⟩;obtain⟨r2,_⟩:=r1.free ((w.alloc (.deferred (some []))).alloc (.loop Lp)) (.loop Lp) ⟨rfl,rfl,rfl,rfl⟩;exact⟨U,by rw[st0];exact r2⟩
 ·intro l k W K hk hK;have:=u (.int .i64 ((L.length-1-k:Nat):Int)) (.int .i64 (L.getD (L.length-1-k) 0)) K l W hK;have e:∀H A:Value,(#[p1,p2].zip #[H,A]).foldl (fun t (x:Nat×Value)=>match x with|(p,v)=>t.setIfInBounds p v) a.tmps=(a.tmps.setIfInBounds p1 H).setIfInBounds p2 A:=fun H A=>by simp
  rw[e];exact this
 ·rintro l k W hk ⟨g,n⟩;have q:=st2 k hk
  have hix:L.reverse.getD k 0=L.getD (L.length-1-k) 0:=by
   rw[B5,B5,List.getElem?_reverse hk]
  rw[hix]at q
  have X:L.getD (L.length-1-k) 0∈L:=by
   have hlt:L.length-1-k<L.length:=by omega
   rw[B5,B0 hlt];exact H0 _
  generalize hxx:L.getD (L.length-1-k) 0=x at q X;obtain⟨args,r,outs',y,wo,obl,c1,c2,c3,c4,c5⟩:=J x _ _ X q;obtain⟨tm,I⟩:∃tm,((a.tmps.setIfInBounds p1 (.int .i64 ((L.length-1-k:Nat):Int))).setIfInBounds p2 (.int .i64 x)).setIfInBounds d (.int .i64 x)=tm:=⟨_,rfl⟩;rw[I];have V:tm.size=nt:=by rw[<-I];simp[n.sz,Y]
  have C:(argsB slots nt ls d x).length=nt:=by simp[argsB,AcK]
  obtain⟨Av',β0,hpre,hpost⟩:=AuV (res:=.p (.tup [])) (news:=[]) n (fun _ _ h=>h) (fun j hj=>by simp at hj) (fun _ _=>rfl) c1 c2 (AsO _ _ c4) tm (by rw[V,C]) (by
   intro t z B;have ht:t<nt:=by rw[<-C];exact(A9.1 B).1
   simp only[argsB]at B;rw[A7,Anz _ _ _ ht]at B;simp only[D5,E0,A1]at B;have hta:t<a.tmps.size:=by rw[n.sz,Y];exact ht
   cases hb1:Nat.beq t d with
   |true=>
    rw[hb1,cond_true]at B;subst B;have:=A3 hb1;subst this;have e:tm.getD t undef=.int .i64 x:=by rw[<-I];simp[A5,hta]
    rw[e]
    exact .mk_v rfl
   |false=>
    rw[hb1,cond_false]at B
    cases F:elem t ls with
    |false=>rw[F,cond_false]at B;subst B;exact .any _
    |true=>
     rw[F,cond_true]at B;subst B
     have e:tm.getD t undef=a.tmps.getD t undef:=by
      rw[<-I];simp only[A5];rw[D3 (Ne.symm (nel e3 F)),D3 (Ne.symm (nel e2 F)),D3 (Ne.symm (nel e1 F))]
     rw[e]
     exact n.sl t)
  refine wpIn_mono (c3 l W Av' β0 tm V hpre) ?_;rintro e _ W' ⟨rfl,v,β1,hp⟩;obtain⟨β2,q1,_,q3⟩:=hpost W' v β1 hp;rw[c5]at q1;refine⟨rfl,⟨β2,q1⟩,fun j o M h2 h3 G=>?_⟩;rw[q3 j (n.mark_safe (by omega) h3 (fun _ _ _ e=>by rw[e]at G;simp[Re]at G) (fun _ _ e=>by rw[e]at G;simp[Re]at G) (fun _ _ _ _ e=>by rw[e]at G;simp[Re]at G) (fun _ _ e=>by rw[e]at G;simp[Re]at G))];exact h3
 ·rintro W ⟨g,n⟩ R;rw[st1]at n;exact⟨g,_,hQ,n.unmark W _ hw0 R fun d hd E hE=>by have:=T d hd E hE;omega⟩
def setA(k:Nat)(o:Obj):List (Nat×Obj)->List (Nat×Obj)
 |[]=>[]
 |(j,q)::r=>bif Nat.beq j k then(j,o)::r else(j,q)::setA k o r
def setAs:List (Nat×Obj)->List (Nat×Obj)->List (Nat×Obj)
 |ob,[]=>ob
 |ob,(k,o)::r=>setAs (setA k o ob) r
theorem AsH(k:Nat)(o:Obj):∀ob:List (Nat×Obj),Bw (setA k o ob)=Bw ob
 |[]=>rfl
 |(j,q)::r=>by
  simp only[setA]
  cases Nat.beq j k with
  |true=>rfl
  |false=>simp[Bw,AsH k o r]
theorem Apq{k:Nat}{o:Obj}:∀{ob:List (Nat×Obj)},elem k (Bw ob)=true->assoc (setA k o ob)=Bm (assoc ob) k o
 |[],h=>by simp[Bw,elem]at h
 |(j,q)::r,h=>by
  funext i;simp only[setA]
  cases b:Nat.beq j k with
  |true=>
   have:=A3 b;subst this;simp only[cond_true,assoc,Bm]
   cases Nat.beq i j<;>rfl
  |false=>
   simp only[cond_false,assoc,Bm]
   have h':elem k (Bw r)=true:=by
    simp only[Bw,elem,B7]at h;rcases h with h|h
    ·have:=A3 h;subst this;rw[D4]at b;simp at b
    ·exact h
   have f:=congrFun (Apq (o:=o) h') i;simp only[Bm]at f;rw[f]
   cases g:Nat.beq i j with
   |true=>
    have:=A3 g;subst this;rw[b]
    rfl
   |false=>rfl
theorem Aov:∀{wo:List (Nat×Obj)} {ob:List (Nat×Obj)},(Bw wo).all (fun k=>elem k (Bw ob))=true->Cf (assoc ob) wo=assoc (setAs ob wo)
 |[],ob,_=>rfl
 |(k,o)::r,ob,h=>by
  simp only[Bw,L9,A6]at h;simp only[Cf,setAs];rw[<-Apq h.1];exact Aov (by rw[AsH];exact h.2)
def roundE(sl:List (Nat×MV))(ob:List (Nat×Obj))(nt:Nat)(ls:List Nat)(d:Nat)(x:Int)(ks:List Nat)(outs':List Body):Option (List MV×List Body×List Prop×List (Nat×Obj)):=
 match Wl (assoc ob) 0 ks (argsB (fun t=>(assoc sl t).getD .any) nt ls d x) true (.p (.tup [])) outs' []with
 |some (args,outs,_,wo,obl)=>bif (Bw wo).all (fun k=>elem k (Bw ob))then some (args,outs,obl++AfW outs outs',setAs ob wo)else none
 |none=>none
theorem DW.rangeB{S:Type}{nt H p1 p2 d E:Nat}{ty:TypeId}{pos:String}{body:Code}{gf kb:Nat}{L:List Int}{r:List Code}{Q:Exit->St->Prop}(G:cx.rd=none)(v:cx.nt=nt)(z:Api P gf)(l:L.length<2 ^ 62)
  (sl:List (Nat×MV)) (b:S->List (Nat×Obj)) {step:Int->S->Option S} {s0 res:S} (T:Zy step L.reverse s0=some res) (ks ls:List Nat)
  (B:∀s,assoc (b s) kb=some ⟨0,.box [.p (Lq 1 (fun x=>[vi x]) 0 L)]⟩)
  (h:∀x s m,x∈L->step x s=some m->∃args g outs' obl,roundE sl (b s) nt ls d x ks outs'=some (args,g,obl,b m)/\All obl/\BSpec P nt body args g outs')
  (I:DW P cx r (Ac sl (b res)) Q)
  (J:assoc sl H=some (.fn gf [.ref kb 0 0]):=by kernel_rfl) (F:(!elem p1 ls&&!elem p2 ls&&!elem d ls&&Nat.blt p1 nt&&Nat.blt p2 nt&&Nat.blt d nt&&!Nat.beq p1 p2)=true:=by kernel_rfl) (D:O=Ac sl (b s0):=by rfl) (q:Nat.blt gf BND=true:=by kernel_rfl):
  DW P cx (.rangeFunc (.tmp H) #[p1,p2] (.region E #[⟨some d,.assign (.tmp p2),ty,pos,#[],none⟩] false) body::r) O Q:=by
 refine DWP.rangeB (Q:=KQ P cx r Q) (kb:=kb) (fl:=.unk) (f:=elems (fun x=>[vi x]) 0 L) G v z l (fun t=>(assoc sl t).getD .any) (fun s=>assoc (b s)) T D (by rw[J];rfl) B (fun _ _=>rfl) ks ls F ?_ I q;intro x s m R N;obtain⟨args,g,outs',obl,i,o,M⟩:=h x s m R N;unfold roundE at i;split at i
 case h_2=>simp at i
 rename_i n C y wo j A
 cases u:(Bw wo).all (fun k=>elem k (Bw (b s)))with
 |false=>rw[u]at i;simp at i
 |true=>
  rw[u,cond_true]at i;simp only[A1,A4]at i;obtain⟨rfl,rfl,rfl,K⟩:=i;rw[All_append]at o;exact⟨_,_,outs',y,wo,j,A,o.1,M,o.2,by rw[Aov u,K]⟩
def subC:List Nat->Code->Option Code
 |[],c=>some c
 |0::r,.seq x _=>subC r x
 |1::r,.seq _ y=>subC r y
 |0::r,.block _ c=>subC r c
 |0::r,.cond _ x _=>subC r x
 |1::r,.cond _ _ y=>subC r y
 |0::r,.loop c=>subC r c
 |0::r,.rangeFunc _ _ _ b=>subC r b
 |_,_=>none
end
end Go.Dm

namespace Go.Dm
def Wu(a:List Int):Option (List Int):=(some a)
def Abs(a:List Ai)(p1:List Int)(p2:Int):Option ((List Ai)×(List Int)):=((Gn a p2).bind fun f=>((Yd f.mems p1).bind fun b=>(some (a,b))))
def AaB(f:Ae)(p1:List Ai)(p2:List Int)(h:Int):Option (List Int):=((Qz f p1 p2 8).bind fun i=>(if(!i)then(some [])else((Da f h).bind fun a=>(if((a.length:Int)==0)then(some [])else((Eg p2).bind fun j=>(if 0<=(w64 ((a.length:Int)-1))/\(w64 ((a.length:Int)-1))<=(a.length:Int)then((Wu (a.take (Int.toNat (w64 ((a.length:Int)-1))))).bind fun g=>(if g.length<4611686018427387904 then((Zy (fun(x:Int) (s:(List Ai)×(List Int))=>(Abs s.1 s.2 x)) (List.reverse g) (p1,j)).bind fun b=>(some b.2))else none))else none))))))
end Go.Dm

namespace Go.Dm
structure place where
 group:Int
 cpus:List Int
 alone:Bool
 deriving Inhabited
end Go.Dm

namespace Go.Dm
theorem noK{V:Type}{x:V}{p:Prop}(h:(none:Option V)=some x):p:=nomatch h
end Go.Dm

namespace Go.Dm
def Age:Option Bool:=some true
def AfB(p1:List Ai)(k1:Nat)(b:Ah)(f:List Ai)(n1:(List Ai)->Option (List Ai)):Option (List Ai):=((Gn p1 b.id).bind fun a=>(if f.length+1<=1073741824 then(n1 (f++[(⟨b.id,a⟩:Ai)]))else none))
def AnT(a:List Ai):Option (List Ai):=(some a)
def Xl(a:Ae)(p1:List Ai):Option (List Ai):=((Ig a).bind fun b=>(if(!b)then(some [])else(if a.nodes.length<=9223372036854775807 then Ba (AfB p1) AnT a.nodes 0 []else none)))
def Mb(a:List Ai):Option (List Ai):=(if 0+a.length<=1073741824 then(some a)else none)
def AaQ(a:List Ai):Option (List Ai):=(some [])
def Afw(k1:Int)(a:List Ai)(n1:(List Ai)->Option (List Ai)):Option (List Ai):=(if 0<=k1/\k1<(a.length:Int)then(if k1.toNat<a.length then((Oc (a.getD k1.toNat default).settings).bind fun b=>(if 0<=k1/\k1<(a.length:Int)then(if k1.toNat<a.length then(n1 (a.set k1.toNat (⟨(a.getD k1.toNat default).group,b⟩:Ai)))else none)else none))else none)else none)
def AnX(a:List Ai):Option (List Ai):=(some a)
def Ww(b:List Ai):Option (List Ai):=((Mb b).bind fun a=>(if a.length<=9223372036854775807 then(forO Afw AnX (Int.toNat ((a.length:Int)-0)) 0 a)else none))
def Ys(i:Ae)(p1:List Ai)(p2:Int)(g:As):Option ((List Ai)×Int):=((AaJ p1 p2).bind fun a=>((Lj i p1).bind fun h=>(if(!h)then(some ([],1))else(if(decide (a<0))then(some ([],4))else((Ps g).bind fun j=>(if(!j)then(some ([],3))else((Ww p1).bind fun b=>((Oc g).bind fun f=>(if 0<=a/\a<(b.length:Int)then(if a.toNat<b.length then(some ((b.set a.toNat (⟨(b.getD a.toNat default).group,f⟩:Ai)),0))else none)else none)))))))))
def Aam(p1:List Ai)(k1:Nat)(f:Int)(b:Int×Int×Int)(n1:(Int×Int×Int)->Option As):Option As:=((Gn p1 f).bind fun a=>(n1 ((Jj b.1 a.pidsMax),(Jj b.2.1 a.quota),(Jj b.2.2 a.clampMax))))
def Su(b:As)(a:Int×Int×Int):Option As:=(some ({b with pidsMax:=a.1,quota:=a.2.1,clampMin:=(Jj b.clampMin a.2.2),clampMax:=a.2.2}:As))
def Io(p1:List Ai)(p2:Int)(b:List Int)(f:Bool):Option As:=(if f then(some (⟨0,0,0,0,0,0,0,[],[],0,⟨0,0,0,0,0,false⟩,[]⟩:As))else((Gn p1 p2).bind fun a=>(if b.length<=9223372036854775807 then Ba (Aam p1) (Su a) b 0 (a.pidsMax,a.quota,a.clampMax)else none)))
def Iw(b:Ae)(p1:List Ai)(p2:Int):Option As:=((Da b p2).bind fun a=>(if((a.length:Int)==0)then((Io p1 p2 a) true)else((Lj b p1).bind fun f=>((Io p1 p2 a) (!f)))))
def Aew(p1:List Int)(k1:Nat)(a:Int)(b:Unit)(n1:Unit->Option Bool):Option Bool:=(if k1<p1.length then(if(a !=(p1.getD k1 0))then(some false)else(n1 ()))else none)
def Amt(a:Unit):Option Bool:=(some true)
def Pw(a:List Int)(p1:List Int):Option Bool:=(if((a.length:Int)!=(p1.length:Int))then(some false)else(if a.length<=9223372036854775807 then Ba (Aew p1) Amt a 0 ()else none))
def Sh(p1:List Be)(k1:Nat)(a:Be)(b:Unit)(n1:Unit->Option Bool):Option Bool:=(if k1<p1.length then(if(!(AgE a (p1.getD k1 default)))then(some false)else(n1 ()))else none)
def AcY(a:Unit):Option Bool:=(some true)
def Iv(a:List Be)(p1:List Be):Option Bool:=(if((a.length:Int)!=(p1.length:Int))then(some false)else(if a.length<=9223372036854775807 then Ba (Sh p1) AcY a 0 ()else none))
def Ed(a:Bool):Option Bool:=(some a)
def Wd(a:As)(p1:As):Option Bool:=(if(a.pidsMax==p1.pidsMax)then(if(a.weight==p1.weight)then(if(a.quota==p1.quota)then(if(a.period==p1.period)then(if(a.burst==p1.burst)then(if(a.clampMin==p1.clampMin)then(if(a.clampMax==p1.clampMax)then((Pw a.cpus p1.cpus).bind fun g=>(if g then((Pw a.mems p1.mems).bind fun b=>(if b then(if(a.partition==p1.partition)then(if(Ahj a.memory p1.memory)then((Iv a.devices p1.devices).bind fun f=>(Ed f))else(Ed false))else(Ed false))else(Ed false)))else(Ed false)))else(Ed false))else(Ed false))else(Ed false))else(Ed false))else(Ed false))else(Ed false))else(Ed false))
end Go.Dm

namespace Go.Dm
end Go.Dm

namespace Go.Dm
end Go.Dm

namespace Go.Dm
end Go.Dm

namespace Go.Dm
end Go.Dm

namespace Go.Dm
abbrev Asc(L:List Int):Prop:=L.Pairwise (· < ·)
theorem Asa{A:List Int}(h:Asc A):A.Nodup:=h.imp fun h=>by omega
theorem le_at{L:List Int}(h:L.Pairwise (· <= ·)){i j:Nat}(b:i<=j)(a:j<L.length):L.getD i 0<=L.getD j 0:=by
 by_cases e:i=j
 ·subst e;omega
 ·rw[Ev a,Ev (by omega)];exact C9.mp h i j (by omega) a (by omega)
end Go.Dm

namespace Go.Dm
end Go.Dm

namespace Go.Dm
section
variable {h:Aa} {t:Ae} {f f':Freezer}
theorem Apl{pre:List Int}{x:Int}(a:Asc pre)(b:∀y∈pre,y<x):Asc (pre++[x]):=by
 rw[Asc,E4];exact⟨a,by simp,fun y g z i=>by rw[E7.mp i];exact b y g⟩
end
end Go.Dm

namespace Go.Dm
theorem AtC(l:List Int)(x:Int)(q:l.length<=9223372036854775807):Fq l x=some (l.contains x):=by
 unfold Fq Vf;rw[if_pos (by omega),Jg (p:=fun y:Int=>x==y) (fun k y n=>rfl) rfl,A0];rcases Fh (fun y:Int=>x==y) l 0 with⟨i,b,a,g⟩|⟨b,a⟩
 ·rw[a];have m:=D0 g;have o:=F3 g
  have:l.contains x=true:=by
   rw[G1];have:x=l.getD i 0:=by simpa using o
   rw[this];exact m
  rw[this];simp
 ·rw[b]
  have:l.contains x=false:=by
   rw[G4]at a;cases j:l.contains x
   ·rfl
   ·rw[G1]at j;have:=a x j;simp at this
  rw[this];simp
section
variable {h:Aa} {f:Freezer}
theorem Yh{l:List Int}(a:l.length<=1000000):Eg l=some l:=by
 unfold Eg;rw[if_pos (by omega)]
end
end Go.Dm

namespace Go.Dm
def okSet(n:Int)(L:List Int):Prop:=Asc L/\∀x∈L,0<=x/\x<n
theorem ArU:∀{L:List Int} {a n:Int},Asc L->(∀x∈L,a<=x/\x<n)->(L.length:Int)<=max 0 (n-a)
 |[],a,n,_,_=>by simp;omega
 |x::r,a,n,h,hb=>by
  rw[Asc,L1]at h;have g:=hb x (by simp);have f:=ArU (L:=r) (a:=x+1) (n:=n) h.2 (fun y b=>⟨by have:=h.1 y b;omega,(hb y (by simp[b])).2⟩);simp only[E9];omega
theorem okSet.len{n:Int}{L:List Int}(h:okSet n L)(a:0<=n):(L.length:Int)<=n:=by
 have:=ArU h.1 h.2;omega
theorem Fg{m:Option Bool}{rest:Option Bool}{P R:Prop}(h:Ok m (fun b=>b=true↔P))(k:P->Ok rest (fun b=>b=true↔R)):Ok (Option.bind m fun r=>if r then rest else some false) (fun b=>b=true↔P/\R):=by
 refine Ok.bind h fun r a=>Aya (fun c=>?_) fun c=>Ok.ret ?_
 all_goals grind
theorem Agc{m:Option Bool}{P:Prop}(h:Ok m (fun b=>b=true↔P)):Ok (Option.bind m fun r=>some r) (fun b=>b=true↔P):=Ok.bind h fun r a=>Ok.ret a
theorem Mt(a lo hi:Int):Ok (Db a lo hi) (fun b=>b=true↔(lo<=a/\a<=hi)):=by
 grind[Db,Ok.ret]
theorem Ic(a lo hi:Int):Ok (Fr a lo hi) (fun b=>b=true↔((lo<=a/\a<=hi)\/a=4611686018427387904)):=by
 unfold Fr;exact Ok.ret (by simp)
theorem prev_ok{pre post:List Int}{x d:Int}(a:pre.length+1<=9223372036854775807)(h:0<pre.length):w64 ((pre.length:Int)-1)=((pre.length-1:Nat):Int):=by
 rw[Br (by omega) (by omega)];omega
theorem Uc(L:List Int)(n:Int)(v:L.length<=9223372036854775807):Ok (Pb L n) (fun b=>b=true↔okSet n L):=by
 unfold Pb;refine Ok.guard v ?_;refine Ok.range (fun pre _=>okSet n pre) ⟨List.Pairwise.nil,fun x z=>by simp at z⟩ ?_ fun _ h=>Ok.ret (by simp[h])
 intro pre x post s m l o t;unfold Amy Th;have u:pre.length+1<=L.length:=by rw[l];simp
 refine Aya (fun c=>Ok.ret ?_) fun c=>Aya (fun c2=>Ok.ret ?_) fun c2=>?_
 ·have c:=of_decide_eq_true c;simp only[A2,false_iff];intro ⟨_,r⟩;have:=r x (by rw[l];simp);omega
 ·have c2:=of_decide_eq_true c2;simp only[A2,false_iff];intro ⟨_,r⟩;have:=r x (by rw[l];simp);omega
 ·have c:=of_decide_eq_false c;have c2:=of_decide_eq_false c2;refine Aya (fun g=>?_) fun g=>?_
  ·have g:=of_decide_eq_true g;have q:0<pre.length:=by omega
   rw[prev_ok (post:=post) (x:=x) (d:=0) (by omega) q];refine Ok.guard (by omega) ?_;have a:L.getD (pre.length-1) 0=pre.getD (pre.length-1) 0:=by grind
   simp only[I4,a];refine Aya (fun k=>Ok.ret ?_) fun k=>?_
   ·have k:=of_decide_eq_true k;simp only[A2,false_iff];intro ⟨A,_⟩;rw[l,Asc,E4]at A;grind[Og]
   ·have k:=of_decide_eq_false k;refine t () ⟨?_,fun y f=>?_⟩
    ·refine Apl o.1 fun y f=>?_
     obtain⟨j,B,rfl⟩:=D1 f
     have C:pre[j]<=pre.getD (pre.length-1) 0:=by
      have:=le_at (L:=pre) (o.1.imp (fun h=>Int.le_of_lt h)) (i:=j) (j:=pre.length-1) (by omega) (by omega)
      rwa [Ev B]at this
     omega
    ·rcases B1.mp f with h|h
     ·exact o.2 y h
     ·simp at h;subst h;omega
  ·have g:=of_decide_eq_false g;have q:pre=[]:=C6 (by omega);subst q;refine Aya (fun c=>by simp at c) fun _=>t () ⟨by simp[Asc],fun y f=>by simp at f;subst f;omega⟩
theorem Aim(m:Ia):∃b,Hf m=some b:=by
 obtain⟨b,h,_⟩:Ok (Hf m) (fun _=>True):=by
  unfold Hf Iq;refine Ok.bind (Ic _ _ _) fun _ _=>Aya (fun _=>?_) fun _=>Ok.ret trivial
  refine Ok.bind (Ic _ _ _) fun _ _=>Aya (fun _=>?_) fun _=>Ok.ret trivial
  refine Ok.bind (Ic _ _ _) fun _ _=>Aya (fun _=>?_) fun _=>Ok.ret trivial
  refine Ok.bind (Ic _ _ _) fun _ _=>Aya (fun _=>?_) fun _=>Ok.ret trivial
  grind[Ok.bind,Ic,Ok.ret]
 exact⟨b,h⟩
theorem AgG(L:List Be)(j:L.length<=9223372036854775807):∃b,Gj L=some b:=by
 obtain⟨b,h,_⟩:Ok (Gj L) (fun _=>True):=by
  unfold Gj;refine Ok.guard j ?_;refine Ok.range (fun _ _=>True) trivial ?_ fun _ _=>Ok.ret trivial
  intro pre x post s n i _ k;have g:pre.length+1<=L.length:=by rw[i];simp
  have a:∀b,Ok (Bq n b) (fun _=>True):=by simp_all[Bq,Aya,Ok.ret]
  unfold Aeo;refine Aya (fun _=>a _) fun _=>Aya (fun _=>a _) fun _=>Aya (fun f=>?_) fun _=>?_
  ·have f:=of_decide_eq_true f;refine Ok.guard (by rw[Br (by omega) (by omega)];omega) ?_;refine Aya (fun _=>a _) fun _=>Aya (fun _=>a _) fun _=>Aya (fun _=>a _) fun _=>?_
   refine Ok.bind (Ic _ _ _) fun _ _=>Aya (fun _=>a _) fun _=>?_
   refine Ok.bind (Ic _ _ _) fun _ _=>Aya (fun _=>a _) fun _=>?_
   refine Ok.bind (Ic _ _ _) fun _ _=>Aya (fun _=>a _) fun _=>?_
   refine Ok.bind (Ic _ _ _) fun _ _=>Aya (fun _=>a _) fun _=>?_
   exact Aya (fun _=>a _) fun _=>a _
  ·refine Aya (fun _=>a _) fun _=>Aya (fun _=>a _) fun _=>?_
   refine Ok.bind (Ic _ _ _) fun _ _=>Aya (fun _=>a _) fun _=>?_
   refine Ok.bind (Ic _ _ _) fun _ _=>Aya (fun _=>a _) fun _=>?_
   refine Ok.bind (Ic _ _ _) fun _ _=>Aya (fun _=>a _) fun _=>?_
   refine Ok.bind (Ic _ _ _) fun _ _=>Aya (fun _=>a _) fun _=>?_
   exact Aya (fun _=>a _) fun _=>a _
 exact⟨b,h⟩
def BandP(s:As):Prop:=(1<=s.period/\s.period<=1000000)/\if s.quota=4611686018427387904 then s.burst=0 else(1<=s.quota/\s.quota<=1000000)/\0<=s.burst/\s.burst<=s.quota
theorem Alx(s:As):Ok (My s) (fun b=>b=true↔BandP s):=by
 unfold My Pa Kq BandP;refine Aya (fun c=>?_) fun c=>?_
 all_goals simp_all[Fg,Mt,Ok.ret,Agc]
def RestP(s:As):Prop:=
 (1<=s.weight/\s.weight<=10000)/\BandP s/\(0<=s.clampMin/\s.clampMin<=10000)/\(0<=s.clampMax/\s.clampMax<=10000)/\okSet 16 s.cpus/\okSet 8 s.mems/\(0<=s.partition/\s.partition<=1) /\
 Hf s.memory=some true/\Gj s.devices=some true
def CheckP(s:As):Prop:=(s.pidsMax=4611686018427387904\/(0<=s.pidsMax/\s.pidsMax<=1099511627776))/\RestP s
structure Dz(s:As):Prop where
 cpus:s.cpus.length<=1000000
 mems:s.mems.length<=1000000
 devices:s.devices.length<=1000000
theorem AnB{m:Option Bool}(h:∃b,m=some b):Ok m (fun b=>b=true↔m=some true):=by
 obtain⟨b,h⟩:=h;exact⟨b,h,by rw[h];simp⟩
theorem Aez{s:As}(a:Dz s):Ok (Ps s) (fun b=>b=true↔CheckP s):=by
 have g:=a.cpus;have f:=a.mems;have h:=a.devices;unfold Ps Cc CheckP;refine Aya (fun c=>?_) fun c=>?_
 ·have c:=beq_iff_eq.mp c;have:(s.pidsMax=4611686018427387904\/(0<=s.pidsMax/\s.pidsMax<=1099511627776))↔True:=by simp[c]
  rw[this,true_and]
  exact Fg (Mt _ _ _) fun _=>Fg (Alx s) fun _=>Fg (Mt _ _ _) fun _=>Fg (Mt _ _ _) fun _=>Fg (Uc _ _ (by omega)) fun _=>
   Fg (Uc _ _ (by omega)) fun _=>Fg (Mt _ _ _) fun _=>Fg (AnB (Aim _)) fun _=>Agc (AnB (AgG _ (by omega)))
 ·have c:¬ s.pidsMax=4611686018427387904:=by simpa using c
  have:(s.pidsMax=4611686018427387904\/(0<=s.pidsMax/\s.pidsMax<=1099511627776))↔(0<=s.pidsMax/\s.pidsMax<=1099511627776):=by simp[c]
  rw[this]
  exact Fg (Mt _ _ _) fun _=>Fg (Mt _ _ _) fun _=>Fg (Alx s) fun _=>Fg (Mt _ _ _) fun _=>Fg (Mt _ _ _) fun _=>Fg (Uc _ _ (by omega)) fun _=>
   Fg (Uc _ _ (by omega)) fun _=>Fg (Mt _ _ _) fun _=>Fg (AnB (Aim _)) fun _=>Agc (AnB (AgG _ (by omega)))
def dfS:As:={pidsMax:=4611686018427387904,weight:=100,quota:=4611686018427387904,period:=100000,burst:=0,clampMin:=0,clampMax:=10000,cpus:=[],mems:=[],partition:=0,memory:={min:=0,low:=0,high:=4611686018427387904,max:=4611686018427387904,swapMax:=4611686018427387904,together:=false},devices:=[]}
def cfg(l:List Ai)(g:Int):As:=(l.find? (fun x=>x.group==g)).elim dfS (·.settings)
theorem dfS_ok:CheckP dfS:=by
 have e1:Hf dfS.memory=some true:=by kernel_rfl
 have e2:Gj dfS.devices=some true:=by kernel_rfl
 refine⟨.inl rfl,⟨by simp[dfS],by simp[dfS]⟩,?_,by simp[dfS],by simp[dfS],⟨List.Pairwise.nil,fun x a=>by simp[dfS]at a⟩,⟨List.Pairwise.nil,fun x a=>by simp[dfS]at a⟩,by simp[dfS],e1,e2⟩;unfold BandP;simp[dfS]
theorem dfS_small:Dz dfS:=⟨by simp[dfS],by simp[dfS],by simp[dfS]⟩
theorem Ath{s:As}(h:Dz s):Ake s=some s:=by
 have a:=h.cpus;have f:=h.mems;have b:=h.devices;grind[Ake]
theorem Abt{s:As}(h:Dz s):Oc s=some s:=by
 have a:=h.cpus;have f:=h.mems;have b:=h.devices;unfold Oc Gf;rw[Yh (by omega),A0,Yh (by omega),A0,if_pos (by omega),A0]
theorem ArV{l:List Ai}(h:∀x∈l,Dz x.settings)(g:Int):Dz (cfg l g):=by
 unfold cfg
 cases a:l.find? (fun x=>x.group==g)with
 |none=>exact dfS_small
 |some x=>exact h x (D0 a)
theorem Get_ref11_eq{l:List Ai}(m:l.length<=1000000)(h:∀x∈l,Dz x.settings)(g:Int):Asp l g=some (cfg l g):=by
 unfold Asp;rw[if_pos (by omega)];apply Ok.eq;refine Ok.range (fun pre _=>∀x∈pre,(x.group==g)=false) (by simp) ?_ ?_
 ·intro pre x post s n k a j;unfold Aor;refine Aya (fun c=>?_) fun c=>j () ?_
  all_goals grind[Ath,Ok.ret,cfg]
 ·intro s a;refine Ok.of_eq (b:=dfS) rfl ?_;have f:l.find? (fun x=>x.group==g)=none:=G4.mpr (fun y i=>by rw[a y i];simp);unfold cfg;rw[f];rfl
theorem Fy{l:List Ai}(f:l.length<=1000000)(h:∀x∈l,Dz x.settings)(g:Int):Gn l g=some (cfg l g):=by
 unfold Gn AaJ Fb
 rw[if_pos (by omega),Jg (p:=fun x:Ai=>x.group==g) (fun k x n=>by
  unfold Gq Abf
  rw[A0]) rfl,A0,A0]
 rcases Fh (fun x:Ai=>x.group==g) l default with⟨i,b,a,j⟩|⟨b,a⟩
 ·grind[only,Abt,Og,cfg]
 ·rw[b,K4,if_pos (by simp)];unfold cfg;rw[a];rfl
end Go.Dm

namespace Go.Dm
theorem AkV{L:List Int}(p:Int->Bool)(h:Asc L):Asc (L.filter p):=h.sublist K6
theorem AiH(L:List Int)(x:Int)(a:L.length<=9223372036854775807):AdI L x=some (L.contains x):=by
 grind[AdI,AtC]
theorem AqV{A B:List Int}(g:A.length<=1000000)(f:B.length<=9223372036854775807):AaW A B=some (A.all (fun x=>B.contains x)):=by
 unfold AaW Hk Ir
 rw[if_pos (by omega),Jg (p:=fun x:Int=>!B.contains x) (fun k x n=>by
  unfold Nd AeW
  rw[AiH _ _ f,A0,A0]) rfl,A0,A0]
 rcases Fh (fun x:Int=>!B.contains x) A 0 with⟨i,b,a,h⟩|⟨b,a⟩
 ·rw[a,D6];congr 1;grind
 ·rw[b,K4];grind
theorem Ain{L:List Int}(a:L.length<=1000)(h:Asc L):AaL L=some L:=by
 grind[AaL,Yh,Apb,AiR,only]
theorem Alm{B:List Int}(a:B.length<=9223372036854775807)(x:Int):Hh x B=some (B.contains x):=by
 grind[Hh,Ahi,AiH]
theorem Alw{B:List Int}(a:B.length<=9223372036854775807)(x:Int):Fo x B=some (!B.contains x):=by
 grind[Fo,Abu,AiH]
theorem Apc{B:List Int}(g:B.length<=9223372036854775807)(L:List Int)(m:L.length<=1000000):
  Ok (Di L B) (fun r=>r.2.1.length=L.length/\r.1<=L.length/\r.2.1.take r.1=L.filter (fun x=>!B.contains x)/\r.2.2=B):=by
 unfold Di Ex
 rw[if_pos (by omega),Jg (p:=fun x=>B.contains x) (fun k x n=>by
  unfold Hn
  rw[Alm g,A0]) rfl]
 refine Ok.step rfl ?_;rcases Fh (fun x=>B.contains x) L 0 with⟨i,b,a,D⟩|⟨b,a⟩
 ·rw[a,D6];refine Aya (fun c=>by have:=beq_iff_eq.mp c;omega) fun _=>?_
  have e1:w64 ((i:Int)+1)=((i+1:Nat):Int):=by
   rw[Br (by omega) (by omega)];omega
  rw[e1];have o:=L7.mp a;obtain⟨A,y,F⟩:=o;refine Aou (p:=fun x=>B.contains x) (d:=0) m b ?_ ?_ ?_ ?_
  ·intro x v;obtain⟨j,z,rfl⟩:=D1 v;grind
  ·rw[Ev b];exact y
  ·intro M i j n t u z E;unfold El Df;simp only;have f:Int.toNat (i:Int)=i:=by omega
   have h:Int.toNat (j:Int)=j:=by omega
   rw[f,h]
   refine Aya (fun _=>?_) fun c=>by
    have:=of_decide_eq_false c;omega
   refine Ok.guard (by omega) (Ok.guard (by omega) ?_);rw[Alm g,A0]
   have q:w64 ((j:Int)+1)=((j+1:Nat):Int):=by
    rw[Br (by omega) (by omega)];omega
   have l:w64 ((i:Int)+1)=((i+1:Nat):Int):=by
    rw[Br (by omega) (by omega)];omega
   grind
  ·intro M i n t hi C;unfold El;simp only;have f:Int.toNat (i:Int)=i:=by omega
   rw[f,Rb];refine Aya (fun c=>by have:=of_decide_eq_true c;omega) fun _=>?_
   have s:(Iu M i (M.length-i) (0:Int)).length=M.length:=Ahd (by omega);simp_all[Ok.guard,Ok.ret,only,AkQ]
 ·rw[b,K4];refine Aya (fun _=>Ok.ret ⟨rfl,B2 _,?_,rfl⟩) fun c=>by simp at c
  simp only[I8]
  symm
  simp_all
theorem AoR{B:List Int}(g:B.length<=9223372036854775807)(L:List Int)(m:L.length<=1000000):
  Ok (Cy L B) (fun r=>r.2.1.length=L.length/\r.1<=L.length/\r.2.1.take r.1=L.filter (fun x=>B.contains x)/\r.2.2=B):=by
 have y:L.filter (fun x=>!(!B.contains x))=L.filter (fun x=>B.contains x):=by
  congr 1;funext x;simp
 unfold Cy Ek
 rw[if_pos (by omega),Jg (p:=fun x=>!B.contains x) (fun k x n=>by
  unfold Gl
  rw[Alw g,A0]) rfl]
 refine Ok.step rfl ?_;rcases Fh (fun x=>!B.contains x) L 0 with⟨i,b,a,E⟩|⟨b,a⟩
 ·rw[a,D6];refine Aya (fun c=>by have:=beq_iff_eq.mp c;omega) fun _=>?_
  have e1:w64 ((i:Int)+1)=((i+1:Nat):Int):=by
   rw[Br (by omega) (by omega)];omega
  rw[e1];have o:=L7.mp a;obtain⟨C,z,G⟩:=o;refine Aou (p:=fun x=>!B.contains x) (d:=0) m b ?_ ?_ ?_ ?_
  ·intro x v;obtain⟨j,A,rfl⟩:=D1 v;grind
  ·rw[Ev b];exact z
  ·intro M i j n t u A F;unfold Ea Cv;simp only;have f:Int.toNat (i:Int)=i:=by omega
   have h:Int.toNat (j:Int)=j:=by omega
   rw[f,h]
   refine Aya (fun _=>?_) fun c=>by
    have:=of_decide_eq_false c;omega
   refine Ok.guard (by omega) (Ok.guard (by omega) ?_);rw[Alw g,A0]
   have q:w64 ((j:Int)+1)=((j+1:Nat):Int):=by
    rw[Br (by omega) (by omega)];omega
   have l:w64 ((i:Int)+1)=((i+1:Nat):Int):=by
    rw[Br (by omega) (by omega)];omega
   grind
  ·intro M i n t hi D;unfold Ea;simp only;have f:Int.toNat (i:Int)=i:=by omega
   rw[f,Rb];refine Aya (fun c=>by have:=of_decide_eq_true c;omega) fun _=>?_
   have s:(Iu M i (M.length-i) (0:Int)).length=M.length:=Ahd (by omega);simp_all[Ok.guard,Ok.ret,only,AkQ]
 ·rw[b,K4];refine Aya (fun _=>Ok.ret ⟨rfl,B2 _,?_,rfl⟩) fun c=>by simp at c
  simp only[I8]
  symm
  simp_all
def AaM(A B:List Int):List Int:=A.filter (fun x=>!B.contains x)
def AmA(A B:List Int):List Int:=A.filter (fun x=>B.contains x)
def Tp(A B:List Int):List Int:=if(AmA A B).length>0 then AmA A B else B
theorem Atk{A B:List Int}(h:Asc A)(b:A.length<=1000)(g:B.length<=9223372036854775807):AbV A B=some (AaM A B):=by
 unfold AbV Qp;obtain⟨r,f,d2,i,a,j⟩:=Apc g A (by omega);rw[Ain b h,A0,f,A0,if_pos d2.symm,if_pos (by omega),A0,a];rfl
theorem Aof{A B:List Int}(h:Asc A)(b:A.length<=1000)(g:B.length<=9223372036854775807):Zb A B=some (AmA A B):=by
 unfold Zb Nc;obtain⟨r,f,d2,i,a,j⟩:=AoR g A (by omega);rw[Ain b h,A0,f,A0,if_pos d2.symm,if_pos (by omega),A0,a];rfl
theorem AtQ{A B:List Int}(h:Asc A)(b:A.length<=1000)(a:B.length<=1000):Yd A B=some (Tp A B):=by
 grind[Yd,Tp,Aof,AmA,Yh]
structure FitsS(t:Ae)(l:List Ai):Prop where
 wf:WfT t
 grp:l.map (·.group)=t.nodes.map (·.id)
 chk:∀x∈l,CheckP x.settings
theorem FitsS.len{t:Ae}{l:List Ai}(f:FitsS t l):l.length=t.nodes.length:=by
 have:=congrArg List.length f.grp;simpa using this
theorem Afs{t:Ae}{l:List Ai}(v:∀x∈t.nodes,Aig x)(y:t.nodes.length<=1000000)(z:l.length<=1000000)(r:∀x∈l,Dz x.settings):Ok (Lj t l) (fun b=>b=true↔FitsS t l):=by
 unfold Lj
 by_cases w:WfT t
 ·rw[Ng w,A0,if_neg (by simp)];unfold Rr;refine Aya (fun c=>Ok.ret ?_) fun c=>?_
  ·have c:¬ (l.length:Int)=(t.nodes.length:Int):=by simpa using c
   simp only[A2,false_iff];intro f;have:=f.len;omega
  ·have i:l.length=t.nodes.length:=by grind
   refine Ok.guard (by omega) ?_;refine Ok.range (fun pre _=>(l.take pre.length).map (·.group)=pre.map (·.id)/\∀x∈l.take pre.length,CheckP x.settings) ⟨by simp,by simp⟩ ?_ ?_
   ·intro pre x post s n j g u;unfold Aiw Xq;have k:pre.length+1<=t.nodes.length:=by rw[j];simp
    have m:l.take (pre.length+1)=l.take pre.length++[l.getD pre.length default]:=by simp_all
    have a:l.getD pre.length default∈l:=Og (by omega);have A:t.nodes.getD pre.length default=x:=by rw[j];exact AdH
    refine Ok.guard (by omega) (Aya (fun c=>Ok.ret ?_) fun c=>Ok.guard (by omega) ?_)
    ·have c:¬ (l.getD pre.length default).group=x.id:=by simpa using c
     simp only[A2,false_iff];intro f;apply c;have:=congrArg (fun q=>q[pre.length]?) f.grp;grind
    ·have c:(l.getD pre.length default).group=x.id:=by simpa using c
     obtain⟨b,o,h⟩:=Aez (r _ a);rw[o,A0];refine Aya (fun c2=>Ok.ret ?_) fun c2=>u () ⟨?_,?_⟩
     ·simp only[A2,false_iff];intro f;rw[h.mpr (f.chk _ a)]at c2;simp at c2
     all_goals grind
   ·intro s g;refine Ok.of_eq (b:=true) rfl ?_;have:l.take t.nodes.length=l:=F9 (by omega);rw[this]at g;simp only[true_iff];exact⟨w,g.1,g.2⟩
 ·rw[Aul v w,A0,if_pos (by simp)];unfold Rr;rw[if_pos rfl];exact Ok.ret (by simp only[A2,false_iff];exact fun f=>w f.wf)
structure Usable(t:Ae)(l:List Ai)(on:List Int)(n:Int):Prop where
 fits:FitsS t l
 pos:0<on.length
 set:okSet n on
theorem Apy{t:Ae}{l:List Ai}{on:List Int}{n:Int}(g:∀x∈t.nodes,Aig x)(j:t.nodes.length<=1000000)(i:l.length<=1000000)(m:∀x∈l,Dz x.settings)(o:on.length<=9223372036854775807):
  Ok (Qz t l on n) (fun b=>b=true↔Usable t l on n):=by
 unfold Qz Ru
 have h:=Fg (Afs g j i m) (R:=0<on.length/\okSet n on) (rest:=(if(decide ((on.length:Int)>0))then((Pb on n).bind fun f=>some f)else some false)) fun _=>by
  refine Aya (fun c=>?_) fun c=>Ok.ret ?_
  all_goals simp_all[Agc,Uc,only]
 exact h.mono fun b k=>k.trans ⟨fun⟨a,b,c⟩=>⟨a,b,c⟩,fun u=>⟨u.fits,u.pos,u.set⟩⟩
end Go.Dm

namespace Go.Dm
theorem rangeM_ok{S R:Type}{B:Int->S->(S->Option R)->Option R}{D:S->Option R}{r:R}(I:(Int->Bool)->S->Prop)
  (step:∀rem s n N,rem n=true->I rem s->(∀b,I (Bf rem n false) b->N b=some r)->B n s N=some r) (fin:∀s,I (fun _=>false) s->D s=some r):
  ∀(m:Nat) (ks:List Int) (rem:Int->Bool) (s:S),ks.Nodup->ks.length<m->(∀n,rem n=true↔n∈ks)->I rem s->rangeM B D m rem s=some r:=by
 intro m
 induction m with
 |zero=>intro ks rem s _ h;omega
 |succ m q=>
  intro ks rem s o u g hi;rw[rangeM]
  by_cases h0:∀n,rem n=false
  ·rw[if_pos h0];have:rem=fun _=>false:=funext h0
   subst this;exact fin s hi
  ·rw[if_neg h0]
   have key:∀n,rem n=true->B n s (rangeM B D m (Bf rem n false))=some r:=by
    intro n a;have j:=(g n).mp a;refine step rem s n _ a hi fun b f=>?_
    refine q (ks.filter (fun k=>k !=n)) (Bf rem n false) b (o.sublist K6) ?_ (fun k=>?_) f
    ·have:(ks.filter (fun k=>k !=n)).length<ks.length:=by simp_all
     omega
    grind[only,Bf]
   have i:∃r,∀n,rem n=true->B n s (rangeM B D m (Bf rem n false))=some r:=⟨r,key⟩;grind
def Aej(al:Bool)(left:List Int)(s:As):Bool:=s.partition==1&&al&&decide (0<s.cpus.length)&&s.cpus.all (fun x=>left.contains x)&&decide (s.cpus.length<left.length)
def Co(l:List Ai)(al:Bool):List Int->List Int->List Int×List Int
 |[],left=>(left,[])
 |c::r,left=>if Aej al left (cfg l c)then((Co l al r (AaM left (cfg l c).cpus)).1,c::(Co l al r (AaM left (cfg l c).cpus)).2)else Co l al r left
theorem Aiy{l:List Ai}{al:Bool}{x:Int}:∀(pre:List Int) (left:List Int),
  Co l al (pre++[x]) left=if Aej al (Co l al pre left).1 (cfg l x)then(AaM (Co l al pre left).1 (cfg l x).cpus,(Co l al pre left).2++[x])else Co l al pre left
 |[],left=>by
  by_cases h:Aej al left (cfg l x)=true<;>simp[Co,h]
 |c::r,left=>by
  rw[List.cons_append,Co,Aiy r left,Aiy r (AaM left (cfg l c).cpus)];rw[Co]
  by_cases h:Aej al left (cfg l c)=true
  ·rw[if_pos h,if_pos h];simp only;split<;>simp
  ·rw[if_neg h,if_neg h]
theorem Vr{l:List Ai}{al:Bool}:∀(ks left:List Int),(∀x∈(Co l al ks left).1,x∈left)/\(∀c∈(Co l al ks left).2,c∈ks)/\(Asc left->Asc (Co l al ks left).1)
 |[],left=>by simp[Co]
 |c::r,left=>by
  rw[Co]
  by_cases h:Aej al left (cfg l c)=true
  ·rw[if_pos h];obtain⟨f,b,g⟩:=Vr r (AaM left (cfg l c).cpus) (l:=l) (al:=al);refine⟨fun x j=>(C1.mp (f x j)).1,fun d a=>?_,fun i=>g (AkV _ i)⟩;rcases C0.mp a with rfl|a
   ·simp
   ·simp[b d a]
  ·rw[if_neg h];obtain⟨f,b,g⟩:=Vr r left (l:=l) (al:=al);exact⟨f,fun d a=>by simp[b d a],g⟩
def Ait(t:Ae)(l:List Ai)(g:Int)(s:List Int)(al:Bool):List Int:=(Co l al (Bb t g) s).1
def Rp(t:Ae)(l:List Ai)(g:Int)(s:List Int)(al:Bool):List Int:=(Co l al (Bb t g) s).2
def stC(t:Ae)(l:List Ai)(on:List Int):List Int->List Int×Bool
 |[]=>([],false)
 |[_]=>(on,false)
 |c::p::r=>
  if(Rp t l p (stC t l on (p::r)).1 (p==1||(stC t l on (p::r)).2)).contains c then((cfg l c).cpus,true)
  else(Tp (cfg l c).cpus (Ait t l p (stC t l on (p::r)).1 (p==1||(stC t l on (p::r)).2)),false)
def Ec(t:Ae)(l:List Ai)(on:List Int)(g:Int):List Int:=(stC t l on (upT t g)).1
def Fa(t:Ae)(l:List Ai)(on:List Int)(g:Int):Bool:=(stC t l on (upT t g)).2
def Mf(t:Ae)(l:List Ai)(on:List Int)(g:Int):Bool:=g==1||Fa t l on g
def Sf(t:Ae)(l:List Ai)(on:List Int)(g:Int):List Int:=Ait t l g (Ec t l on g) (Mf t l on g)
def Lt(t:Ae)(l:List Ai)(on:List Int)(g:Int):List Int:=Rp t l g (Ec t l on g) (Mf t l on g)
def Ch(t:Ae)(g x:Int):Bool:=(upT t x).contains g
variable {t:Ae} {l:List Ai} {on:List Int}
theorem below_iff{g x:Int}:Ch t g x=true↔g∈upT t x:=by simp[Ch]
theorem AeL(w:WfT t){g c:Int}(b:c∈Bb t g):upT t c=c::upT t g/\Aw t c=true/\g<c:=by
 obtain⟨x,a,rfl,rfl⟩:=kids_iff.mp b;exact⟨w.up a,hasN_iff.mpr ⟨x,a,rfl⟩,w.par_lt a⟩
theorem Auy(w:WfT t):upT t 1=[1]:=by
 obtain⟨x,r,e,a⟩:=w.root;have b:x∈t.nodes:=by rw[e];simp
 have:=w.up b;rw[a.id,a.parent,w.upZero]at this;exact this
theorem ApT(w:WfT t):Ec t l on 1=on/\Fa t l on 1=false:=by
 unfold Ec Fa;rw[Auy w];exact⟨rfl,rfl⟩
theorem Ajm{g:Int}(w:WfT t)(h:Aw t g=true):∃r,upT t g=g::r:=⟨_,Ajz w h⟩
theorem Aeq(w:WfT t){g c:Int}(b:Aw t g=true)(f:c∈Bb t g):
  Fa t l on c=(Lt t l on g).contains c/\Ec t l on c=(if(Lt t l on g).contains c then(cfg l c).cpus else Tp (cfg l c).cpus (Sf t l on g)):=by
 obtain⟨e1,e2,h⟩:=AeL w f;obtain⟨r,a⟩:=Ajm w b;unfold Fa Ec;rw[e1,a,stC];unfold Lt Sf Ec Mf Fa;grind
def setsA(t:Ae)(l:List Ai)(on:List Int)(g:Int)(m:IMap (List Int)):IMap (List Int):=⟨fun x=>Ch t g x||m.has x,fun x=>if Ch t g x then Sf t l on x else m.get x⟩
def partA(t:Ae)(l:List Ai)(on:List Int)(g:Int)(m:IMap Bool):IMap Bool:=⟨fun x=>(Ch t g x&&x !=g&&Fa t l on x)||m.has x,fun x=>if Ch t g x&&x !=g&&Fa t l on x then true else m.get x⟩
def Hm(m:IMap Bool)(a:List Int):IMap Bool:=⟨fun x=>a.contains x||m.has x,fun x=>if a.contains x then true else m.get x⟩
def Vy(l:List Ai)(a:List Int):IMap (List Int):=⟨fun x=>a.contains x,fun x=>if a.contains x then(cfg l x).cpus else[]⟩
def Vw(l:List Ai)(b a:List Int)(left:List Int):IMap (List Int):=⟨fun x=>a.contains x||b.contains x,fun x=>if a.contains x then Tp (cfg l x).cpus left else if b.contains x then(cfg l x).cpus else[]⟩
theorem IMap.ext'{V:Type}{m n:IMap V}(a:∀x,m.has x=n.has x)(b:∀x,m.get x=n.get x):m=n:=by
 cases m;cases n;congr
 all_goals grind
theorem Auj(m:IMap Bool)(a:List Int)(x:Int):(Hm m a).set x true=Hm m (a++[x]):=by
 apply IMap.ext'
 ·intro y;simp only[IMap.set,Hm,Bf,E5,B1,E7]
  by_cases h:y=x
  ·simp[h]
  ·simp[h]
 ·intro y;simp only[IMap.set,Hm,Bf,E5,B1,E7,decide_eq_true_eq]
  by_cases h:y=x
  ·simp[h]
  ·simp[h]
theorem AvC(a:List Int)(x:Int):(Vy l a).set x (cfg l x).cpus=Vy l (a++[x]):=by
 apply IMap.ext'
 ·intro y;simp only[IMap.set,Vy,Bf,E5,B1,E7]
  by_cases h:y=x
  ·simp[h]
  ·simp[h]
 ·intro y;simp only[IMap.set,Vy,Bf,E5,B1,E7,decide_eq_true_eq]
  by_cases h:y=x
  ·simp[h]
  ·simp[h]
theorem AvL(b a left:List Int)(x:Int):(Vw l b a left).set x (Tp (cfg l x).cpus left)=Vw l b (a++[x]) left:=by
 apply IMap.ext'
 ·intro y;simp only[IMap.set,Vw,Bf,E5,B1,E7]
  by_cases h:y=x
  ·simp[h]
  ·simp[h]
 ·intro y;simp only[IMap.set,Vw,Bf,E5,B1,E7,decide_eq_true_eq]
  by_cases h:y=x
  ·simp[h]
  ·simp[h]
theorem AwK(a left:List Int):Vy l a=Vw l a [] left:=by
 simp_all[IMap.ext',Vy,Vw]
structure UseS(t:Ae)(l:List Ai)(on:List Int):Prop where
 fits:FitsS t l
 pos:0<on.length
 set:okSet 16 on
theorem CheckP.small{s:As}(h:CheckP s):s.cpus.length<=16/\s.mems.length<=8/\Asc s.cpus/\Asc s.mems:=by
 obtain⟨_,_,_,_,_,b,a,_,_,_⟩:=h;have a1:=b.len (by omega);have a2:=a.len (by omega);exact⟨by omega,by omega,b.1,a.1⟩
theorem cfg_mem{P:As->Prop}(h:∀x∈l,P x.settings)(a:P dfS)(g:Int):P (cfg l g):=by
 unfold cfg
 cases b:l.find? (fun x=>x.group==g)with
 |none=>exact a
 |some x=>exact h x (D0 b)
theorem FitsS.cfg(f:FitsS t l)(g:Int):CheckP (cfg l g):=cfg_mem f.chk dfS_ok g
theorem AhA(a:okSet 16 on){L:List Int}(h:∀x∈L,x∈on)(b:Asc L):L.length<=16:=by
 have:=(show okSet 16 L from⟨b,fun x f=>a.2 x (h x f)⟩).len (by omega);omega
end Go.Dm

namespace Go.Dm
variable {t:Ae} {l:List Ai} {on:List Int}
theorem cond_iff{al:Bool}{left:List Int}{s:As}:Aej al left s=true↔s.partition=1/\al=true/\0<s.cpus.length/\(∀y∈s.cpus,y∈left)/\s.cpus.length<left.length:=by
 simp[Aej,and_assoc]
theorem Ail{al:Bool}(z:∀c,Asc (cfg l c).cpus):∀(ks left:List Int),Asc left ->
  (∀c∈(Co l al ks left).2,al=true/\(cfg l c).partition=1/\0<(cfg l c).cpus.length/\∀y∈(cfg l c).cpus,y∈left/\y∉(Co l al ks left).1) /\
  (∀y∈left,y∈(Co l al ks left).1\/∃c∈(Co l al ks left).2,y∈(cfg l c).cpus) /\
  (ks.Nodup->∀c∈(Co l al ks left).2,∀d∈(Co l al ks left).2,∀y,y∈(cfg l c).cpus->y∈(cfg l d).cpus->c=d) /\
  (0<left.length->0<(Co l al ks left).1.length)
 |[],left,ha=>by simp[Co]
 |c::r,left,ha=>by
  rw[Co]
  by_cases h:Aej al left (cfg l c)=true
  ·rw[if_pos h];obtain⟨c1,c2,B,G,H⟩:=cond_iff.mp h
   have k:∀y,y∈AaM left (cfg l c).cpus↔y∈left/\y∉(cfg l c).cpus:=by
    intro y;simp[AaM]
   obtain⟨m,o,q,u⟩:=Ail (al:=al) z r (AaM left (cfg l c).cpus) (AkV _ ha);obtain⟨D,J,I⟩:=Vr (l:=l) (al:=al) r (AaM left (cfg l c).cpus);refine⟨fun d a=>?_,fun y b=>?_,fun n d a e i y f j=>?_,fun x=>u ?_⟩
   ·simp only;rcases C0.mp a with rfl|a
    ·exact⟨c2,c1,B,fun y b=>⟨G y b,fun s=>((k y).mp (D y s)).2 b⟩⟩
    ·obtain⟨A,F,E,v⟩:=m d a;exact⟨A,F,E,fun y b=>⟨((k y).mp (v y b).1).1,(v y b).2⟩⟩
   ·simp only
    by_cases hyc:y∈(cfg l c).cpus
    ·exact .inr ⟨c,by simp,hyc⟩
    ·rcases o y ((k y).mpr ⟨b,hyc⟩)with g|⟨d,a,g⟩
     ·exact .inl g
     ·exact .inr ⟨d,by simp[a],g⟩
   ·simp only at a i;rw[H4]at n;rcases C0.mp a with rfl|a<;>rcases C0.mp i with rfl|i
    ·rfl
    ·exact absurd f ((k y).mp ((m e i).2.2.2 y j).1).2
    ·exact absurd j ((k y).mp ((m d a).2.2.2 y f).1).2
    ·exact q n.2 d a e i y f j
   ·apply Nat.pos_of_ne_zero;intro C;have i:=C6 C
    have:left.length<=(cfg l c).cpus.length:=Akd (Asa ha) fun y b=>by
     by_cases hyc:y∈(cfg l c).cpus
     ·exact hyc
     ·have:=(k y).mpr ⟨b,hyc⟩;rw[i]at this;simp at this
    omega
  ·rw[if_neg h];obtain⟨m,o,q,u⟩:=Ail (al:=al) z r left ha;exact⟨m,o,fun n=>q (H4.mp n).2,u⟩
theorem UseS.asc(u:UseS t l on)(c:Int):Asc (cfg l c).cpus:=(u.fits.cfg c).small.2.2.1
theorem UseS.w(u:UseS t l on):WfT t:=u.fits.wf
theorem Asz{A B:List Int}:∀y∈Tp A B,y∈B:=by
 grind[Tp,only,AmA]
theorem Asx{A B:List Int}(a:Asc A)(b:Asc B):Asc (Tp A B):=by
 unfold Tp;split
 ·exact AkV _ a
 ·exact b
theorem Asl{A B:List Int}(a:0<B.length):0<(Tp A B).length:=by
 unfold Tp;split
 ·assumption
 ·exact a
theorem share_ok(u:UseS t l on):∀x∈t.nodes,Asc (Ec t l on x.id)/\(∀y∈Ec t l on x.id,y∈on)/\0<(Ec t l on x.id).length:=by
 refine u.w.induct fun x j s=>?_
 rcases u.w.p.par x j with⟨v,_⟩|⟨_,_,⟨y,a,b⟩,_⟩
 ·rw[v,(ApT u.w).1];exact⟨u.set.1,fun y a=>a,u.pos⟩
 ·obtain⟨g,f,i⟩:=s y a b;rw[b]at g f i;have o:Aw t x.parent=true:=hasN_iff.mpr ⟨y,a,b⟩;have q:x.id∈Bb t x.parent:=kids_iff.mpr ⟨x,j,rfl,rfl⟩;obtain⟨e1,e2⟩:=Aeq (l:=l) (on:=on) u.w o q;rw[e2];obtain⟨p1,p2,A,k⟩:=Ail (al:=Mf t l on x.parent) u.asc (Bb t x.parent) _ g;obtain⟨n,B,r⟩:=Vr (l:=l) (al:=Mf t l on x.parent) (Bb t x.parent) (Ec t l on x.parent);split
  ·rename_i h;have h:x.id∈Lt t l on x.parent:=by simpa using h
   obtain⟨_,_,z,m⟩:=p1 _ h;exact⟨u.asc _,fun y a=>f y (m y a).1,z⟩
  ·exact⟨Asx (u.asc _) (r g),fun y a=>f y (n y (Asz y a)),Asl (k i)⟩
theorem Asj(u:UseS t l on){g:Int}(h:Aw t g=true):Asc (Ec t l on g)/\(∀y∈Ec t l on g,y∈on)/\0<(Ec t l on g).length/\(Ec t l on g).length<=16:=by
 obtain⟨x,i,rfl⟩:=hasN_iff.mp h;obtain⟨b,a,f⟩:=share_ok u x i;exact⟨b,a,f,AhA u.set a b⟩
theorem ArR(u:UseS t l on){g:Int}(h:Aw t g=true):Asc (Sf t l on g)/\(∀y∈Sf t l on g,y∈Ec t l on g)/\0<(Sf t l on g).length/\(Sf t l on g).length<=16:=by
 obtain⟨a,j,m,_⟩:=Asj u h;obtain⟨p1,p2,n,i⟩:=Ail (al:=Mf t l on g) u.asc (Bb t g) _ a;obtain⟨f,o,b⟩:=Vr (l:=l) (al:=Mf t l on g) (Bb t g) (Ec t l on g);exact⟨b a,f,i m,AhA u.set (fun y k=>j y (f y k)) (b a)⟩
theorem Ave(u:UseS t l on)(T:∀x∈l,Dz x.settings){g:Int}{al:Bool}{p:plan}(K:p.tree=t)(O:p.configs=l)(V:Aw t g=true){s:List Int}(H:Asc s)(N:s.length<=16)
  (U:p.partitions.get g=al) {j:plan->Int->List Int->Option plan} {Q:plan->Prop}
  (fin:Ok (Nt j p g (Vy l (Rp t l g s al),(Bb t g).filter (fun c=>!(Rp t l g s al).contains c),Hm p.partitions (Rp t l g s al),Ait t l g s al)) Q):
  Ok (Ox j p g s) Q:=by
 have G:=u.fits.len;have X:=u.w.len2;unfold Ox;rw[K,Yo t g (by omega),A0];have W:=Yu t g;refine Ok.guard (by omega) ?_;refine Ok.range (fun pre D=>D=(Vy l (Co l al pre s).2,pre.filter (fun c=>!(Co l al pre s).2.contains c),Hm p.partitions (Co l al pre s).2,(Co l al pre s).1)) ?_ ?_ ?_
 ·have I:Hm p.partitions []=p.partitions:=by apply IMap.ext'<;>intro y<;>simp[Hm]
  simp only[Co,P1,I];rfl
 ·intro pre x post D n o B f;subst B;have C:x∈Bb t g:=by rw[o];simp
  obtain⟨e1,e2,Y⟩:=AeL u.w C;have P:(pre++x::post).Nodup:=by rw[<-o];exact Akg u.w g
  have v:x∉pre:=fun h=>by grind
  obtain⟨q,r,b⟩:=Vr (l:=l) (al:=al) pre s
  have z:g∉(Co l al pre s).2:=fun h=>by
   have A:g∈Bb t g:=by rw[o];simp[r g h]
   have:=(AeL u.w A).2.2;omega
  have m:(Co l al pre s).1.length<=16:=by
   have:=Akd (Asa (b H)) q;omega
  unfold AbH Fv Nu;rw[O,Fy (by omega) T,A0];have k:(Hm p.partitions (Co l al pre s).2).get g=al:=by grind[only,Hm]
  have R:=(u.fits.cfg x).small;have L:AaW (cfg l x).cpus (Co l al pre s).1=some ((cfg l x).cpus.all (fun y=>(Co l al pre s).1.contains y)):=AqV (by omega) (by omega)
  have i:Aej al (Co l al pre s).1 (cfg l x)=true->Ok ((AbV (Co l al pre s).1 (cfg l x).cpus).bind fun E=>n ((Vy l (Co l al pre s).2).set x (cfg l x).cpus,pre.filter (fun c=>!(Co l al pre s).2.contains c),(Hm p.partitions (Co l al pre s).2).set x true,E)) Q:=by
   intro F;rw[Atk (b H) (by omega) (by omega),A0,AvC,Auj];refine f _ ?_;rw[Aiy,if_pos F];simp only;congr 1;congr 1;rw[E6]
   have M:pre.filter (fun c=>!((Co l al pre s).2++[x]).contains c)=pre.filter (fun c=>!(Co l al pre s).2.contains c):=by
    apply J9;grind
   rw[M];simp
  have a:¬ Aej al (Co l al pre s).1 (cfg l x)=true->Ok (if(pre.filter (fun c=>!(Co l al pre s).2.contains c)).length+1<=1073741824 then n (Vy l (Co l al pre s).2,pre.filter (fun c=>!(Co l al pre s).2.contains c)++[x],Hm p.partitions (Co l al pre s).2,(Co l al pre s).1)else none) Q:=by
   intro F;have J:pre.length<=(Bb t g).length:=by rw[o];simp
   have:=F2 (fun c=>!(Co l al pre s).2.contains c) pre;refine Ok.guard (by omega) (f _ ?_);rw[Aiy,if_neg F,E6];grind
  simp only[k]
  by_cases c1:(cfg l x).partition=1
  ·rw[if_pos (by simpa using c1)]
   cases al with
   |true=>
    rw[if_pos rfl]
    by_cases c3:0<(cfg l x).cpus.length
    ·rw[if_pos (by simpa using c3),L,A0]
     by_cases c4:(cfg l x).cpus.all (fun y=>(Co l true pre s).1.contains y)=true
     ·rw[if_pos c4]
      by_cases c5:(cfg l x).cpus.length<(Co l true pre s).1.length
      ·rw[if_pos (by simpa using c5)];exact i (cond_iff.mpr ⟨c1,rfl,c3,by simpa using c4,c5⟩)
      ·rw[if_neg (by simpa using c5)];exact a fun h=>c5 (cond_iff.mp h).2.2.2.2
     ·rw[if_neg c4,if_neg (by simp)];exact a fun h=>c4 (by simpa using(cond_iff.mp h).2.2.2.1)
    ·rw[if_neg (by simpa using c3),if_neg (by simp)]
     exact a fun h=>c3 (cond_iff.mp h).2.2.1
   |false=>
    rw[if_neg (by simp),if_neg (by simp)];exact a fun h=>by have:=(cond_iff.mp h).2.1;simp at this
  ·rw[if_neg (by simpa using c1),if_neg (by simp)];exact a fun h=>c1 (cond_iff.mp h).1
 ·intro D B;subst B;exact fin
theorem Ats(u:UseS t l on)(v:∀x∈l,Dz x.settings){g:Int}{p:plan}(s:p.configs=l){a f left:List Int}{q:IMap Bool}(r:left.length<=16)(k:f.length<=64)
  {b:plan->Int->List Int->Option plan} {Q:plan->Prop} (fin:Ok (Ry b p g (Vy l a,f,q,left) (Vw l a f left)) Q):Ok (Nt b p g (Vy l a,f,q,left)) Q:=by
 have j:=u.fits.len;have y:=u.w.len2;unfold Nt;refine Ok.guard (by simp only;omega) ?_;refine Ok.range (fun pre i=>i=Vw l a pre left) (AwK a left) ?_ ?_
 ·intro pre x post i n z h o;subst h;unfold Aau;have m:=(u.fits.cfg x).small;grind[Fy,AtQ,only,AvL]
 ·intro i h;subst h;exact fin
theorem Aev(w:WfT t){g c x:Int}(j:Aw t g=true)(k:c∈Bb t g)(h:Ch t c x=true):Ch t g x=true/\x≠g:=by
 rw[below_iff]at h ⊢;obtain⟨n,f,a⟩:=Gi h;subst a;obtain⟨e1,e2,m⟩:=AeL w k;obtain⟨r,i⟩:=Ajm w j
 have b:g∈upT t c:=by
  rw[e1,i];simp
 refine⟨AkX w b n f h,fun e=>?_⟩;have:=up_le w n f c h;omega
theorem AiJ(w:WfT t){g x:Int}(a:Aw t g=true):Ch t g x=true↔x=g\/∃c∈Bb t g,Ch t c x=true:=by
 grind[Gi,AoM,Ajm,below_iff,Aev]
theorem AmR(w:WfT t){g c d x:Int}(r:c∈Bb t g)(k:d∈Bb t g)(j:Ch t c x=true)(o:Ch t d x=true):c=d:=by
 obtain⟨y,m,h,a⟩:=kids_iff.mp r;obtain⟨z,s,i,b⟩:=kids_iff.mp k;obtain⟨n,q,f⟩:=Gi (below_iff.mp j);subst f;have:=up_one w m s h i n q (by rw[a];exact below_iff.mp j) (by rw[b];exact below_iff.mp o);rw[<-a,<-b,this]
theorem AfY(w:WfT t){g:Int}(a:Aw t g=true):Ch t g g=true:=by
 grind[Ajm,below_iff]
def Akt(t:Ae)(l:List Ai)(on:List Int)(g:Int)(rem:Int->Bool)(m:IMap (List Int)):IMap (List Int):=
 ⟨fun x=>(x==g||(Bb t g).any (fun c=>!rem c&&Ch t c x))||m.has x,fun x=>if x==g||(Bb t g).any (fun c=>!rem c&&Ch t c x)then Sf t l on x else m.get x⟩
def Acs(t:Ae)(l:List Ai)(on:List Int)(g:Int)(rem:Int->Bool)(m:IMap Bool):IMap Bool:=
 ⟨fun x=>(Bb t g).any (fun c=>!rem c&&Ch t c x&&x !=c&&Fa t l on x)||m.has x,fun x=>if(Bb t g).any (fun c=>!rem c&&Ch t c x&&x !=c&&Fa t l on x)then true else m.get x⟩
theorem Axr(w:WfT t){g n:Int}{rem:Int->Bool}(a:Aw t g=true)(b:n∈Bb t g)(m:IMap (List Int)):
  setsA t l on n (Akt t l on g rem m)=Akt t l on g (Bf rem n false) m:=by
 have key:∀x,(Ch t n x||(x==g||(Bb t g).any (fun c=>!rem c&&Ch t c x)))=(x==g||(Bb t g).any (fun c=>!(Bf rem n false) c&&Ch t c x)):=by grind[only,Bf]
 apply IMap.ext'
 ·intro x;show(Ch t n x||((x==g||(Bb t g).any (fun c=>!rem c&&Ch t c x))||m.has x))=((x==g||(Bb t g).any (fun c=>!(Bf rem n false) c&&Ch t c x))||m.has x);rw[<-Bool.or_assoc,key x]
 ·intro x;show(if Ch t n x=true then Sf t l on x else if(x==g||(Bb t g).any (fun c=>!rem c&&Ch t c x))=true then Sf t l on x else m.get x)=(if(x==g||(Bb t g).any (fun c=>!(Bf rem n false) c&&Ch t c x))=true then Sf t l on x else m.get x);rw[<-key x];cases Ch t n x<;>simp
theorem AwJ(w:WfT t){g n:Int}{rem:Int->Bool}(a:Aw t g=true)(b:n∈Bb t g)(m:IMap Bool):
  partA t l on n (Acs t l on g rem m)=Acs t l on g (Bf rem n false) m:=by
 have key:∀x,((Ch t n x&&x !=n&&Fa t l on x)||(Bb t g).any (fun c=>!rem c&&Ch t c x&&x !=c&&Fa t l on x))=(Bb t g).any (fun c=>!(Bf rem n false) c&&Ch t c x&&x !=c&&Fa t l on x):=by grind[only,Bf]
 apply IMap.ext'
 ·intro x;show((Ch t n x&&x !=n&&Fa t l on x)||((Bb t g).any (fun c=>!rem c&&Ch t c x&&x !=c&&Fa t l on x)||m.has x))=_;rw[<-Bool.or_assoc,key x];rfl
 ·intro x;show(if(Ch t n x&&x !=n&&Fa t l on x)=true then true else if(Bb t g).any (fun c=>!rem c&&Ch t c x&&x !=c&&Fa t l on x)=true then true else m.get x)=(if(Bb t g).any (fun c=>!(Bf rem n false) c&&Ch t c x&&x !=c&&Fa t l on x)=true then true else m.get x);grind
theorem Aue(w:WfT t){g c:Int}(a:Aw t g=true)(b:c∈Bb t g):c≠1:=by
 obtain⟨e1,e2,h⟩:=AeL w b;obtain⟨x,f,rfl⟩:=hasN_iff.mp a;have:=w.id_pos f;omega
theorem divide_t(u:UseS t l on)(O:∀x∈l,Dz x.settings):∀(n:Nat) (g:Int) (p:plan),(t.next-g).toNat<n->Aw t g=true->p.tree=t->p.configs=l->p.partitions.get g=Mf t l on g ->
  (∀x,Ch t g x=true->x≠g->p.partitions.get x=false) ->
  Gk n p g (Ec t l on g)=some {tree:=t,configs:=l,sets:=setsA t l on g p.sets,partitions:=partA t l on g p.partitions}:=by
 intro n;have w:=u.w
 induction n with
 |zero=>intro g p h;omega
 |succ n X=>
  intro g p P j J F H B
  have W:g<t.next:=by
   obtain⟨x,A,rfl⟩:=hasN_iff.mp j;exact w.next x A
  obtain⟨T,q2,q3,U⟩:=Asj u j;obtain⟨o1,o2,o3,o4⟩:=ArR u j;have Q:=Yu t g;have V:=w.len2;rw[Gk];apply Ok.eq;refine Ave u O J F j T U H ?_;have L:=F2 (fun c=>!(Rp t l g (Ec t l on g) (Mf t l on g)).contains c) (Bb t g);have G:(Ait t l g (Ec t l on g) (Mf t l on g)).length<=16:=o4;refine Ats u O F G (by omega) ?_;unfold Ry
  have i:Vw l (Rp t l g (Ec t l on g) (Mf t l on g)) ((Bb t g).filter (fun c=>!(Rp t l g (Ec t l on g) (Mf t l on g)).contains c)) (Ait t l g (Ec t l on g) (Mf t l on g)) =
    ⟨fun c=>(Bb t g).contains c,fun c=>if(Bb t g).contains c then Ec t l on c else[]⟩:=by
   obtain⟨s1,R,s3⟩:=Vr (l:=l) (al:=Mf t l on g) (Bb t g) (Ec t l on g);have v:∀c,c∈Rp t l g (Ec t l on g) (Mf t l on g)->c∈Bb t g:=R;apply IMap.ext'
   ·intro c;simp only[Vw,E5,C1];rw[K9];simp only[B7,decide_eq_true_eq,D7,decide_eq_false_iff_not];constructor
    ·rintro(h|h)
     ·exact h.1
     ·exact v c h
    ·intro h
     by_cases hp:c∈Rp t l g (Ec t l on g) (Mf t l on g)
     ·exact .inr hp
     ·exact .inl ⟨h,hp⟩
   ·intro c
    by_cases a:c∈Bb t g
    ·have C:=(Aeq (l:=l) (on:=on) w j a).2;simp only[Vw,E5,C1,a,true_and,decide_true,if_true,C]
     by_cases hp:c∈Rp t l g (Ec t l on g) (Mf t l on g)
     ·simp[hp,Lt]
     ·simp[hp,Lt,Sf]
    ·have k:c∉Rp t l g (Ec t l on g) (Mf t l on g):=fun h=>a (v c h)
     simp[Vw,a,k]
  rw[i]
  have y:p.sets.set g (Ait t l g (Ec t l on g) (Mf t l on g))=Akt t l on g (fun c=>(Bb t g).contains c) p.sets:=by
   apply IMap.ext'
   ·intro x;simp only[IMap.set,Bf,Akt];grind
   ·intro x;simp only[IMap.set,Bf,Akt];grind[Bb,Ch,Sf]
  have m:Hm p.partitions (Rp t l g (Ec t l on g) (Mf t l on g))=Acs t l on g (fun c=>(Bb t g).contains c) (Hm p.partitions (Lt t l on g)):=by
   have r:∀x,(Bb t g).any (fun c=>!(Bb t g).contains c&&Ch t c x&&x !=c&&Fa t l on x)=false:=by grind
   apply IMap.ext'
   ·intro x;simp only[Acs,r x,E8];rfl
   ·intro x;simp only[Acs,r x];rfl
  refine Ok.of_eq (b:={tree:=t,configs:=l,sets:=setsA t l on g p.sets,partitions:=partA t l on g p.partitions}) ?_ rfl;refine rangeM_ok (fun rem s=>(∀c,rem c=true->c∈Bb t g)/\s=(t.nodes,t.next,l,Akt t l on g rem p.sets,Acs t l on g rem (Hm p.partitions (Lt t l on g)))) ?_ ?_ Ik (Bb t g) _ _ (Akg w g) (by rw[Iz];omega) (by simp) ⟨by simp,?_⟩
  ·rintro rem s c N D ⟨E,rfl⟩ hN;have a:=E c D;obtain⟨e1,e2,e3⟩:=AeL w a;unfold AaD;simp only[E5,a,decide_true,if_true]
   have o:(Acs t l on g rem (Hm p.partitions (Lt t l on g))).get c=Mf t l on c:=by
    have r:(Bb t g).any (fun d=>!rem d&&Ch t d c&&c !=d&&Fa t l on c)=false:=by grind[only,AmR,AfY]
    have K:Mf t l on c=(Lt t l on g).contains c:=by grind[Aue,Aeq,Mf]
    simp only[Acs,r,A2,if_false,Hm,K];grind[Aev,AfY,Lt]
   have z:∀x,Ch t c x=true->x≠c->(Acs t l on g rem (Hm p.partitions (Lt t l on g))).get x=false:=by
    intro x A I;have r:(Bb t g).any (fun d=>!rem d&&Ch t d x&&x !=d&&Fa t l on x)=false:=by grind[only,AmR]
    have k:x∉Lt t l on g:=by
     intro q;have f:x∈Bb t g:=(Vr (l:=l) (al:=Mf t l on g) (Bb t g) (Ec t l on g)).2.1 x q;exact I (AmR w a f A (AfY w (AeL w f).2.1)).symm
    obtain⟨b1,M⟩:=Aev w j a A;simp only[Acs,r,A2,if_false,Hm,E5,k,decide_false];exact B x b1 M
   have:=X c {tree:=t,configs:=l,sets:=Akt t l on g rem p.sets,partitions:=Acs t l on g rem (Hm p.partitions (Lt t l on g))} (by omega) e2 rfl rfl o z;grind[only,Axr,AwJ,Bf]
  ·rintro s ⟨_,rfl⟩;unfold AaF;simp only;congr 1;congr 1
   ·apply IMap.ext'
    ·intro x;show((x==g||(Bb t g).any (fun c=>!false&&Ch t c x))||p.sets.has x)=(Ch t g x||p.sets.has x);grind[AiJ]
    ·intro x;show(if(x==g||(Bb t g).any (fun c=>!false&&Ch t c x))=true then _ else _)=(if Ch t g x=true then _ else _);grind[Bb,Ch,AiJ]
   ·have key:∀x,((Bb t g).any (fun c=>!false&&Ch t c x&&x !=c&&Fa t l on x)||(Lt t l on g).contains x)=(Ch t g x&&x !=g&&Fa t l on x):=by
     intro x;rw[K9];simp only[B7,F6,A6,bne_iff_ne,ne_eq,G6,true_and];constructor
     ·rintro(⟨c,hc,⟨K,Y⟩,h3⟩|h)
      ·grind[Aev]
      ·have q:x∈Lt t l on g:=by simpa using h
       have f:x∈Bb t g:=(Vr (l:=l) (al:=Mf t l on g) (Bb t g) (Ec t l on g)).2.1 x q;obtain⟨b1,M⟩:=Aev w j f (AfY w (AeL w f).2.1);grind[Aeq]
     grind[AiJ,Aeq]
    apply IMap.ext'
    ·intro x;show((Bb t g).any (fun c=>!false&&Ch t c x&&x !=c&&Fa t l on x)||((Lt t l on g).contains x||p.partitions.has x))=((Ch t g x&&x !=g&&Fa t l on x)||p.partitions.has x);rw[<-Bool.or_assoc,key x]
    ·intro x;show(if(Bb t g).any (fun c=>!false&&Ch t c x&&x !=c&&Fa t l on x)=true then true else if(Lt t l on g).contains x=true then true else p.partitions.get x)=(if(Ch t g x&&x !=g&&Fa t l on x)=true then true else p.partitions.get x);grind
  ·rw[J,F,y,m]
end Go.Dm

namespace Go.Dm
variable {t:Ae} {l:List Ai} {on:List Int}
theorem ApW(w:WfT t)(x:Int):Ch t 1 x=Aw t x:=by
 rw[K9,below_iff];constructor
 ·intro h;obtain⟨n,a,rfl⟩:=Gi h;exact hasN_iff.mpr ⟨n,a,rfl⟩
 ·intro h;obtain⟨n,a,rfl⟩:=hasN_iff.mp h;refine w.induct (P:=fun n=>(1:Int)∈upT t n.id) (fun n a f=>?_) n a;rcases w.p.par n a with⟨i,_⟩|⟨_,_,⟨y,g,b⟩,_⟩
  ·rw[i,Auy w];simp
  ·have:=f y g b;rw[b]at this;rw[w.up a];simp[this]
def aloneL(t:Ae)(l:List Ai)(on:List Int):List Int:=(t.nodes.map (·.id)).filter (fun x=>x !=1&&Fa t l on x)
theorem Axe{x:Int}:x∈aloneL t l on↔Aw t x=true/\x≠1/\Fa t l on x=true:=by
 unfold aloneL;rw[C1,hasN_iff];simp
theorem of_t(u:UseS t l on)(g:∀x∈l,Dz x.settings):
  ∃p,Aio t l on=some p/\(∀x,p.sets.get x=if Aw t x then Sf t l on x else[])/\∀x,p.partitions.has x=true↔x∈aloneL t l on:=by
 have w:=u.w;have i:=AhA u.set (fun x h=>h) u.set.1;have a:=ApT (l:=l) (on:=on) w;have f:=w.nextLe;have e:=divide_t u g Ik 1 {tree:=t,configs:=l,sets:=IMap.empty ([]:List Int),partitions:=(IMap.empty false).set 1 true} (by rw[Iz];omega) (has_root w) rfl rfl (by simp[IMap.set,Bf,Mf]) (fun x j b=>by simp[IMap.set,Bf,b,IMap.empty]);rw[a.1]at e;unfold Aio Ws;rw[Yh (by omega),A0,e,A0];refine⟨_,rfl,fun x=>?_,fun x=>?_⟩
 ·simp only[setsA,IMap.empty,ApW w]
 ·simp only[IMap.del,partA,IMap.set,IMap.empty,Bf,ApW w,Axe]
  by_cases h1:x=1
  ·simp[h1]
  ·simp[h1,and_assoc]
theorem UseS.iff:Usable t l on 16↔UseS t l on:=⟨fun u=>⟨u.fits,u.pos,u.set⟩,fun u=>⟨u.fits,u.pos,u.set⟩⟩
theorem usable_t(u:UseS t l on)(g:∀x∈l,Dz x.settings):Qz t l on 16=some true:=by
 have i:=AhA u.set (fun x h=>h) u.set.1;have j:=u.fits.len;have k:=u.w.len2;obtain⟨b,f,a⟩:=Apy (t:=t) (l:=l) (on:=on) (n:=16) u.w.p.names (by omega) (by omega) g (by omega);rw[f,a.mpr (UseS.iff.mpr u)]
theorem Cpus_t(u:UseS t l on)(a:∀x∈l,Dz x.settings)(g:Int):AaS t l on g=some (if Aw t g then Sf t l on g else[]):=by
 obtain⟨p,i,f,_⟩:=of_t u a;unfold AaS;rw[usable_t u a,A0,if_neg (by simp),i,A0,f g]
 have b:(if Aw t g then Sf t l on g else[]).length<=16:=by
  split
  ·rename_i h;exact(ArR u h).2.2.2
  ·simp
 rw[Yh (by omega),A0]
theorem Set_ok{d:Aj}(b:Bg d){n:Int}(q:0<=n)(n1:n<=1000):Ok (Qx d n) (fun r=>okSet n r.1/\Bg r.2):=by
 unfold Qx;refine Ok.guard (by omega) ?_;have e:Int.toNat (n-0)=n.toNat:=by simp
 rw[e];refine AxZ (fun j s=>Bg s.1/\Asc s.2/\∀x∈s.2,0<=x/\x<(j:Int)) ⟨b,List.Pairwise.nil,fun x f=>by simp at f⟩ ?_ ?_
 ·rintro j ⟨d,L⟩ m u ⟨b,g,a⟩ i;unfold AiE Wz;simp only at b g a;have k:=ArU g a;refine Ok.bind (Pt b 3 (by omega)) fun r b=>?_
  refine Aya (fun _=>Ok.guard (by simp only;omega) (i _ ⟨b,?_,?_⟩)) fun _=>i _ ⟨b,g,fun x f=>⟨(a x f).1,by have:=(a x f).2;omega⟩⟩
  ·exact Apl g fun y o=>by have:=(a y o).2;omega
  ·intro x f;rcases B1.mp f with h|h
   ·exact⟨(a x h).1,by have:=(a x h).2;omega⟩
   ·simp only[E7]at h;subst h;omega
 ·rintro⟨d,L⟩ ⟨b,g,a⟩;unfold AhI;exact Ok.ret ⟨⟨g,fun x f=>⟨(a x f).1,by have:=(a x f).2;omega⟩⟩,b⟩
theorem Online_ok{d:Aj}(f:Bg d){n:Int}(u:1<=n)(n1:n<=1000):Ok (Va d n) (fun r=>okSet n r.1/\0<r.1.length/\Bg r.2):=by
 unfold Va;refine Ok.bind (Set_ok f (by omega) n1) fun r ⟨o,f⟩=>?_
 refine Aya (fun c=>Ok.ret ⟨o,by have:=of_decide_eq_true c;simp only;omega,f⟩) fun _=>Ok.guard (by omega) ?_
 have e:Int.toNat (n-0)=n.toNat:=by simp
 rw[e];refine AxZ (fun j s=>s.length=j/\Asc s/\∀x∈s,0<=x/\x<(j:Int)) ⟨rfl,List.Pairwise.nil,fun x b=>by simp at b⟩ ?_ ?_
 ·rintro j L m v ⟨i,g,a⟩ q;unfold Aen;refine Ok.guard (by omega) (q _ ⟨by simp[i],?_,?_⟩)
  ·exact Apl g fun y k=>by have:=(a y k).2;omega
  ·intro x b;rcases B1.mp b with h|h
   ·exact⟨(a x h).1,by have:=(a x h).2;omega⟩
   ·simp only[E7]at h;subst h;omega
 ·rintro L ⟨i,g,a⟩;unfold AeP;exact Ok.ret ⟨⟨g,fun x b=>⟨(a x b).1,by have:=(a x b).2;omega⟩⟩,by simp only;omega,f⟩
theorem grp_at(f:FitsS t l){i:Nat}(hi:i<t.nodes.length):(l.getD i default).group=(t.nodes.getD i default).id:=by
 have a:=f.len;have:=congrArg (fun q=>q[i]?) f.grp;simp only[A7]at this;rw[B0 (by omega),B0 hi]at this;simp only[E0,A1]at this;rw[Ev (by omega),Ev hi,this]
end Go.Dm

namespace Go.Dm
variable {t:Ae} {l:List Ai} {on:List Int}
theorem AhQ:Vu=some dfS:=rfl
theorem Ali{a b:Int}{L:List Int}(h:okSet a L)(g:a<=b):okSet b L:=⟨h.1,fun x f=>⟨(h.2 x f).1,by have:=(h.2 x f).2;omega⟩⟩
end Go.Dm

namespace Go.Dm
variable {t:Ae} {l:List Ai} {on:List Int}
end Go.Dm

namespace Go.Dm
variable {t:Ae} {l:List Ai} {on:List Int}
theorem Asv{S:Type}{step:Int->S->Option S}:∀(a b:List Int) (s:S),Zy step (a++b) s=(Zy step a s).bind (fun f=>Zy step b f)
 |[],b,s=>rfl
 |x::a,b,s=>by
  simp only[List.cons_append,Zy]
  cases step x s with
  |none=>rfl
  |some f=>exact Asv a b f
def AcA(l:List Ai)(on:List Int):List Int->List Int
 |[]=>on
 |[_]=>on
 |c::p::r=>Tp (cfg l c).mems (AcA l on (p::r))
def memsC(t:Ae)(l:List Ai)(on:List Int)(g:Int):List Int:=AcA l on (upT t g)
structure UseM(t:Ae)(l:List Ai)(on:List Int):Prop where
 fits:FitsS t l
 pos:0<on.length
 set:okSet 8 on
theorem Arh(u:UseM t l on):∀L:List Int,Asc (AcA l on L)/\(∀y∈AcA l on L,y∈on)/\0<(AcA l on L).length
 |[]=>⟨u.set.1,fun y h=>h,u.pos⟩
 |[_]=>⟨u.set.1,fun y h=>h,u.pos⟩
 |c::p::r=>by
  obtain⟨f,a,g⟩:=Arh u (p::r);exact⟨Asx (u.fits.cfg c).small.2.2.2 f,fun y b=>a y (Asz y b),Asl g⟩
theorem okSet_sub{n:Int}{A B:List Int}(a:okSet n B)(b:Asc A)(h:∀y∈A,y∈B):okSet n A:=⟨b,fun y f=>a.2 y (h y f)⟩
theorem Avb(u:UseM t l on)(L:List Int):(AcA l on L).length<=8:=by
 obtain⟨a,b,_⟩:=Arh u L;have:=(okSet_sub u.set a b).len (by omega);omega
theorem Avr(u:UseM t l on)(a:∀x∈l,Dz x.settings):∀(L:List Int),L≠[] ->
  Zy (fun(x:Int) (s:(List Ai)×(List Int))=>(Abs s.1 s.2 x)) (List.reverse L.dropLast) (l,on)=some (l,AcA l on L)
 |[],h=>absurd rfl h
 |[_],_=>rfl
 |c::p::r,_=>by
  have b:=Avr u a (p::r) (by simp);have g:=u.fits.len;have i:=u.fits.wf.len2;rw[List.dropLast_cons_of_ne_nil (by simp),L3,Asv,b,A0];have f:=Avb u (p::r);obtain⟨j,_⟩:=Arh u (p::r);simp only[Zy,Abs];rw[Fy (by omega) a,A0,AtQ (u.fits.cfg c).small.2.2.2 (by have:=(u.fits.cfg c).small.2.1;omega) (by omega),A0];rfl
theorem Mems_t(u:UseM t l on)(h:∀x∈l,Dz x.settings)(g:Int):AaB t l on g=some (if Aw t g then memsC t l on g else[]):=by
 have w:=u.fits.wf;have z:=u.fits.len;have i:=w.len2;have y:=u.set.len (by omega);obtain⟨b,s,j⟩:=Apy (t:=t) (l:=l) (on:=on) (n:=8) w.p.names (by omega) (by omega) h (by omega);unfold AaB;rw[s,j.mpr ⟨u.fits,u.pos,u.set⟩,A0,if_neg (by simp),De w,A0]
 by_cases hg:Aw t g=true
 ·obtain⟨r,f⟩:=Ajm w hg;have o:(upT t g).length<=1000:=by grind[Kn,upT]
  have v:0<(upT t g).length:=by rw[f];simp
  rw[if_pos hg,if_neg (by simp;rw[f];simp),Yh (by omega),A0]
  have e1:w64 (((upT t g).length:Int)-1)=(((upT t g).length-1:Nat):Int):=by
   rw[Br (by omega) (by omega)];omega
  rw[e1,if_pos (by omega)];unfold Wu;rw[A0,if_pos (by simp;omega)]
  have e2:(upT t g).take (Int.toNat (((upT t g).length-1:Nat):Int))=(upT t g).dropLast:=by
   rw[I4,List.dropLast_eq_take]
  rw[e2,Avr u h (upT t g) (by rw[f];simp),A0];rfl
 ·have e:upT t g=[]:=by
   cases m:upT t g with
   |nil=>rfl
   |cons a r=>
    obtain⟨n,i,q⟩:=Gi (t:=t) (x:=g) (k:=a) (by rw[m];simp);exact absurd (hasN_iff.mpr ⟨n,i,q⟩) hg
  rw[if_neg hg,e,if_pos (by simp)]
end Go.Dm

namespace Go.Dm
variable {t:Ae} {l m:List Ai} {on:List Int}
def Aef(l:List Ai)(g:Int)(s:As):List Ai:=l.map (fun x=>if x.group==g then{x with settings:=s}else x)
theorem cfg_set(g:Int)(s:As)(k:Int):cfg (Aef l g s) k=if k=g then(if l.any (fun x=>x.group==g)then s else dfS)else cfg l k:=by
 unfold cfg Aef
 induction l with
 |nil=>simp
 |cons x r b=>
  rw[D8,J2,J2]
  by_cases hx:x.group=g
  ·subst hx
   by_cases hk:k=x.group
   ·subst hk;simp
   ·have a:(x.group==k)=false:=by simp;omega
    simp only[beq_self_eq_true,if_true,a,if_neg hk];rw[b,if_neg hk]
  ·have f:(x.group==g)=false:=by simpa using hx
   simp only[f,A2,if_false,N6,E8]
   by_cases hk:x.group=k
   ·subst hk;simp[hx]
   ·have a:(x.group==k)=false:=by simpa using hk
    simp only[a];exact b
theorem AiA{al:Bool}:∀(ks left:List Int),(∀c∈ks,cfg l c=cfg m c)->Co l al ks left=Co m al ks left
 |[],left,_=>rfl
 |c::r,left,h=>by
  rw[Co,Co,h c (by simp)];split
  ·rw[AiA r _ (fun d a=>h d (by simp[a]))]
  ·exact AiA r _ (fun d a=>h d (by simp[a]))
theorem Asd:∀(L:List Int),(∀c∈L,cfg l c=cfg m c)->AcA l on L=AcA m on L
 |[],_=>rfl
 |[_],_=>rfl
 |c::p::r,h=>by
  rw[AcA,AcA,h c (by simp),Asd (p::r) (fun d a=>h d (by simp[a]))]
theorem Axn(f:FitsS t l){g:Int}{s:As}(b:CheckP s):FitsS t (Aef l g s):=by
 refine⟨f.wf,?_,fun x h=>?_⟩
 ·rw[<-f.grp];unfold Aef;rw[H7];refine C8 fun x _=>?_
  simp only[Function.comp];split<;>rfl
 ·obtain⟨y,a,rfl⟩:=B8.mp h;split
  ·exact b
  ·exact f.chk y a
theorem cfg_other{g:Int}{s:As}{k:Int}(h:k≠g):cfg (Aef l g s) k=cfg l k:=by
 rw[cfg_set,if_neg h]
end Go.Dm

namespace Go.Dm
variable {t:Ae} {l c:List Ai} {on:List Int}
/-- made settings -/
structure MadeS(s:As):Prop where
  pm:s.pidsMax=4611686018427387904\/(0<=s.pidsMax/\s.pidsMax<=1000)
  wt:(1<=s.weight/\s.weight<=1000)\/s.weight=10000
  mx:((1<=s.quota/\s.quota<=10)/\(1<=s.period/\s.period<=10))\/(s.quota=4611686018427387904/\((1<=s.period/\s.period<=10)\/s.period=100000))
  bu:(s.quota=4611686018427387904/\s.burst=0)\/(s.quota<=10/\0<=s.burst/\s.burst<=s.quota)
  lo:0<=s.clampMin/\s.clampMin<=10000
  hi:0<=s.clampMax/\s.clampMax<=10000
  cp:okSet 6 s.cpus
  mm:okSet 4 s.mems
  pt:s.partition=0\/s.partition=1
  me:s.memory=dfS.memory
  dv:s.devices=[]
theorem Auo:MadeS dfS:=⟨.inl rfl,.inl (by simp[dfS]),.inr (by simp[dfS]),.inl (by simp[dfS]),by simp[dfS],by simp[dfS],⟨List.Pairwise.nil,fun x a=>by simp[dfS]at a⟩,⟨List.Pairwise.nil,fun x a=>by simp[dfS]at a⟩,.inl rfl,rfl,rfl⟩
theorem chk_mk{s:As}(pm:s.pidsMax=4611686018427387904\/(0<=s.pidsMax/\s.pidsMax<=1000))(wt:(1<=s.weight/\s.weight<=1000)\/s.weight=10000)
    (f:1<=s.period/\s.period<=100000) (bu:(s.quota=4611686018427387904/\s.burst=0)\/(1<=s.quota/\s.quota<=10/\0<=s.burst/\s.burst<=s.quota))
    (lo:0<=s.clampMin/\s.clampMin<=10000) (hi:0<=s.clampMax/\s.clampMax<=10000) (cp:okSet 6 s.cpus) (mm:okSet 4 s.mems) (pt:s.partition=0\/s.partition=1)
    (me:s.memory=dfS.memory) (dv:s.devices=[]):CheckP s/\Dz s:=by
  have e1:Hf dfS.memory=some true:=by kernel_rfl
  have e2:Gj []=some true:=by kernel_rfl
  have a:=cp.len (by omega);have b:=mm.len (by omega);refine⟨⟨by omega,by omega,⟨by omega,?_⟩,lo,hi,Ali cp (by omega),Ali mm (by omega),by omega,by rw[me];exact e1,by rw[dv];exact e2⟩,⟨by omega,by omega,by rw[dv];simp⟩⟩;grind
theorem MadeS.chk{s:As}(m:MadeS s):CheckP s/\Dz s:=by
  have a:=m.mx;have b:=m.bu;exact chk_mk m.pm m.wt (by omega) (by omega) m.lo m.hi m.cp m.mm m.pt m.me m.dv
theorem Awc{d:Aj}(b:Bg d):Ok (Uu d) (fun r=>((1<=r.1/\r.1<=1000)\/r.1=10000)/\Bg r.2):=by
  unfold Uu;refine Ok.bind (Dy b 1000 (by omega) (by omega)) fun f ⟨b,a0,a1⟩=>Ok.bind (Dy b 8 (by omega) (by omega)) fun a ⟨b,h,b1⟩=>?_
  have g:w64 (1+f.1)=1+f.1:=Br (by omega) (by omega);rw[g];refine Ok.guard ⟨h,by simp;omega⟩ (Ok.guard (by simp;omega) (Ok.ret ⟨?_,b⟩));have:a.1=0\/a.1=1\/a.1=2\/a.1=3\/a.1=4\/a.1=5\/a.1=6\/a.1=7:=by omega
  simp only;rcases this with e|e|e|e|e|e|e|e<;>rw[e]<;>simp<;>omega
theorem AlD{d:Aj}(a:Bg d):Ok (Mz d) (fun r=>MadeS r.1/\Bg r.2):=by
  unfold Mz;rw[AhQ,A0]
  have H:∀(i:Aj×Int) (j:Int×Aj) (b:Aj×Int×Int) (f g h:Int×Aj) (k o:Aj×List Int) (m:Bool×Aj) (y:Int),
      (i.2=4611686018427387904\/(0<=i.2/\i.2<=1000))->((1<=j.1/\j.1<=1000)\/j.1=10000)->((b.2.1=4611686018427387904/\b.2.2=0)\/(1<=b.2.1/\b.2.1<=10/\0<=b.2.2/\b.2.2<=b.2.1)) ->
      (0<=f.1/\f.1<9)->(0<=g.1/\g.1<10001)->(0<=h.1/\h.1<10001)->okSet 6 k.2->okSet 4 o.2->(y=0\/y=1)->Bg m.2 ->
      Ok (Lb dfS i j b f g h k o m y) (fun r=>MadeS r.1/\Bg r.2):=by
    intro i j b f g h k o m y a1 a2 a3 a4 a5 s q v O a;unfold Lb;have z:w64 (1+f.1)=1+f.1:=Br (by omega) (by omega);rw[z];exact Ok.ret ⟨⟨a1,a2,by simp only;omega,by simp only;omega,by simp only;omega,by simp only;omega,q,v,O,rfl,rfl⟩,a⟩
  have F:∀(i:Aj×Int) (j:Int×Aj) (b:Aj×Int×Int) (f g h:Int×Aj) (k o:Aj×List Int),
      (i.2=4611686018427387904\/(0<=i.2/\i.2<=1000))->((1<=j.1/\j.1<=1000)\/j.1=10000)->((b.2.1=4611686018427387904/\b.2.2=0)\/(1<=b.2.1/\b.2.1<=10/\0<=b.2.2/\b.2.2<=b.2.1)) ->
      (0<=f.1/\f.1<9)->(0<=g.1/\g.1<10001)->(0<=h.1/\h.1<10001)->okSet 6 k.2->okSet 4 o.2->Bg o.1 ->
      Ok (Ko dfS i j b f g h k o) (fun r=>MadeS r.1/\Bg r.2):=by
    intro i j b f g h k o a1 a2 a3 a4 a5 s q v a;unfold Ko;exact Ok.bind (Pt a 3 (by omega)) fun m a=>Aya (fun _=>H _ _ _ _ _ _ _ _ _ _ a1 a2 a3 a4 a5 s q v (.inr rfl) a) fun _=>H _ _ _ _ _ _ _ _ _ _ a1 a2 a3 a4 a5 s q v (.inl rfl) a
  have J:∀(i:Aj×Int) (j:Int×Aj) (b:Aj×Int×Int) (f g h:Int×Aj) (k:Aj×List Int),
      (i.2=4611686018427387904\/(0<=i.2/\i.2<=1000))->((1<=j.1/\j.1<=1000)\/j.1=10000)->((b.2.1=4611686018427387904/\b.2.2=0)\/(1<=b.2.1/\b.2.1<=10/\0<=b.2.2/\b.2.2<=b.2.1)) ->
      (0<=f.1/\f.1<9)->(0<=g.1/\g.1<10001)->(0<=h.1/\h.1<10001)->okSet 6 k.2->Bg k.1 ->
      Ok (Kw dfS i j b f g h k) (fun r=>MadeS r.1/\Bg r.2):=by
    intro i j b f g h k a1 a2 a3 a4 a5 s q a;unfold Kw;refine Ok.bind (Pt a 2 (by omega)) fun P a=>Aya (fun _=>?_) fun _=>F _ _ _ _ _ _ _ _ a1 a2 a3 a4 a5 s q ⟨List.Pairwise.nil,fun x C=>by simp[dfS]at C⟩ a
    exact Ok.bind (Set_ok a (n:=4) (by omega) (by omega)) fun K ⟨B,a⟩=>F _ _ _ _ _ _ _ _ a1 a2 a3 a4 a5 s q B a
  have E:∀(i:Aj×Int) (j:Int×Aj) (b:Aj×Int×Int),
      (i.2=4611686018427387904\/(0<=i.2/\i.2<=1000))->((1<=j.1/\j.1<=1000)\/j.1=10000)->((b.2.1=4611686018427387904/\b.2.2=0)\/(1<=b.2.1/\b.2.1<=10/\0<=b.2.2/\b.2.2<=b.2.1)) ->
      Bg b.1->Ok (Kv dfS i j b) (fun r=>MadeS r.1/\Bg r.2):=by
    intro i j b a1 a2 a3 a;unfold Kv;refine Ok.bind (Dy a 9 (by omega) (by omega)) fun f ⟨a,A,b1⟩=>Ok.bind (Dy a 10001 (by omega) (by omega)) fun g ⟨a,D,c1⟩=>Ok.bind (Dy a 10001 (by omega) (by omega)) fun h ⟨a,I,G⟩=>?_
    refine Ok.bind (Pt a 2 (by omega)) fun N a=>Aya (fun _=>?_) fun _=>J _ _ _ _ _ _ _ a1 a2 a3 ⟨A,b1⟩ ⟨D,c1⟩ ⟨I,G⟩ ⟨List.Pairwise.nil,fun x C=>by simp[dfS]at C⟩ a
    exact Ok.bind (Set_ok a (n:=6) (by omega) (by omega)) fun L ⟨B,a⟩=>J _ _ _ _ _ _ _ a1 a2 a3 ⟨A,b1⟩ ⟨D,c1⟩ ⟨I,G⟩ B a
  have M:∀(i:Aj×Int),(i.2=4611686018427387904\/(0<=i.2/\i.2<=1000))->Bg i.1->Ok (Le dfS i) (fun r=>MadeS r.1/\Bg r.2):=by
    intro i a1 a;unfold Le;refine Ok.bind (Awc a) fun j ⟨z,a⟩=>Ok.bind (Pt a 2 (by omega)) fun Q a=>Aya (fun _=>?_) fun _=>E _ _ _ a1 z (.inl ⟨rfl,rfl⟩) a
    refine Ok.bind (Dy a 9 (by omega) (by omega)) fun u ⟨a,A,b1⟩=>?_
    have e1:w64 (1+u.1)=1+u.1:=Br (by omega) (by omega);have e2:w64 (1+u.1+1)=2+u.1:=by rw[Br (by omega) (by omega)];omega
    rw[e1,e2];refine Ok.bind (Dy a (2+u.1) (by omega) (by omega)) fun R ⟨a,D,c1⟩=>E _ _ _ a1 z (.inr ?_) a
    simp only;omega
  refine Ok.bind (Pt a 2 (by omega)) fun T a=>Aya (fun _=>?_) fun _=>M _ (.inl rfl) a
  grind[Ok.bind,Dy,only]
theorem AuM{d:Aj}(a:Bg d)(w:WfT t):Ok (So d t) (fun r=>FitsS t r.1/\(∀x∈r.1,MadeS x.settings)/\Bg r.2):=by
  have q:=w.len2;unfold So;refine Ok.guard (by omega) ?_;refine Ok.range (fun pre s=>Bg s.1/\s.2.map (·.group)=pre.map (·.id)/\∀x∈s.2,MadeS x.settings) ⟨a,rfl,by simp⟩ ?_ ?_
  · rintro pre x post ⟨d,L⟩ m k ⟨a,b,f⟩ u;simp only at a b f
    have g:L.length=pre.length:=by
      have:=congrArg List.length b;simpa using this
    have h:pre.length<=t.nodes.length:=by rw[k];simp
    have i:∀(y:Aj×As),MadeS y.2->Bg y.1->Ok (Lv x (d,L) m y) (fun r=>FitsS t r.1/\(∀x∈r.1,MadeS x.settings)/\Bg r.2):=by
      intro y v o;unfold Lv;grind
    unfold Ada;rw[AhQ,A0];refine Ok.bind (Pt a 2 (by omega)) fun n a=>Aya (fun _=>?_) fun _=>i _ Auo a
    grind[Ok.bind,AlD]
  · rintro⟨d,L⟩ ⟨a,b,f⟩;unfold Adb;exact Ok.ret ⟨⟨w,b,fun x j=>(f x j).chk.1⟩,f,a⟩
theorem AoN{s:As}(h:CheckP s/\Dz s):Ps s=some true:=by
  obtain⟨b,e,a⟩:=Aez h.2;rw[e,a.2 h.1]
/-! reading -/
/-! lists of settings -/
theorem fits_at(f:FitsS t l){i:Nat}(hi:i<l.length):l.findIdx? (fun x=>x.group==(l.getD i default).group)=some i:=by
  have b:(l.map (·.group)).Pairwise (· < ·):=by
    rw[f.grp];exact G0.2 f.wf.sorted
  have b:=C9.1 (G0.1 b);rcases Fh (fun x:Ai=>x.group==(l.getD i default).group) l default with⟨j,g,a,h⟩|⟨_,a⟩
  · grind
  · have:=G4.1 a _ (Og (d:=default) hi);simp at this
theorem Xc(f:FitsS t l)(g:∀x∈l,Dz x.settings):Lj t l=some true:=by
  have i:=f.wf.len2;have h:=f.len;obtain⟨b,e,a⟩:=Afs f.wf.p.names (by omega) (l:=l) (by omega) g;rw[e,a.2 f]
theorem set_same{V:Type}{L:List V}{k:Nat}(d:V)(h:k<L.length):L.set k (L.getD k d)=L:=by
  rw[Ev h,List.set_getElem_self]
theorem AnO(h:l.length<=1000000)(b:∀x∈l,Dz x.settings):Ww l=some l:=by
  unfold Ww Mb;rw[if_pos (by omega),A0,if_pos (by omega)];apply Ok.eq;refine AxZ (fun _ s=>s=l) rfl ?_ (fun s b=>Ok.ret b);intro j s n a g f;rw[g];have a:j<l.length:=by omega
  unfold Afw;have e:(0:Int)+(j:Int)=(j:Int):=by omega
  rw[e];refine Ok.guard (by omega) (Ok.guard (by simp only[I4];omega) ?_);simp only[I4];rw[Abt (b _ (Og a)),A0];exact Ok.guard (by omega) (Ok.guard a (f _ (set_same default a)))
theorem Arw(f:FitsS t l)(a:∀x∈l,Dz x.settings){i:Nat}(hi:i<l.length){s:As}(b:CheckP s/\Dz s):
    Ys t l (l.getD i default).group s=some (l.set i {group:=(l.getD i default).group,settings:=s},0):=by
  have h:=f.wf.len2;have g:=f.len;unfold Ys AaJ Fb
  rw[if_pos (by omega),Jg (p:=fun x:Ai=>x.group==(l.getD i default).group) (fun k x n=>by
    unfold Gq Abf
    rw[A0]) rfl,fits_at f hi,D6,A0,A0,Xc f a,A0,if_neg (by simp),if_neg (by simp),AoN b,A0,if_neg (by simp),
    AnO (by omega) a,A0,Abt b.2,A0,if_pos (by omega),if_pos (by simp only[I4];omega)]
  simp only[I4]
theorem AwW(f:FitsS t l)(b:∀x∈l,Dz x.settings){g:Int}(k:Aw t g=true):Ok (Iw t l g) Dz:=by
  have m:=f.wf.len2;have i:=f.len;have h:(upT t g).length<=t.nodes.length:=by grind[Kn,upT]
  have a:=ArV b g
  have j:Ok (Io l g (upT t g) false) Dz:=by
    unfold Io;rw[if_neg (by simp),Fy (by omega) b,A0];refine Ok.guard (by omega) ?_;refine Ok.range (fun _ _=>True) trivial ?_ ?_
    · grind[Aam,Fy]
    · intro s _;exact Ok.ret ⟨a.cpus,a.mems,a.devices⟩
  unfold Iw;rw[De f.wf,A0];refine Aya (fun c=>?_) fun _=>?_
  · unfold Io;rw[if_pos rfl];exact Ok.ret ⟨by decide,by decide,by decide⟩
  grind[Xc]
theorem AjB{L:List Int}(a:L.length<=1000000):Pw L L=some true:=by
  unfold Pw;rw[if_neg (by simp),if_pos (by omega)];apply Ok.eq;refine Ok.range (fun _ _=>True) trivial ?_ fun _ _=>Ok.ret rfl
  grind[Aew,AdH]
theorem ArQ{L:List Be}(a:L.length<=1000000):Iv L L=some true:=by
  unfold Iv;rw[if_neg (by simp),if_pos (by omega)];apply Ok.eq;refine Ok.range (fun _ _=>True) trivial ?_ fun _ _=>Ok.ret rfl
  grind[Sh,AdH,AgE]
theorem AeD{s:As}(h:Dz s):Wd s s=some true:=by
  unfold Wd;simp only[beq_self_eq_true,if_true];rw[AjB h.cpus,A0,if_pos rfl,AjB h.mems,A0,if_pos rfl,if_pos (by simp[Ahj]),ArQ h.devices,A0];rfl
/-- settings carried over to a tree -/
def adjS(t:Ae)(l:List Ai):List Ai:=t.nodes.map fun x=>{group:=x.id,settings:=cfg l x.id}
theorem AnM(w:WfT t)(f:l.length<=1000000)(a:∀x∈l,Dz x.settings):Xl t l=some (adjS t l):=by
  have h:=w.len2;unfold Xl adjS;rw[Ng w,A0,if_neg (by simp),if_pos (by omega)];apply Ok.eq;refine Ok.range (fun pre s=>s=pre.map fun x=>{group:=x.id,settings:=cfg l x.id}) rfl ?_ (fun s a=>Ok.ret a);rintro pre x post s n b rfl g;have:pre.length+1<=t.nodes.length:=by rw[b];simp
  unfold AfB;rw[Fy f a,A0];grind
theorem Avi{P:As->Prop}(h:∀x∈l,P x.settings)(a:P dfS):∀x∈adjS t l,P x.settings:=by
  intro x b;obtain⟨y,_,rfl⟩:=B8.1 b;exact cfg_mem h a _
theorem adjS_fits(w:WfT t)(h:∀x∈l,CheckP x.settings):FitsS t (adjS t l):=⟨w,by simp[adjS],Avi h dfS_ok⟩
theorem cfg_adjS(g:Int):cfg (adjS t l) g=if Aw t g then cfg l g else dfS:=by
  have key:∀(L:List Ah),((L.map fun x=>(⟨x.id,cfg l x.id⟩:Ai)).find? (fun x=>x.group==g)).elim dfS (·.settings)=if(L.find? (fun x=>x.id==g)).isSome then cfg l g else dfS:=by
    intro L
    induction L with
    |nil=>rfl
    |cons x r a=>grind
  exact key t.nodes
theorem set_setAt(f:FitsS t l){i:Nat}(hi:i<l.length)(s:As):l.set i {group:=(l.getD i default).group,settings:=s}=Aef l (l.getD i default).group s:=by
  have a:(l.map (·.group)).Pairwise (· < ·):=by
    rw[f.grp];exact G0.2 f.wf.sorted
  have a:=C9.1 (G0.1 a);rw[Ev hi];unfold Aef;apply I6
  all_goals grind
theorem Apt(f:FitsS t l)(j:∀x∈l,Dz x.settings){g:Int}(a:Aw t g=true){s:As}(k:CheckP s/\Dz s):Ys t l g s=some (Aef l g s,0):=by
  obtain⟨x,b,rfl⟩:=hasN_iff.mp a;obtain⟨i,hi,e⟩:=D1 b;have h:=f.len
  have e2:(l.getD i default).group=x.id:=by
    rw[grp_at f hi,Ev hi,e]
  grind[Arw,set_setAt]
/-- the settings with the limits of those above -/
def lowS(s0:As)(L:List As):Int×Int×Int:=L.foldl (fun s r=>(Jj s.1 r.pidsMax,Jj s.2.1 r.quota,Jj s.2.2 r.clampMax)) (s0.pidsMax,s0.quota,s0.clampMax)
theorem Avd(f:FitsS t l)(b:∀x∈l,Dz x.settings){g:Int}(j:Aw t g=true):
    Iw t l g=Su (cfg l g) (lowS (cfg l g) ((upT t g).map (cfg l))):=by
  have m:=f.wf.len2;have k:=f.len;have h:(upT t g).length<=t.nodes.length:=by grind[Kn,upT]
  have a:((((upT t g).length:Nat):Int)==0)=false:=by
    rw[Ajz f.wf j];simp;omega
  unfold Iw;rw[De f.wf,A0,if_neg (by rw[a];simp),Xc f b,A0];unfold Io;rw[if_neg (by simp),Fy (by omega) b,A0,if_pos (by omega)];have i:∀s,Su (cfg l g) s=some ((Su (cfg l g) s).getD dfS):=fun s=>rfl
  rw[i (lowS _ _)];apply Ok.eq;refine Ok.range (fun pre s=>s=lowS (cfg l g) (pre.map (cfg l))) rfl ?_ (fun s e=>?_)
  all_goals grind[Aam,Fy,lowS,Ok.ret]
end Go.Dm

namespace Go.Dm
/-! ### processors of a group, in two trees -/
section
variable {t t':Ae} {l m:List Ai} {on:List Int}
theorem st_two:∀(L:List Int),(∀p∈L,Bb t' p=Bb t p)->(∀p∈L,∀c∈Bb t p,cfg l c=cfg m c)->(∀c∈L,cfg l c=cfg m c)->stC t l on L=stC t' m on L
  |[],_,_,_=>rfl
  |[_],_,_,_=>rfl
  |c::p::r,h1,h2,h3=>by
    have b:=st_two (p::r) (fun q a=>h1 q (by simp[a])) (fun q a=>h2 q (by simp[a])) (fun q a=>h3 q (by simp[a]));rw[stC,stC,b];unfold Rp Ait;rw[h1 p (by simp),AiA _ _ (h2 p (by simp)),h3 c (by simp)]
theorem own_two(g:Int)(i:upT t' g=upT t g)(b:∀p∈upT t g,Bb t' p=Bb t p)(a:∀p∈upT t g,∀c∈Bb t p,cfg l c=cfg m c)(f:∀c∈upT t g,cfg l c=cfg m c)(j:g∈upT t g):
    Sf t l on g=Sf t' m on g:=by
  have e:=st_two (on:=on) (upT t g) b a f;grind[Sf,Ait,Mf,Ec,Fa,AiA]
end
/-! ### settings -/
structure CfgC(o h:Aa)(l0 l:List Ai)(u:Int):Prop where
  fits:FitsS h.tree l
  made:∀x∈l,MadeS x.settings
  same:∀x∈o.tree.nodes,Eu o.tree u x.id=false->cfg l0 x.id=cfg l x.id
section
variable {o h h':Aa} {u:Int} {l0 l:List Ai}
theorem CfgC.small(C:CfgC o h l0 l u):∀x∈l,Dz x.settings:=fun x a=>(C.made x a).chk.2
theorem CfgC.adjust(C:CfgC o h l0 l u)(b:IsoC o h' u):CfgC o h' l0 (adjS h'.tree l) u:=by
  have w':=b.fits.snd.wf.tree;refine⟨adjS_fits w' fun x a=>(C.made x a).chk.1,Avi C.made Auo,fun x a f=>?_⟩;rw[cfg_adjS,b.keep x a f,if_pos rfl];exact C.same x a f
theorem CfgC.set(C:CfgC o h l0 l u)(I:IsoC o h u)(wo:WfT o.tree){g:Int}(i:Eu h.tree u g=true){s:As}(f:MadeS s):CfgC o h l0 (Aef l g s) u:=by
  refine⟨Axn C.fits f.chk.1,fun x a=>?_,fun x a b=>?_⟩
  · unfold Aef at a;obtain⟨y,j,rfl⟩:=B8.1 a;split
    · exact f
    · exact C.made y j
  · rw[cfg_other,C.same x a b];intro e;rw[<-e,(I.rights wo (I.keep x a b) (wo.next x a)).1,b]at i;simp at i
end
/-! ### counts -/
def Adw(l:List Af)(a:Int):Int:=((Ib l a).getD zC).limit
structure CntC(o h:Aa)(c0 c:List Af)(u:Int):Prop where
  ok:CntOk h c
  lim:∀x∈o.tree.nodes,Ca o.tree u x.id=false->Adw c x.id=Adw c0 x.id
theorem AsD{f:Af->Af}(b:∀c,(f c).group=c.group/\(f c).limit=c.limit)(l:List Af)(a:Int):Adw (l.map f) a=Adw l a:=by
  unfold Adw Ib
  induction l with
  |nil=>rfl
  |cons c r g=>grind
section
variable {o h h':Aa} {u:Int} {c0 c:List Af}
theorem AxA(w':WfH h')(k:CntOk h c):CntOk h' (h'.tree.nodes.map (Wr h' c)):=by
  refine⟨?_,?_⟩
  · simp_all[AkJ]
  · intro d b;obtain⟨x,j,rfl⟩:=B8.mp b;have i:=AeN h' x.id;have a:=w'.len;have f:=AkJ h' c x
    refine⟨by rw[f];rfl,?_,AqO _ _,?_,?_,?_⟩<;>unfold Wr<;>cases g:Ib c x.id with
    |none=>first|exact .inr rfl|exact Ant (show(0:Int)<=128 by omega) (by omega)|exact J7 _|exact(by decide:(0:Int)<=1099511627776)
    |some d=>
      have v:=k.val d (D0 g)
      first|exact v.limit|exact Ant v.p2 (by omega)|exact v.e1|exact v.e2
theorem CntC.adjust(C:CntC o h c0 c u)(w:WfH h)(I:IsoC o h u)(g:IsoC o h' u):CntC o h' c0 (h'.tree.nodes.map (Wr h' c)) u:=by
  have w':=g.fits.snd.wf;refine⟨AxA w' C.ok,fun x f b=>?_⟩;rw[<-C.lim x f b];have a:=g.enter x f b;unfold Adw;rw[get_adj w' c a];obtain⟨i,hi,_,j,k⟩:=CntOk.at C.ok ⟨x,I.enter x f b,rfl⟩;unfold Wr;rw[j];rfl
theorem AvS(up:List Int)(n:Int)(c:Af):(Ij up n c).group=c.group/\(Ij up n c).limit=c.limit:=by
  grind[Ij,Anr]
theorem AvA(h:Aa)(l:List Af)(g a:Int):Adw (Agp h l g) a=Adw l a:=by
  unfold Agp
  cases (upT h.tree g).find? (Aiz l 1)with
  |none=>rfl
  |some b=>grind[AsD,Sr,Agm]
theorem now_at(w:WfH h)(k:CntOk h c){a:Int}(b:Aw h.tree a=true):((Ib c a).getD zC).now=((Ge h a:Nat):Int)/\((0<=Adw c a/\Adw c a<=1099511627776)\/Adw c a=4611686018427387904):=by
  obtain⟨i,hi,_,f,g⟩:=CntOk.at k (hasN_iff.mp b);have v:=k.val _ (Og (d:=default) hi);unfold Adw;rw[f];refine⟨?_,v.limit⟩;have:=v.now;rw[g]at this;exact this
theorem room_fall(C:CntC o h c0 c u)(w0:WfH o)(J:CntOk o c0)(I:IsoC o h u)(N:u≠0){x:Ah}(k:x∈o.tree.nodes)(F:Ca o.tree u x.id=false):
    Xf c0 (upT o.tree x.id)-((h.tasks.length:Int)-(o.tasks.length:Int))<=Xf c (upT h.tree x.id)/\Xf c0 (upT o.tree x.id)<=128/\0<=Xf c (upT h.tree x.id):=by
  have w:=I.fits.snd.wf;have q:upT h.tree x.id=upT o.tree x.id:=I.up w0.tree x (I.enter x k F) (w0.tree.next x k);rw[q]
  have M:o.tasks.length<=h.tasks.length:=by
    obtain⟨f,new,K,_,_⟩:=I.tasks;rw[K];simp
  have T:=w0.len;have U:=w.len
  have key:∀(L:List Int),(∀a∈L,a∈upT o.tree x.id)->∀s i:Int,s-((h.tasks.length:Int)-(o.tasks.length:Int))<=i ->
      L.foldl (fun s a=>Jj s (w64 (((Ib c0 a).getD zC).limit-((Ib c0 a).getD zC).now))) s-((h.tasks.length:Int)-(o.tasks.length:Int))<=L.foldl (fun s a=>Jj s (w64 (((Ib c a).getD zC).limit-((Ib c a).getD zC).now))) i:=by
    intro L
    induction L with
    |nil=>intro _ s i h;exact h
    |cons a r G=>
      intro D s i R;rw[O9,O9];refine G (fun b H=>D b (by simp[H])) _ _ ?_;have n:=D a (by simp);obtain⟨y,j,e⟩:=Aji w0.tree x k a n;have g:=ApR w0.tree N k F n;rw[<-e]at g ⊢;obtain⟨n1,P⟩:=now_at w0 J (Vz j);obtain⟨n2,V⟩:=now_at w C.ok (Vz (I.enter y j g));have E:=C.lim y j g;have z:=I.cnt y j g;grind[AeN,Adw,Ib,zC,Br,Jj]
  have Q:=key _ (fun a n=>n) 128 128 (by omega)
  have v:∀(L:List Int) (s:Int),L.foldl (fun s a=>Jj s (w64 (((Ib c0 a).getD zC).limit-((Ib c0 a).getD zC).now))) s<=s:=by
    intro L
    induction L with
    |nil=>intro s;exact J7 _
    |cons a r G=>grind[Jj]
  have O:=v (upT o.tree x.id) 128;unfold Xf;generalize List.foldl (fun s a=>Jj s (w64 (((Ib c0 a).getD zC).limit-((Ib c0 a).getD zC).now))) 128 (upT o.tree x.id)=A at *;generalize List.foldl (fun s a=>Jj s (w64 (((Ib c a).getD zC).limit-((Ib c a).getD zC).now))) 128 (upT o.tree x.id)=B at *;grind[Us]
/-! ### one act -/
theorem Axv(w0:WfT o.tree)(g:u≠0){p:Int}(b:Ca o.tree u p=false){k:Int}(a:k∈Bb o.tree p):∃y∈o.tree.nodes,y.id=k/\Eu o.tree u y.id=false:=by
  obtain⟨y,f,e1,e2⟩:=kids_iff.mp a;grind[Avk,AlR]
end
end Go.Dm

namespace Go.Dm
def AdF(a:Aj):Option Bool:=(some (decide (a.atF<(a.l.length:Int))))
def AcQ(b:Aj×Aa×(List Ai)×(List Af)×Int)(n1:(Aj×Aa×(List Ai)×(List Af)×Int)->Option (Aa×(List Ai)×(List Af)×Aj))(a:Aj×Aa×(List Ai)×(List Af)):Option (Aa×(List Ai)×(List Af)×Aj):=(n1 (a.1,a.2.1,a.2.2.1,a.2.2.2,(w64 (b.2.2.2.2-1))))
def AaR(f:Aj×Aa×(List Ai)×(List Af)×Int)(n1:(Aj×Aa×(List Ai)×(List Af)×Int)->Option (Aa×(List Ai)×(List Af)×Aj))(a:Aj×Aa×Int×(List Ai)×(List Af))(g:Bool):Option (Aa×(List Ai)×(List Af)×Aj):=(if g then((Xl a.2.1.tree a.2.2.2.1).bind fun b=>((AaE a.2.1 a.2.2.2.2).bind fun h=>((AcQ f n1) (a.1,a.2.1,b,h))))else((AcQ f n1) (a.1,f.2.1,a.2.2.2.1,a.2.2.2.2)))
def Ff(f:Aj×Aa×(List Ai)×(List Af)×Int)(n1:(Aj×Aa×(List Ai)×(List Af)×Int)->Option (Aa×(List Ai)×(List Af)×Aj))(a:Aj×Aa×Int×(List Ai)×(List Af)):Option (Aa×(List Ai)×(List Af)×Aj):=(if(a.2.2.1==0)then((Hc a.2.1).bind fun b=>((AaR f n1 a) b))else((AaR f n1 a) false))
def Pf(b:Aj×Aa×(List Ai)×(List Af)×Int)(n1:(Aj×Aa×(List Ai)×(List Af)×Int)->Option (Aa×(List Ai)×(List Af)×Aj))(g:Int×Aj)(f:Int×Aj)(h:Bool):Option (Aa×(List Ai)×(List Af)×Aj):=(if h then((AfI b.2.1 b.2.2.2.1 g.1).bind fun a=>(if((a.2.2.2==0)||(a.2.2.2==11))then((Ff b n1) (f.2,a.1,a.2.2.2,b.2.2.1,a.2.1))else((Ff b n1) (f.2,a.1,a.2.2.2,b.2.2.1,b.2.2.2.1))))else((Ff b n1) (f.2,b.2.1,8,b.2.2.1,b.2.2.2.1)))
def Aay(h:Int)(a:Aj×Aa×(List Ai)×(List Af)×Int)(n1:(Aj×Aa×(List Ai)×(List Af)×Int)->Option (Aa×(List Ai)×(List Af)×Aj))(f:Int×Aj)(g:Int×Aj)(b:Int×Aj)(u:Bool):Option (Aa×(List Ai)×(List Af)×Aj):=(if u then((Tk b.2).bind fun n=>((Xa a.2.1 h f.1 n.1).bind fun k=>((Ff a n1) (n.2,k.1,k.2.2,a.2.2.1,a.2.2.2.1))))else(if(b.1==2)then((Xp a.2.1 h f.1).bind fun o=>((Ff a n1) (b.2,o.1,o.2,a.2.2.1,a.2.2.2.1)))else(if(b.1==3)then((Kb b.2).bind fun q=>((Vl a.2.1 h f.1 q.1 0).bind fun t=>((Ff a n1) (q.2,t.1,t.2,a.2.2.1,a.2.2.2.1))))else(if(b.1==4)then((Vo a.2.1 h f.1).bind fun l=>((Ff a n1) (b.2,l.1,l.2,a.2.2.1,a.2.2.2.1)))else(if(b.1==5)then((Abp a.2.1 h g.1 f.1).bind fun m=>((Ff a n1) (b.2,m.1,m.2,a.2.2.1,a.2.2.2.1)))else(if(b.1==6)then((Qi a.2.1 h g.1 f.1).bind fun r=>((Ff a n1) (b.2,r.1,r.2,a.2.2.1,a.2.2.2.1)))else(if(b.1==7)then((Wh a.2.1 g.1).bind fun j=>(if j.2 then(if(j.1.user==h)then((Zc a.2.1.tree h j.1.group).bind fun v=>((Pf a n1 g b) v))else((Pf a n1 g b) false))else((Pf a n1 g b) false)))else(if(b.1==8)then((Abd a.2.1.tree h f.1).bind fun x=>(if x then((Mz b.2).bind fun i=>((Ys a.2.1.tree a.2.2.1 f.1 i.1).bind fun s=>(if(s.2==0)then((Ff a n1) (i.2,a.2.1,8,s.1,a.2.2.2.1))else((Ff a n1) (i.2,a.2.1,8,a.2.2.1,a.2.2.2.1)))))else((Ff a n1) (b.2,a.2.1,8,a.2.2.1,a.2.2.2.1))))else((Ff a n1) (b.2,a.2.1,0,a.2.2.1,a.2.2.2.1))))))))))
def Acv(h:Int)(b:Aj×Aa×(List Ai)×(List Af)×Int)(n1:(Aj×Aa×(List Ai)×(List Af)×Int)->Option (Aa×(List Ai)×(List Af)×Aj))(i:Bool):Option (Aa×(List Ai)×(List Af)×Aj):=(if i then((Kx b.1 b.2.1.tree).bind fun g=>((Md g.2 b.2.1).bind fun f=>((Bo f.2 9).bind fun a=>(if(a.1==0)then((Aay h b n1 g f a) (a.1==0))else((Aay h b n1 g f a) (a.1==1))))))else(some (b.2.1,b.2.2.1,b.2.2.2.1,b.1)))
def Akx(f:Int)(a:Aj×Aa×(List Ai)×(List Af)×Int)(n1:(Aj×Aa×(List Ai)×(List Af)×Int)->Option (Aa×(List Ai)×(List Af)×Aj)):Option (Aa×(List Ai)×(List Af)×Aj):=(if(decide (a.2.2.2.2>0))then((AdF a.1).bind fun b=>((Acv f a n1) b))else((Acv f a n1) false))
def Akv(g:Aj)(p1:Aa)(p2:List Ai)(a:List Af)(f:Int)(b:Int):Option (Aa×(List Ai)×(List Af)×Aj):=(whileO (Akx f) Ik (g,p1,p2,a,b))
end Go.Dm

namespace Go.Dm
theorem AwD{h:Aa}{k:Int}:(Kz h k).2.2≠11:=by
  unfold Kz
  cases Bx h.tasks k with
  |none=>simp
  |some x=>grind[only,Afd]
theorem AtZ{h:Aa}{k:Int}{y:Ar}(a:Bx h.tasks k=some y)(e:(Kz h k).2.2=0):∃x:Ar,x.group=y.group/\(Kz h k).1.tree=h.tree/\(Kz h k).1.tasks=h.tasks++[x]:=by
  grind[Kz,only,Afd]
/-- what holds along the acts -/
structure AdC(o h:Aa)(l0 l:List Ai)(c0 c:List Af)(u:Int):Prop where
  iso:IsoC o h u
  cfg:CfgC o h l0 l u
  cnt:CntC o h c0 c u
theorem Avo{h:Aa}(f:Bz h)(c:List Af)(k:Int):((Wg h c k).2.2.2≠0/\(Wg h c k).2.2.2≠11)\/((Wg h c k).2.2.2=11/\(Wg h c k).2.1=Agp h c (Qg h k)) \/
    ((Wg h c k).2.2.2=0/\Bz (Wg h c k).1/\∃x:Ar,x.group=Qg h k/\(Wg h c k).1.tree=h.tree/\(Wg h c k).1.tasks=h.tasks++[x]/\(Wg h c k).2.1=c.map (Ij (upT h.tree x.group) 1)):=by
  unfold Wg forkR
  by_cases he:(Kz h k).2.2=0
  · rw[if_neg (by simp[he])]
    by_cases hr:Xf c (upT h.tree (Qg h k))<1
    · grind
    · rw[if_neg (by simpa using hr)];refine .inr (.inr ⟨rfl,Aqm f rfl he,?_⟩)
      cases a:Bx h.tasks k with
      |none=>
        unfold Kz at he;rw[a]at he
        simp at he
      |some y=>grind[Qg,AtZ]
  grind[AwD]
section
variable {o:Aa} {u:Int} {l0:List Ai} {c0:List Af} {R:(Aa×(List Ai)×(List Af)×Aj)->Prop} {s:Aj×Aa×(List Ai)×(List Af)×Int} {n:(Aj×Aa×(List Ai)×(List Af)×Int)->Option (Aa×(List Ai)×(List Af)×Aj)}
/-- behind a change -/
theorem AlP(A:AdC o s.2.1 l0 s.2.2.1 c0 s.2.2.2.1 u)(E:0<s.2.2.2.2)(n1:s.2.2.2.2<=1000)
    (r:∀b,AdC o b.2.1 l0 b.2.2.1 c0 b.2.2.2.1 u->Bg b.1->b.2.2.2.2=s.2.2.2.2-1->Ok (n b) R) {d:Aj} {x:Aa} {e:Int} {m:List Ai} {h:List Af} (f:Bg d)
    (C:e=0->IsoC o x u/\∃j,IsoC o j u/\CntC o j c0 h u) (g:CfgC o s.2.1 l0 m u) (y:e≠0->CntC o s.2.1 c0 h u):Ok (Ff s n (d,x,e,m,h)) R:=by
  have q:w64 (s.2.2.2.2-1)=s.2.2.2.2-1:=Br (by omega) (by omega);unfold Ff;refine Aya (fun a=>?_) fun a=>?_
  · have a:e=0:=by simpa using a
    obtain⟨i,j,k,t⟩:=C a;have w':=i.fits.snd.wf;have v:=g.fits.len;have tl:=A.iso.fits.snd.wf.tree.len2;have B:=t.ok.len;have D:=k.fits.snd.wf.tree.len2;have e1:=Ks w';have e2:=AnM (l:=m) w'.tree (by omega) g.small;have z:=AlC (l:=h) w' (by omega);refine Ok.step e1 ?_;unfold AaR;refine Ok.step e2 (Ok.step z ?_);unfold AcQ;simp only;rw[q];exact r _ ⟨i,g.adjust i,t.adjust k.fits.snd.wf k i⟩ f rfl
  · have a:e≠0:=by simpa using a
    unfold AaR AcQ;simp only[A2,if_false];rw[q];exact r _ ⟨A.iso,g,y a⟩ f rfl
/-- a fork -/
theorem act_fork(wo:WfH o)(A:AdC o s.2.1 l0 s.2.2.1 c0 s.2.2.2.1 u)(l:0<s.2.2.2.2)(n1:s.2.2.2.2<=1000)
    (j:∀a,AdC o a.2.1 l0 a.2.2.1 c0 a.2.2.2.1 u->Bg a.1->a.2.2.2.2=s.2.2.2.2-1->Ok (n a) R) {k m:Int×Aj} (i:Bg m.2) (g:Ca s.2.1.tree u (Qg s.2.1 k.1)=true):Ok (Pf s n k m true) R:=by
  have I:=A.iso;have C:=A.cfg;have K:=A.cnt;have f:=I.fits;have w:=f.snd.wf;unfold Pf;rw[if_pos rfl,AuZ w K.ok,A0];have t:=Avo f s.2.2.2.1 k.1;generalize Wg s.2.1 s.2.2.2.1 k.1=r at t;obtain⟨L,M,J,N⟩:=r;simp only at t ⊢;rcases t with⟨h,v⟩|⟨h,v⟩|⟨h,y,x,H,D,B,F⟩
  · refine Aya (fun b=>?_) fun _=>AlP A l n1 j i (fun e=>absurd e h) C (fun _=>K)
    grind
  · subst h v;refine Aya (fun _=>?_) fun b=>by simp at b
    exact AlP A l n1 j i (fun e=>by simp at e) C (fun _=>⟨K.ok.refused _,fun x G q=>by rw[AvA];exact K.lim x G q⟩)
  · subst h F;refine Aya (fun _=>?_) fun b=>by simp at b
    have E:=I.clone wo D B (by rw[H];exact g) y;refine AlP A l n1 j i (fun _=>⟨E,_,E,?_⟩) C (fun e=>absurd rfl e);exact⟨Axu w y.snd.wf K.ok D B,fun z b q=>by rw[AsD (AvS _ _)];exact K.lim z b q⟩
theorem act_J10(wo:WfH o)(b:u≠0)(A:AdC o s.2.1 l0 s.2.2.1 c0 s.2.2.2.1 u)(N:0<s.2.2.2.2)(n1:s.2.2.2.2<=1000)
    (Q:∀B,AdC o B.2.1 l0 B.2.2.1 c0 B.2.2.2.1 u->Bg B.1->B.2.2.2.2=s.2.2.2.2-1->Ok (n B) R) {g k m:Int×Aj} (h:Bg m.2) (y:Bool):Ok (Aay u s n g k m y) R:=by
  have I:=A.iso;have C:=A.cfg;have K:=A.cnt;have f:=I.fits;have w:=f.snd.wf
  have r:∀(d:Aj) (x:Aa) (e:Int),Bg d->(e=0->IsoC o x u)->Ok (Ff s n (d,x,e,s.2.2.1,s.2.2.2.1)) R:=
    fun d x e L W=>AlP A N n1 Q L (fun U=>⟨W U,s.2.1,I,K⟩) C (fun _=>K)
  unfold Aay;refine Aya (fun _=>?_) fun _=>?_
  · refine Ok.bind (Name_ok h) fun v ⟨h,hv⟩=>?_
    have H:v.1.size<=1073741824:=by grind[Er,only]
    rw[AnQ f _ g.1 H,A0];refine r _ _ _ h fun e=>?_
    obtain⟨_,_,z,e2⟩:=actC_ok e;rw[e2]at e ⊢;exact I.create wo.tree z e
  refine Aya (fun _=>?_) fun _=>?_
  · rw[AnV f,A0];refine r _ _ _ h fun e=>?_
    obtain⟨_,_,z,l⟩:=actR_ok e;rw[l]at e ⊢;exact I.remove wo.tree b e z
  refine Aya (fun _=>?_) fun _=>?_
  · refine Ok.bind (Ajo h) fun c ⟨h,c0,c1⟩=>?_
    rw[AmZ f _ g.1 c0 c1 (by decide) (by decide),A0];refine r _ _ _ h fun e=>?_
    obtain⟨_,_,z,l⟩:=actW_ok e;rw[l]at e ⊢;obtain⟨c1,c2,M,_⟩:=Awv f e;rw[M]at c1 ⊢;exact I.change wo.tree c2 z rfl rfl rfl c1
  refine Aya (fun _=>?_) fun _=>?_
  · rw[AmS f,A0];refine r _ _ _ h fun e=>?_
    obtain⟨_,_,z,l⟩:=actV_ok e;rw[l]at e ⊢;obtain⟨c1,c2,M⟩:=AvF e;rw[M]at c1 ⊢;exact I.change wo.tree c2 (Akw z) rfl rfl rfl c1
  refine Aya (fun _=>?_) fun _=>?_
  · rw[AqC f,A0];refine r _ _ _ h fun e=>?_
    obtain⟨_,_,_,_,G,V⟩:=actM_ok e;rw[V]at e ⊢;have F:=attK_fits f e;obtain⟨_,_,_,_,_,Y⟩:=attK_ok e;rw[Y]at F ⊢;have t:∀y∈s.2.1.tasks,(y.process==k.1)=true->Xz s.2.1 u g.1 y.id=true:=fun y i j=>B6.mp G y.id (B8.mpr ⟨y,C1.mpr ⟨i,j⟩,rfl⟩)
    refine I.move wo b (p:=fun y=>y.process==k.1) (mv:=Ti k.1 g.1) (fun y=>rfl) (fun y i j=>?_) (fun y i j a J=>?_) F
    · have:=Ase w b (t y i j);rw[AbQ w.sorted i]at this;exact this
    · have:=Avh w b (t y i j) J;rw[AbQ w.sorted i]at this;exact this
  refine Aya (fun _=>?_) fun _=>?_
  · rw[Ajx f,A0];refine r _ _ _ h fun e=>?_
    obtain⟨_,_,_,l,G⟩:=actT_ok e;rw[G]at e ⊢;have F:=ApF f e;obtain⟨_,_,_,_,a5⟩:=AuJ e;rw[a5]at F ⊢;refine I.move wo b (p:=fun y=>y.id==k.1) (mv:=Qr k.1 g.1) (fun y=>rfl) (fun y i j=>?_) (fun y i j a J=>?_) F
    · have D:y.id=k.1:=by simpa using j
      have:=Ase w b l;rw[<-D,AbQ w.sorted i]at this;exact this
    · have D:y.id=k.1:=by simpa using j
      have:=Avh w b l J;rw[<-D,AbQ w.sorted i]at this;exact this
  refine Aya (fun _=>?_) fun _=>?_
  · have E:Ok (Pf s n k m false) R:=by grind[Pf]
    cases D:Bx s.2.1.tasks k.1 with
    |none=>grind[Wh,zK,Alk]
    |some y=>
      have T:Wh s.2.1 k.1=some (y,true):=by
        rw[Alk w,D];rfl
      have X:Qg s.2.1 k.1=y.group:=by
        unfold Qg;rw[D];rfl
      refine Ok.step T (Aya (fun _=>Aya (fun _=>?_) fun _=>E) fun _=>E);refine Ok.step (AoQ w.tree u y.group) ?_;grind[Ca,act_fork]
  refine Aya (fun _=>?_) fun _=>?_
  · rw[Aqn w.tree,A0];refine Aya (fun P=>?_) fun _=>r _ _ _ h fun e=>by simp at e
    refine Ok.bind (AlD h) fun q ⟨O,h⟩=>?_
    refine Ok.step (Apt C.fits C.small (AeI w.tree (Akw P)) O.chk) ?_;rw[if_pos (by simp)];exact AlP A N n1 Q h (fun e=>by simp at e) (C.set I wo.tree P O) (fun _=>K)
  · exact r _ _ _ h fun _=>I
theorem act_step(wo:WfH o)(r:1<=u)(A:AdC o s.2.1 l0 s.2.2.1 c0 s.2.2.2.1 u)(f:Bg s.1)(x:0<=s.2.2.2.2)(n1:s.2.2.2.2<=1000)(v:R (s.2.1,s.2.2.1,s.2.2.2.1,s.1))
    (t:∀a,AdC o a.2.1 l0 a.2.2.1 c0 a.2.2.2.1 u->Bg a.1->0<s.2.2.2.2->a.2.2.2.2=s.2.2.2.2-1->Ok (n a) R):Ok (Akx u s n) R:=by
  have D:=A.iso.fits.snd.wf.len;have E:=A.iso.fits.snd.wf.tree.len2
  have i:∀y,y=false\/0<s.2.2.2.2->Ok (Acv u s n y) R:=by
    intro y B;unfold Acv;refine Aya (fun c=>?_) fun _=>Ok.ret v
    have b:0<s.2.2.2.2:=by grind
    refine Ok.bind (Aku f _ (by omega)) fun g f=>Ok.bind (Any f _ (by omega)) fun k f=>Ok.bind (Dy f 9 (by omega) (by omega)) fun m ⟨f,z,C⟩=>?_
    have h:=fun y=>act_J10 (g:=g) (k:=k) (m:=m) wo (by omega) A b n1 (fun a l j q=>t a l j b q) f y
    exact Aya (fun _=>h _) fun _=>h _
  unfold Akx;refine Aya (fun c=>?_) fun _=>i _ (.inl rfl)
  grind[AdF]
end
theorem acts_ok{o:Aa}{u:Int}{l0:List Ai}{c0:List Af}(wo:WfH o)(f:1<=u){d:Aj}{h:Aa}{l:List Ai}{c:List Af}{n:Int}(A:AdC o h l0 l c0 c u)(a:Bg d)(b:0<=n)(n1:n<=1000):
    Ok (Akv d h l c u n) (fun r=>AdC o r.1 l0 r.2.1 c0 r.2.2.1 u/\Bg r.2.2.2):=by
  unfold Akv;refine AxW (fun s=>AdC o s.2.1 l0 s.2.2.1 c0 s.2.2.2.1 u/\Bg s.1/\0<=s.2.2.2.2/\s.2.2.2.2<=1000) (fun s=>s.2.2.2.2.toNat) ⟨A,a,b,n1⟩ (by rw[Iz];simp only;omega) ?_;intro s g ⟨A,a,b,n1⟩ i;grind[act_step]
/-! ### limits -/
theorem CntOk.limit{h:Aa}{l:List Af}(k:CntOk h l){g n:Int}(f:Aky n=true):CntOk h (l.map (Sr g (AjO n))):=by
  refine⟨?_,?_⟩
  · rw[H7,<-k.ids];refine C8 fun c _=>?_
    grind[only,Sr,AjO]
  · intro c b;obtain⟨d,a,rfl⟩:=B8.mp b;have v:=k.val d a;unfold Sr;split
    · refine⟨v.now,?_,v.p1,v.p2,v.e1,v.e2⟩;grind[Aky,only,AjO]
    · exact v
theorem MadeS.lim{s:As}(m:MadeS s):Aky s.pidsMax=true:=by
  have:=m.pm;grind[Aky,only]
end Go.Dm

namespace Go.Dm
def Abj(n1:(List Int)->Option (List Int))(a:List Int):Option (List Int):=(n1 a)
def AlB(g:Ae)(p1:Int)(k1:Nat)(f:Ah)(a:List Int)(n1:(List Int)->Option (List Int)):Option (List Int):=((AfJ g p1 f.id).bind fun b=>(if(!b)then(if a.length+1<=1073741824 then((Abj n1) (a++[f.id]))else none)else((Abj n1) a)))
def Ato(a:List Int):Option (List Int):=(some a)
def Aeb(a:Ae)(p1:Int):Option (List Int):=(if a.nodes.length<=9223372036854775807 then Ba (AlB a p1) Ato a.nodes 0 []else none)
noncomputable def Rq(i:Aa×Aj)(j:(List Af)×Int)(a:Aa×(List Ai)×(List Af)×Aj)(h:Int)(k:Unit->Option Bool)(g:Bool):Option Bool:=(if g then(some false)else((AeA a.1 a.2.2.1 h).bind fun f=>((AeA i.1 j.1 h).bind fun b=>(if(decide (f<(w64 ((Jj b 128)-(w64 ((a.1.tasks.length:Int)-(i.1.tasks.length:Int)))))))then(some false)else(k ())))))
noncomputable def Gg(m:Aa×Aj)(q:(List Ai)×Aj)(k:(List Int)×Aj)(o:(List Af)×Int)(a:Aa×(List Ai)×(List Af)×Aj)(b:Int)(r:Unit->Option Bool)(n:Bool):Option Bool:=(if n then(some false)else((AaS m.1.tree q.1 k.1 b).bind fun l=>((AaS a.1.tree a.2.1 k.1 b).bind fun i=>((AbO l i).bind fun h=>(if(!h)then((Rq m o a b r) true)else((AaB m.1.tree q.1 [0,1] b).bind fun j=>((AaB a.1.tree a.2.1 [0,1] b).bind fun g=>((AbO j g).bind fun f=>((Rq m o a b r) (!f))))))))))
noncomputable def Aai(g:Aa×Aj)(j:(List Ai)×Aj)(f:(List Int)×Aj)(k:(List Af)×Int)(a:Aa×(List Ai)×(List Af)×Aj)(y:Nat)(b:Int)(x:Unit)(l:Unit->Option Bool):Option Bool:=((AbM g.1.tree b).bind fun h=>((AbM a.1.tree b).bind fun i=>(if(!h.2)then((Gg g j f k a b l) true)else(if(!i.2)then((Gg g j f k a b l) true)else(if(!(eqNode h.1 i.1))then((Gg g j f k a b l) true)else((Gn j.1 b).bind fun t=>((Gn a.2.1 b).bind fun s=>((Wd t s).bind fun v=>(if(!v)then((Gg g j f k a b l) true)else((Iw g.1.tree j.1 b).bind fun u=>((Iw a.1.tree a.2.1 b).bind fun q=>((Wd u q).bind fun n=>(if(!n)then((Gg g j f k a b l) true)else((Xv g.1 b).bind fun r=>((Xv a.1 b).bind fun o=>((AbO r o).bind fun m=>((Gg g j f k a b l) (!m))))))))))))))))))
noncomputable def AnP(a:Unit):Option Bool:=(some true)
noncomputable def Oo(h:Aa×Aj)(j:(List Ai)×Aj)(f:(List Int)×Aj)(g:Int×Aj)(i:(List Af)×Int)(b:Aa×(List Ai)×(List Af)×Aj)(k:Bool):Option Bool:=(if k then(some false)else((Aeb h.1.tree (w64 (1+g.1))).bind fun a=>(if a.length<=9223372036854775807 then Ba (Aai h j f i b) AnP a 0 ()else none)))
noncomputable def Afm(k:Aa×Aj)(i:(List Ai)×Aj)(h:(List Int)×Aj)(f:Int×Aj)(b:(List Af)×Int)(n1:((List Af)×Int)->Option Bool):Option Bool:=(if(decide (b.2<(b.1.length:Int)))then(if 0<=b.2/\b.2<(b.1.length:Int)then(if 0<=b.2/\b.2<(i.1.length:Int)then(if b.2.toNat<i.1.length then((AfM k.1 b.1 (b.1.getD b.2.toNat default).group (i.1.getD b.2.toNat default).settings.pidsMax).bind fun g=>(if(g.2 !=0)then(some false)else(n1 (g.1,(w64 (b.2+1))))))else none)else none)else none)else((Akv f.2 k.1 i.1 b.1 (w64 (1+f.1)) 14).bind fun a=>((Dp a.1).bind fun l=>(if(!l)then((Oo k i h f b a) true)else((Lj a.1.tree a.2.1).bind fun j=>(if(!j)then((Oo k i h f b a) true)else((Ot a.1 a.2.2.1).bind fun m=>((Oo k i h f b a) (!m)))))))))
noncomputable def Sl(i:List Int)(k:Bool):Option Bool:=(if k then(Option.bind Age fun l=>(some l))else((Ast i).bind fun h=>((Lu h 6 8).bind fun b=>((So b.2 b.1.tree).bind fun g=>((AkT b.1).bind fun j=>((Va g.2 6).bind fun a=>((Bo a.2 2).bind fun f=>(whileO (Afm b g a f) Ik (j,0)))))))))
noncomputable def Xb(a:List Int):Option Bool:=(Option.bind Age fun b=>(if(!b)then((Sl a) true)else((AkZ a).bind fun f=>((Sl a) (!f)))))
end Go.Dm

namespace Go.Dm
theorem outside_t{t:Ae}(w:WfT t)(u:Int):Aeb t u=some ((t.nodes.filter (fun x=>!Ca t u x.id)).map (·.id)):=by
 have j:=w.len2;unfold Aeb;rw[if_pos (by omega)];apply Ok.eq;refine Ok.range (fun pre s=>s=(pre.filter (fun x=>!Ca t u x.id)).map (·.id)) rfl ?_ (fun s g=>Ok.ret g);rintro pre x post s n f rfl a;have i:pre.length+1<=t.nodes.length:=by rw[f];simp
 have b:((pre.filter (fun x=>!Ca t u x.id)).map (·.id)).length<=pre.length:=by
  rw[G8];exact F2 _ _
 unfold AlB Abj;rw[AuL w,A0];refine Aya (fun c=>Ok.guard (by omega) (a _ ?_)) fun c=>a _ ?_
 ·rw[E6,G9,G3,if_pos c];rfl
 ·rw[E6,G9,G3,if_neg (by rw[c];simp)];simp
section
variable {o h:Aa} {u:Int} {l0 l:List Ai} {c0 c:List Af}
theorem AuW(wo:WfH o)(D:u≠0)(A:AdC o h l0 l c0 c u)(f0:FitsS o.tree l0)(h0:∀x∈l0,MadeS x.settings)(R:CntOk o c0){b:Aa×Aj}{s:List Ai×Aj}{f:List Int×Aj}{E:List Af×Int}{d:Aj}
  (e7:b.1=o) (e8:s.1=l0) (e1:E.1=c0) (X:okSet 6 f.1) (r:0<f.1.length) {x:Ah} (m:x∈o.tree.nodes) (z:Ca o.tree u x.id=false) {k:Nat} {n:Unit->Option Bool} (hn:Ok (n ()) (· = true)):
  Ok (Aai b s f E (h,l,c,d) k x.id () n) (· = true):=by
 subst e7 e8 e1;have I:=A.iso;have C:=A.cfg;have w:=I.fits.snd.wf;have g1:=wo.len;have g2:=w.len;have q:∀x∈s.1,Dz x.settings:=fun x m=>(h0 x m).chk.2
 have V:=f0.len;have hl:=C.fits.len;have t1:=wo.tree.len2;have t2:=w.tree.len2;have v:=I.enter x m z;have i:Aw b.1.tree x.id=true:=Vz m;have K:Aw h.tree x.id=true:=Vz v;have t:upT h.tree x.id=upT b.1.tree x.id:=I.up wo.tree x v (wo.tree.next x m)
 have g:∀a∈upT b.1.tree x.id,cfg s.1 a=cfg l a:=by
  intro a M;obtain⟨y,J,rfl⟩:=Aji wo.tree x m a M;exact C.same y J (Adx (ApR wo.tree D m z M))
 have j:x.id∈upT b.1.tree x.id:=AnJ wo.tree m;unfold Aai;rw[AiP wo.tree,A0,AiP w.tree,A0,i,K,Uz wo.tree m,Uz w.tree v];simp only[B4,A2,if_false];rw[AvP,if_neg (by simp),Fy (by omega) q,A0,Fy (by omega) C.small,A0,<-g _ j,AeD (ArV q _),A0,if_neg (by simp)];obtain⟨S,Q,hS⟩:=AwW f0 q i
 have O:Iw h.tree l x.id=some S:=by
  rw[<-Q,Avd f0 q i,Avd C.fits C.small K,t,<-g _ j,C8 g]
 rw[Q,A0,O,A0,AeD hS,A0,if_neg (by simp),AjE wo,A0,AjE w,A0,<-I.tasksK m z]
 have P:(tasksK b.1 x.id).length<=1000000:=by
  unfold tasksK;rw[G8];have:=F2 (fun y:Ar=>y.group==x.id) b.1.tasks;omega
 rw[Ado _ P,A0];unfold Gg;have B:okSet 16 f.1:=Ali X (by omega);have T:UseS b.1.tree s.1 f.1:=⟨f0,r,B⟩;have u1:UseS h.tree l f.1:=⟨C.fits,r,B⟩
 have G:Sf b.1.tree s.1 f.1 x.id=Sf h.tree l f.1 x.id:=by
  refine own_two x.id t ?_ ?_ g j
  ·intro p N;obtain⟨y,J,rfl⟩:=Aji wo.tree x m p N;exact I.kids y J (ApR wo.tree D m z N)
  ·intro p N k hk;obtain⟨y,J,rfl,hf⟩:=Axv wo.tree D (ApR wo.tree D m z N) hk;exact C.same y J hf
 obtain⟨b1,b2,b3,b4⟩:=ArR T i;rw[if_neg (by simp),Cpus_t T q,A0,Cpus_t u1 C.small,A0,if_pos i,if_pos K,<-G,Ado _ (by omega),A0,if_neg (by simp)];have F:okSet 8 [0,1]:=⟨by simp[Asc],by simp⟩;have U:UseM b.1.tree s.1 [0,1]:=⟨f0,by simp,F⟩;have m1:UseM h.tree l [0,1]:=⟨C.fits,by simp,F⟩
 have L:memsC h.tree l [0,1] x.id=memsC b.1.tree s.1 [0,1] x.id:=by
  unfold memsC;rw[t];exact Asd _ fun a M=>(g a M).symm
 have hml:=Avb U (upT b.1.tree x.id);rw[Mems_t U q,A0,Mems_t m1 C.small,A0,if_pos i,if_pos K,L,Ado _ (by unfold memsC;omega),A0];unfold Rq;rw[if_neg (by simp),Aom w A.cnt.ok,A0,Aom wo R,A0,if_pos K,if_pos i];obtain⟨q1,q2,q3⟩:=room_fall A.cnt wo R I D m z;have W:w64 ((h.tasks.length:Int)-(b.1.tasks.length:Int))=(h.tasks.length:Int)-(b.1.tasks.length:Int):=Br (by omega) (by omega)
 have H:Jj (Xf E.1 (upT b.1.tree x.id)) 128=Xf E.1 (upT b.1.tree x.id):=by
  unfold Jj;split<;>omega
 have Y:0<=Xf E.1 (upT b.1.tree x.id):=by
  unfold Xf Us;split<;>omega
 simp only[W,H];rw[Br (by omega) (by omega),if_neg (by simp;omega)];exact hn
end
theorem ArA(l0:List Int):Ok (Xb l0) (· = true):=by
 unfold Xb Age AkZ;refine Ok.step rfl ?_;rw[if_neg (by simp)];refine Ok.step rfl ?_;unfold Sl;refine Aya (fun _=>Ok.of_eq (b:=true) rfl rfl) fun c=>?_
 have V:l0.length<=600:=by
  have:(l0.length:Int)<=600:=by simpa using c
  omega
 refine Ok.step (a:={l:=l0,atF:=0}) rfl ?_;refine Ok.bind (Arl (dice_roll V) 6 8 (by omega) (by omega) (by omega) (by omega)) fun r ⟨wo,t,f⟩=>?_
 refine Ok.bind (AuM t wo.tree) fun D ⟨G,I,t⟩=>?_
 rw[Axk wo,A0];refine Ok.bind (Online_ok t (n:=6) (by omega) (by omega)) fun P ⟨U,B,t⟩=>?_
 refine Ok.bind (Dy t 2 (by omega) (by omega)) fun j ⟨t,a0,a1⟩=>?_
 have t1:=wo.tree.len2;have K:=G.len;have L:w64 (1+j.1)=1+j.1:=Br (by omega) (by omega);have J:=(new_made wo).ok;have O:=J.len;refine AxW (fun q=>CntOk r.1 q.1/\0<=q.2/\q.2<=D.1.length) (fun q=>D.1.length-Int.toNat q.2) ⟨J,by simp,by simp⟩ (by rw[Iz];simp;omega) ?_;rintro⟨cs,i⟩ n ⟨k,R,X⟩ M;simp only at k R X;have kl:=k.len;unfold Afm;simp only;refine Aya (fun c=>?_) fun c=>?_
 ·have c:=of_decide_eq_true c;have hi:i.toNat<cs.length:=by omega
  have C:i.toNat<D.1.length:=by omega
  refine Ok.guard ⟨by omega,by omega⟩ (Ok.guard ⟨by omega,by omega⟩ (Ok.guard C ?_));have v:=(I _ (Og (d:=default) C)).lim
  have E:Aw r.1.tree (cs.getD i.toNat default).group=true:=by
   have:(cs.getD i.toNat default).group∈cs.map (·.group):=N3 (Og hi);rw[k.ids]at this;obtain⟨y,W,e⟩:=B8.mp this;exact hasN_iff.mpr ⟨y,W,e⟩
  rw[AtR wo k,A0];unfold limitR;rw[E,v];simp only[B4,A2,if_false];rw[if_neg (by simp),Br (by omega) (by omega)];exact M _ ⟨k.limit v,by simp only;omega,by simp only;omega⟩ (by simp only;omega)
 ·clear M;have Q:AdC r.1 r.1 D.1 D.1 cs cs (1+j.1):=⟨Axa f _,⟨G,I,fun _ _ _=>rfl⟩,⟨k,fun _ _ _=>rfl⟩⟩;rw[L];refine Ok.bind (acts_ok wo (by omega) Q t (by omega) (by omega)) fun z ⟨A,t⟩=>?_
  obtain⟨h,l,c',d⟩:=z;simp only at A;have w:=A.iso.fits.snd.wf;simp only;rw[Ep A.iso.fits,A0,if_neg (by simp),Xc A.cfg.fits A.cfg.small,A0,if_neg (by simp),Ud w A.cnt.ok,A0];unfold Oo;rw[if_neg (by simp),L,outside_t wo.tree,A0]
  have N:((r.1.tree.nodes.filter (fun x=>!Ca r.1.tree (1+j.1) x.id)).map (·.id)).length<=r.1.tree.nodes.length:=by
   rw[G8];exact F2 _ _
  refine Ok.guard (by omega) (Ok.range (fun _ _=>True) trivial ?_ fun _ _=>Ok.ret rfl);intro pre g post s m Y _ F;have E:g∈(r.1.tree.nodes.filter (fun x=>!Ca r.1.tree (1+j.1) x.id)).map (·.id):=by rw[Y];simp
  obtain⟨x,H,rfl⟩:=B8.mp E;obtain⟨H,T⟩:=C1.mp H;exact AuW wo (by omega) A G I k rfl rfl rfl U B H (by simpa using T) (F _ trivial)
theorem Apd(l0:List Int):Xb l0=some true:=Ok.eq (ArA l0)
end Go.Dm

namespace Go.Dm
class Sd (P:Program) (T:outParam Ty):Prop where
 good:Hx P T
 mixed:P.follows .mixedOrders=true
def padL:List Oper->List Orc->List Orc
 |[],xs=>xs
 |_::os,[]=>.no::padL os []
 |_::os,x::xs=>x::padL os xs
def numS:Nat->List MV->List (Nat×MV)
 |_,[]=>[]
 |k,x::r=>(k,x)::numS (k+1) r
def numO:Nat->List Body->List (Nat×Obj)
 |_,[]=>[]
 |k,x::r=>(k,⟨0,x⟩)::numO (k+1) r
structure Cn(R:Type) where
 f:FuncId
 x:R->MV
 o:R->List Body
 n:R->List Body
abbrev Cn.c{R:Type}(C:Cn R)(ks:List Nat)(b:Bool)(r:R)(a:List Nat:=[]):Orc:=.call C.f ks b (C.x r) (C.o r) (C.n r) a
abbrev Cn.d{R:Type}(C:Cn R)(r:R):Orc:=.call C.f [] true (C.x r) (C.o r) (C.n r) []
abbrev Cn.e{R:Type}(C:Cn R)(k:Nat)(r:R):Orc:=.call C.f [k] true (C.x r) (C.o r) (C.n r) []
abbrev Cn.S{R:Type}(C:Cn R)(P:Program)(args:List MV)(a:List Body)(r:R):Prop:=Spec P C.f args a (C.x r) (C.o r) (C.n r)
def NF:Nat->Prop
 |0=>True
 |n+1=>false=false/\NF n
theorem nf:∀n,NF n
 |0=>trivial
 |n+1=>⟨rfl,nf n⟩
def tl:Nat->List Orc
 |0=>[.pk false]
 |n+1=>.pk false::.no::.skip::.skip::.skip::tl n
section
variable {p1 p2 p3 p4 p5:Prop}
abbrev a1(a:p1):p1/\True:=⟨a,trivial⟩
abbrev a2(a:p1)(b:p2):p1/\p2/\True:=⟨a,b,trivial⟩
abbrev a3(a:p1)(b:p2)(f:p3):p1/\p2/\p3/\True:=⟨a,b,f,trivial⟩
abbrev a4(a:p1)(b:p2)(g:p3)(f:p4):p1/\p2/\p3/\p4/\True:=⟨a,b,g,f,trivial⟩
abbrev a5(a:p1)(g:p2)(f:p3)(h:p4)(b:p5):p1/\p2/\p3/\p4/\p5/\True:=⟨a,g,f,h,b,trivial⟩
end
section
variable {V:Type} {W:Nat} {enc:V->List PV} {d:V}
theorem tU{n:Nat}{f:Nat->List PV}{L:List V}(h:RowIs enc d n f L):MLe (.p (.sl .unk W n f)) (.p (Lq W enc d L)):=MLe.typed h
theorem nN:MLe (.p (.sl .nil 0 0 (fun _=>[]))) (.p (Lq W enc d ([]:List V))):=MLe.nilL
end
def selN(a:List Nat):Nat->List MV->List MV->List MV
 |j,x::l,y::m=>(bif memN a j then(match x with
  | .p (.sl _ _ 0 _)=>match y with
   | .p (.sl .unk W 0 g)=>.p (.sl .unk W 0 g)
   |_=>x
  |_=>x)else x)::selN a (j+1) l m
 |_,l,_=>l
theorem selN_le(a:List Nat):∀(j:Nat) (l m:List MV),MLes l (selN a j l m)
 |j,[],m=>by cases m<;>exact .nil
 |j,x::l,[]=>by
  have:∀l:List MV,MLes l l:=fun l=>by induction l with
   |nil=>exact .nil
   |cons x l b=>exact .cons .rfl b
  exact this _
 |j,x::l,y::m=>by
  refine .cons ?_ (selN_le a (j+1) l m)
  cases memN a j with
  |false=>exact .rfl
  |true=>
   simp only[cond_true];split
   ·split
    ·exact .p (.empty (.inl rfl))
    ·exact .rfl
   ·exact .rfl
def ArD(k:Nat)(l:List (Nat×Obj)):List MV:=match assoc l k with
 |some ⟨_,.box m⟩=>m
 |_=>[]
section
variable {R:Type} {r:R} {G:Prop}
theorem bO{V:Type}{x:Option V}{k:V->Option R}(h:x.bind k=some r)(g:∀a,x=some a->k a=some r->G):G:=by
 obtain⟨a,b,f⟩:=bind_open h;exact g a b f
theorem gA{p:Prop}[Decidable p]{x:Option R}(h:(if p then x else none)=some r)(g:p->x=some r->G):G:=g (go1 h).1 (go1 h).2
theorem gB{p q:Prop}[Decidable p][Decidable q]{x:Option R}(h:(if p then if q then x else none else none)=some r)(g:p->q->x=some r->G):G:=gA h fun a h=>gA h fun b h=>g a b h
theorem gC{p q s:Prop}[Decidable p][Decidable q][Decidable s]{x:Option R}(h:(if p then if q then if s then x else none else none else none)=some r)(g:p->q->s->x=some r->G):G:=gA h fun a h=>gB h fun b c h=>g a b c h
theorem gD{p q s t:Prop}[Decidable p][Decidable q][Decidable s][Decidable t]{x:Option R}(h:(if p then if q then if s then if t then x else none else none else none else none)=some r)(g:p->q->s->t->x=some r->G):G:=gB h fun a b h=>gB h fun c d h=>g a b c d h
theorem iF{b:Bool}{X Y:Option R}(a:(if b=true then X else Y)=some r)(f:b=true->X=some r->G)(g:b=false->Y=some r->G):G:=by
 cases b with
 |true=>exact f rfl a
 |false=>exact g rfl a
theorem iB(b:Bool)(a:b=true->G)(f:b=false->G):G:=by
 cases b with
 |true=>exact a rfl
 |false=>exact f rfl
end
section
variable {P:Program} {T:Ty} {cx:Cx P} {O:St} {Q:Exit->St->Prop} {nt:Nat} {ops:Array Oper} {id:Nat} {draw:Bool} {r:List Code} {x y z:Code} {c:Operand} {sl0:List (Nat×MV)} {ob0:List (Nat×Obj)} {q:Prop} {R:Type}
abbrev dq(P:Program)(T:Ty)(nt:Nat)(ops:Array Oper)(xs:List Orc)(sl:List (Nat×MV))(ob:List (Nat×Obj))(draw:Bool)(O:St):=Anp P T nt ops (padL ops.toList xs) (Bw sl) (Bw ob) draw O
abbrev tB(t:Nat)(b:Bool)(sl:List (Nat×MV)):=up [] [(t,pB b)] sl
abbrev lN(k n:Nat):Bool:=decide ((k:Int)<(n:Int))
theorem kE[Sd P T](xs:List Orc)(sl:List (Nat×MV))(ob:List (Nat×Obj))(b:q)(f:DW P cx r (Ac sl ob) Q)(a:cx.nt=nt:=by assumption)
  (h:dq P T nt ops xs sl ob draw O=some ((sl,ob),q):=by kernel_rfl):DW P cx (.region id ops draw::r) O Q:=DW.rk Sd.good Sd.mixed a _ sl ob b h f
theorem kB[Sd P T](sl:List (Nat×MV))(ob:List (Nat×Obj))(b:DW P cx r (Ac sl ob) Q)(a:cx.nt=nt:=by assumption)
  (h:dq P T nt ops [] sl ob draw O=some ((sl,ob),True):=by kernel_rfl):DW P cx (.region id ops draw::r) O Q:=kE [] sl ob tv b a h
theorem kA[Sd P T](sl:List (Nat×MV))(b:DW P cx r (Ac sl []) Q)(a:cx.nt=nt:=by assumption)
  (h:dq P T nt ops [] sl [] draw O=some ((sl,[]),True):=by kernel_rfl):DW P cx (.region id ops draw::r) O Q:=kE [] sl [] tv b a h
theorem rE[Sd P T](xs:List Orc)(f:List Nat)(us:List (Nat×MV))(b:List Nat)(g:List (Nat×Obj))(i:q)(j:DW P cx r (Ac (up f us sl0) (up b g ob0)) Q)(a:cx.nt=nt:=by assumption)
  (h:dq P T nt ops xs (up f us sl0) (up b g ob0) draw (Ac sl0 ob0)=some ((up f us sl0,up b g ob0),q):=by kernel_rfl):DW P cx (.region id ops draw::r) (Ac sl0 ob0) Q:=kE xs _ _ i j a h
theorem rD[Sd P T](xs:List Orc)(b:List Nat)(us:List (Nat×MV))(f:q)(g:DW P cx r (Ac (up b us sl0) ob0) Q)(a:cx.nt=nt:=by assumption)
  (h:dq P T nt ops xs (up b us sl0) ob0 draw (Ac sl0 ob0)=some ((up b us sl0,ob0),q):=by kernel_rfl):DW P cx (.region id ops draw::r) (Ac sl0 ob0) Q:=kE xs _ _ f g a h
theorem rC[Sd P T](xs:List Orc)(us:List (Nat×MV))(b:q)(f:DW P cx r (Ac (up [] us sl0) ob0) Q)(a:cx.nt=nt:=by assumption)
  (h:dq P T nt ops xs (up [] us sl0) ob0 draw (Ac sl0 ob0)=some ((up [] us sl0,ob0),q):=by kernel_rfl):DW P cx (.region id ops draw::r) (Ac sl0 ob0) Q:=kE xs _ _ b f a h
theorem rB[Sd P T](b:List Nat)(us:List (Nat×MV))(f:DW P cx r (Ac (up b us sl0) ob0) Q)(a:cx.nt=nt:=by assumption)
  (h:dq P T nt ops [] (up b us sl0) ob0 draw (Ac sl0 ob0)=some ((up b us sl0,ob0),True):=by kernel_rfl):DW P cx (.region id ops draw::r) (Ac sl0 ob0) Q:=kE [] _ _ tv f a h
theorem rA[Sd P T](us:List (Nat×MV))(b:DW P cx r (Ac (up [] us sl0) ob0) Q)(a:cx.nt=nt:=by assumption)
  (h:dq P T nt ops [] (up [] us sl0) ob0 draw (Ac sl0 ob0)=some ((up [] us sl0,ob0),True):=by kernel_rfl):DW P cx (.region id ops draw::r) (Ac sl0 ob0) Q:=kE [] _ _ tv b a h
theorem r0[Sd P T](b:DW P cx r (Ac sl0 ob0) Q)(a:cx.nt=nt:=by assumption)
  (h:dq P T nt ops [] sl0 ob0 draw (Ac sl0 ob0)=some ((sl0,ob0),True):=by kernel_rfl):DW P cx (.region id ops draw::r) (Ac sl0 ob0) Q:=kE [] _ _ tv b a h
theorem uS{sl f:List (Nat×MV)}{a b:MV}(t:Nat)(h:MLe a b)(k:SP sl f)(e:assoc sl t=some b:=by rfl):SP sl ((t,a)::f):=.cons e h k
theorem uO{ob:List (Nat×Obj)}{f:List (Nat×Body)}{g:Nat}{a b:Body}(t:Nat)(h:BLe a b)(k:OP ob f)(e:assoc ob t=some ⟨g,b⟩:=by rfl):OP ob ((t,a)::f):=.cons e h k
theorem uY{sl f:List (Nat×MV)}{b:MV}(t:Nat)(a:MV)(h:MLe a b)(k:SP sl f)(e:assoc sl t=some b:=by rfl):SP sl ((t,a)::f):=.cons e h k
theorem uX{ob:List (Nat×Obj)}{f:List (Nat×Body)}{g:Nat}{b:Body}(t:Nat)(a:Body)(h:BLe a b)(k:OP ob f)(e:assoc ob t=some ⟨g,b⟩:=by rfl):OP ob ((t,a)::f):=.cons e h k
theorem nR[Sd P T]{a:List (Nat×MV)}{f:List (Nat×Body)}(xs:List Orc)(sl:List (Nat×MV))(ob:List (Nat×Obj))(g:q)(j:SP sl a)(i:OP ob f)(k:DW P cx r (Ac sl ob) Q)(b:cx.nt=nt:=by assumption)
  (h:dq P T nt ops xs sl ob draw O=some ((Ly a sl,Ma f ob),q):=by kernel_rfl):DW P cx (.region id ops draw::r) O Q:=DW.rn Sd.good Sd.mixed b _ sl ob a f g h j i k
theorem nT[Sd P T]{sl:List (Nat×MV)}{ob:List (Nat×Obj)}(xs:List Orc)(a:List (Nat×MV))(f:q)(g:SP sl a)(b:cx.nt=nt:=by assumption)
  (h:dq P T nt ops xs sl ob draw O=some ((Ly a sl,ob),q):=by kernel_rfl):RegTo P cx ops draw O sl ob:=RegTo.rn Sd.good Sd.mixed b _ a f h g
theorem nQ[Sd P T]{sl:List (Nat×MV)}{ob:List (Nat×Obj)}{b:Bool}(xs:List Orc)(t:Nat)(v:Bool)(f:q)(e2:assoc sl t=some (pB b))(e:v=b)(a:cx.nt=nt:=by assumption)
  (h:dq P T nt ops xs sl ob draw O=some ((Ly [(t,pB v)] sl,ob),q):=by kernel_rfl):RegTo P cx ops draw O sl ob:=nT xs _ f (.cons e2 (.of_eq (congrArg pB e)) .nil) a h
theorem jG(a:List (Nat×MV))(b:List (Nat×Obj))(h:RegTo P cx ops draw O a b)(f:DW P cx r (Ac a b) Q):DW P cx (.region id ops draw::r) O Q:=DW.regJ h f
theorem lR{k n:Nat}{b a:Prop}(l:k<n->b)(g:¬ k<n->a)(j:k<n->b->DW P cx (x::r) O Q)(i:¬ k<n->a->DW P cx (y::r) O Q)
  (f:Au c=true:=by kernel_rfl) (m:ev O c=.p (.v (.bool (lN k n))):=by kernel_rfl):DW P cx (.cond c x y::r) O Q:=
 DW.cond _ f m (fun e=>have h:=Int.ofNat_lt.1 (of_decide_eq_true e);j h (l h)) fun e=>have h:=fun h=>of_decide_eq_false e (Int.ofNat_lt.2 h);i h (g h)
theorem lF{k n:Int}{b a:Prop}(l:k<n->b)(g:¬ k<n->a)(j:k<n->b->DW P cx (x::r) O Q)(i:¬ k<n->a->DW P cx (y::r) O Q)
  (f:Au c=true:=by kernel_rfl) (m:ev O c=.p (.v (.bool (decide (k<n)))):=by kernel_rfl):DW P cx (.cond c x y::r) O Q:=
 DW.cond _ f m (fun e=>have h:=of_decide_eq_true e;j h (l h)) fun e=>have h:=of_decide_eq_false e;i h (g h)
theorem lS[Sd P T]{k n:Nat}{f b:Prop}(t:Nat)(m:k<n->f)(i:¬ k<n->b)(l:k<n->f->DW P cx (x::z::r) (Ac (tB t (lN k n) sl0) ob0) Q)
  (j:¬ k<n->b->DW P cx (y::z::r) (Ac (tB t (lN k n) sl0) ob0) Q) (a:cx.nt=nt:=by assumption)
  (h:dq P T nt ops [] (tB t (lN k n) sl0) ob0 draw (Ac sl0 ob0)=some ((tB t (lN k n) sl0,ob0),True):=by kernel_rfl)
  (g:Au c=true:=by kernel_rfl) (o:ev (Ac (tB t (lN k n) sl0) ob0) c=.p (.v (.bool (lN k n))):=by kernel_rfl):
  DW P cx (.seq (.seq (.region id ops draw) (.cond c x y)) z::r) (Ac sl0 ob0) Q:=Sq (Sq (rA _ (lR m i l j g o) a h))
theorem lG[Sd P T]{k n:Int}{f b:Prop}(t:Nat)(m:k<n->f)(i:¬ k<n->b)(l:k<n->f->DW P cx (x::z::r) (Ac (tB t (decide (k<n)) sl0) ob0) Q)
  (j:¬ k<n->b->DW P cx (y::z::r) (Ac (tB t (decide (k<n)) sl0) ob0) Q) (a:cx.nt=nt:=by assumption)
  (h:dq P T nt ops [] (tB t (decide (k<n)) sl0) ob0 draw (Ac sl0 ob0)=some ((tB t (decide (k<n)) sl0,ob0),True):=by kernel_rfl)
  (g:Au c=true:=by kernel_rfl) (o:ev (Ac (tB t (decide (k<n)) sl0) ob0) c=.p (.v (.bool (decide (k<n)))):=by kernel_rfl):
  DW P cx (.seq (.seq (.region id ops draw) (.cond c x y)) z::r) (Ac sl0 ob0) Q:=Sq (Sq (rA _ (lF m i l j g o) a h))
theorem sA[Sd P T](us:List (Nat×MV))(b:DW P cx (y::r) (Ac (up [] us sl0) ob0) Q)(a:cx.nt=nt:=by assumption)
  (h:dq P T nt ops [] (up [] us sl0) ob0 draw (Ac sl0 ob0)=some ((up [] us sl0,ob0),True):=by kernel_rfl):DW P cx (.seq (.region id ops draw) y::r) (Ac sl0 ob0) Q:=Sq (rA us b a h)
theorem sB[Sd P T](a:List Nat)(us:List (Nat×MV))(f:DW P cx (y::r) (Ac (up a us sl0) ob0) Q)(b:cx.nt=nt:=by assumption)
  (h:dq P T nt ops [] (up a us sl0) ob0 draw (Ac sl0 ob0)=some ((up a us sl0,ob0),True):=by kernel_rfl):DW P cx (.seq (.region id ops draw) y::r) (Ac sl0 ob0) Q:=Sq (rB a us f b h)
theorem sD[Sd P T](xs:List Orc)(a:List Nat)(us:List (Nat×MV))(f:q)(g:DW P cx (y::r) (Ac (up a us sl0) ob0) Q)(b:cx.nt=nt:=by assumption)
  (h:dq P T nt ops xs (up a us sl0) ob0 draw (Ac sl0 ob0)=some ((up a us sl0,ob0),q):=by kernel_rfl):DW P cx (.seq (.region id ops draw) y::r) (Ac sl0 ob0) Q:=Sq (rD xs a us f g b h)
theorem sC[Sd P T](xs:List Orc)(us:List (Nat×MV))(b:q)(f:DW P cx (y::r) (Ac (up [] us sl0) ob0) Q)(a:cx.nt=nt:=by assumption)
  (h:dq P T nt ops xs (up [] us sl0) ob0 draw (Ac sl0 ob0)=some ((up [] us sl0,ob0),q):=by kernel_rfl):DW P cx (.seq (.region id ops draw) y::r) (Ac sl0 ob0) Q:=Sq (rC xs us b f a h)
theorem sK[Sd P T](xs:List Orc)(sl:List (Nat×MV))(ob:List (Nat×Obj))(b:q)(f:DW P cx (y::r) (Ac sl ob) Q)(a:cx.nt=nt:=by assumption)
  (h:dq P T nt ops xs sl ob draw O=some ((sl,ob),q):=by kernel_rfl):DW P cx (.seq (.region id ops draw) y::r) O Q:=Sq (kE xs sl ob b f a h)
theorem tA[Sd P T](us:List (Nat×MV))(b:DW P cx (y::z::r) (Ac (up [] us sl0) ob0) Q)(a:cx.nt=nt:=by assumption)
  (h:dq P T nt ops [] (up [] us sl0) ob0 draw (Ac sl0 ob0)=some ((up [] us sl0,ob0),True):=by kernel_rfl):DW P cx (.seq (.seq (.region id ops draw) y) z::r) (Ac sl0 ob0) Q:=Sq (Sq (rA us b a h))
theorem xA{ι:Type}{J:ι->St}{m:ι->Prop}{b a:List Code}(h:DW P cx r O Q):DW P cx (.exit id::a) O (Nq cx J m (KQ P cx b (Rk id (KQ P cx r Q)))):=DW.exit (Aci (Zd (Aaw h)))
theorem dN(h:DW P cx r O Q):DW P cx [] O (Rk id (KQ P cx r Q)):=h
theorem xE(h:DW P cx r O Q):Rk id (KQ P cx r Q) (.exit id) O:=Aaw h
theorem JK{ι:Type}(a:R)(K:ι->Option R)(J:ι->St)(b:∀i,K i=some a->DW P cx r (J i) Q)(h:DW P cx [x] O (Nq cx J (fun i=>K i=some a) (KQ P cx r Q))):DW P cx (x::r) O Q:=DW.join J _ b h
theorem wW{S:Type}{B:S->(S->Option R)->Option R}{n:Nat}{s0:S}{res:R}(a:Dm.whileO B n s0=some res)(I:S->St)(f:Conv cx O (I s0))
  (round:∀s N,B s N=some res->DW P cx [x] (I s) (Nq cx I (fun b=>N b=some res) (KQ P cx r Q))):DW P cx (.loop x::r) O Q:=DW.whileO I a f round
theorem wR{V S:Type}{B:Nat->V->S->(S->Option R)->Option R}{D:S->Option R}{L:List V}(d:V){s0:S}{res:R}(a:Ba B D L 0 s0=some res)(I:Nat->S->St)(f:Conv cx O (I 0 s0))
  (round:∀k s N,k<=L.length->(k<L.length->B k (L.getD k d) s N=some res)->(¬ k<L.length->D s=some res)->DW P cx [x] (I k s) (Nq cx (fun s=>I (k+1) s) (fun b=>k<L.length/\N b=some res) (KQ P cx r Q))):
  DW P cx (.loop x::r) O Q:=AxS I d a f round
theorem wF{S:Type}{B:Int->S->(S->Option R)->Option R}{D:S->Option R}{lo hi:Int}{s0:S}{res:R}(a:Dm.forO B D (hi-lo).toNat lo s0=some res)(I:Int->S->St)(f:Conv cx O (I lo s0))
  (round:∀k s N,lo<=k->(k<hi->B k s N=some res)->(¬ k<hi->D s=some res)->DW P cx [x] (I k s) (Nq cx (fun s=>I (k+1) s) (fun b=>k<hi/\N b=some res) (KQ P cx r Q))):
  DW P cx (.loop x::r) O Q:=DW.forO I a f round
theorem cR{a b:Int}{sl:List (Nat×MV)}{ob:List (Nat×Obj)}(t:Nat)(e:a=b)(h:(Kp (Bw sl) (Bw ob) O,He (Bw ob) O)=(Ly [(t,pI a)] sl,Ma [] ob):=by kernel_rfl)(f:assoc sl t=some (pI b):=by rfl):Conv cx O (Ac sl ob):=
 AxY _ [] h (.cons f (.of_eq (congrArg pI e)) .nil) .nil
theorem cT{sl a:List (Nat×MV)}{ob:List (Nat×Obj)}{b:List (Nat×Body)}(f:SP sl a)(g:OP ob b)(h:(Kp (Bw sl) (Bw ob) O,He (Bw ob) O)=(Ly a sl,Ma b ob):=by kernel_rfl):Conv cx O (Ac sl ob):=AxY a b h f g
theorem cE{sl ob}(h:(sl0,ob0)=(sl,ob):=by kernel_rfl):Conv cx (Ac sl0 ob0) (Ac sl ob):=Conv.eqK h
theorem cZ{sl:List (Nat×MV)}{ob:List (Nat×Obj)}(h:(Kp (Bw sl) (Bw ob) O,He (Bw ob) O)=(Ly [] sl,Ma [] ob):=by kernel_rfl):Conv cx O (Ac sl ob):=Conv.t0 h
theorem cN{g:Nat}{m:List MV}{sl:List (Nat×MV)}{ob:List (Nat×Obj)}(k:Nat)(a:List Nat)(e:assoc ob k=some ⟨g,.box m⟩:=by rfl)
  (h:(Kp (Bw sl) (Bw ob) O,He (Bw ob) O)=(Ly [] sl,Ma [(k,.box (ArD k (He (Bw ob) O)))] ob):=by kernel_rfl) (b:selN a 0 (ArD k (He (Bw ob) O)) m=m:=by kernel_rfl):Conv cx O (Ac sl ob):=
 AxY [] _ h .nil (.cons e (.box (by have:=selN_le a 0 (ArD k (He (Bw ob) O)) m;rw[b]at this;exact this)) .nil)
theorem mR{b:Bool}{X Y:Option R}{res:R}(t:Nat)(f:(if b=true then X else Y)=some res)[Sd P T](j:b=true->X=some res->DW P cx (x::r) (Ac (tB t b sl0) ob0) Q)(i:b=false->Y=some res->DW P cx (y::r) (Ac (tB t b sl0) ob0) Q)(a:cx.nt=nt:=by assumption)
  (h:dq P T nt ops [] (tB t b sl0) ob0 draw (Ac sl0 ob0)=some ((tB t b sl0,ob0),True):=by kernel_rfl) (g:Au c=true:=by kernel_rfl) (k:ev (Ac (tB t b sl0) ob0) c=.p (.v (.bool b)):=by kernel_rfl):
  DW P cx (.region id ops draw::.cond c x y::r) (Ac sl0 ob0) Q:=rA _ (At f j i g k) a h
theorem mS{b:Bool}{X Y:Option R}{res:R}(t:Nat)(f:(if b=true then X else Y)=some res)[Sd P T](j:b=true->X=some res->DW P cx (x::r) (Ac (tB t b sl0) ob0) Q)(i:b=false->Y=some res->DW P cx (y::r) (Ac (tB t b sl0) ob0) Q)(a:cx.nt=nt:=by assumption)
  (h:dq P T nt ops [] (tB t b sl0) ob0 draw (Ac sl0 ob0)=some ((tB t b sl0,ob0),True):=by kernel_rfl) (g:Au c=true:=by kernel_rfl) (k:ev (Ac (tB t b sl0) ob0) c=.p (.v (.bool b)):=by kernel_rfl):
  DW P cx (.seq (.region id ops draw) (.cond c x y)::r) (Ac sl0 ob0) Q:=Sq (mR t f j i a h g k)
theorem mT{b:Bool}{X Y:Option R}{res:R}(t:Nat)(f:(if b=true then X else Y)=some res)[Sd P T](j:b=true->X=some res->DW P cx (x::z::r) (Ac (tB t b sl0) ob0) Q)(i:b=false->Y=some res->DW P cx (y::z::r) (Ac (tB t b sl0) ob0) Q)(a:cx.nt=nt:=by assumption)
  (h:dq P T nt ops [] (tB t b sl0) ob0 draw (Ac sl0 ob0)=some ((tB t b sl0,ob0),True):=by kernel_rfl) (g:Au c=true:=by kernel_rfl) (k:ev (Ac (tB t b sl0) ob0) c=.p (.v (.bool b)):=by kernel_rfl):
  DW P cx (.seq (.seq (.region id ops draw) (.cond c x y)) z::r) (Ac sl0 ob0) Q:=Sq (Sq (mR t f j i a h g k))
theorem mU{b:Bool}{X Y:Option R}{res:R}(xs:List Orc)(i:q)(t:Nat)(f:(if b=true then X else Y)=some res)[Sd P T](k:b=true->X=some res->DW P cx (x::r) (Ac (tB t b sl0) ob0) Q)(j:b=false->Y=some res->DW P cx (y::r) (Ac (tB t b sl0) ob0) Q)(a:cx.nt=nt:=by assumption)
  (h:dq P T nt ops xs (tB t b sl0) ob0 draw (Ac sl0 ob0)=some ((tB t b sl0,ob0),q):=by kernel_rfl) (g:Au c=true:=by kernel_rfl) (l:ev (Ac (tB t b sl0) ob0) c=.p (.v (.bool b)):=by kernel_rfl):
  DW P cx (.region id ops draw::.cond c x y::r) (Ac sl0 ob0) Q:=rC xs _ i (At f k j g l) a h
theorem mV{b:Bool}{X Y:Option R}{res:R}(xs:List Orc)(i:q)(t:Nat)(f:(if b=true then X else Y)=some res)[Sd P T](k:b=true->X=some res->DW P cx (x::r) (Ac (tB t b sl0) ob0) Q)(j:b=false->Y=some res->DW P cx (y::r) (Ac (tB t b sl0) ob0) Q)(a:cx.nt=nt:=by assumption)
  (h:dq P T nt ops xs (tB t b sl0) ob0 draw (Ac sl0 ob0)=some ((tB t b sl0,ob0),q):=by kernel_rfl) (g:Au c=true:=by kernel_rfl) (l:ev (Ac (tB t b sl0) ob0) c=.p (.v (.bool b)):=by kernel_rfl):
  DW P cx (.seq (.region id ops draw) (.cond c x y)::r) (Ac sl0 ob0) Q:=Sq (mU xs i t f k j a h g l)
theorem rT{C:Cn R}{v a:R}{results:List ResultVar}{m:Nat}(b:some v=some a)(ex:List Nat)(h:fin T results m ex O=some (C.x v,C.o v++C.n v):=by kernel_rfl):Afl T results m (C.x a) (C.o a++C.n a) .ret O:=by
 obtain rfl:=J3 b;exact retK _ ex _ h
theorem rV{C:Cn R}{v a:R}{results:List ResultVar}{m:Nat}(b:some v=some a)(ex:List Nat)(h:fin T results m ex O=some (C.x v,C.o v++C.n v):=by kernel_rfl):Afl T results m (C.x a) (C.o a++C.n a) .normal O:=by
 obtain rfl:=J3 b;exact endK _ ex _ h
theorem rR{C:Cn R}{v a:R}{results:List ResultVar}{m:Nat}(ex:List Nat)(b:some v=some a)(f:Afl T results m (C.x a) (C.o a++C.n a) .ret O->Q .ret O:=by exact fun h=>h)(h:fin T results m ex O=some (C.x v,C.o v++C.n v):=by kernel_rfl):DW P cx (.ret::r) O Q:=DW.ret (f (rT b ex h))
theorem rZ{C:Cn R}{v a:R}{results:List ResultVar}{m:Nat}(b:some v=some a)(f:Afl T results m (C.x a) (C.o a++C.n a) .ret O->Q .ret O:=by exact fun h=>h)(h:fin T results m [] O=some (C.x v,C.o v++C.n v):=by kernel_rfl):DW P cx (.ret::r) O Q:=DW.ret (f (rT b [] h))
theorem jE{ι:Type}{J:ι->St}{m:ι->Prop}{i:ι}(a:m i)(h:O=J i:=by kernel_rfl):DW P cx [] O (Nq cx J m Q):=AkS i a (Conv.of_eq h)
theorem jZ{ι:Type}{J:ι->St}{m:ι->Prop}{i:ι}{sl:List (Nat×MV)}{ob:List (Nat×Obj)}(a:m i)(b:J i=Ac sl ob:=by rfl)(h:(Kp (Bw sl) (Bw ob) O,He (Bw ob) O)=(Ly [] sl,Ma [] ob):=by kernel_rfl):DW P cx [] O (Nq cx J m Q):=AkS i a (by rw[b];exact Conv.t0 h)
theorem jR{ι:Type}{k n:Nat}{J:ι->St}{m:ι->Prop}{i:ι}{sl:List (Nat×MV)}{ob:List (Nat×Obj)}(t:Nat)(a:k<n)(j:n<=9223372036854775807)(f:m i)(g:J i=Ac sl ob:=by rfl)
  (h:(Kp (Bw sl) (Bw ob) O,He (Bw ob) O)=(Ly [(t,pI (IntKind.i64.wrap ((k:Int)+1)))] sl,Ma [] ob):=by kernel_rfl) (b:assoc sl t=some (pI ((k+1:Nat):Int)):=by rfl):DW P cx [] O (Nq cx J (fun s=>k<n/\m s) Q):=
 AkS i ⟨a,f⟩ (by rw[g];exact cR t (w64_succ a j) h b)
theorem sO[Sd P T]{f:FuncId}{fn:Func}{c:Code}(k:P.funcs[f]?=some fn)(m:fn.body=some c){args:List MV}{a:List Body}{res:MV}{outs' news:List Body}
  (j:∀cx:Cx P,cx.nt=fn.ntmps->DW P cx [c] (Ac (numS 0 args) (numO 0 a)) (Afl T fn.results.toList a.length res (outs'++news)))
  (g:outs'.length=a.length:=by rfl) (b:fn.name ≠ "runtime.NumGoroutine" :=by decide) (i:Nat.ble args.length fn.ntmps=true:=by rfl) (n:Nat.ble a.length 1000=true:=by rfl)
  (o:Kp (upN args.length 0) (upN a.length 0) ⟨fun t=>(args[t]?).getD .any,Bu a⟩=numS 0 args:=by kernel_rfl)
  (l:He (upN a.length 0) ⟨fun t=>(args[t]?).getD .any,Bu a⟩=numO 0 a:=by kernel_rfl):
  Spec P f args a res outs' news:=spec_of Sd.good k b m g (A8 i) (A8 n) o l fun cx h=>AxV (j cx h)
theorem sR[Sd P T]{f:FuncId}{fn:Func}{c:Code}(l:P.funcs[f]?=some fn)(n:fn.body=some c){args:List MV}{a:List Body}{res:MV}{outs' news:List Body}
  (k:∀cx:Cx P,cx.nt=fn.ntmps->cx.rd=none->DW P cx [c] (Ac (numS 0 args) (numO 0 a)) (Afl T fn.results.toList a.length res (outs'++news)))
  (g:outs'.length=a.length:=by rfl) (b:fn.name ≠ "runtime.NumGoroutine" :=by decide) (i:Nat.ble args.length fn.ntmps=true:=by rfl) (o:Nat.ble a.length 1000=true:=by rfl)
  (s:Kp (upN args.length 0) (upN a.length 0) ⟨fun t=>(args[t]?).getD .any,Bu a⟩=numS 0 args:=by kernel_rfl)
  (m:He (upN a.length 0) ⟨fun t=>(args[t]?).getD .any,Bu a⟩=numO 0 a:=by kernel_rfl):
  Spec P f args a res outs' news:=AsN Sd.good l b n g (A8 i) (A8 o) s m fun cx h j=>AxV (k cx h j)
end
end Go.Dm

namespace Go.Dm
open Go.Proofs Go.RowKit Go.Shelf
attribute [local go_sem] Oper.semAt_some
set_option maxRecDepth 100000 in
set_option maxHeartbeats 4000000 in
theorem TryzBack1 (b len:Nat) (L:List Int) (hL:L.length=len) (hlen:len<2 ^ 62) (l:Nat) (J:Nat->World->Prop) (W:World) (hJ:∀ k W1,J k W1->∃ v,W1.cell? ⟨b,0,none⟩=some v/\SlAt W1 v L)
    (hY:∀ j W1,j<len->J (len-(j+1)) W1->YieldAt Fence.wide 0 Tryz.prog l #[.int .i64 (j:Int),.int .i64 (L[j]?.getD 0)] W1 fun e W'=>e = .returned (.bool true)/\J (len-j) W') (h0:J 0 W) :
    CallsIn Fence.wide 0 Tryz.prog 164 #[.func (.yield l) #[] #[],.pointer (some ⟨b,0,none⟩)] W fun e W'=>(∃ v,e = .returned v)/\J len W':=by
  refine callsIn_of_wp Tryz.func164 rfl trivial ?_ rfl
  simp only [Tryz.ntmps164,List.size_toArray,List.length_cons,List.length_nil,Nat.reduceAdd,Nat.reduceSub,Array.replicate_succ,Array.replicate_zero,List.push_toArray,List.append_toArray,List.nil_append,List.cons_append]
  obtain ⟨v,hv,hs⟩:=hJ 0 W h0
  have hlv:∃ p c,v = .slice p len c:=by
    rcases hs with ⟨h1,h2⟩|⟨b',o,cap,h2,_,_⟩
    · exact ⟨none,0,by rw [h2,<- hL,h1]; rfl⟩
    · exact ⟨_,_,by rw [h2,hL]⟩
  obtain ⟨p,c,rfl⟩:=hlv
  clear hs
  gi_wp2
  gi_loopw [3] (fun i wr=>∃ j:Nat,j<=len/\i = .int .i64 ((j:Int)-1)/\J (len-j) wr)
    (fun i _=>(intOf i+1).toNat)
  case atStart=>exact ⟨len,Nat.le_refl _,rfl,by rw [Nat.sub_self]; exact h0⟩
  case round =>
    obtain ⟨j,hj,rfl,hJs⟩:=hrel
    cases j with
    | zero =>
      gi_wp2
      go_end0
      exact ⟨⟨_,rfl⟩,hJs⟩
    | succ j =>
      obtain ⟨v,hv,hs⟩:=hJ _ _ hJs
      rcases hs with ⟨h1,_⟩|⟨b',o,cap,rfl,hcap,hc⟩
      · rw [h1] at hL; simp at hL; omega
      · have hcx:=hc j (by omega)
        rw [hL] at hv
        simp only [at_,List.getD_eq_getElem?_getD] at hcx hv
        obtain ⟨fn,tmps,assign,body,hy,hR⟩:=hY j wr (by omega) hJs
        have e:(((j+1:Nat):Int)-1)=(j:Int):=by omega
        rw [e]
        gi_wp2
        refine ⟨rfl,hR.mono ?_⟩
        rintro e W3 ⟨rfl,hJ3⟩
        gi_wp2
        go_roundw
        case rel=>exact ⟨j,by omega,by simp,hJ3⟩
        case measure=>simp [intOf]
theorem TryzBack : Api Tryz.prog 164:=by
  refine ⟨fun args w=>enters_of Tryz.func164 (by kernel_rfl) rfl args w,fun b L hlen l J W hJ hY h0 => ?_⟩
  have hf:fen none=Fence.wide:=rfl
  rw [hf] at hY ⊢
  refine TryzBack1 b L.length L rfl hlen l J W hJ (fun j W1 hj hJ1 => ?_) h0
  have:=hY (L.length-(j+1)) W1 (by omega) hJ1
  rw [show L.length-1-(L.length-(j+1))=j by omega,show L.length-(j+1)+1=L.length-j by omega,List.getD_eq_getElem?_getD] at this
  exact this
end Go.Dm

namespace Go.Dm
section
variable {P:Program} {cx:Cx P} {Q:Exit->St->Prop}
theorem AxR{U:Bs}{a:Act}{w:World}{sl:Nat->MV}{objs:Ay}{d d2:Nat}{x y:MV}(h:Rel cx U ⟨Cg (Cg sl d x) d2 y,objs⟩ a w):Rel cx U ⟨Cg (Cg sl d .any) d2 y,objs⟩ a w:=by
 refine⟨h.nd,h.sz,fun t=>?_,h.ob,h.blk,h.inj,h.kept,h.avo,h.avlt,h.mle,h.oloc⟩;have b:=h.sl t;simp only[Cg]at b ⊢
 cases f:Nat.beq t d2 with
 |true=>rw[f,cond_true]at b;exact b
 |false=>
  rw[f,cond_false]at b;simp only[cond_false]
  cases g:Nat.beq t d with
  |true=>exact .any _
  |false=>rw[g,cond_false]at b;exact b
theorem DWP.next{O:St}{ops:Array Oper}{id:Nat}{t d d2 k g:Nat}{f:Int->PV}{rem:Int->Bool}{cur:Option Int}(hlt1:d<cx.nt)(X:d2<cx.nt)
  (h0:Ajy ops.toList=some (t,d,d2)) (h2:O.slots t=.ref k g 0) (h3:O.objs k=some ⟨g,.mq (.it f rem cur)⟩)
  (hgo:∀n,rem n=true->Q .normal ⟨Cg (Cg O.slots d .any) d2 (pB true),Bm O.objs k ⟨g,.mq (.it f (Bf rem n false) (some n))⟩⟩)
  (N:(∀n,rem n=false)->Q .normal ⟨Cg (Cg O.slots d .any) d2 (pB false),O.objs⟩):DWP P cx (.region id ops false) O Q:=by
 obtain⟨Y,o1,u,p1,p2,p3,p4,p5,p6⟩:=Aop h0;have e0:ops[0]?=some Y:=by rw[<-I2,u];rfl
 have e1:ops[1]?=some o1:=by rw[<-I2,u];rfl
 have esz:ops.size=2:=by rw[<-K5,u];rfl
 intro U a w o;refine wpIn_region ?_;rw[esz];show wpOpsIn (fen cx.rd) 0 P ops _ [0,1] a w;rw[wpOpsIn_cons];unfold wpOpIn;rw[e0];simp only;rw[if_pos (AdK p3 _)];refine Pq (by rw[p2];rfl) ?_;have ht:O.slots t=.ref k g 0:=h2;have rt:=o.sl t;rw[ht]at rt;obtain⟨b,hbv,hkn⟩:=rt.inv_ref;have H:O.objs k=some ⟨g,.mq (.it f rem cur)⟩:=h3;have hl:=hkn.get H;obtain⟨b',L,B,clock,h,seen,c0,has,A,q1,q2,q3,T,q5,q6,q7,q8,q9⟩:=o.ob k _ H;rw[hl]at A;injection A with A
 subst A
 have I:∀x∈B.toList,x.born<h:=by
  intro x l;obtain⟨i,hi,rfl⟩:=D1 l;have:=T.2.2.2.1 i B.toList[i] (by simp at hi ⊢);omega
 have fin:∀(v:Bool) (cs:List MV) (vs:Value) (objs:Ay) (y:Bs) (w2:World),Rel cx y ⟨O.slots,objs⟩ a w2->RelV y objs (Ap cx.Av y objs w2) w2 vs (.tup (.p (.v (.bool v))::cs)) ->
   Q .normal ⟨Cg (Cg O.slots d .any) d2 (pB v),objs⟩ ->
   wpOpsIn (fen cx.rd) 0 P ops (fun e a' w'=>∃β' W,Q e W/\Rel cx β' W a' w') [1] (a.put (some d) vs) w2:=by
  intro v cs vs objs y w2 hr hv J;rw[wpOpsIn_cons];unfold wpOpIn;rw[e1];simp only;rw[if_pos (AdK p6 _)];refine Pq (by rw[p5];rfl) ?_;have hr2:=AeY hr (some d) (fun t ht=>by injection ht with ht;omega) vs _ hv;refine ApJ (d:=d) (b:=v) (cs:=cs) p5 p4 X hr2 (by simp[Rx,Cg,Cr]) fun a2 hr3=>?_
  exact⟨y,_,J,AxR hr3⟩
 have F:execOp a.eval Y=(do pure (.value (<-Instr.next (.pointer (some ⟨b,0,none⟩)) false Y.type))):=by
  obtain⟨od,op,ot,opos,oafter,oguard⟩:=Y;simp only at p2;subst p2;have:a.eval (.tmp t)=.pointer (some ⟨b,0,none⟩):=hbv;simp[execOp,this]
 unfold Oper.wp;rw[F];rcases run_next_at (P:=P) w Y.type b L h c0 seen B clock q1 q3 I (by omega)with⟨z1,z2⟩|⟨e,he,M,s,z2⟩
 ·simp only[Sem.run_bind,z2,Result.andThen_ok,Sem.run_pure,Oper.upon,p1];refine fin false [] _ O.objs U w o ?_ (N fun n=>?_)
  ·refine .tup _ _ rfl (fun i x l=>?_)
   match i,l with
   |0,l=>simp at l;subst l;exact .mk_v rfl
   |i+1,l=>simp at l
  ·cases hr:rem n with
   |false=>rfl
   |true=>
    obtain⟨i,e,r,C,E⟩:=(q8 n).1 hr
    have q:e∈leftOf B seen:=by
     unfold leftOf;rw[M4];exact⟨F0 r,by simpa using E⟩
    have:=H6 z1;rw[this]at q;simp at q
 ·simp only[Sem.run_bind,z2,Result.andThen_ok,Sem.run_pure,Oper.upon,p1]
  have q:e∈B/\seen.contains e.born=false:=by
   have:e∈leftOf B seen:=by simpa using he
   unfold leftOf at this;rw[M4]at this;exact⟨this.1,by simpa using this.2⟩
  obtain⟨i,hi⟩:=L6.1 q.1;obtain⟨n,D,_⟩:=T.1 i e hi;have G:rem n=true:=(q8 n).2 ⟨i,e,hi,D,q.2⟩
  have K:Rel cx U O a M:=by
   rcases s with rfl|rfl
   ·exact o
   ·exact o.drew
  have hq1:M.heap[b]?=some (.mapIter (some L) h seen c0):=by rcases s with rfl|rfl<;>exact q1
  have hq3:M.heap[L]?=some (.map B clock):=by rcases s with rfl|rfl<;>exact q3
  have V:Ap cx.Av U O.objs M L:=by rcases s with rfl|rfl<;>exact q2
  have hrep:∀(i:Nat) (e:MapEntry) (n:Int),B[i]?=some e->e.key=.int .i64 n->Rep (Ap cx.Av U O.objs M) M e.val (f n):=fun i e n hi D=>(q7 i e n hi D).mono (fun b hb=>by rcases s with rfl|rfl<;>exact hb) (fun b hb=>by rcases s with rfl|rfl<;>rfl)
  have hput:=K.reput (bd':=.mq (.it f (Bf rem n false) (some n))) H hl trivial trivial trivial hq1 (.mapIter (some L) h (seen.push e.born) clock) fun S' w' hS hw hb objs'=>by
   refine⟨b,L,B,clock,h,seen.push e.born,clock,has,rfl,hb,hS _ V,by rw[hw _ V];exact hq3,T,q5,rfl,fun i e n hi D=>(hrep i e n hi D).mono hS hw,fun m=>?_,fun m z=>?_⟩
   ·constructor
    ·intro z;simp only[Bf]at z;split at z
     ·simp at z
     ·rename_i hne;obtain⟨j,R,r,C,E⟩:=(q8 m).1 z;refine⟨j,R,r,C,?_⟩;simp only[K7,E3];refine⟨E,?_⟩;simp only[beq_eq_false_iff_ne,ne_eq];intro hbb;have:=T.2.2.2.2 j i R e r hi hbb;subst this;rw[hi]at r;injection r with r
      subst r;rw[D]at C;injection C with _ C
      exact hne C.symm
    ·rintro⟨j,R,r,C,E⟩;simp only[K7,E3]at E;have z:=(q8 m).2 ⟨j,R,r,C,E.1⟩;simp only[Bf];split
     ·rename_i hmn;subst hmn;have:=T.2.2.1 j i R e m r hi C D;subst this;rw[hi]at r;injection r with r
      subst r;simp at E
     ·exact z
   ·injection z with z
    subst z;exact⟨rfl,i,e,hi,D,by simp⟩
  refine fin true [.any,.any] _ _ U _ hput ?_ (hgo n G);refine .tup _ _ rfl (fun i x l=>?_)
  match i,l with
  |0,l=>simp at l;subst l;exact .mk_v rfl
  |1,l=>simp at l;subst l;exact .any _
  |2,l=>simp at l;subst l;exact .any _
  |i+3,l=>simp at l
end
end Go.Dm

namespace Go.Dm
inductive Tr (V:Type) where
 |lf
 |nd (x:Option V) (l r:Tr V)
noncomputable def Tr.get{V:Type}(t:Tr V):Nat->Option V:=
 Tr.rec (motive:=fun _=>Nat->Option V) (fun _=>none) (fun x _ _ gl a n=>bif Nat.beq n 0 then x else bif Nat.beq (n % 2) 1 then gl (n / 2)else a (n / 2-1)) t
def Tr.val{V:Type}:Tr V->Option V
 | .lf=>none
 | .nd x _ _=>x
def Tr.lft{V:Type}:Tr V->Tr V
 | .lf=>.lf
 | .nd _ l _=>l
def Tr.rgt{V:Type}:Tr V->Tr V
 | .lf=>.lf
 | .nd _ _ r=>r
noncomputable def Tr.put{V:Type}(d:Nat):Tr V->Nat->Option V->Tr V:=
 Nat.rec (motive:=fun _=>Tr V->Nat->Option V->Tr V) (fun t _ _=>t)
  (fun _ a t n x=>bif Nat.beq n 0 then .nd x t.lft t.rgt else bif Nat.beq (n % 2) 1 then .nd t.val (a t.lft (n / 2) x) t.rgt else .nd t.val t.lft (a t.rgt (n / 2-1) x)) d
def Tr.map{V U:Type}(f:V->U):Tr V->Tr U
 | .lf=>.lf
 | .nd x l r=>.nd (x.map f) (l.map f) (r.map f)
abbrev TD:Nat:=20
noncomputable def putL{V:Type}:List (Nat×V)->Tr V->Tr V
 |[],t=>t
 |(k,x)::r,t=>putL r (t.put TD k (some x))
noncomputable def putR{V:Type}:List (Nat×V)->Tr V
 |[]=>.lf
 |(k,x)::r=>(putR r).put TD k (some x)
def Fu{V:Type}:List (Nat×V)->Bool
 |[]=>true
 |(k,_)::r=>Nat.blt k 1000000&&Fu r
structure CS where
 sl:Tr MV
 ob:Tr Obj
 ml:Tr (List Int)
noncomputable def CS.st(s:CS):St:=⟨fun t=>(s.sl.get t).getD .any,s.ob.get⟩
def ofL(L:List (List PV))(i:Nat):List PV:=(L[i]?).getD []
def rowL(n:Nat)(f:Nat->List PV):List (List PV):=(upN n 0).map f
abbrev FE:=Option (MV×List (Nat×Obj))
def okE:Option Eff->Bool->FE
 |some (y,wo,_),true=>some (y,wo)
 |_,_=>none
def f0(g:Option Eff):List MV->FE
 |[]=>okE g true
 |_=>none
def f1(g:MV->Option Eff)(c:MV->Bool):List MV->FE
 |[x]=>okE (g x) (c x)
 |_=>none
def f2(g:MV->MV->Option Eff)(c:MV->MV->Bool):List MV->FE
 |[x,y]=>okE (g x y) (c x y)
 |_=>none
def f3(g:MV->MV->MV->Option Eff)(c:MV->MV->MV->Bool):List MV->FE
 |[x,y,z]=>okE (g x y z) (c x y z)
 |_=>none
def AdD(_:MV):Bool:=true
def yes2(_ _:MV):Bool:=true
def yes3(_ _ _:MV):Bool:=true
def Akn:MV->Option Bool
 | .p (.v (.bool b))=>some b
 |_=>none
def fPick:List MV->FE
 |[c,a,b]=>match Akn c with
  |some t=>some (bif t then a else b,[])
  |none=>none
 |_=>none
def chkE(ob:Ay):MV->Bool
 | .eref k g ix _=>match Ka ob k g with
  |some (_,n,_)=>Nat.blt ix n
  |none=>false
 |_=>true
def lenB:MV->Option Nat
 | .p (.sl _ _ n _)=>some n
 | .own _ _ _ len=>some len
 | .p (.v (.string s))=>some s.size
 |_=>none
def chkI(x y:MV):Bool:=match lenB x,Hq y with
 |some n,some z=>decide (0<=z)&&decide (z<(n:Int))
 |_,_=>false
def scalB(op:BinOp):Value->Value->Bool
 | .int _ _,.int _ b=>match op with
  | .shl=>decide (0<=b)
  | .shr=>decide (0<=b)
  | .quo=>!decide (b=0)
  | .rem=>!decide (b=0)
  |_=>true
 | .string a,.string b=>match op with
  | .add=>Nat.ble (a.size+b.size) 9223372036854775807
  |_=>true
 |_,_=>true
def chkB(op:BinOp):MV->MV->Bool
 | .p (.v a),.p (.v b)=>scalB op a b
 |_,_=>true
def chkS(lo hi:Option Int)(x:MV):Bool:=match lenB x with
 |some n=>decide (0<=lo.getD 0)&&decide (lo.getD 0<=hi.getD n)&&decide (hi.getD n<=(n:Int))
 |none=>false
def chkA(T:Ty)(t:Nat)(s x:MV):Bool:=match assoc T t with
 |some ⟨.slice e,_,_,_,_⟩=>match assoc T e with
  |some i=>match lenB s,lenB x with
   |some a,some b=>Nat.ble ((a+b)*i.bytes) 140737488355328
   |_,_=>false
  |none=>false
 |_=>false
def chkF(ob:Ay):MV->Bool
 | .own k g off len=>match Ka ob k g with
  |some (_,n,_)=>Nat.ble (off+len) n
  |none=>false
 |_=>false
def eqPV:PV->PV->Bool
 | .v (.int k x),.v (.int k' y)=>decide (k=k')&&decide (x=y)
 | .v (.bool x),.v (.bool y)=>x==y
 | .sl .nil 0 0 _,.sl .nil 0 0 _=>true
 |_,_=>false
def chkM(T:Ty)(t:Nat)(x y:MV):Bool:=match assoc T t with
 |some ⟨.slice e,_,_,_,_⟩=>match assoc T e with
  |some i=>match Hq x,Hq y with
   |some z,some c=>decide (0<=z)&&decide (z=c)&&decide (z<=9223372036854775807)&&decide (z*i.bytes<=140737488355328)
   |_,_=>false
  |none=>false
 |_=>false
def mapZ(ob:Ay):MV->Option PV
 | .mref k g=>match Om ob k g with
  |some (z,_,_)=>some z
  |none=>match getPm ob k g with
   |some (z,_,_)=>some z
   |none=>none
 | .p (.mp z _ _)=>some z
 |_=>none
def chkZ(T:Ty)(t:Nat)(ob:Ay)(x:MV):Bool:=match assoc T t with
 |some ⟨.map _ e,_,_,_,_⟩=>match AcW T e,mapZ ob x with
  |some a,some b=>eqPV a b
  |_,_=>false
 |_=>false
def fSl1(T:Ty)(t:Nat)(ob:Ay):List MV->FE
 |[x,l]=>match Hq l with
  |some a=>okE (Of T t ob x (some a) none) (chkS (some a) none x)
  |none=>none
 |_=>none
def fSl2(T:Ty)(t:Nat)(ob:Ay):List MV->FE
 |[x,h]=>match Hq h with
  |some a=>okE (Of T t ob x none (some a)) (chkS none (some a) x)
  |none=>none
 |_=>none
def fSl3(T:Ty)(t:Nat)(ob:Ay):List MV->FE
 |[x,l,h]=>match Hq l,Hq h with
  |some zl,some zh=>okE (Of T t ob x (some zl) (some zh)) (chkS (some zl) (some zh) x)
  |_,_=>none
 |_=>none
def fSl(T:Ty)(t:Nat)(ob:Ay)(l h m:Option Operand)(xs:List MV):FE:=
 match l,h,m with
 |none,none,none=>f1 (fun x=>Of T t ob x none none) (chkS none none) xs
 |some _,none,none=>fSl1 T t ob xs
 |none,some _,none=>fSl2 T t ob xs
 |some _,some _,none=>fSl3 T t ob xs
 |none,some h,some m=>bif Vs h&&Vs m then(match xs with
  |[x,_,_]=>okE (Ul T t x) true
  |_=>none)else none
 |_,_,_=>none
def fConv(T:Ty)(s d:Nat)(x:MV):Option Eff:=bif (assoc T s).isSome then(match Zx T d x with
 |some e=>some e
 |none=>Adv T d x)else none
def fApp(T:Ty)(ts:List Nat)(dst:Nat)(ob:Ay)(xs:List MV):FE:=
 match ts with
 |[t,t2]=>f2 (AbF T t t2 dst ob) (chkA T t) xs
 |_=>none
def fBlt(T:Ty)(b:Builtin)(ts:List Nat)(dst:Nat)(ob:Ay)(xs:List MV):FE:=
 match b with
 | .len=>match ts with
  |[t]=>f1 (AjN T t) AdD xs
  |_=>none
 | .append=>fApp T ts dst ob xs
 | .clear=>match ts with
  |[t]=>f1 (AdA T t ob) (chkF ob) xs
  |_=>none
 | .copy=>match ts with
  |[t,_]=>f2 (Agr T t ob) (fun x _=>chkF ob x) xs
  |_=>none
 | .delete=>match ts with
  |[t,_]=>f2 (AbJ T t ob) yes2 xs
  |_=>none
 | .min=>f2 (Aet false) yes2 xs
 | .max=>f2 (Aet true) yes2 xs
 |_=>none
def fCall(T:Ty)(c:Call)(dst:Nat)(ob:Ay)(xs:List MV):FE:=
 match c.callee with
 | .builtin b=>fBlt T b c.argTypes.toList dst ob xs
 |_=>none
def fFun(fn:Fn)(first cap:Array Operand)(xs:List MV):FE:=
 match fn with
 | .func f=>bif first.isEmpty then okE (Agq f xs) true else bif cap.isEmpty then okE (AdB f xs) true else none
 |_=>none
def sitB(ob:Ay):MV->Bool
 | .ref k g 0=>match ApG ob k g with
  |some (s,pos)=>Nat.blt pos s.size
  |none=>false
 |_=>false
def fop(T:Ty)(op:Op)(dst:Nat)(ob:Ay)(xs:List MV):FE:=
 match op with
 | .move _=>f1 AbN AdD xs
 | .assign _=>f1 AbN AdD xs
 | .pick _ _ _=>fPick xs
 | .alloc t=>f0 (AdJ T t dst ob) xs
 | .box _ _=>f1 (Ajf dst ob) AdD xs
 | .build t ps=>okE (Abw T t ((ps.toList.map (·.1)).zip xs)) true
 | .buildSlice t len ps=>okE (Ob T t len dst ob ((ps.toList.map (·.1)).zip xs)) true
 | .load t _=>f1 (Zg T t ob) (chkE ob) xs
 | .store t _ _=>f2 (Ads T t ob) (fun x _=>chkE ob x) xs
 | .nilCheck _=>f1 Ajq AdD xs
 | .binOp op t _ _ _=>f2 (Agl T op t) (chkB op) xs
 | .unOp op _ _=>f1 (AnC op) AdD xs
 | .convert s d _=>f1 (fConv T s d) AdD xs
 | .slice t _ l h m=>fSl T t ob l h m xs
 | .makeFunc fn first cap=>fFun fn first cap xs
 | .fieldAddr t _ f=>f1 (Tz T t f) AdD xs
 | .field t _ f=>f1 (Ady T t f) AdD xs
 | .indexAddr t _ _=>f2 (Ub T t ob) chkI xs
 | .index t _ _=>f2 (Adi T t) chkI xs
 | .extract _ i=>f1 (Zs i) AdD xs
 | .makeSlice t _ _=>f2 (Agn T t dst ob) (chkM T t) xs
 | .makeMap t none=>f0 (orE (Rs T t dst ob) (Ph T t dst ob)) xs
 | .lookup t _ _ ok=>f2 (fun x y=>orE (AbK T t ob ok x y) (Yy T t ob ok x y)) (fun x _=>chkZ T t ob x) xs
 | .mapUpdate t _ _ _=>f3 (fun x y z=>orE (Pi T t ob x y z) (Mu T t ob x y z)) yes3 xs
 | .insert t _ _ _=>f3 (fun x y z=>orE (Pi T t ob x y z) (Mu T t ob x y z)) yes3 xs
 | .range t _=>f1 (fun x=>orE (Xx T t dst ob x) (Um T t dst ob x)) AdD xs
 | .entry _=>f1 (Adp ob) AdD xs
 | .next _ b=>bif b then f1 (fun x=>AdE (sitB ob x) ob x) AdD xs else none
 | .call c=>fCall T c dst ob xs
 |_=>none
def owns1:MV->List Nat
 | .own k _ _ _=>[k]
 | .mref k _=>[k]
 |_=>[]
def refs1:MV->List Nat
 | .ref k _ _=>[k]
 | .eref k _ _ _=>[k]
 |_=>[]
def AfN(g:MV->List Nat):Nat->MV->List Nat
 |0,x=>g x
 |d+1,.agg cs=>cs.flatMap (AfN g d)
 |d+1,.tup cs=>cs.flatMap (AfN g d)
 |d+1,.fn _ cs=>cs.flatMap (AfN g d)
 |_+1,x=>g x
def both1(x:MV):List Nat:=owns1 x++refs1 x
def boxKeys(ob:Ay)(k:Nat):List Nat:=match ob k with
 |some ⟨_,.box cs⟩=>cs.flatMap (AfN both1 2)
 |_=>[]
def reach(ob:Ay):Nat->List Nat->List Nat->List Nat
 |0,acc,_=>acc
 |_+1,acc,[]=>acc
 |n+1,acc,k::r=>bif elem k acc then reach ob n acc r else reach ob n (acc++[k]) (r++boxKeys ob k)
inductive NatK where
 |idx
def idxB(s:ByteArray)(b:Int):Value:=match (List.range s.size).find? (fun i=>s[i]! == b.toNat.toUInt8)with
 |some i=>.int .i64 i
 |none=>.int .i64 (-1)
def natV:NatK->List Value->Option Value
 | .idx,[.string s,.int .u8 b]=>some (idxB s b)
 |_,_=>none
structure Abn where
 own:List (Nat×List Nat)
 frz:List (Nat×List (Nat×List Nat))
 new:List (Nat×List Nat)
 res:List (Nat×List Nat)
 nat:List (Nat×NatK):=[]
 lend:List (Nat×List Nat):=[]
 known:List (Nat×List MV×MV):=[]
 weak:List Nat:=[]
def eqV:Value->Value->Bool
 | .int k n,.int k' n'=>decide (k=k')&&decide (n=n')
 | .bool a,.bool b=>a==b
 | .string a,.string b=>decide (a.data.toList=b.data.toList)
 | .pointer none,.pointer none=>true
 | .map none,.map none=>true
 | .nilFunc,.nilFunc=>true
 | .nilIface,.nilIface=>true
 |_,_=>false
def Adl{V:Type}(g:V->V->Bool):List V->List V->Bool
 |[],[]=>true
 |x::l,y::m=>g x y&&Adl g l m
 |_,_=>false
def eqP:Nat->PV->PV->Bool
 |d,.v a,y=>match y with
  | .v b=>eqV a b
  |_=>false
 |d+1,.sl fl W n f,y=>match y with
  | .sl fl' W' n' f'=>decide (fl=fl')&&Nat.beq W W'&&Nat.beq n n'&&(upN n 0).all fun i=>Adl (eqP d) (f i) (f' i)
  |_=>false
 |d+1,.agg l,y=>match y with
  | .agg m=>Adl (eqP d) l m
  |_=>false
 |d+1,.tup l,y=>match y with
  | .tup m=>Adl (eqP d) l m
  |_=>false
 |_,_,_=>false
def eqM:Nat->MV->MV->Bool
 |_,.p x,y=>match y with
  | .p z=>eqP 6 x z
  |_=>false
 |d+1,.agg l,y=>match y with
  | .agg m=>Adl (eqM d) l m
  |_=>false
 |d+1,.tup l,y=>match y with
  | .tup m=>Adl (eqM d) l m
  |_=>false
 |_,.any,y=>match y with
  | .any=>true
  |_=>false
 |_,_,_=>false
def kn:List (Nat×List MV×MV)->Nat->List MV->Option MV
 |[],_,_=>none
 |(g,key,r)::t,f,asx=>bif Nat.beq g f&&Adl (eqM 4) asx key then some r else kn t f asx
def sameB:Body->Body->Bool
 |_,.dead=>true
 | .box _,.box _=>true
 | .row W n _,.row W' n' _=>Nat.beq W W'&&Nat.beq n n'
 | .mp _ _ _,.mp _ _ _=>true
 | .mq _,.mp _ _ _=>true
 | .mp _ _ _,.mq _=>true
 | .mq _,.mq _=>true
 |_,_=>false
def Ani:List Body->List Body->Bool
 |b::r,c::s=>sameB b c&&Ani r s
 |_,_=>true
def AmH(ks:List Nat):List Nat:=bif ks.all (fun k=>Nat.blt k 1000000)then ks else[]
noncomputable def frzT(s:CS):List Nat->CS
 |[]=>s
 |k::r=>frzT ⟨s.sl.map (frzN s.ob.get k 2),(s.ob.put TD k none).map fun o=>⟨o.gen,AeZ s.ob.get k o.body⟩,s.ml⟩ r
noncomputable def normT(s:CS):List Nat->CS
 |[]=>s
 |k::r=>normT (match s.ob.get k with
  |some ⟨g,.row W n f⟩=>⟨s.sl,s.ob.put TD k (some ⟨g,.row W n (ofL (rowL n f))⟩),s.ml⟩
  |_=>s) r
def nnP:Nat->PV->PV
 |d,.sl .unk W n f=>bif Nat.beq n 0 then .sl .unk W n f else .sl .nn W n f
 |d+1,.agg cs=>.agg (cs.map (nnP d))
 |d+1,.tup cs=>.tup (cs.map (nnP d))
 |_,x=>x
def nnM:Nat->MV->MV
 |_,.p (.ptr cs)=>.fptr cs
 |d,.p x=>.p (nnP d x)
 |d+1,.agg cs=>.agg (cs.map (nnM d))
 |d+1,.tup cs=>.tup (cs.map (nnM d))
 |_,x=>x
inductive Todo where
 |code (c nt:Nat) (cd:Code) (s:CS)
 |fn (f:Nat) (fz:Bool) (args:List MV) (outs:List Body)
inductive Ans where
 |code (e:Exit) (s:CS)
 |fn (res:MV) (outs' news:List Body)
 |err (l:List Nat)
section
variable (P:Program) (T:Ty) (H:Abn) (self:Todo->Ans)
noncomputable def ApB(c nt:Nat)(x y:Code)(s:CS):Option Bool->Ans
 |some b=>self (.code c nt (bif b then x else y) s)
 |none=>.err [c,2]
noncomputable def Alh(c nt:Nat)(y:Code):Ans->Ans
 | .code .normal s=>self (.code c nt y s)
 |r=>r
def Ze(id:Nat):Ans->Ans
 | .code (.exit id') s=>bif Nat.beq id' id then .code .normal s else .code (.exit id') s
 |r=>r
noncomputable def Ahk(c nt:Nat)(x:Code):Ans->Ans
 | .code .normal s=>self (.code c nt (.loop x) s)
 |r=>r
def Ajt(a:List (Option Nat))(O:St):Option (Nat×Bool)->Option (List Nat×Bool)
 |none=>some ([],true)
 |some (j,want)=>match a[j]? with
  |some (some t)=>match O.slots t with
   | .p (.v (.bool b))=>some ([t],bif want then b else !b)
   | .und=>some ([t],false)
   |_=>none
  |_=>none
def refsI(skip:List Nat):Nat->List MV->List Nat
 |_,[]=>[]
 |i,x::r=>(bif elem i skip then[]else AfN refs1 1 x)++refsI skip (i+1) r
def lendK(f:Nat)(ob:Ay)(xs:List MV):List Nat:=
 reach ob 200 [] ((((assoc H.own f).getD []).flatMap fun i=>AfN owns1 1 (xs.getD i .any))++refsI ((assoc H.lend f).getD []) 0 xs)
def oneRec(a:List Nat)(o:Oper)(ro:List Nat)(y:MV)(wo:List (Nat×Obj)):Rec:=
 ⟨a++Qt o.op,ro,o.dst.toList.map fun t=>(t,y),wo⟩
def flatN:Body->Bool
 | .row _ n f=>(upN n 0).all fun i=>(f i).all PV.flat
 |_=>true
noncomputable def AjY(a:List Nat)(o:Oper)(dst f:Nat)(ks:List Nat)(xs:List MV)(O:St):Ans->Except (List Nat) (Orc×Rec)
 | .fn res outs' news=>
  let bs:=dedup (xs.flatMap (bor ks)) []
  let keep:=bs.isEmpty||(news.isEmpty&&outs'.all Body.flatB&&res.scalar)||((outs'++news).all Body.flatR&&(outs'++news).all flatN&&res.scalR)
  let ro:=ks++xs.flatMap (bor ks)++Ags dst news.length 0
  match Wl (only ro O.objs) dst ks xs keep res outs' news with
  |some (_,os,y,wo,_)=>bif Ani os outs' then .ok (.call f ks keep res outs' news [],oneRec a o ro y wo)else .error [f,21]
  |none=>.error [f,9]
 | .err l=>.error l
 |_=>.error [f,16]
noncomputable def doCall2(a:List Nat)(c:Nat)(o:Oper)(dst f:Nat)(xs:List MV)(O:St)(ks:List Nat):Except (List Nat) (Orc×Rec):=
 match Yn (toC O.objs ks) xs,Tj O.objs ks with
 |some asx,some os=>AjY a o dst f ks xs O (self (.fn f (!elem dst ((assoc H.res c).getD [])) asx (os.map (·.2))))
 |none,_=>.error [f,9]
 |_,none=>.error [f,10]
def doNat(a:List Nat)(o:Oper)(k:NatK)(f:Nat):List MV->Option (List Value)->Except (List Nat) (Orc×Rec)
 |[],some vs=>match natV k vs with
  |some z=>.ok (.nat z,oneRec a o [] (.p (.v z)) [])
  |none=>.error [f,23]
 |_,_=>.error [f,24]
def doNat0(a:List Nat)(o:Oper)(k:NatK)(vs:Option (List Value)):Option (Nat×List MV)->Except (List Nat) (Orc×Rec)
 |some (f,caps)=>doNat a o k f caps vs
 |none=>.error [25]
noncomputable def doCall(a:List Nat)(c:Nat)(o:Oper)(dst:Nat)(args:Array Operand)(O:St)(g:MV):Option (Nat×List MV)->Except (List Nat) (Orc×Rec)
 |some (f,xs)=>match assoc H.nat f with
  |some k=>doNat0 a o k (AeS (args.toList.map (ev O))) (fnOf g)
  |none=>doCall2 H self a c o dst f xs O (lendK H f O.objs xs)
 |none=>.error [8]
def doPk(ob:Ay):Op->List MV->Orc
 | .pick _ _ _,c::_=>match Akn c with
  |some b=>.pk b
  |none=>.no
 | .next _ _,[x]=>.pk (sitB ob x)
 |_,_=>.no
def doFrz(a:List Nat)(o:Oper)(xs:List MV)(ro:List Nat)(ob:Ay):MV×List (Nat×Obj)->Option Nat->Except (List Nat) (Orc×Rec)
 |(.own k g 0 len,[(k',⟨g',.row W m f⟩)]),some t=>bif Nat.beq k k'&&Nat.beq g g'&&Nat.beq len m&&(doPk ob o.op xs).bit then
  .ok (.frz m (ofL (rowL m f)),⟨a++Qt o.op,ro,[(t,.p (.sl .unk W m (ofL (rowL m f))))],[(k',⟨g'+1,.dead⟩)]⟩)else .error [22]
 |_,_=>.error [22]
noncomputable def Anw(a:List Nat)(c:Nat)(o:Oper)(dst:Nat)(O:St)(xs:List MV)(ro:List Nat):Except (List Nat) (Orc×Rec):=
 match fop T o.op dst (only ro O.objs) xs with
 |some q=>bif elem dst ((assoc H.new c).getD [])then doFrz a o xs ro (only ro O.objs) q o.dst else .ok (doPk (only ro O.objs) o.op xs,oneRec a o ro q.1 q.2)
 |none=>.error [5]
noncomputable def doOp2(a:List Nat)(c:Nat)(o:Oper)(dst:Nat)(O:St):Op->Except (List Nat) (Orc×Rec)
 | .call ⟨.value fop,args,_⟩=>doCall H self a c o dst args O (ev O fop) (Ajl (ev O fop) (args.toList.map (ev O)))
 |op=>Anw T H a c o dst O (op.operands.toList.map (ev O)) (Lo op dst (op.operands.toList.map (ev O)))
noncomputable def doOp(c nt:Nat)(a:List (Option Nat))(o:Oper)(O:St):Except (List Nat) (Orc×Rec):=
 bif (match o.dst with|some t=>Nat.blt t nt|none=>true)&&Jt o.op then
  match Ajt a O o.guard with
  |some (gt,true)=>doOp2 T H self gt c o (o.dst.getD 0) O o.op
  |some (gt,false)=>.ok (.skip,⟨gt,[],o.dst.toList.map fun t=>(t,MV.und),[]⟩)
  |none=>.error [7]
 else .error [17]
noncomputable def Aep:Tr (List Int)->List (Nat×Obj)->Tr (List Int)
 | .lf,_=>.lf
 |t,[]=>t
 |t,(k,_)::r=>Aep (t.put TD k none) r
noncomputable def AdG(op:Op)(xs:List MV)(ml:Tr (List Int))(wo:List (Nat×Obj)):Option (Nat×List Int):=
 match op with
 | .makeMap _ none=>match wo with
  |[(k,⟨_,.mp _ _ _⟩)]=>some (k,[])
  |_=>none
 | .mapUpdate _ _ _ _=>match xs,wo with
  |[.mref k _,.p (.v (.int .i64 n)),_],[(k',⟨_,.mp _ _ _⟩)]=>(ml.get k).map fun L=>(k',n::L)
  |_,_=>none
 | .insert _ _ _ _=>match xs,wo with
  |[.mref k _,.p (.v (.int .i64 n)),_],[(k',⟨_,.mp _ _ _⟩)]=>(ml.get k).map fun L=>(k',n::L)
  |_,_=>none
 | .range _ _=>match xs,wo with
  |[.mref k _],[_,(d,⟨_,.mq (.it _ _ _)⟩)]=>(ml.get k).map fun L=>(d,L)
  |_,_=>none
 |_=>none
noncomputable def mlPut(ml:Tr (List Int))(wo:List (Nat×Obj)):Option (Nat×List Int)->Tr (List Int)
 |some (k,L)=>(Aep ml wo).put TD k (some L)
 |none=>Aep ml wo
noncomputable def AlT(o:Oper)(s:CS)(q:Rec):Tr (List Int):=
 match q.wo with
 |[]=>s.ml
 |wo=>mlPut s.ml wo (AdG o.op (o.op.operands.toList.map (ev s.st)) s.ml wo)
noncomputable def updC(s:CS)(r:Rec)(ml:Tr (List Int)):CS:=⟨putL r.ws s.sl,putL r.wo s.ob,ml⟩
noncomputable def Aip(c nt id:Nat)(a:List (Option Nat)):List Oper->Nat->CS->List Rec->Except (List Nat) (List Rec×CS)
 |[],_,s,acc=>.ok (acc.reverse,s)
 |o::r,i,s,acc=>match doOp T H self c nt a o s.st with
  | .ok (_,q)=>bif Fu q.ws&&Fu q.wo then Aip c nt id a r (i+1) (updC s q (AlT o s q)) (q::acc)else .error [c,id,i,18]
  | .error e=>.error (e++[c,id,i])
def ApO(ops:List Oper)(a:List Rec):Bool:=indep [] a (masks (ops.map Ml) [])&&backs (ops.map Ml) 0
def fin2(c id:Nat)(draw:Bool)(ops:List Oper):Except (List Nat) (List Rec×CS)->Ans
 | .ok (recs,s)=>bif !draw||ApO ops recs then .code .normal s else .err [c,id,3]
 | .error e=>.err e
noncomputable def AmP(c id:Nat)(s:CS):CS:=
 match assoc ((assoc H.frz c).getD []) id with
 |some ts=>frzT s (AmH (dedup (ts.flatMap fun t=>AfN owns1 3 ((s.sl.get t).getD .any)) []))
 |none=>s
noncomputable def Agk(c:Nat)(s:CS)(d d2 k g:Nat)(f:Int->PV)(rem:Int->Bool):List Int->Ans
 |[]=>.code .normal ⟨(s.sl.put TD d none).put TD d2 (some (pB false)),s.ob,s.ml⟩
 |[n]=>.code .normal ⟨(s.sl.put TD d none).put TD d2 (some (pB true)),s.ob.put TD k (some ⟨g,.mq (.it f (Bf rem n false) (some n))⟩),s.ml⟩
 |_=>.err [c,31]
def Akz:List Int->List Int
 |[]=>[]
 |n::r=>n::(Akz r).filter fun m=>!decide (m=n)
noncomputable def doNext1(c:Nat)(s:CS)(d d2 k g:Nat):Option Obj->Option (List Int)->Ans
 |some ⟨g',.mq (.it f rem _)⟩,some L=>bif Nat.beq g' g&&Nat.blt k 1000000 then Agk c s d d2 k g f rem ((Akz L).filter rem)else .err [c,32]
 |_,_=>.err [c,33]
noncomputable def ApC(c nt:Nat)(s:CS):Nat×Nat×Nat->Ans
 |(t,d,d2)=>bif Nat.blt d nt&&Nat.blt d2 nt&&Nat.blt d 1000000&&Nat.blt d2 1000000 then(match s.st.slots t with
  | .ref k g 0=>doNext1 c s d d2 k g (s.ob.get k) (s.ml.get k)
  |_=>.err [c,34])else .err [c,35]
noncomputable def Ahc(c nt id:Nat)(ops:List Oper)(draw:Bool)(s:CS):Ans:=
 match Ajy ops with
 |some q=>bif draw then .err [c,36]else ApC c nt s q
 |none=>fin2 c id draw ops (Aip T H self c nt id (ops.map (·.dst)) ops 0 (AmP H c id s) [])
noncomputable def Il(c nt:Nat)(a:Code)(s:CS):Ans:=
 match a with
 | .skip=>.code .normal s
 | .ret=>.code .ret s
 | .exit id=>.code (.exit id) s
 | .seq x y=>Alh self c nt y (self (.code c nt x s))
 | .cond q x y=>ApB self c nt x y s (bif Au q then Akn (ev s.st q)else none)
 | .block id x=>Ze id (self (.code c nt x s))
 | .loop x=>Ahk self c nt x (self (.code c nt x s))
 | .region id ops draw=>Ahc T H self c nt id ops.toList draw s
 |_=>.err [c,4]
noncomputable def doEnd3(f m:Nat):Option (MV×List Body)->Ans
 |some (res,bs)=>bif Nat.ble m bs.length then .fn (nnM 3 res) (bs.take m) (bs.drop m)else .err [f,20]
 |none=>.err [f,14]
noncomputable def Ama(fn:Func)(a:Bool)(m:Nat)(s:CS):CS:=
 bif a then(match rvs T ⟨s.st.slots,Abi m s.ob.get⟩ fn.results.toList with
  |some b=>frzT s (AmH (((reach s.ob.get 200 [] (b.flatMap (AfN both1 3))).filter fun k=>Nat.ble m k).reverse))
  |none=>s)else s
noncomputable def doEnd2(f:Nat)(fn:Func)(m:Nat)(s:CS):Option (List MV)->Ans
 |some a=>
  let ob:=Abi m s.ob.get
  let ex:=(reach ob 200 [] (a.flatMap (AfN both1 3)++(upN m 0).flatMap (boxKeys ob))).filter fun k=>Nat.ble m k
  doEnd3 f m (fin T fn.results.toList m ex (normT s (AmH (upN m 0++ex))).st)
 |none=>.err [f,13]
noncomputable def Aqw(f:Nat)(fn:Func)(m:Nat)(s:CS):Ans:=doEnd2 T f fn m s (rvs T ⟨s.st.slots,Abi m s.ob.get⟩ fn.results.toList)
noncomputable def doEnd(f:Nat)(fn:Func)(a:Bool)(m:Nat):Ans->Ans
 | .code .ret s=>Aqw T f fn m (Ama T fn a m s)
 | .code .normal s=>Aqw T f fn m (Ama T fn a m s)
 | .err l=>.err l
 |_=>.err [f,15]
noncomputable def Amo(sl:List (Nat×MV))(ob:List (Nat×Obj)):CS:=⟨putR sl,putR ob,.lf⟩
noncomputable def doFn3(f:Nat)(fn:Func)(a:Bool)(n m:Nat)(b:Code)(sl:List (Nat×MV))(ob:List (Nat×Obj)):Ans:=
 bif Nat.ble n fn.ntmps&&Nat.ble m 1000&&Fu sl&&Fu ob then doEnd T f fn a m (self (.code f fn.ntmps b (Amo sl ob)))else .err [f,19]
noncomputable def doFn2(f:Nat)(fn:Func)(b:Bool)(args:List MV)(a:List Body):Option Code->Ans
 |some g=>doFn3 T self f fn b args.length a.length g (Kp (upN args.length 0) (upN a.length 0) ⟨fun t=>(args[t]?).getD .any,Bu a⟩) (He (upN a.length 0) ⟨fun t=>(args[t]?).getD .any,Bu a⟩)
 |none=>.err [f,12]
noncomputable def doFn(f:Nat)(b:Bool)(args:List MV)(a:List Body):Option Func->Ans
 |some fn=>doFn2 T self f fn b args a fn.body
 |none=>.err [f,11]
def Anm:List MV->List Body->Bool
 |[.own 0 0 0 1,.p (.v (.int .i64 0)),.own 1 0 0 1],[.row 3 1 _,.row 3 1 _]=>true
 |_,_=>false
def doWk:Bool->Ans->Ans
 |true,_=>.fn .any [.dead,.dead] []
 |false,a=>a
def doKn:Option MV->Ans->Ans
 |some r,_=>.fn r [] []
 |none,a=>a
noncomputable def doTask:Todo->Ans
 | .code c nt cd s=>Il T H self c nt cd s
 | .fn f fz args outs=>doWk (elem f H.weak&&Anm (args.map (nnM 3)) outs) (doKn (bif outs.isEmpty then kn H.known f (args.map (nnM 3))else none) (doFn T self f fz (args.map (nnM 3)) outs P.funcs[f]?))
end
noncomputable def Ld(P:Program)(T:Ty)(H:Abn)(n:Nat):Todo->Ans:=
 Nat.rec (motive:=fun _=>Todo->Ans) (fun _=>.err [0]) (fun _ a=>doTask P T H a) n
def Aki(R:MV):Ans->Bool
 | .fn r [] []=>eqM 4 r R
 |_=>false
end Go.Dm
