/- Texts of the proof of TopIsolated: the data machine, the models of the Go functions, their contracts. -/
import Derived.Test.YtlgpejehffhplaaGreatDoorTopIsolatedA1
import Derived.KernelRfl
set_option linter.unusedVariables false
set_option linter.unusedSimpArgs false
namespace Go.Dm
structure Ah where
 id:Int
 parent:Int
 name:ByteArray
 control:Int
 kind:Int
 owner:Int
 deriving Inhabited
def Ak(x:Ah):List PV:=[vi x.id,vi x.parent,vs x.name,vi x.control,vi x.kind,vi x.owner]
abbrev Ao:Ah:=default
abbrev Bl(L:List Ah):PV:=Lq 6 Ak default L
abbrev Ag(L:List Ah):Body:=AkE 6 Ak default L
abbrev AjX(L:List Ah):Nat->List PV:=elems Ak default L
def eqNode(x y:Ah):Bool:=((x.id==y.id)&&((x.parent==y.parent)&&((x.name.toList==y.name.toList)&&((x.control==y.control)&&((x.kind==y.kind)&&((x.owner==y.owner)&&true))))))
structure Ae where
 nodes:List Ah
 next:Int
 deriving Inhabited
def Am(x:Ae):List PV:=[Lq 6 Ak default x.nodes,vi x.next]
structure Ar where
 id:Int
 process:Int
 group:Int
 user:Int
 deriving Inhabited
def Aq(x:Ar):List PV:=[vi x.id,vi x.process,vi x.group,vi x.user]
abbrev Ax:Ar:=default
abbrev Ez(L:List Ar):PV:=Lq 4 Aq default L
abbrev Al(L:List Ar):Body:=AkE 4 Aq default L
abbrev AqN(L:List Ar):Nat->List PV:=elems Aq default L
structure Aa where
 tree:Ae
 tasks:List Ar
 next:Int
 deriving Inhabited
def Ab(x:Aa):List PV:=[Lq 6 Ak default x.tree.nodes,vi x.tree.next,Lq 4 Aq default x.tasks,vi x.next]
structure Af where
 group:Int
 now:Int
 limit:Int
 peak:Int
 events:Int
 deriving Inhabited
def Dg(x:Af):List PV:=[vi x.group,vi x.now,vi x.limit,vi x.peak,vi x.events]
abbrev Ck:Af:=default
abbrev Cm(L:List Af):PV:=Lq 5 Dg default L
abbrev Ci(L:List Af):Body:=AkE 5 Dg default L
abbrev AjR(L:List Af):Nat->List PV:=elems Dg default L
structure Aj where
 l:List Int
 atF:Int
 deriving Inhabited
def An(x:Aj):List PV:=[Lq 1 Cj 0 x.l,vi x.atF]
def AkZ(a:List Int):Option Bool:=(some (decide ((a.length:Int)<=600)))
def Akf:Option Ae:=(some (⟨[(⟨1,0,ByteArray.empty,0,0,0⟩:Ah)],2⟩:Ae))
def AtJ:Option Aa:=(Option.bind Akf fun a=>(some (⟨a,[],1⟩:Aa)))
def Ami(a:ByteArray)(k1:Int)(b:Unit)(n1:Unit->Option Bool):Option Bool:=(if 0<=k1/\k1<(a.size:Int)then(if(!((((((decide ((((Cb a k1.toNat):Nat):Int)>=97))&&(decide ((((Cb a k1.toNat):Nat):Int)<=122)))||((decide ((((Cb a k1.toNat):Nat):Int)>=65))&&(decide ((((Cb a k1.toNat):Nat):Int)<=90))))||((decide ((((Cb a k1.toNat):Nat):Int)>=48))&&(decide ((((Cb a k1.toNat):Nat):Int)<=57))))||((((Cb a k1.toNat):Nat):Int)==95))||((((Cb a k1.toNat):Nat):Int)==45)))then(some false)else(n1 ()))else none)
def Aub(a:Unit):Option Bool:=(some true)
def Yj(a:ByteArray)(b:Bool):Option Bool:=(if b then(some false)else(if(a.size:Int)<=9223372036854775807 then(forO (Ami a) Aub (Int.toNat ((a.size:Int)-0)) 0 ())else none))
def Acp(a:ByteArray):Option Bool:=(if((a.size:Int)==0)then((Yj a) true)else(if(decide ((a.size:Int)>32))then((Yj a) true)else(if 0<a.size then((Yj a) ((((Cb a 0):Nat):Int)==45))else none)))
def Aap(n1:Bool->Option Bool)(b:Bool)(a:Bool):Option Bool:=(if a then(some false)else(n1 b))
def AaK(a:Ae)(p1:Int)(k1:Int)(n1:Bool->Option Bool)(b:Bool):Option Bool:=(if 0<=k1/\k1<(a.nodes.length:Int)then(if((a.nodes.getD k1.toNat default).parent==(a.nodes.getD p1.toNat default).parent)then(if 0<=k1/\k1<(a.nodes.length:Int)then((Aap n1 b) (Eb (a.nodes.getD k1.toNat default).name (a.nodes.getD p1.toNat default).name))else none)else((Aap n1 b) false))else none)
def AoC(a:Ae)(p1:Int)(k1:Int)(b:Bool)(n1:Bool->Option Bool):Option Bool:=(if b then((AaK a p1 k1 n1) true)else(if 0<=k1/\k1<(a.nodes.length:Int)then((AaK a p1 k1 n1) ((a.nodes.getD k1.toNat default).id==(a.nodes.getD p1.toNat default).parent))else none))
def Awi(a:Bool):Option Bool:=(some a)
def AdY(b:Ae)(p1:Int)(a:Bool):Option Bool:=(if a then(some false)else(if p1<=9223372036854775807 then(forO (AoC b p1) Awi (Int.toNat (p1-0)) 0 false)else none))
def Aih(a:Ae)(p1:Int):Option Bool:=(if 0<=p1/\p1<(a.nodes.length:Int)then(if(((((((a.nodes.getD p1.toNat default).kind !=0)&&((a.nodes.getD p1.toNat default).kind !=1))||(decide ((a.nodes.getD p1.toNat default).control<0)))||(decide ((a.nodes.getD p1.toNat default).control>31)))||(decide ((a.nodes.getD p1.toNat default).owner<0)))||(decide ((a.nodes.getD p1.toNat default).owner>1048576)))then(some false)else(if(p1==0)then(some (((((a.nodes.getD p1.toNat default).id==1)&&((a.nodes.getD p1.toNat default).parent==0))&&(Eb (a.nodes.getD p1.toNat default).name ByteArray.empty))&&((a.nodes.getD p1.toNat default).kind==0)))else(if 0<=(w64 (p1-1))/\(w64 (p1-1))<(a.nodes.length:Int)then(if(decide ((a.nodes.getD p1.toNat default).id<=(a.nodes.getD (Int.toNat (w64 (p1-1))) default).id))then((AdY a p1) true)else((Acp (a.nodes.getD p1.toNat default).name).bind fun b=>((AdY a p1) (!b))))else none)))else none)
def AeJ(b:(List Int)×Int×Int)(n1:((List Int)×Int×Int)->Option (List Int))(a:(List Int)×Int):Option (List Int):=(n1 (a.1,a.2,(w64 (b.2.2-1))))
def Asm(b:Ae)(a:(List Int)×Int×Int)(n1:((List Int)×Int×Int)->Option (List Int)):Option (List Int):=(if(decide (a.2.2>=0))then(if 0<=a.2.2/\a.2.2<(b.nodes.length:Int)then(if((b.nodes.getD a.2.2.toNat default).id==a.2.1)then(if a.1.length+1<=1073741824 then(if 0<=a.2.2/\a.2.2<(b.nodes.length:Int)then((AeJ a n1) ((a.1++[a.2.1]),(b.nodes.getD a.2.2.toNat default).parent))else none)else none)else((AeJ a n1) (a.1,a.2.1)))else none)else(some a.1))
def AjU(a:Ae)(p1:Int):Option (List Int):=(whileO (Asm a) Ik ([],p1,(w64 ((a.nodes.length:Int)-1))))
def Amd(b:Ae)(k1:Nat)(f:Ah)(g:Unit)(n1:Unit->Option Bool):Option Bool:=((Aih b (k1:Int)).bind fun a=>(if(!a)then(some false)else(n1 ())))
def Ano(b:Ae)(h:Nat)(g:Ah)(i:Unit)(f:Unit->Option Bool):Option Bool:=((AjU b g.id).bind fun a=>(if(decide ((a.length:Int)>9))then(some false)else(f ())))
def AcU(a:Bool):Option Bool:=(some a)
def Anb(a:Ae)(b:Unit):Option Bool:=(if 0<=(w64 ((a.nodes.length:Int)-1))/\(w64 ((a.nodes.length:Int)-1))<(a.nodes.length:Int)then(if(decide (a.next>(a.nodes.getD (Int.toNat (w64 ((a.nodes.length:Int)-1))) default).id))then(AcU (decide (a.next<=2147483648)))else(AcU false))else none)
def Amf(a:Ae)(b:Unit):Option Bool:=(if a.nodes.length<=9223372036854775807 then Ba (Ano a) (Anb a) a.nodes 0 ()else none)
def Pc(a:Ae):Option Bool:=(if((decide ((a.nodes.length:Int)<1))||(decide ((a.nodes.length:Int)>64)))then(some false)else(if a.nodes.length<=9223372036854775807 then Ba (Amd a) (Amf a) a.nodes 0 ()else none))
def Atm(p1:Int)(k1:Nat)(a:Ar)(b:Unit)(n1:Unit->Option (Ar×Bool)):Option (Ar×Bool):=(if(a.id==p1)then(some (a,(a.process==p1)))else(n1 ()))
def AtF(a:Unit):Option (Ar×Bool):=(some ((⟨0,0,0,0⟩:Ar),false))
def AdU(a:List Ar)(p1:Int):Option (Ar×Bool):=(if a.length<=9223372036854775807 then Ba (Atm p1) AtF a 0 ()else none)
def Awb(p1:Int)(k1:Nat)(a:Ah)(b:Unit)(n1:Unit->Option (Ah×Bool)):Option (Ah×Bool):=(if(a.id==p1)then(some (a,true))else(n1 ()))
def Awd(a:Unit):Option (Ah×Bool):=(some ((⟨0,0,ByteArray.empty,0,0,0⟩:Ah),false))
def Dr(a:Ae)(p1:Int):Option (Ah×Bool):=((Pc a).bind fun b=>(if(!b)then(some ((⟨0,0,ByteArray.empty,0,0,0⟩:Ah),false))else(if a.nodes.length<=9223372036854775807 then Ba (Awb p1) Awd a.nodes 0 ()else none)))
def Gz(b:Ae)(p1:Int):Option Bool:=((Dr b p1).bind fun a=>(some a.2))
def Dd(n1:Unit->Option Bool)(a:Bool):Option Bool:=(if a then(some false)else(n1 ()))
def AgR(f:Aa)(k1:Nat)(a:Ar)(i:Unit)(n1:Unit->Option Bool):Option Bool:=((AdU f.tasks a.process).bind fun b=>(if(decide (a.id<1))then((Dd n1) true)else(if(decide ((k1:Int)>0))then(if 0<=(w64 ((k1:Int)-1))/\(w64 ((k1:Int)-1))<(f.tasks.length:Int)then(if(decide ((f.tasks.getD (Int.toNat (w64 ((k1:Int)-1))) default).id>=a.id))then((Dd n1) true)else((Gz f.tree a.group).bind fun g=>(if(!g)then((Dd n1) true)else(if(decide (a.user<0))then((Dd n1) true)else(if(decide (a.user>1048576))then((Dd n1) true)else(if(!b.2)then((Dd n1) true)else((Dd n1) (b.1.user !=a.user))))))))else none)else((Gz f.tree a.group).bind fun h=>(if(!h)then((Dd n1) true)else(if(decide (a.user<0))then((Dd n1) true)else(if(decide (a.user>1048576))then((Dd n1) true)else(if(!b.2)then((Dd n1) true)else((Dd n1) (b.1.user !=a.user))))))))))
def Amg(a:Unit):Option Bool:=(some true)
def Na(a:Aa)(b:Bool):Option Bool:=(if b then(some false)else(if a.tasks.length<=9223372036854775807 then Ba (AgR a) Amg a.tasks 0 ()else none))
def Hc(a:Aa):Option Bool:=((Pc a.tree).bind fun b=>(if(!b)then((Na a) true)else(if(decide ((a.tasks.length:Int)>128))then((Na a) true)else(if(decide (a.next<1))then((Na a) true)else(if(decide (a.next>2147483648))then((Na a) true)else(if(decide ((a.tasks.length:Int)>0))then(if 0<=(w64 ((a.tasks.length:Int)-1))/\(w64 ((a.tasks.length:Int)-1))<(a.tasks.length:Int)then((Na a) (decide (a.next<=(a.tasks.getD (Int.toNat (w64 ((a.tasks.length:Int)-1))) default).id)))else none)else((Na a) false)))))))
def AaU(f:Ae)(p1:Int):Option Int:=((Dr f p1).bind fun a=>(if((!a.2)||(p1==1))then(some 0)else((Dr f a.1.parent).bind fun b=>(if(a.1.kind==1)then(some (Bp .i64 b.1.control 6))else(some b.1.control)))))
def Pz(a:Int):Option Int:=(some a)
def Mc(b:Ah×Bool)(a:Int):Option Int:=(if(b.1.kind==1)then(Pz (Bp .i64 a 6))else(Pz a))
def Me(b:Ae)(p1:Int):Option Int:=((Dr b p1).bind fun a=>(if(!a.2)then(some 0)else(if(p1 !=1)then((AaU b p1).bind fun f=>((Mc a) f))else((Mc a) 31))))
def AcN(n1:(List Int)->Option (List Int))(a:List Int):Option (List Int):=(n1 a)
def AlO(p1:Int)(k1:Nat)(b:Ar)(a:List Int)(n1:(List Int)->Option (List Int)):Option (List Int):=(if(b.group==p1)then(if a.length+1<=1073741824 then((AcN n1) (a++[b.id]))else none)else((AcN n1) a))
def AuQ(a:List Int):Option (List Int):=(some a)
def Mq(a:Aa)(p1:Int):Option (List Int):=((Hc a).bind fun b=>(if(!b)then(some [])else(if a.tasks.length<=9223372036854775807 then Ba (AlO p1) AuQ a.tasks 0 []else none)))
def Nb(n1:Unit->Option Bool)(a:Bool):Option Bool:=(if a then(some false)else(n1 ()))
def AgJ(g:Aa)(k1:Nat)(a:Ah)(h:Unit)(n1:Unit->Option Bool):Option Bool:=((Me g.tree a.id).bind fun f=>(if((Bp .i64 a.control f)!=0)then((Nb n1) true)else(if(a.id !=1)then(if((kand .i64 a.control 6)!=0)then((Mq g a.id).bind fun b=>((Nb n1) (decide ((b.length:Int)>0))))else((Nb n1) false))else((Nb n1) false))))
def Auz(a:Unit):Option Bool:=(some true)
def Ux(a:Aa):Option Bool:=((Hc a).bind fun b=>(if(!b)then(some false)else(if a.tree.nodes.length<=9223372036854775807 then Ba (AgJ a) Auz a.tree.nodes 0 ()else none)))
def AvI(p1:Int)(k1:Nat)(a:Ar)(b:Unit)(n1:Unit->Option (Ar×Bool)):Option (Ar×Bool):=(if(a.id==p1)then(some (a,true))else(n1 ()))
def Awl(a:Unit):Option (Ar×Bool):=(some ((⟨0,0,0,0⟩:Ar),false))
def Jv(a:Aa)(p1:Int):Option (Ar×Bool):=((Hc a).bind fun b=>(if(!b)then(some ((⟨0,0,0,0⟩:Ar),false))else(if a.tasks.length<=9223372036854775807 then Ba (AvI p1) Awl a.tasks 0 ()else none)))
def Jy(a:Ae)(p1:Int):Option (List Int):=((Gz a p1).bind fun b=>(if(!b)then(some [])else((AjU a p1).bind fun f=>(some f))))
def Afa(f:Ae)(k1:Nat)(b:Int)(g:Unit)(n1:Unit->Option (Int×Bool)):Option (Int×Bool):=((Dr f b).bind fun a=>(if(a.1.kind !=1)then(some (b,true))else(n1 ())))
def Ate(a:Unit):Option (Int×Bool):=(some (0,false))
def Mw(b:Ae)(p1:Int):Option (Int×Bool):=((Jy b p1).bind fun a=>(if a.length<=9223372036854775807 then Ba (Afa b) Ate a 0 ()else none))
def Wy(n1:(List Int)->Option (List Int))(a:List Int):Option (List Int):=(n1 a)
def Ahy(p1:Int)(k1:Nat)(b:Ah)(a:List Int)(n1:(List Int)->Option (List Int)):Option (List Int):=(if(b.parent==p1)then(if a.length+1<=1073741824 then((Wy n1) (a++[b.id]))else none)else((Wy n1) a))
def Apz(a:List Int):Option (List Int):=(some a)
def Ll(a:Ae)(p1:Int):Option (List Int):=((Gz a p1).bind fun b=>(if(!b)then(some [])else(if a.nodes.length<=9223372036854775807 then Ba (Ahy p1) Apz a.nodes 0 []else none)))
def AiW(f:Ae)(k1:Nat)(b:Int)(g:Unit)(n1:Unit->Option Int):Option Int:=((Dr f b).bind fun a=>(if(a.1.kind==1)then(some 1)else(n1 ())))
def AvV(a:Unit):Option Int:=(some 0)
def Pk(b:Ae)(p1:Int)(f:Bool):Option Int:=(if f then(some 3)else((Ll b p1).bind fun a=>(if a.length<=9223372036854775807 then Ba (AiW b) AvV a 0 ()else none)))
def Uv(f:Ae->Int->Option Int)(a:Ae)(p1:Int):Option Int:=((Dr a p1).bind fun g=>(if(!g.2)then(some 0)else(if(g.1.kind==1)then(some 2)else((Dr a g.1.parent).bind fun b=>(if b.2 then(if(b.1.kind==1)then((Pk a p1) true)else((f a b.1.id).bind fun h=>((Pk a p1) (h==3))))else((Pk a p1) false))))))
def Ji:Nat->Ae->Int->Option Int
 |0,_,_=>none
 |n+1,p0,p1=>Uv (Ji n) p0 p1
def Lm(a:Ae)(p1:Int):Option Int:=Ji Ik a p1
def AiX(g:Aa)(k1:Nat)(h:Ar)(i:Unit)(n1:Unit->Option Bool):Option Bool:=((Jv g h.process).bind fun b=>((Mw g.tree h.group).bind fun a=>((Mw g.tree b.1.group).bind fun f=>(if(a.1 !=f.1)then(some false)else(n1 ())))))
def Lc(b:Unit->Option Bool)(a:Bool):Option Bool:=(if a then(some false)else(b ()))
def Nm(i:Aa)(j:Ah)(g:Unit->Option Bool)(a:Ah×Bool)(h:Bool):Option Bool:=(if h then(some false)else(if(j.kind==1)then(if(a.1.id !=1)then(if((kand .i64 a.1.control 6)!=0)then((Lc g) true)else((Lm i.tree a.1.id).bind fun f=>((Lc g) (f==3))))else((Lm i.tree a.1.id).bind fun b=>((Lc g) (b==3))))else((Lc g) false)))
def AiM(f:Aa)(k:Nat)(b:Ah)(j:Unit)(i:Unit->Option Bool):Option Bool:=((Dr f.tree b.parent).bind fun a=>((Lm f.tree b.id).bind fun g=>(if(g==3)then(if(b.control !=0)then((Nm f b i a) true)else((Mq f b.id).bind fun h=>((Nm f b i a) (decide ((h.length:Int)>0)))))else((Nm f b i a) false))))
def AvJ(a:Unit):Option Bool:=(some true)
def AiS(a:Aa)(b:Unit):Option Bool:=(if a.tree.nodes.length<=9223372036854775807 then Ba (AiM a) AvJ a.tree.nodes 0 ()else none)
def Jx(a:Aa):Option Bool:=((Ux a).bind fun b=>(if(!b)then(some false)else(if a.tasks.length<=9223372036854775807 then Ba (AiX a) (AiS a) a.tasks 0 ()else none)))
def Agd(b:Ae)(p1:Int):Option Int:=((Jy b p1).bind fun a=>(some (w64 ((a.length:Int)-1))))
def Yw(a:Ae):Option Ae:=(if a.nodes.length<=1073741824 then(some a)else none)
def Apm(p1:Int)(p2:ByteArray)(k1:Nat)(a:Ah)(b:Unit)(n1:Unit->Option (Ae×Int×Int)):Option (Ae×Int×Int):=(if((a.parent==p1)&&(Eb a.name p2))then(some ((⟨[],0⟩:Ae),0,5))else(n1 ()))
def Zk(b:Ae)(p1:Int)(p2:ByteArray)(f:Bool):Option (Ae×Int×Int):=(if f then(some ((⟨[],0⟩:Ae),0,7))else((Yw b).bind fun a=>(if a.nodes.length+1<=1073741824 then(some ((⟨(a.nodes++[(⟨b.next,p1,p2,0,0,0⟩:Ah)]),(w64 (a.next+1))⟩:Ae),b.next,0))else none)))
def AqE(a:Ae)(p1:Int)(p2:ByteArray)(f:Unit):Option (Ae×Int×Int):=((Agd a p1).bind fun b=>(if(decide (b>=8))then((Zk a p1 p2) true)else(if(decide ((a.nodes.length:Int)>=64))then((Zk a p1 p2) true)else((Zk a p1 p2) (decide (a.next>2147483647))))))
def AfO(a:Ae)(p1:Int)(p2:ByteArray)(b:Bool):Option (Ae×Int×Int):=(if b then(some ((⟨[],0⟩:Ae),0,1))else((Gz a p1).bind fun f=>(if(!f)then(some ((⟨[],0⟩:Ae),0,4))else(if a.nodes.length<=9223372036854775807 then Ba (Apm p1 p2) (AqE a p1 p2) a.nodes 0 ()else none))))
def AkM(a:Ae)(p1:Int)(p2:ByteArray):Option (Ae×Int×Int):=((Pc a).bind fun f=>(if(!f)then((AfO a p1 p2) true)else((Acp p2).bind fun b=>((AfO a p1 p2) (!b)))))
def Yg(a:Aa):Option Aa:=((Yw a.tree).bind fun b=>(if a.tasks.length<=1073741824 then(some ({a with tree:=b}:Aa))else none))
def Agh(a:Aa)(b:Ar):Option (Aa×Int×Int):=(if a.tasks.length+1<=1073741824 then(some (({a with tasks:=(a.tasks++[b]),next:=(w64 (a.next+1))}:Aa),b.id,0))else none)
def AgY(a:Aa)(p1:Ar):Option (Aa×Int×Int):=(if((decide ((a.tasks.length:Int)>=128))||(decide (a.next>2147483647)))then(some ((⟨⟨[],0⟩,[],0⟩:Aa),0,7))else((Yg a).bind fun b=>(if(p1.process==0)then((Agh b) ({p1 with id:=a.next,process:=a.next}:Ar))else((Agh b) ({p1 with id:=a.next}:Ar)))))
def Ym(b:Aa)(p1:Int)(p2:Int)(f:Bool):Option (Aa×Int×Int):=(if f then(some ((⟨⟨[],0⟩,[],0⟩:Aa),0,1))else((Gz b.tree p1).bind fun g=>(if(!g)then(some ((⟨⟨[],0⟩,[],0⟩:Aa),0,4))else((AgY b (⟨0,0,p1,p2⟩:Ar)).bind fun a=>(some (a.1,a.2.1,a.2.2))))))
def AfE(a:Aa)(p1:Int)(p2:Int):Option (Aa×Int×Int):=((Hc a).bind fun b=>(if(!b)then((Ym a p1 p2) true)else(if(decide (p2<0))then((Ym a p1 p2) true)else((Ym a p1 p2) (decide (p2>1048576))))))
def AlS(a:Ah):Option Bool:=(some ((((a.id==1)&&(a.parent==0))&&(Eb a.name ByteArray.empty))&&(a.kind==0)))
def AkI(a:Int):Option Bool:=(some ((((((decide (a>=97))&&(decide (a<=122)))||((decide (a>=65))&&(decide (a<=90))))||((decide (a>=48))&&(decide (a<=57))))||(a==95))||(a==45)))
def AmT(k1:Nat)(b:Int)(f:Unit)(n1:Unit->Option Bool):Option Bool:=((AkI b).bind fun a=>(if(!a)then(some false)else(n1 ())))
def Yi(a:Bool):Option Bool:=(some a)
def AmI(a:ByteArray)(b:Unit):Option Bool:=(if(!(Eb a ByteArray.empty))then(if(decide ((a.size:Int)<=32))then(if 0<a.size then(Yi ((((Cb a 0):Nat):Int)!=45))else none)else(Yi false))else(Yi false))
def AcP(a:ByteArray):Option Bool:=(if(Lx a).length<=9223372036854775807 then Ba AmT (AmI a) (Lx a) 0 ()else none)
def AoF(p1:Ah)(k1:Nat)(a:Ah)(b:Bool)(n1:Bool->Option Bool):Option Bool:=(if((a.parent==p1.parent)&&(Eb a.name p1.name))then(some false)else(n1 (b||(a.id==p1.parent))))
def Awu(a:Bool):Option Bool:=(some a)
def Pe(a:List Ah)(p1:Ah)(b:Bool):Option Bool:=(if b then(some false)else(if a.length<=9223372036854775807 then Ba (AoF p1) Awu a 0 false else none))
def AhB(a:List Ah)(p1:Ah):Option Bool:=(if 0<=(w64 ((a.length:Int)-1))/\(w64 ((a.length:Int)-1))<(a.length:Int)then(if(decide (p1.id<=(a.getD (Int.toNat (w64 ((a.length:Int)-1))) default).id))then((Pe a p1) true)else((AcP p1.name).bind fun b=>(if(!b)then((Pe a p1) true)else(if(p1.kind !=0)then((Pe a p1) (p1.kind !=1))else((Pe a p1) false)))))else none)
def Ach(b:Ah)(n1:(IMap Int)->Option Bool)(a:IMap Int):Option Bool:=(if(decide ((a.get b.id)>8))then(some false)else(n1 a))
def Jf(k1:Nat)(a:Ah)(b:IMap Int)(n1:(IMap Int)->Option Bool)(f:Bool):Option Bool:=(if f then(some false)else(if(decide ((k1:Int)>0))then((Ach a n1) (b.set a.id (w64 ((b.get a.parent)+1))))else((Ach a n1) b)))
def Amr(g:Ae)(k1:Nat)(a:Ah)(b:IMap Int)(n1:(IMap Int)->Option Bool):Option Bool:=(if(decide (a.control<0))then((Jf k1 a b n1) true)else(if((Bp .i64 a.control 31)!=0)then((Jf k1 a b n1) true)else(if(decide (a.owner<0))then((Jf k1 a b n1) true)else(if(decide (a.owner>1048576))then((Jf k1 a b n1) true)else(if(decide ((k1:Int)>0))then(if(k1:Int)<=(g.nodes.length:Int)then((AhB (g.nodes.take k1) a).bind fun f=>((Jf k1 a b n1) (!f)))else none)else((Jf k1 a b n1) false))))))
def Abm(a:Bool):Option Bool:=(some a)
def Amp(a:Ae)(b:IMap Int):Option Bool:=(if 0<=(w64 ((a.nodes.length:Int)-1))/\(w64 ((a.nodes.length:Int)-1))<(a.nodes.length:Int)then(if(decide (a.next>(a.nodes.getD (Int.toNat (w64 ((a.nodes.length:Int)-1))) default).id))then(Abm (decide (a.next<=2147483648)))else(Abm false))else none)
def Yk(a:Ae)(b:Bool):Option Bool:=(if b then(some false)else(if a.nodes.length<=9223372036854775807 then Ba (Amr a) (Amp a) a.nodes 0 (IMap.empty 0)else none))
def Ig(a:Ae):Option Bool:=(if(decide ((a.nodes.length:Int)<1))then((Yk a) true)else(if(decide ((a.nodes.length:Int)>64))then((Yk a) true)else(if 0<a.nodes.length then((AlS (a.nodes.getD 0 default)).bind fun b=>((Yk a) (!b)))else none)))
def Aso(a:Ar)(p1:Int):Option Bool:=(some (a.id==p1))
def Aax(a:Int)(k1:Nat)(f:Ar)(g:Unit)(n1:Unit->Option Int):Option Int:=((Aso f a).bind fun b=>(if b then(some (k1:Int))else(n1 ())))
def AaC(a:Unit):Option Int:=(some (-1))
def Kf(b:List Ar)(a:Int):Option Int:=(if b.length<=9223372036854775807 then Ba (Aax a) AaC b 0 ()else none)
def AbE(b:Aa)(p1:Int):Option Int:=((Kf b.tasks p1).bind fun a=>(some a))
def No(b:Aa)(p1:Int):Option (Ar×Bool):=((AbE b p1).bind fun a=>(if(decide (a<0))then(some ((⟨0,0,0,0⟩:Ar),false))else(if 0<=a/\a<(b.tasks.length:Int)then(some ((b.tasks.getD a.toNat default),true))else none)))
def Aot(a:Ah)(p1:Int):Option Bool:=(some (a.id==p1))
def Zw(a:Int)(k1:Nat)(f:Ah)(g:Unit)(n1:Unit->Option Int):Option Int:=((Aot f a).bind fun b=>(if b then(some (k1:Int))else(n1 ())))
def Zv(a:Unit):Option Int:=(some (-1))
def Jc(b:List Ah)(a:Int):Option Int:=(if b.length<=9223372036854775807 then Ba (Zw a) Zv b 0 ()else none)
def Fp(b:Ae)(p1:Int):Option Int:=((Jc b.nodes p1).bind fun a=>(some a))
def Lh(a:Bool):Option Bool:=(some a)
def AdV(b:Aa)(p1:Ar):Option Bool:=((No b p1.process).bind fun a=>(if(decide (p1.user>=0))then(if(decide (p1.user<=1048576))then(if a.2 then(if(a.1.process==a.1.id)then(if(a.1.user==p1.user)then((Fp b.tree p1.group).bind fun f=>(Lh (decide (f>=0))))else(Lh false))else(Lh false))else(Lh false))else(Lh false))else(Lh false)))
def Zi(b:Ar)(n1:Int->Option Bool)(a:Bool):Option Bool:=(if a then(some false)else(n1 b.id))
def AjS(g:Aa)(k1:Nat)(a:Ar)(f:Int)(n1:Int->Option Bool):Option Bool:=(if(decide (a.id<=f))then((Zi a n1) true)else((AdV g a).bind fun b=>((Zi a n1) (!b))))
def Arr(b:Aa)(a:Int):Option Bool:=(some (decide (b.next>a)))
def Tx(a:Aa)(b:Bool):Option Bool:=(if b then(some false)else(if a.tasks.length<=9223372036854775807 then Ba (AjS a) (Arr a) a.tasks 0 0 else none))
def Hy(a:Aa):Option Bool:=(if(decide ((a.tasks.length:Int)>128))then((Tx a) true)else(if(decide (a.next>2147483648))then((Tx a) true)else((Ig a.tree).bind fun b=>((Tx a) (!b)))))
def AsM(a:Af)(p1:Int):Option Bool:=(some (a.group==p1))
def Aae(a:Int)(k1:Nat)(f:Af)(g:Unit)(n1:Unit->Option Int):Option Int:=((AsM f a).bind fun b=>(if b then(some (k1:Int))else(n1 ())))
def Aah(a:Unit):Option Int:=(some (-1))
def Jp(b:List Af)(a:Int):Option Int:=(if b.length<=9223372036854775807 then Ba (Aae a) Aah b 0 ()else none)
def Tc(b:List Af)(p1:Int):Option Int:=((Jp b p1).bind fun a=>(some a))
def Ako(b:List Af)(p1:Int):Option (Af×Bool):=((Tc b p1).bind fun a=>(if(decide (a<0))then(some ((⟨0,0,0,0,0⟩:Af),false))else(if 0<=a/\a<(b.length:Int)then(some ((b.getD a.toNat default),true))else none)))
def Ss(n1:(List Int)->Option (List Int))(a:List Int):Option (List Int):=(n1 a)
def Afo(p1:Int)(k1:Nat)(b:Ah)(a:List Int)(n1:(List Int)->Option (List Int)):Option (List Int):=(if(b.parent==p1)then(if a.length+1<=1073741824 then((Ss n1) (a++[b.id]))else none)else((Ss n1) a))
def AnZ(a:List Int):Option (List Int):=(some a)
def Nw(a:Ae)(p1:Int):Option (List Int):=(if a.nodes.length<=9223372036854775807 then Ba (Afo p1) AnZ a.nodes 0 []else none)
def Agz(f:Ae)(a:(List Int)×(List Int))(n1:((List Int)×(List Int))->Option (List Int)):Option (List Int):=(if((decide ((a.2.length:Int)>0))&&(decide ((a.1.length:Int)<(f.nodes.length:Int))))then(if 0<a.2.length then(if a.1.length+1<=1073741824 then(if 0<a.2.length then((Nw f (a.2.getD 0 0)).bind fun b=>(if 1<=a.2.length then(if b.length+(Cq a.2.length 1)<=1073741824 then(n1 ((a.1++[(a.2.getD 0 0)]),(b++(a.2.drop 1))))else none)else none))else none)else none)else none)else(some a.1))
def Zf(a:Ae)(p1:Int):Option (List Int):=((Fp a p1).bind fun b=>(if(decide (b<0))then(some [])else(whileO (Agz a) Ik ([],[p1]))))
def AmX(p1:Int)(k1:Nat)(a:Int)(b:Unit)(n1:Unit->Option Int):Option Int:=(if(p1==a)then(some (k1:Int))else(n1 ()))
def AmY(a:Unit):Option Int:=(some (-1))
def Vf(a:List Int)(p1:Int):Option Int:=(if a.length<=9223372036854775807 then Ba (AmX p1) AmY a 0 ()else none)
def Fq(b:List Int)(p1:Int):Option Bool:=((Vf b p1).bind fun a=>(some (decide (a>=0))))
def Acg(n1:Int->Option Int)(a:Int):Option Int:=(n1 a)
def AlX(g:List Int)(k1:Nat)(f:Ar)(b:Int)(n1:Int->Option Int):Option Int:=((Fq g f.group).bind fun a=>(if a then((Acg n1) (w64 (b+1)))else((Acg n1) b)))
def Avt(a:Int):Option Int:=(some a)
def Acl(a:Aa)(p1:Int):Option Int:=((Zf a.tree p1).bind fun b=>(if a.tasks.length<=9223372036854775807 then Ba (AlX b) Avt a.tasks 0 0 else none))
def Abr(h:Aa)(g:Ah)(b:List Af)(n1:(List Af)->Option (List Af))(f:Af):Option (List Af):=((Acl h g.id).bind fun a=>(if b.length+1<=1073741824 then(n1 (b++[({f with now:=a,peak:=(Us f.peak a)}:Af)]))else none))
def Aln(g:Aa)(p1:List Af)(k1:Nat)(b:Ah)(f:List Af)(n1:(List Af)->Option (List Af)):Option (List Af):=((Ako p1 b.id).bind fun a=>(if(!a.2)then((Abr g b f n1) (⟨b.id,0,4611686018427387904,0,0⟩:Af))else((Abr g b f n1) a.1)))
def AtE(a:List Af):Option (List Af):=(some a)
def AaE(a:Aa)(p1:List Af):Option (List Af):=((Hy a).bind fun b=>(if(!b)then(some [])else(if a.tree.nodes.length<=9223372036854775807 then Ba (Aln a p1) AtE a.tree.nodes 0 []else none)))
def AkT(b:Aa):Option (List Af):=((AaE b []).bind fun a=>(some a))
def AhX(a:Af)(p1:Int)(p2:Int):Option Bool:=(some (((((((a.group==p1)&&(a.now==p2))&&(((decide (a.limit>=0))&&(decide (a.limit<=1099511627776)))||(a.limit==4611686018427387904)))&&(decide (a.peak>=a.now)))&&(decide (a.peak<=128)))&&(decide (a.events>=0)))&&(decide (a.events<=1099511627776))))
def AmW(g:Aa)(p1:List Af)(k1:Nat)(f:Ah)(h:Unit)(n1:Unit->Option Bool):Option Bool:=(if k1<p1.length then((Acl g f.id).bind fun a=>((AhX (p1.getD k1 default) f.id a).bind fun b=>(if(!b)then(some false)else(n1 ()))))else none)
def Avv(a:Unit):Option Bool:=(some true)
def Acz(a:Aa)(p1:List Af)(b:Bool):Option Bool:=(if b then(some false)else(if a.tree.nodes.length<=9223372036854775807 then Ba (AmW a p1) Avv a.tree.nodes 0 ()else none))
def Ot(a:Aa)(p1:List Af):Option Bool:=((Hy a).bind fun b=>(if(!b)then((Acz a p1) true)else((Acz a p1) ((p1.length:Int)!=(a.tree.nodes.length:Int)))))
def Fe(a:List Af):Option (List Af):=(if 0+a.length<=1073741824 then(some a)else none)
def AbG(a:List Af):Option (List Af):=(some [])
def AfM(h:Aa)(p1:List Af)(p2:Int)(f:Int):Option ((List Af)×Int):=((Tc p1 p2).bind fun a=>((Ot h p1).bind fun g=>(if(!g)then(some ([],1))else(if(decide (a<0))then(some ([],4))else(if((f !=4611686018427387904)&&((decide (f<0))||(decide (f>1099511627776))))then(some ([],3))else((Fe p1).bind fun b=>(if 0<=a/\a<(b.length:Int)then(if a.toNat<b.length then(some ((b.set a.toNat (⟨(b.getD a.toNat default).group,(b.getD a.toNat default).now,f,(b.getD a.toNat default).peak,(b.getD a.toNat default).events⟩:Af)),0))else none)else none)))))))
def AiY(a:Int):Option (Aa×(List Af)×Int×Int):=(some ((⟨⟨[],0⟩,[],0⟩:Aa),[],0,a))
def Gx(a:List Ah):Option (List Ah):=(if 0+a.length<=1073741824 then(some a)else none)
def AbU(a:List Ah):Option (List Ah):=(some [])
def Oq(a:List Ar):Option (List Ar):=(if 0+a.length<=1073741824 then(some a)else none)
def Ack(a:List Ar):Option (List Ar):=(some [])
def Pj(a:Aa):Option Aa:=((Gx a.tree.nodes).bind fun f=>((Oq a.tasks).bind fun b=>(some ({a with tree:=(⟨f,a.tree.next⟩:Ae),tasks:=b}:Aa))))
def AbX(a:Aa)(b:Ar):Option (Aa×Int×Int):=(if a.tasks.length+1<=1073741824 then(some (({a with tasks:=(a.tasks++[b]),next:=(w64 (a.next+1))}:Aa),b.id,0))else none)
def AcS(a:Aa)(p1:Ar):Option (Aa×Int×Int):=(if((decide ((a.tasks.length:Int)>=128))||(decide (a.next>2147483647)))then(some ((⟨⟨[],0⟩,[],0⟩:Aa),0,7))else((Pj a).bind fun b=>(if(p1.process==0)then((AbX b) ({p1 with id:=a.next,process:=a.next}:Ar))else((AbX b) ({p1 with id:=a.next}:Ar)))))
def AbZ(a:Aa)(p1:Int):Option (Aa×Int×Int):=((Hy a).bind fun g=>(if(!g)then(some ((⟨⟨[],0⟩,[],0⟩:Aa),0,1))else((No a p1).bind fun f=>(if(!f.2)then(some ((⟨⟨[],0⟩,[],0⟩:Aa),0,4))else((AcS a f.1).bind fun b=>(some (b.1,b.2.1,b.2.2)))))))
def Fz(b:Ae)(p1:Int):Option (Ah×Bool):=((Fp b p1).bind fun a=>(if(decide (a<0))then(some ((⟨0,0,ByteArray.empty,0,0,0⟩:Ah),false))else(if 0<=a/\a<(b.nodes.length:Int)then(some ((b.nodes.getD a.toNat default),true))else none)))
def Ro(a:List Int):Option (List Int):=(some a)
def AeR(f:Ae)(k1:Nat)(g:Ah)(a:(List Int)×Int)(n1:((List Int)×Int)->Option (List Int)):Option (List Int):=((Fz f a.2).bind fun b=>(if(!b.2)then(Ro a.1)else(if a.1.length+1<=1073741824 then(n1 ((a.1++[a.2]),b.1.parent))else none)))
def Amh(a:(List Int)×Int):Option (List Int):=(Ro a.1)
def Da(a:Ae)(p1:Int):Option (List Int):=(if a.nodes.length<=9223372036854775807 then Ba (AeR a) Amh a.nodes 0 ([],p1)else none)
def AeO(a:Af):Option Int:=(some (w64 (a.limit-a.now)))
def Amm(p1:List Af)(k1:Nat)(f:Int)(g:Int)(n1:Int->Option Int):Option Int:=((Tc p1 f).bind fun a=>(if 0<=a/\a<(p1.length:Int)then((AeO (p1.getD a.toNat default)).bind fun b=>(n1 (Jj g b)))else none))
def AuX(a:Int):Option Int:=(some (Us a 0))
def AcX(b:Aa)(p1:List Af)(p2:Int):Option Int:=((Da b.tree p2).bind fun a=>(if a.length<=9223372036854775807 then Ba (Amm p1) AuX a 0 128 else none))
def Alt(h:Int)(b:List Af)(k1:Nat)(g:Int)(i:Unit)(n1:Unit->Option ((List Af)×Int)):Option ((List Af)×Int):=((Tc b g).bind fun a=>(if 0<=a/\a<(b.length:Int)then(if a.toNat<b.length then((AeO (b.getD a.toNat default)).bind fun f=>(if(decide (f<h))then(if 0<=a/\a<(b.length:Int)then(if a.toNat<b.length then(if 0<=a/\a<(b.length:Int)then(if a.toNat<b.length then(some ((b.set a.toNat (⟨(b.getD a.toNat default).group,(b.getD a.toNat default).now,(b.getD a.toNat default).limit,(b.getD a.toNat default).peak,(Jj (w64 ((b.getD a.toNat default).events+1)) 1099511627776)⟩:Af)),g))else none)else none)else none)else none)else(n1 ())))else none)else none))
def Atq(a:List Af)(b:Unit):Option ((List Af)×Int):=(some (a,0))
def Aed(f:Aa)(p1:List Af)(p2:Int)(g:Int):Option ((List Af)×Int):=((Ot f p1).bind fun h=>(if(!h)then(some ([],0))else((Fe p1).bind fun b=>((Da f.tree p2).bind fun a=>(if a.length<=9223372036854775807 then Ba (Alt g b) (Atq b) a 0 ()else none)))))
def AjH(f:Int)(k1:Nat)(g:Int)(b:List Af)(n1:(List Af)->Option (List Af)):Option (List Af):=((Tc b g).bind fun a=>(if 0<=a/\a<(b.length:Int)then(if a.toNat<b.length then(if a.toNat<b.length then(if a.toNat<(b.set a.toNat (⟨(b.getD a.toNat default).group,(w64 ((b.getD a.toNat default).now+f)),(b.getD a.toNat default).limit,(b.getD a.toNat default).peak,(b.getD a.toNat default).events⟩:Af)).length then(if a.toNat<(b.set a.toNat (⟨(b.getD a.toNat default).group,(w64 ((b.getD a.toNat default).now+f)),(b.getD a.toNat default).limit,(b.getD a.toNat default).peak,(b.getD a.toNat default).events⟩:Af)).length then(if a.toNat<(b.set a.toNat (⟨(b.getD a.toNat default).group,(w64 ((b.getD a.toNat default).now+f)),(b.getD a.toNat default).limit,(b.getD a.toNat default).peak,(b.getD a.toNat default).events⟩:Af)).length then(n1 ((b.set a.toNat (⟨(b.getD a.toNat default).group,(w64 ((b.getD a.toNat default).now+f)),(b.getD a.toNat default).limit,(b.getD a.toNat default).peak,(b.getD a.toNat default).events⟩:Af)).set a.toNat (⟨((b.set a.toNat (⟨(b.getD a.toNat default).group,(w64 ((b.getD a.toNat default).now+f)),(b.getD a.toNat default).limit,(b.getD a.toNat default).peak,(b.getD a.toNat default).events⟩:Af)).getD a.toNat default).group,((b.set a.toNat (⟨(b.getD a.toNat default).group,(w64 ((b.getD a.toNat default).now+f)),(b.getD a.toNat default).limit,(b.getD a.toNat default).peak,(b.getD a.toNat default).events⟩:Af)).getD a.toNat default).now,((b.set a.toNat (⟨(b.getD a.toNat default).group,(w64 ((b.getD a.toNat default).now+f)),(b.getD a.toNat default).limit,(b.getD a.toNat default).peak,(b.getD a.toNat default).events⟩:Af)).getD a.toNat default).limit,(Us ((b.set a.toNat (⟨(b.getD a.toNat default).group,(w64 ((b.getD a.toNat default).now+f)),(b.getD a.toNat default).limit,(b.getD a.toNat default).peak,(b.getD a.toNat default).events⟩:Af)).getD a.toNat default).peak ((b.set a.toNat (⟨(b.getD a.toNat default).group,(w64 ((b.getD a.toNat default).now+f)),(b.getD a.toNat default).limit,(b.getD a.toNat default).peak,(b.getD a.toNat default).events⟩:Af)).getD a.toNat default).now),((b.set a.toNat (⟨(b.getD a.toNat default).group,(w64 ((b.getD a.toNat default).now+f)),(b.getD a.toNat default).limit,(b.getD a.toNat default).peak,(b.getD a.toNat default).events⟩:Af)).getD a.toNat default).events⟩:Af)))else none)else none)else none)else none)else none)else none))
def ArJ(a:List Af):Option (List Af):=(some a)
def Acx(f:Aa)(p1:List Af)(p2:Int)(b:Int):Option (List Af):=((Fe p1).bind fun g=>((Da f.tree p2).bind fun a=>(if a.length<=9223372036854775807 then Ba (AjH b) ArJ a 0 g else none)))
def AfK(f:Aa)(p1:Aa)(p2:List Af)(b:Int)(i:Int)(g:Int):Option (Aa×(List Af)×Int×Int):=(if(g !=0)then((AiY g).bind fun a=>(some (a.1,a.2.1,a.2.2.1,a.2.2.2)))else((AcX f p2 b).bind fun j=>(if(decide (j<1))then((Aed f p2 b 1).bind fun k=>(some ((⟨⟨[],0⟩,[],0⟩:Aa),k.1,0,11)))else((Acx f p2 b 1).bind fun h=>(some (p1,h,i,0))))))
def AfI(f:Aa)(p1:List Af)(p2:Int):Option (Aa×(List Af)×Int×Int):=((Ot f p1).bind fun i=>(if(!i)then((AiY 1).bind fun b=>(some (b.1,b.2.1,b.2.2.1,b.2.2.2)))else((No f p2).bind fun h=>((AbZ f p2).bind fun g=>((AfK f g.1 p1 h.1.group g.2.1 g.2.2).bind fun a=>(some (a.1,a.2.1,a.2.2.1,a.2.2.2)))))))
def Ast(a:List Int):Option Aj:=(some (⟨a,0⟩:Aj))
def Vb(a:Aj)(b:Int):Option (Int×Aj):=(some (b,({a with atF:=(w64 (a.atF+1))}:Aj)))
def Bo(a:Aj)(p1:Int):Option (Int×Aj):=(if((decide (a.atF>=(a.l.length:Int)))||(decide (p1<1)))then(some (0,a))else(if 0<=(w64 ((w64 (a.atF+1))-1))/\(w64 ((w64 (a.atF+1))-1))<(a.l.length:Int)then(if(p1:Int)≠0 then(if(decide ((Int.tmod (a.l.getD (Int.toNat (w64 ((w64 (a.atF+1))-1))) 0) p1)<0))then((Vb a) (w64 ((Int.tmod (a.l.getD (Int.toNat (w64 ((w64 (a.atF+1))-1))) 0) p1)+p1)))else((Vb a) (Int.tmod (a.l.getD (Int.toNat (w64 ((w64 (a.atF+1))-1))) 0) p1)))else none)else none))
def Tk(b:Aj):Option (ByteArray×Aj):=((Bo b 6).bind fun a=>(if 0<=a.1/\a.1<(([(bs [97]),(bs [98]),(bs [99]),(bs [119,101,98]),(bs [100,98,45,49]),(bs [88,95,57])].length:Nat):Int)then(if a.1.toNat < [(bs [97]),(bs [98]),(bs [99]),(bs [119,101,98]),(bs [100,98,45,49]),(bs [88,95,57])].length then(some (([(bs [97]),(bs [98]),(bs [99]),(bs [119,101,98]),(bs [100,98,45,49]),(bs [88,95,57])].getD a.1.toNat ByteArray.empty),a.2))else none)else none))
def Dk(b:Aj)(p1:Int):Option (Bool×Aj):=((Bo b p1).bind fun a=>(some ((a.1==(w64 (p1-1))),a.2)))
def Abg(n1:(List Ah)->Option (Ae×Int))(a:List Ah):Option (Ae×Int):=(n1 a)
def Afc(p1:Int)(k1:Nat)(b:Ah)(a:List Ah)(n1:(List Ah)->Option (Ae×Int)):Option (Ae×Int):=(if(b.id !=p1)then(if a.length+1<=1073741824 then((Abg n1) (a++[b]))else none)else((Abg n1) a))
def Afk(b:Ae)(a:List Ah):Option (Ae×Int):=(some (({b with nodes:=a}:Ae),0))
def Aee(a:Ae)(p1:Int):Option (Ae×Int):=((Pc a).bind fun g=>(if(!g)then(some ((⟨[],0⟩:Ae),1))else((Gz a p1).bind fun f=>(if(!f)then(some ((⟨[],0⟩:Ae),4))else(if(p1==1)then(some ((⟨[],0⟩:Ae),9))else((Ll a p1).bind fun b=>(if(decide ((b.length:Int)>0))then(some ((⟨[],0⟩:Ae),6))else(if a.nodes.length<=9223372036854775807 then Ba (Afc p1) (Afk a) a.nodes 0 []else none))))))))
def Mn(b:Aj×Ae×Int)(n1:(Aj×Ae×Int)->Option (Ae×Aj))(a:Aj×Ae):Option (Ae×Aj):=(n1 (a.1,a.2,(w64 (b.2.2-1))))
def Qa(h:Aj×Ae×Int)(n1:(Aj×Ae×Int)->Option (Ae×Aj))(i:ByteArray×Aj)(f:Ae):Option (Ae×Aj):=((Dk i.2 6).bind fun b=>(if b.1 then((Bo b.2 (f.nodes.length:Int)).bind fun a=>(if 0<=a.1/\a.1<(f.nodes.length:Int)then((Aee f (f.nodes.getD a.1.toNat default).id).bind fun g=>(if(g.2==0)then((Mn h n1) (a.2,g.1))else((Mn h n1) (a.2,f))))else none))else((Mn h n1) (b.2,f))))
def AgO(a:Aj×Ae×Int)(n1:(Aj×Ae×Int)->Option (Ae×Aj)):Option (Ae×Aj):=(if(decide (a.2.2>0))then((Bo a.1 (a.2.1.nodes.length:Int)).bind fun b=>(if 0<=b.1/\b.1<(a.2.1.nodes.length:Int)then((Tk b.2).bind fun f=>((AkM a.2.1 (a.2.1.nodes.getD b.1.toNat default).id f.1).bind fun g=>(if(g.2.2==0)then((Qa a n1 f) g.1)else((Qa a n1 f) a.2.1))))else none))else(some (a.2.1,a.1)))
def To(f:Aj)(p1:Int):Option (Ae×Aj):=(Option.bind Akf fun b=>((Bo f (w64 (p1+1))).bind fun a=>(whileO AgO Ik (a.2,b,a.1))))
def Oj(p1:Ae)(f:Bool×Aj)(g:Bool):Option (Int×Aj):=(if g then((Bo f.2 9).bind fun b=>(some ((w64 (b.1-1)),b.2)))else((Bo f.2 (p1.nodes.length:Int)).bind fun a=>(if 0<=a.1/\a.1<(p1.nodes.length:Int)then(some ((p1.nodes.getD a.1.toNat default).id,a.2))else none)))
def Kx(b:Aj)(p1:Ae):Option (Int×Aj):=((Dk b 15).bind fun a=>(if a.1 then((Oj p1 a) true)else((Oj p1 a) ((p1.nodes.length:Int)==0))))
def Kb(b:Aj):Option (Int×Aj):=((Bo b 9).bind fun a=>(if 0<=a.1/\a.1<(([1,9,31,2,25,4,0,32,(-1)].length:Nat):Int)then(if a.1.toNat < [1,9,31,2,25,4,0,32,(-1)].length then(some (([1,9,31,2,25,4,0,32,(-1)].getD a.1.toNat 0),a.2))else none)else none))
def Ahb(a:Int):Option Bool:=(some ((decide (a>=0))&&(decide (a<=31))))
def AfQ(b:(List Ah)×Int)(n1:((List Ah)×Int)->Option Ae)(a:List Ah):Option Ae:=(n1 (a,(w64 (b.2+1))))
def Apv(p1:Ah)(b:Ae)(a:(List Ah)×Int)(n1:((List Ah)×Int)->Option Ae):Option Ae:=(if(decide (a.2<(a.1.length:Int)))then(if 0<=a.2/\a.2<(a.1.length:Int)then(if a.2.toNat<a.1.length then(if((a.1.getD a.2.toNat default).id==p1.id)then(if 0<=a.2/\a.2<(a.1.length:Int)then(if a.2.toNat<a.1.length then((AfQ a n1) (a.1.set a.2.toNat p1))else none)else none)else((AfQ a n1) a.1))else none)else none)else(some ({b with nodes:=a.1}:Ae)))
def Adk(b:Ae)(p1:Ah):Option Ae:=((Yw b).bind fun a=>(whileO (Apv p1 a) Ik (a.nodes,0)))
def AgV(g:Aa)(b:Int)(k1:Nat)(f:Int)(h:Unit)(n1:Unit->Option (Aa×Int)):Option (Aa×Int):=((Dr g.tree f).bind fun a=>(if((kand .i64 a.1.control b)!=0)then(some ((⟨⟨[],0⟩,[],0⟩:Aa),9))else(n1 ())))
def Mx(g:Aa)(p2:Int)(h:Int)(a:Ah×Bool)(i:Bool):Option (Aa×Int):=(if i then(some ((⟨⟨[],0⟩,[],0⟩:Aa),6))else((Yg g).bind fun b=>((Adk g.tree (⟨a.1.id,a.1.parent,a.1.name,(kor .i64 (Bp .i64 a.1.control h) p2),a.1.kind,a.1.owner⟩:Ah)).bind fun f=>(some (({b with tree:=f}:Aa),0)))))
def Agw(f:Aa)(p1:Int)(p2:Int)(b:Int)(a:Ah×Bool)(h:Unit):Option (Aa×Int):=(if((Bp .i64 (kand .i64 (kor .i64 (Bp .i64 a.1.control b) p2) 6) a.1.control)!=0)then(if(p1 !=1)then((Mq f p1).bind fun g=>((Mx f p2 b a) (decide ((g.length:Int)>0))))else((Mx f p2 b a) false))else((Mx f p2 b a) false))
def Hu(a:Aa)(p1:Int)(p2:Int)(g:Int)(i:Bool):Option (Aa×Int):=(if i then(some ((⟨⟨[],0⟩,[],0⟩:Aa),1))else((Dr a.tree p1).bind fun h=>(if(!h.2)then(some ((⟨⟨[],0⟩,[],0⟩:Aa),4))else((Me a.tree p1).bind fun f=>(if((Bp .i64 p2 f)!=0)then(some ((⟨⟨[],0⟩,[],0⟩:Aa),9))else((Ll a.tree p1).bind fun b=>(if b.length<=9223372036854775807 then Ba (AgV a g) (Agw a p1 p2 g h) b 0 ()else none)))))))
def Yz(b:Aa)(p1:Int)(p2:Int)(a:Int):Option (Aa×Int):=((Ux b).bind fun h=>(if(!h)then((Hu b p1 p2 a) true)else((Ahb p2).bind fun f=>(if(!f)then((Hu b p1 p2 a) true)else((Ahb a).bind fun g=>(if(!g)then((Hu b p1 p2 a) true)else((Hu b p1 p2 a) ((kand .i64 p2 a)!=0))))))))
def Se(b:Aa)(p1:Int)(p2:Int)(f:Int):Option (Aa×Int):=((Jx b).bind fun h=>(if(!h)then(some ((⟨⟨[],0⟩,[],0⟩:Aa),1))else((Yz b p1 p2 f).bind fun a=>(if(a.2 !=0)then(some ((⟨⟨[],0⟩,[],0⟩:Aa),a.2))else((Jx a.1).bind fun g=>(if(!g)then(some ((⟨⟨[],0⟩,[],0⟩:Aa),10))else(some (a.1,0))))))))
def Tb(b:Aa)(a:Ae)(f:Bool):Option (Aa×Int):=(if f then(some ((⟨⟨[],0⟩,[],0⟩:Aa),6))else(some (({b with tree:=a}:Aa),0)))
def Kc(i:Aa)(p1:Int)(f:Ah×Bool)(j:Bool):Option (Aa×Int):=(if j then(some ((⟨⟨[],0⟩,[],0⟩:Aa),10))else(if((kand .i64 f.1.control 6)!=0)then(some ((⟨⟨[],0⟩,[],0⟩:Aa),9))else((Yg i).bind fun b=>((Adk i.tree (⟨f.1.id,f.1.parent,f.1.name,f.1.control,1,f.1.owner⟩:Ah)).bind fun a=>((Mq i p1).bind fun g=>(if(decide ((g.length:Int)>0))then((Tb b a) true)else((Jx ({b with tree:=a}:Aa)).bind fun h=>((Tb b a) (!h)))))))))
def Px(a:Aa)(p1:Int):Option (Aa×Int):=((Jx a).bind fun h=>(if(!h)then(some ((⟨⟨[],0⟩,[],0⟩:Aa),1))else((Dr a.tree p1).bind fun b=>(if(!b.2)then(some ((⟨⟨[],0⟩,[],0⟩:Aa),4))else(if((p1==1)||(b.1.kind==1))then(some ((⟨⟨[],0⟩,[],0⟩:Aa),9))else((Dr a.tree b.1.parent).bind fun f=>((Lm a.tree f.1.id).bind fun g=>(if(g==3)then((Kc a p1 b) true)else(if(f.1.id !=1)then((Kc a p1 b) ((kand .i64 f.1.control 6)!=0))else((Kc a p1 b) false))))))))))
def Jn(a:Aj×Aa):Option (Aa×Aj):=(some (a.2,a.1))
def Qc(p1:Aa)(g:Int×Aj)(b:Int×Aj)(l:Bool):Option (Aa×Aj):=(if l then((Kb b.2).bind fun h=>((Se p1 g.1 h.1 0).bind fun j=>(if(j.2==0)then(some (j.1,h.2))else(Jn (h.2,p1)))))else(if(b.1==2)then((Px p1 g.1).bind fun k=>(if(k.2==0)then(some (k.1,b.2))else(Jn (b.2,p1))))else(if(b.1==3)then((Dr p1.tree g.1).bind fun a=>(if(a.2&&(g.1 !=1))then((Bo b.2 3).bind fun f=>((Adk p1.tree (⟨a.1.id,a.1.parent,a.1.name,a.1.control,a.1.kind,f.1⟩:Ah)).bind fun i=>(Jn (f.2,({p1 with tree:=i}:Aa)))))else(Jn (b.2,p1))))else(Jn (b.2,p1)))))
def Zl(f:Aj)(p1:Aa):Option (Aa×Aj):=((Kx f p1.tree).bind fun b=>((Bo b.2 5).bind fun a=>(if(a.1==0)then((Qc p1 b a) (a.1==0))else((Qc p1 b a) (a.1==1)))))
def Mp(a:Aa)(p1:Int):Option Int:=((Jx a).bind fun g=>(if(!g)then(some 1)else((Dr a.tree p1).bind fun b=>(if(!b.2)then(some 4)else((Lm a.tree p1).bind fun f=>(if(f==3)then(some 10)else(if((p1 !=1)&&((kand .i64 b.1.control 6)!=0))then(some 6)else(some 0))))))))
def Qf(p1:Aa)(f:Bool×Aj)(g:Bool):Option (Int×Aj):=(if g then((Bo f.2 9).bind fun b=>(some ((w64 (b.1-1)),b.2)))else((Bo f.2 (p1.tasks.length:Int)).bind fun a=>(if 0<=a.1/\a.1<(p1.tasks.length:Int)then(some ((p1.tasks.getD a.1.toNat default).id,a.2))else none)))
def Md(b:Aj)(p1:Aa):Option (Int×Aj):=((Dk b 15).bind fun a=>(if a.1 then((Qf p1 a) true)else((Qf p1 a) ((p1.tasks.length:Int)==0))))
def AfP(a:Aa)(p1:Int):Option (Aa×Int×Int):=((Hc a).bind fun g=>(if(!g)then(some ((⟨⟨[],0⟩,[],0⟩:Aa),0,1))else((Jv a p1).bind fun f=>(if(!f.2)then(some ((⟨⟨[],0⟩,[],0⟩:Aa),0,4))else((AgY a f.1).bind fun b=>(some (b.1,b.2.1,b.2.2)))))))
def AcF(b:(List Ar)×Int)(n1:((List Ar)×Int)->Option (Aa×Int))(a:List Ar):Option (Aa×Int):=(n1 (a,(w64 (b.2+1))))
def Acf(p1:Int)(p2:Int)(b:Aa)(a:(List Ar)×Int)(n1:((List Ar)×Int)->Option (Aa×Int)):Option (Aa×Int):=(if(decide (a.2<(a.1.length:Int)))then(if 0<=a.2/\a.2<(a.1.length:Int)then(if a.2.toNat<a.1.length then(if((a.1.getD a.2.toNat default).id==p1)then(if 0<=a.2/\a.2<(a.1.length:Int)then(if a.2.toNat<a.1.length then((AcF a n1) (a.1.set a.2.toNat (⟨(a.1.getD a.2.toNat default).id,(a.1.getD a.2.toNat default).process,p2,(a.1.getD a.2.toNat default).user⟩:Ar)))else none)else none)else((AcF a n1) a.1))else none)else none)else(some (({b with tasks:=a.1}:Aa),0)))
def AcR(f:Aa)(p1:Int)(p2:Int)(b:Bool):Option (Aa×Int):=(if b then(some ((⟨⟨[],0⟩,[],0⟩:Aa),4))else((Yg f).bind fun a=>(whileO (Acf p1 p2 a) Ik (a.tasks,0))))
def AcM(a:Aa)(p1:Int)(p2:Int):Option (Aa×Int):=((Hc a).bind fun g=>(if(!g)then(some ((⟨⟨[],0⟩,[],0⟩:Aa),1))else((Jv a p1).bind fun b=>(if(!b.2)then((AcR a p1 p2) true)else((Gz a.tree p2).bind fun f=>((AcR a p1 p2) (!f)))))))
def Iy(b:Aa)(p1:Int)(p2:Int)(h:Ar×Bool)(j:Bool):Option (Aa×Int):=(if j then(some ((⟨⟨[],0⟩,[],0⟩:Aa),4))else((Mp b p2).bind fun g=>(if(g !=0)then(some ((⟨⟨[],0⟩,[],0⟩:Aa),g))else((Mw b.tree p2).bind fun i=>((Mw b.tree h.1.group).bind fun f=>(if(i.1 !=f.1)then(some ((⟨⟨[],0⟩,[],0⟩:Aa),9))else((AcM b p1 p2).bind fun a=>(some (a.1,a.2)))))))))
def Im(a:Aa)(p1:Int)(p2:Int):Option (Aa×Int):=((Jx a).bind fun g=>(if(!g)then(some ((⟨⟨[],0⟩,[],0⟩:Aa),1))else((Jv a p1).bind fun b=>(if(!b.2)then((Iy a p1 p2 b) true)else((Gz a.tree p2).bind fun f=>((Iy a p1 p2 b) (!f)))))))
def Aeh(n1:(List Ar)->Option (Aa×Int))(a:List Ar):Option (Aa×Int):=(n1 a)
def AiU(p1:Int)(k1:Nat)(a:Ar)(b:List Ar)(n1:(List Ar)->Option (Aa×Int)):Option (Aa×Int):=(if((a.id !=p1)&&(a.process !=p1))then(if b.length+1<=1073741824 then((Aeh n1) (b++[a]))else none)else((Aeh n1) b))
def Ajb(f:Aa)(b:Ae)(a:List Ar):Option (Aa×Int):=(some (({f with tree:=b,tasks:=a}:Aa),0))
def Air(a:Aa)(p1:Int):Option (Aa×Int):=((Hc a).bind fun g=>(if(!g)then(some ((⟨⟨[],0⟩,[],0⟩:Aa),1))else((Jv a p1).bind fun b=>(if(!b.2)then(some ((⟨⟨[],0⟩,[],0⟩:Aa),4))else((Yw a.tree).bind fun f=>(if a.tasks.length<=9223372036854775807 then Ba (AiU p1) (Ajb a f) a.tasks 0 []else none))))))
def Fj(b:Aj×Aa×Int)(f:(Aj×Aa×Int)->Option (Aa×Aj))(a:Aj×Aa):Option (Aa×Aj):=(f (a.1,a.2,(w64 (b.2.2-1))))
def Gv(h:Aj×Aa×Int)(i:(Aj×Aa×Int)->Option (Aa×Aj))(a:Aj×Aa):Option (Aa×Aj):=((Dk a.1 8).bind fun b=>(if b.1 then((Md b.2 a.2).bind fun f=>((Air a.2 f.1).bind fun g=>(if(g.2==0)then((Fj h i) (f.2,g.1))else((Fj h i) (f.2,a.2)))))else((Fj h i) (b.2,a.2))))
def Gw(i:Aj×Aa×Int)(j:(Aj×Aa×Int)->Option (Aa×Aj))(a:Aj×Aa):Option (Aa×Aj):=((Dk a.1 4).bind fun f=>(if f.1 then((Md f.2 a.2).bind fun h=>((Kx h.2 a.2.tree).bind fun b=>((Im a.2 h.1 b.1).bind fun g=>(if(g.2==0)then((Gv i j) (b.2,g.1))else((Gv i j) (b.2,a.2))))))else((Gv i j) (f.2,a.2))))
def Ja(h:Aj×Aa×Int)(i:(Aj×Aa×Int)->Option (Aa×Aj))(j:Int×Aj)(a:Aa):Option (Aa×Aj):=((Dk j.2 3).bind fun f=>(if f.1 then((Md f.2 a).bind fun b=>((AfP a b.1).bind fun g=>(if(g.2.2==0)then((Gw h i) (b.2,g.1))else((Gw h i) (b.2,a)))))else((Gw h i) (f.2,a))))
def AbI(a:Aj×Aa×Int)(h:(Aj×Aa×Int)->Option (Aa×Aj)):Option (Aa×Aj):=(if(decide (a.2.2>0))then((Kx a.1 a.2.1.tree).bind fun b=>((Mp a.2.1 b.1).bind fun i=>(if(i !=0)then((Fj a h) (b.2,a.2.1))else((Bo b.2 3).bind fun f=>((AfE a.2.1 b.1 f.1).bind fun g=>(if(g.2.2==0)then((Ja a h f) g.1)else((Ja a h f) a.2.1)))))))else(some (a.2.1,a.1)))
def AbL(p2:Int)(a:Aj×Aa×Int)(n1:(Aj×Aa×Int)->Option (Aa×Aj)):Option (Aa×Aj):=(if(decide (a.2.2>0))then((Zl a.1 a.2.1).bind fun b=>(n1 (b.2,b.1,(w64 (a.2.2-1)))))else((Bo a.1 (w64 (p2+1))).bind fun f=>(whileO AbI Ik (f.2,a.2.1,f.1))))
def Lu(f:Aj)(p1:Int)(p2:Int):Option (Aa×Aj):=(Option.bind AtJ fun g=>((To f p1).bind fun a=>((Bo a.2 (w64 (p1+3))).bind fun b=>(whileO (AbL p2) Ik (b.2,({g with tree:=a.1}:Aa),b.1)))))
def AdQ(a:Aa)(p1:List Af)(p2:Int)(b:Bool):Option Int:=(if b then(some 0)else((AcX a p1 p2).bind fun f=>(some f)))
def AeA(a:Aa)(p1:List Af)(p2:Int):Option Int:=((Ot a p1).bind fun f=>(if(!f)then((AdQ a p1 p2) true)else((Tc p1 p2).bind fun b=>((AdQ a p1 p2) (decide (b<0))))))
def Zh(b:Aa)(p1:Int)(p2:Int)(f:Bool):Option (Aa×Int×Int):=(if f then(some ((⟨⟨[],0⟩,[],0⟩:Aa),0,1))else((Fp b.tree p1).bind fun g=>(if(decide (g<0))then(some ((⟨⟨[],0⟩,[],0⟩:Aa),0,4))else((AcS b (⟨0,0,p1,p2⟩:Ar)).bind fun a=>(some (a.1,a.2.1,a.2.2))))))
def Amc(a:Aa)(p1:Int)(p2:Int):Option (Aa×Int×Int):=((Hy a).bind fun b=>(if(!b)then((Zh a p1 p2) true)else(if(decide (p2<0))then((Zh a p1 p2) true)else((Zh a p1 p2) (decide (p2>1048576))))))
def Ts(a:Aa):Option Aa:=((Hy a).bind fun b=>(if(!b)then(some (⟨⟨[],0⟩,[],0⟩:Aa))else(some a)))
def Adh(a:Ar)(p1:Int):Option Bool:=(some (a.process==p1))
def AjJ(a:Ar):Option Int:=(some a.id)
def Ahf(a:Int×Int):Option Int:=(if 0<=(IntKind.u8.wrap a.1)/\(IntKind.u8.wrap a.1)<(((bs [0,1,2,2,3,3,3,3,4,4,4,4,4,4,4,4,5,5,5,5,5,5,5,5,5,5,5,5,5,5,5,5,6,6,6,6,6,6,6,6,6,6,6,6,6,6,6,6,6,6,6,6,6,6,6,6,6,6,6,6,6,6,6,6,7,7,7,7,7,7,7,7,7,7,7,7,7,7,7,7,7,7,7,7,7,7,7,7,7,7,7,7,7,7,7,7,7,7,7,7,7,7,7,7,7,7,7,7,7,7,7,7,7,7,7,7,7,7,7,7,7,7,7,7,7,7,7,7,8,8,8,8,8,8,8,8,8,8,8,8,8,8,8,8,8,8,8,8,8,8,8,8,8,8,8,8,8,8,8,8,8,8,8,8,8,8,8,8,8,8,8,8,8,8,8,8,8,8,8,8,8,8,8,8,8,8,8,8,8,8,8,8,8,8,8,8,8,8,8,8,8,8,8,8,8,8,8,8,8,8,8,8,8,8,8,8,8,8,8,8,8,8,8,8,8,8,8,8,8,8,8,8,8,8,8,8,8,8,8,8,8,8,8,8,8,8,8,8,8,8,8,8,8,8,8,8]).size:Nat):Int)then(some (w64 (a.2+(w64 (((Cb (bs [0,1,2,2,3,3,3,3,4,4,4,4,4,4,4,4,5,5,5,5,5,5,5,5,5,5,5,5,5,5,5,5,6,6,6,6,6,6,6,6,6,6,6,6,6,6,6,6,6,6,6,6,6,6,6,6,6,6,6,6,6,6,6,6,7,7,7,7,7,7,7,7,7,7,7,7,7,7,7,7,7,7,7,7,7,7,7,7,7,7,7,7,7,7,7,7,7,7,7,7,7,7,7,7,7,7,7,7,7,7,7,7,7,7,7,7,7,7,7,7,7,7,7,7,7,7,7,7,8,8,8,8,8,8,8,8,8,8,8,8,8,8,8,8,8,8,8,8,8,8,8,8,8,8,8,8,8,8,8,8,8,8,8,8,8,8,8,8,8,8,8,8,8,8,8,8,8,8,8,8,8,8,8,8,8,8,8,8,8,8,8,8,8,8,8,8,8,8,8,8,8,8,8,8,8,8,8,8,8,8,8,8,8,8,8,8,8,8,8,8,8,8,8,8,8,8,8,8,8,8,8,8,8,8,8,8,8,8,8,8,8,8,8,8,8,8,8,8,8,8,8,8,8,8,8,8]) (Int.toNat (IntKind.u8.wrap a.1))):Nat):Int)))))else none)
def Agx(a:Int×Int):Option Int:=(if(decide (a.1>=256))then(Ahf ((kshr .u64 a.1 8),(w64 (a.2+8))))else(Ahf (a.1,a.2)))
def Aha(a:Int×Int):Option Int:=(if(decide (a.1>=65536))then(Agx ((kshr .u64 a.1 16),(w64 (a.2+16))))else(Agx (a.1,a.2)))
def ApS(a:Int):Option Int:=(if(decide (a>=4294967296))then(Aha ((kshr .u64 a 32),32))else(Aha (a,0)))
def Abv(b:Int):Option Int:=((ApS b).bind fun a=>(some a))
def Abo(a:Int):Option Bool:=(some (a !=a))
def Te(a:Bool):Option Bool:=(some a)
def Km(a:Int)(p1:Int):Option Bool:=((Abo a).bind fun b=>(if b then((Abo p1).bind fun f=>(if(!f)then(Te true)else(Te (decide (a<p1)))))else(Te (decide (a<p1)))))
def Gd(n1:(List Int)->Option (List Int))(a:(List Int)×Int)(f:((List Int)×Int)->Option (List Int))(b:Bool):Option (List Int):=(if b then(if 0<=(w64 (a.2-1))/\(w64 (a.2-1))<(a.1.length:Int)then(if(Int.toNat (w64 (a.2-1)))<a.1.length then(if 0<=a.2/\a.2<(a.1.length:Int)then(if a.2.toNat<a.1.length then(if 0<=a.2/\a.2<(a.1.length:Int)then(if a.2.toNat<a.1.length then(if 0<=(w64 (a.2-1))/\(w64 (a.2-1))<(a.1.length:Int)then(if(Int.toNat (w64 (a.2-1)))<a.1.length then(f (((a.1.set a.2.toNat (a.1.getD (Int.toNat (w64 (a.2-1))) 0)).set (Int.toNat (w64 (a.2-1))) (a.1.getD a.2.toNat 0)),(w64 (a.2-1))))else none)else none)else none)else none)else none)else none)else none)else none)else(n1 a.1))
def Pg(p1:Int)(n1:(List Int)->Option (List Int))(a:(List Int)×Int)(f:((List Int)×Int)->Option (List Int)):Option (List Int):=(if(decide (a.2>p1))then(if 0<=a.2/\a.2<(a.1.length:Int)then(if a.2.toNat<a.1.length then(if 0<=(w64 (a.2-1))/\(w64 (a.2-1))<(a.1.length:Int)then(if(Int.toNat (w64 (a.2-1)))<a.1.length then((Km (a.1.getD a.2.toNat 0) (a.1.getD (Int.toNat (w64 (a.2-1))) 0)).bind fun b=>((Gd n1 a f) b))else none)else none)else none)else none)else((Gd n1 a f) false))
def Pl(p1:Int)(k1:Int)(a:List Int)(n1:(List Int)->Option (List Int)):Option (List Int):=(whileO (Pg p1 n1) Ik (a,k1))
def AaI(a:List Int):Option (List Int):=(some a)
def Gs(a:List Int)(p1:Int)(p2:Int):Option (List Int):=(if -9223372036854775808<=(w64 (p1+1))/\p2<=9223372036854775807 then(forO (Pl p1) AaI (Int.toNat (p2-(w64 (p1+1)))) (w64 (p1+1)) a)else none)
def Fs(a:List Int)(p1:Int)(p2:Int)(b:Int):Option (Int×Int×Int):=(if 0<=p2/\p2<(a.length:Int)then(if 0<=p1/\p1<(a.length:Int)then((Km (a.getD p2.toNat 0) (a.getD p1.toNat 0)).bind fun f=>(if f then(some (p2,p1,(w64 (b+1))))else(some (p1,p2,b))))else none)else none)
def Hw(a:List Int)(p1:Int)(p2:Int)(h:Int)(i:Int):Option (Int×Int):=((Fs a p1 p2 i).bind fun b=>((Fs a b.2.1 h b.2.2).bind fun f=>((Fs a b.1 f.1 f.2.2).bind fun g=>(some (g.2.1,g.2.2)))))
def Ds(b:List Int)(p1:Int)(p2:Int):Option (Int×Int):=((Hw b (w64 (p1-1)) p1 (w64 (p1+1)) p2).bind fun a=>(some (a.1,a.2)))
def Gt(a:Int×Int):Option (Int×Int):=(if(a.1==0)then(some (a.2,1))else(if(a.1==12)then(some (a.2,2))else(some (a.2,0))))
def Gu(f:List Int)(a:Int×Int×Int×Int):Option (Int×Int):=((Hw f a.2.1 a.2.2.1 a.2.2.2 a.1).bind fun b=>(Gt (b.2,b.1)))
def Ho(a:List Int)(p1:Int)(p2:Int):Option (Int×Int):=(if(decide ((w64 (p2-p1))>=8))then(if(decide ((w64 (p2-p1))>=50))then((Ds a (w64 (p1+(w64 ((w64 (Int.tdiv (w64 (p2-p1)) 4))*1)))) 0).bind fun f=>((Ds a (w64 (p1+(w64 ((w64 (Int.tdiv (w64 (p2-p1)) 4))*2)))) f.2).bind fun b=>((Ds a (w64 (p1+(w64 ((w64 (Int.tdiv (w64 (p2-p1)) 4))*3)))) b.2).bind fun g=>((Gu a) (g.2,f.1,b.1,g.1)))))else((Gu a) (0,(w64 (p1+(w64 ((w64 (Int.tdiv (w64 (p2-p1)) 4))*1)))),(w64 (p1+(w64 ((w64 (Int.tdiv (w64 (p2-p1)) 4))*2)))),(w64 (p1+(w64 ((w64 (Int.tdiv (w64 (p2-p1)) 4))*3)))))))else(Gt (0,(w64 (p1+(w64 ((w64 (Int.tdiv (w64 (p2-p1)) 4))*2)))))))
def Ei(n1:((List Int)×Int)->Option (Bool×(List Int)))(a:(List Int)×Int):Option (Bool×(List Int)):=(n1 (a.1,a.2))
def Ui(n1:((List Int)×Int)->Option (Bool×(List Int)))(h:Int)(a:Int)(b:List Int)(g:(List Int)->Option (Bool×(List Int))):Option (Bool×(List Int)):=(if 0<=a/\a<(b.length:Int)then(if a.toNat<b.length then(if 0<=(w64 (a-1))/\(w64 (a-1))<(b.length:Int)then(if(Int.toNat (w64 (a-1)))<b.length then((Km (b.getD a.toNat 0) (b.getD (Int.toNat (w64 (a-1))) 0)).bind fun f=>(if(!f)then((Ei n1) (b,h))else(if 0<=(w64 (a-1))/\(w64 (a-1))<(b.length:Int)then(if(Int.toNat (w64 (a-1)))<b.length then(if 0<=a/\a<(b.length:Int)then(if a.toNat<b.length then(if 0<=a/\a<(b.length:Int)then(if a.toNat<b.length then(if 0<=(w64 (a-1))/\(w64 (a-1))<(b.length:Int)then(if(Int.toNat (w64 (a-1)))<b.length then(g ((b.set a.toNat (b.getD (Int.toNat (w64 (a-1))) 0)).set (Int.toNat (w64 (a-1))) (b.getD a.toNat 0)))else none)else none)else none)else none)else none)else none)else none)else none)))else none)else none)else none)else none)
def Ug(n1:((List Int)×Int)->Option (Bool×(List Int)))(a:Int)(b:List Int):Option (Bool×(List Int)):=((Ei n1) (b,a))
def Ej(p2:Int)(n1:((List Int)×Int)->Option (Bool×(List Int)))(a:Int)(b:List Int):Option (Bool×(List Int)):=(if(decide ((w64 (p2-a))>=2))then(if -9223372036854775808<=(w64 (a+1))/\p2<=9223372036854775807 then(forO (Ui n1 a) (Ug n1 a) (Int.toNat (p2-(w64 (a+1)))) (w64 (a+1)) b)else none)else((Ei n1) (b,a)))
def Uj(p2:Int)(n1:((List Int)×Int)->Option (Bool×(List Int)))(f:Int)(a:(List Int)×Int)(g:((List Int)×Int)->Option (Bool×(List Int))):Option (Bool×(List Int)):=(if(decide (a.2>=1))then(if 0<=a.2/\a.2<(a.1.length:Int)then(if a.2.toNat<a.1.length then(if 0<=(w64 (a.2-1))/\(w64 (a.2-1))<(a.1.length:Int)then(if(Int.toNat (w64 (a.2-1)))<a.1.length then((Km (a.1.getD a.2.toNat 0) (a.1.getD (Int.toNat (w64 (a.2-1))) 0)).bind fun b=>(if(!b)then((Ej p2 n1 f) a.1)else(if 0<=(w64 (a.2-1))/\(w64 (a.2-1))<(a.1.length:Int)then(if(Int.toNat (w64 (a.2-1)))<a.1.length then(if 0<=a.2/\a.2<(a.1.length:Int)then(if a.2.toNat<a.1.length then(if 0<=a.2/\a.2<(a.1.length:Int)then(if a.2.toNat<a.1.length then(if 0<=(w64 (a.2-1))/\(w64 (a.2-1))<(a.1.length:Int)then(if(Int.toNat (w64 (a.2-1)))<a.1.length then(g (((a.1.set a.2.toNat (a.1.getD (Int.toNat (w64 (a.2-1))) 0)).set (Int.toNat (w64 (a.2-1))) (a.1.getD a.2.toNat 0)),(w64 (a.2-1))))else none)else none)else none)else none)else none)else none)else none)else none)))else none)else none)else none)else none)else((Ej p2 n1 f) a.1))
def Eh(p1:Int)(p2:Int)(b:(List Int)×Int)(n1:((List Int)×Int)->Option (Bool×(List Int)))(a:Int)(g:Int->Option (Bool×(List Int)))(f:Bool):Option (Bool×(List Int)):=(if f then(g (w64 (a+1)))else(if(a==p2)then(some (true,b.1))else(if(decide ((w64 (p2-p1))<50))then(some (false,b.1))else(if 0<=(w64 (a-1))/\(w64 (a-1))<(b.1.length:Int)then(if(Int.toNat (w64 (a-1)))<b.1.length then(if 0<=a/\a<(b.1.length:Int)then(if a.toNat<b.1.length then(if 0<=a/\a<(b.1.length:Int)then(if a.toNat<b.1.length then(if 0<=(w64 (a-1))/\(w64 (a-1))<(b.1.length:Int)then(if(Int.toNat (w64 (a-1)))<b.1.length then(if(decide ((w64 (a-p1))>=2))then(whileO (Uj p2 n1 a) Ik (((b.1.set a.toNat (b.1.getD (Int.toNat (w64 (a-1))) 0)).set (Int.toNat (w64 (a-1))) (b.1.getD a.toNat 0)),(w64 (a-1))))else((Ej p2 n1 a) ((b.1.set a.toNat (b.1.getD (Int.toNat (w64 (a-1))) 0)).set (Int.toNat (w64 (a-1))) (b.1.getD a.toNat 0))))else none)else none)else none)else none)else none)else none)else none)else none))))
def Ki(p1:Int)(p2:Int)(b:(List Int)×Int)(n1:((List Int)×Int)->Option (Bool×(List Int)))(a:Int)(f:Int->Option (Bool×(List Int))):Option (Bool×(List Int)):=(if(decide (a<p2))then(if 0<=a/\a<(b.1.length:Int)then(if a.toNat<b.1.length then(if 0<=(w64 (a-1))/\(w64 (a-1))<(b.1.length:Int)then(if(Int.toNat (w64 (a-1)))<b.1.length then((Km (b.1.getD a.toNat 0) (b.1.getD (Int.toNat (w64 (a-1))) 0)).bind fun g=>((Eh p1 p2 b n1 a f) (!g)))else none)else none)else none)else none)else((Eh p1 p2 b n1 a f) false))
def Lf(p1:Int)(p2:Int)(k1:Int)(a:(List Int)×Int)(n1:((List Int)×Int)->Option (Bool×(List Int))):Option (Bool×(List Int)):=(whileO (Ki p1 p2 a n1) Ik a.2)
def Vc(a:(List Int)×Int):Option (Bool×(List Int)):=(some (false,a.1))
def Es(a:List Int)(p1:Int)(p2:Int):Option (Bool×(List Int)):=(forO (Lf p1 p2) Vc (Int.toNat (5-0)) 0 (a,(w64 (p1+1))))
def Ni(a:Bool):Option (List Int):=(if a then none else none)
def Nh(p1:Int)(b:Int×Int)(a:List Int):Option (List Int):=(if(decide (p1>0))then(if 0<=(w64 (p1-1))/\(w64 (p1-1))<(a.length:Int)then(if(Int.toNat (w64 (p1-1)))<a.length then(if 0<=b.1/\b.1<(a.length:Int)then(if b.1.toNat<a.length then((Km (a.getD (Int.toNat (w64 (p1-1))) 0) (a.getD b.1.toNat 0)).bind fun f=>(Ni (!f)))else none)else none)else none)else none)else(Ni false))
def Nn(b:List Int)(p1:Int)(p2:Int)(f:Int×Int)(g:Unit):Option (List Int):=(if(f.2==1)then((Es b p1 p2).bind fun a=>(if b.length=a.2.length then(if a.1 then(some a.2)else((Nh p1 f) a.2))else none))else((Nh p1 f) b))
def Uk(a:List Int)(p1:Int)(p2:Int)(g:Int)(h:Unit)(n1:Unit->Option (List Int)):Option (List Int):=(if(decide ((w64 (p2-p1))<=12))then((Gs a p1 p2).bind fun b=>(if a.length=b.length then(some b)else none))else(if(g==0)then none else((Ho a p1 p2).bind fun f=>(if(f.2==2)then none else((Nn a p1 p2 f) ())))))
def Ou(b:List Int)(p1:Int)(p2:Int)(a:Int):Option (List Int):=(whileO (Uk b p1 p2 a) Ik ())
def Nz(a:List Int):Option (List Int):=((Abv (IntKind.u64.wrap (a.length:Int))).bind fun f=>((Ou a 0 (a.length:Int) f).bind fun b=>(if a.length=b.length then(some b)else none)))
def Uy(b:((List Int)×Int)->Option (Nat×(List Int)))(a:(List Int)×Int):Option (Nat×(List Int)):=(b (a.1,a.2))
def Alb(f:List Int)(k1:Int)(b:Int)(a:(List Int)×Int)(g:((List Int)×Int)->Option (Nat×(List Int))):Option (Nat×(List Int)):=(if 0<=b/\b<(((Cq f.length k1.toNat):Nat):Int)then(if(Adq k1.toNat b.toNat)<a.1.length then(if 0<=(w64 (b-1))/\(w64 (b-1))<(((Cq f.length k1.toNat):Nat):Int)then(if(Adq k1.toNat (Int.toNat (w64 (b-1))))<a.1.length then(if((a.1.getD (Adq k1.toNat b.toNat) 0)!=(a.1.getD (Adq k1.toNat (Int.toNat (w64 (b-1)))) 0))then(if 0<=b/\b<(((Cq f.length k1.toNat):Nat):Int)then(if(Adq k1.toNat b.toNat)<a.1.length then(if 0<=a.2/\a.2<(a.1.length:Int)then(if a.2.toNat<a.1.length then((Uy g) ((a.1.set a.2.toNat (a.1.getD (Adq k1.toNat b.toNat) 0)),(w64 (a.2+1))))else none)else none)else none)else none)else((Uy g) (a.1,a.2)))else none)else none)else none)else none)
def AkO(a:(List Int)×Int):Option (Nat×(List Int)):=(if 0<=a.2/\a.2<=(a.1.length:Int)then(if a.2.toNat+(Cq a.1.length a.2.toNat)<=a.1.length then(if 0<=a.2/\a.2<=(((Iu a.1 a.2.toNat (Cq a.1.length a.2.toNat) 0).length:Nat):Int)then(some (a.2.toNat,(Iu a.1 a.2.toNat (Cq a.1.length a.2.toNat) 0)))else none)else none)else none)
def AcC(a:List Int)(k1:Int)(b:Unit)(n1:Unit->Option (Nat×(List Int))):Option (Nat×(List Int)):=(if 0<=k1/\k1<(a.length:Int)then(if k1.toNat<a.length then(if 0<=(w64 (k1-1))/\(w64 (k1-1))<(a.length:Int)then(if(Int.toNat (w64 (k1-1)))<a.length then(if((a.getD k1.toNat 0)==(a.getD (Int.toNat (w64 (k1-1))) 0))then(if 0<=k1/\k1<=(a.length:Int)then(if(((Cq a.length k1.toNat):Nat):Int)<=9223372036854775807 then(forO (Alb a k1) AkO (Int.toNat ((((Cq a.length k1.toNat):Nat):Int)-1)) 1 (a,k1))else none)else none)else(n1 ()))else none)else none)else none)else none)
def Ala(a:List Int)(b:Unit):Option (Nat×(List Int)):=(some (a.length,a))
def Jw(a:List Int):Option (Nat×(List Int)):=(if(decide ((a.length:Int)<2))then(some (a.length,a))else(if a.length<=9223372036854775807 then(forO (AcC a) (Ala a) (Int.toNat ((a.length:Int)-1)) 1 ())else none))
def Fm(n1:(List Int)->Option (List Int))(a:List Int):Option (List Int):=(n1 a)
def Ny(a:Int)(k1:Nat)(h:Ar)(f:List Int)(n1:(List Int)->Option (List Int)):Option (List Int):=((Adh h a).bind fun g=>(if g then((AjJ h).bind fun b=>(if f.length+1<=1073741824 then((Fm n1) (f++[b]))else none))else((Fm n1) f)))
def Hz(f:List Int):Option (List Int):=((Nz f).bind fun b=>(if f.length=b.length then((Jw b).bind fun a=>(if b.length=a.2.length then(if a.1<=a.2.length then(some (a.2.take a.1))else none)else none))else none))
def Je(b:Aa)(a:Int):Option (List Int):=(if b.tasks.length<=9223372036854775807 then Ba (Ny a) Hz b.tasks 0 []else none)
def Acm(b:Aa)(p1:Int):Option (List Int):=((Je b p1).bind fun a=>(some a))
def Agt(a:Ar)(p1:Int):Option Bool:=(some (a.group==p1))
def Ga(n1:(List Int)->Option (List Int))(a:List Int):Option (List Int):=(n1 a)
def Pd(a:Int)(k1:Nat)(h:Ar)(f:List Int)(n1:(List Int)->Option (List Int)):Option (List Int):=((Agt h a).bind fun g=>(if g then((AjJ h).bind fun b=>(if f.length+1<=1073741824 then((Ga n1) (f++[b]))else none))else((Ga n1) f)))
def Jb(f:List Int):Option (List Int):=((Nz f).bind fun b=>(if f.length=b.length then((Jw b).bind fun a=>(if b.length=a.2.length then(if a.1<=a.2.length then(some (a.2.take a.1))else none)else none))else none))
def Ke(b:Aa)(a:Int):Option (List Int):=(if b.tasks.length<=9223372036854775807 then Ba (Pd a) Jb b.tasks 0 []else none)
def Ov(b:Aa)(p1:Int):Option (List Int):=((Ke b p1).bind fun a=>(some a))
def Xv(f:Aa)(p1:Int):Option (List Int):=((Ts f).bind fun b=>((Ov b p1).bind fun a=>(some a)))
def Wh(f:Aa)(p1:Int):Option (Ar×Bool):=((Ts f).bind fun b=>((No b p1).bind fun a=>(some (a.1,a.2))))
def Aow(p1:List Int)(k1:Nat)(a:Int)(b:Unit)(n1:Unit->Option Bool):Option Bool:=(if k1<p1.length then(if(a !=(p1.getD k1 0))then(some false)else(n1 ()))else none)
def AvX(a:Unit):Option Bool:=(some true)
def AbO(a:List Int)(p1:List Int):Option Bool:=(if((a.length:Int)!=(p1.length:Int))then(some false)else(if a.length<=9223372036854775807 then Ba (Aow p1) AvX a 0 ()else none))
def Adm(n1:(List Int)->Option (List Int))(a:List Int):Option (List Int):=(n1 a)
def Ajh(p1:Int)(k1:Nat)(b:Ar)(a:List Int)(n1:(List Int)->Option (List Int)):Option (List Int):=(if(b.process==p1)then(if a.length+1<=1073741824 then((Adm n1) (a++[b.id]))else none)else((Adm n1) a))
def Aru(a:List Int):Option (List Int):=(some a)
def AgP(a:Aa)(p1:Int):Option (List Int):=((Hc a).bind fun b=>(if(!b)then(some [])else(if a.tasks.length<=9223372036854775807 then Ba (Ajh p1) Aru a.tasks 0 []else none)))
def Wi(a:Ae):Option Ae:=((Gx a.nodes).bind fun b=>(some ({a with nodes:=b}:Ae)))
def Rt(a:List Ah)(p1:Int)(p2:Int):Option (Nat×(List Ah)):=(if 0<=p1/\p1<=p2/\p2<=(a.length:Int)/\(a.length:Int)<=(a.length:Int)then(if(p1==p2)then(some (a.length,a))else(if 0<=p1/\p1<=(a.length:Int)then(if 0<=p2/\p2<=(a.length:Int)then(if 0+p1.toNat+(Cq a.length p2.toNat)<=a.length/\0<a.length then(if 0<=(((p1.toNat+(Cq a.length p2.toNat)):Nat):Int)/\(((p1.toNat+(Cq a.length p2.toNat)):Nat):Int)<=(a.length:Int)/\0+a.length<=(Vi a (0+p1.toNat) (Cq a.length p2.toNat) ((a.drop p2.toNat).take (Cq a.length p2.toNat))).length then(if(p1.toNat+(Cq a.length p2.toNat))+(Cq a.length (p1.toNat+(Cq a.length p2.toNat)))<=(Vi a (0+p1.toNat) (Cq a.length p2.toNat) ((a.drop p2.toNat).take (Cq a.length p2.toNat))).length then(some ((p1.toNat+(Cq a.length p2.toNat)),(Iu (Vi a (0+p1.toNat) (Cq a.length p2.toNat) ((a.drop p2.toNat).take (Cq a.length p2.toNat))) (p1.toNat+(Cq a.length p2.toNat)) (Cq a.length (p1.toNat+(Cq a.length p2.toNat))) (⟨0,0,ByteArray.empty,0,0,0⟩:Ah))))else none)else none)else none)else none)else none))else none)
def Aec(b:Ae)(p1:Int):Option (Ae×Int):=((Fp b p1).bind fun g=>((Ig b).bind fun h=>(if(!h)then(some ((⟨[],0⟩:Ae),1))else(if(decide (g<0))then(some ((⟨[],0⟩:Ae),4))else(if(p1==1)then(some ((⟨[],0⟩:Ae),9))else((Nw b p1).bind fun i=>(if(decide ((i.length:Int)>0))then(some ((⟨[],0⟩:Ae),6))else((Wi b).bind fun f=>((Rt f.nodes g (w64 (g+1))).bind fun a=>(if f.nodes.length=a.2.length then(if a.1<=a.2.length then(some (({f with nodes:=(a.2.take a.1)}:Ae),0))else none)else none))))))))))
def Abh(a:Aa)(p1:Int):Option (Aa×Int):=((Hy a).bind fun h=>(if(!h)then(some ((⟨⟨[],0⟩,[],0⟩:Aa),1))else((Aec a.tree p1).bind fun b=>(if(b.2 !=0)then(some ((⟨⟨[],0⟩,[],0⟩:Aa),b.2))else((Ov a p1).bind fun g=>(if(decide ((g.length:Int)>0))then(some ((⟨⟨[],0⟩,[],0⟩:Aa),6))else((Pj a).bind fun f=>(some (({f with tree:=b.1}:Aa),0)))))))))
def Aaa(a:Int):Option Int:=(some a)
def Tf(p1:Ah)(a:Int):Option Int:=(if(p1.kind==1)then(Aaa (Bp .i64 a 6))else(Aaa a))
def Yt(b:Ae)(p1:Ah):Option Int:=(if(p1.id !=1)then((Fz b p1.parent).bind fun a=>((Tf p1) a.1.control))else((Tf p1) 31))
def Rh(n1:Unit->Option Bool)(a:Bool):Option Bool:=(if a then(some false)else(n1 ()))
def AhL(g:Aa)(k1:Nat)(a:Ah)(h:Unit)(n1:Unit->Option Bool):Option Bool:=((Yt g.tree a).bind fun f=>(if((Bp .i64 a.control f)!=0)then(some false)else(if(a.id !=1)then(if((kand .i64 a.control 6)!=0)then((Ov g a.id).bind fun b=>((Rh n1) (decide ((b.length:Int)>0))))else((Rh n1) false))else((Rh n1) false))))
def AqI(a:Unit):Option Bool:=(some true)
def Qs(a:Aa):Option Bool:=((Hy a).bind fun b=>(if(!b)then(some false)else(if a.tree.nodes.length<=9223372036854775807 then Ba (AhL a) AqI a.tree.nodes 0 ()else none)))
def Afy(f:Ae)(k1:Nat)(b:Int)(g:Unit)(n1:Unit->Option Int):Option Int:=((Fz f b).bind fun a=>(if(a.1.kind !=1)then(some b)else(n1 ())))
def AnS(a:Unit):Option Int:=(some 0)
def Kr(b:Ae)(p1:Int):Option Int:=((Da b p1).bind fun a=>(if a.length<=9223372036854775807 then Ba (Afy b) AnS a 0 ()else none))
def Aeu(f:Ae)(p1:Int)(k1:Nat)(b:Int)(g:Unit)(n1:Unit->Option Bool):Option Bool:=((Fz f b).bind fun a=>(if(a.1.kind==1)then(some (b !=p1))else(n1 ())))
def AlW(a:Unit):Option Bool:=(some false)
def Jl(b:Ae)(p1:Int):Option Bool:=((Da b p1).bind fun a=>(if a.length<=9223372036854775807 then Ba (Aeu b p1) AlW a 0 ()else none))
def Rc(a:Bool):Option Bool:=(some a)
def Xi(p1:Ah)(a:Ah×Bool)(b:Bool):Option Bool:=(if b then(some false)else(some ((p1.parent==1)||((kand .i64 a.1.control 6)==0))))
def Abe(a:Aa)(p1:Ah):Option Bool:=(if(p1.kind !=1)then((Jl a.tree p1.id).bind fun f=>(if(!f)then(Rc true)else(if(p1.control==0)then((Ov a p1.id).bind fun h=>(Rc ((h.length:Int)==0)))else(Rc false))))else((Fz a.tree p1.parent).bind fun b=>(if(b.1.kind !=1)then((Jl a.tree p1.parent).bind fun g=>((Xi p1 b) g))else((Xi p1 b) false))))
def Xo(n1:(IMap Int)->Option Bool)(a:IMap Int):Option Bool:=(n1 a)
def Aiv(g:Aa)(k1:Nat)(a:Ar)(f:IMap Int)(n1:(IMap Int)->Option Bool):Option Bool:=(if(a.id==a.process)then((Kr g.tree a.group).bind fun b=>((Xo n1) (f.set a.id b)))else((Xo n1) f))
def AhZ(g:Aa)(f:IMap Int)(i:Nat)(b:Ar)(j:Unit)(h:Unit->Option Bool):Option Bool:=((Kr g.tree b.group).bind fun a=>(if(a !=(f.get b.process))then(some false)else(h ())))
def AgB(h:Aa)(i:Nat)(f:Ah)(g:Unit)(b:Unit->Option Bool):Option Bool:=((Abe h f).bind fun a=>(if(!a)then(some false)else(b ())))
def AoT(a:Unit):Option Bool:=(some true)
def AhM(a:Aa)(b:Unit):Option Bool:=(if a.tree.nodes.length<=9223372036854775807 then Ba (AgB a) AoT a.tree.nodes 0 ()else none)
def AhW(a:Aa)(b:IMap Int):Option Bool:=(if a.tasks.length<=9223372036854775807 then Ba (AhZ a b) (AhM a) a.tasks 0 ()else none)
def Dp(a:Aa):Option Bool:=((Qs a).bind fun b=>(if(!b)then(some false)else(if a.tasks.length<=9223372036854775807 then Ba (Aiv a) (AhW a) a.tasks 0 (IMap.empty 0)else none)))
def Sn(p1:Int)(b:Ah×Bool)(a:Bool):Option Int:=(if a then(some 10)else(if((p1 !=1)&&((kand .i64 b.1.control 6)!=0))then(some 6)else(some 0)))
def Rd(b:Aa)(p1:Int):Option Int:=((Fz b.tree p1).bind fun a=>(if(!a.2)then(some 4)else(if(a.1.kind !=1)then((Jl b.tree p1).bind fun f=>((Sn p1 a) f))else((Sn p1 a) false))))
def Afh(p2:Int)(k1:Nat)(b:Int)(f:Aa)(n1:Aa->Option (Aa×Int)):Option (Aa×Int):=((AcM f b p2).bind fun a=>(n1 a.1))
def Ata(a:Aa):Option (Aa×Int):=(some (a,0))
def Ra(f:Aa)(p1:Int)(p2:Int)(h:Bool):Option (Aa×Int):=(if h then(some ((⟨⟨[],0⟩,[],0⟩:Aa),4))else((Lm f.tree p2).bind fun g=>(if(g==2)then(some ((⟨⟨[],0⟩,[],0⟩:Aa),10))else((Mp f p2).bind fun a=>(if(a !=0)then(some ((⟨⟨[],0⟩,[],0⟩:Aa),a))else((AgP f p1).bind fun b=>(if b.length<=9223372036854775807 then Ba (Afh p2) Ata b 0 f else none)))))))
def AdX(a:Aa)(p1:Int)(p2:Int):Option (Aa×Int):=((Jx a).bind fun g=>(if(!g)then(some ((⟨⟨[],0⟩,[],0⟩:Aa),1))else((Jv a p1).bind fun b=>(if(!b.2)then((Ra a p1 p2) true)else(if(b.1.process !=p1)then((Ra a p1 p2) true)else((Gz a.tree p2).bind fun f=>((Ra a p1 p2) (!f))))))))
end Go.Dm

namespace Go.Dm
def Ok{V:Type}(m:Option V)(Q:V->Prop):Prop:=∃a,m=some a/\Q a
section
variable {V U γ O:Type} {Q:U->Prop}
theorem Ok.ret{b:U}(h:Q b):Ok (some b) Q:=⟨b,rfl,h⟩
theorem Ok.bind{m:Option V}{f:V->Option U}{P:V->Prop}(h:Ok m P)(k:∀a,P a->Ok (f a) Q):Ok (Option.bind m f) Q:=by
 obtain⟨a,rfl,b⟩:=h;exact k a b
theorem Ok.step{m:Option V}{f:V->Option U}{a:V}(h:m=some a)(k:Ok (f a) Q):Ok (Option.bind m f) Q:=by
 subst h;exact k
theorem Ok.eq{m:Option U}{b:U}(h:Ok m (· = b)):m=some b:=by
 obtain⟨a,rfl,rfl⟩:=h;rfl
theorem Ok.of_eq{m:Option U}{b:U}(h:m=some b)(a:Q b):Ok m Q:=⟨b,h,a⟩
theorem Ok.mono{m:Option U}{P:U->Prop}(h:Ok m P)(k:∀b,P b->Q b):Ok m Q:=by
 obtain⟨a,rfl,f⟩:=h;exact⟨a,rfl,k a f⟩
theorem Ok.guard{c:Prop}[Decidable c]{t:Option U}(a:c)(h:Ok t Q):Ok (if c then t else none) Q:=by
 rw[if_pos a];exact h
theorem Aya{c:Bool}{t e:Option U}(b:c=true->Ok t Q)(a:c=false->Ok e Q):Ok (if c then t else e) Q:=by
 cases c
 ·exact a rfl
 ·exact b rfl
theorem Ok.range{body:Nat->V->O->(O->Option U)->Option U}{done:O->Option U}{xs:List V}{s0:O}(I:List V->O->Prop)(f:I [] s0)
  (step:∀pre x post s n,xs=pre++x::post->I pre s->(∀a,I (pre++[x]) a->Ok (n a) Q)->Ok (body pre.length x s n) Q)
  (fin:∀s,I xs s->Ok (done s) Q):Ok (Ba body done xs 0 s0) Q:=by
 have key:∀(post pre:List V) (s:O),xs=pre++post->I pre s->Ok (Ba body done post pre.length s) Q:=by
  intro post
  induction post with
  |nil=>
   intro pre s b hi;have:xs=pre:=by simpa using b
   subst this
   exact fin s hi
  |cons x post h=>
   intro pre s b hi;refine step pre x post s _ b hi fun a g=>?_
   grind
 exact key xs [] s0 rfl f
theorem AxZ{body:Int->O->(O->Option U)->Option U}{done:O->Option U}{m:Nat}{a:Int}{s0:O}(I:Nat->O->Prop)(f:I 0 s0)
  (step:∀(j:Nat) s n,j<m->I j s->(∀b,I (j+1) b->Ok (n b) Q)->Ok (body (a+j) s n) Q)
  (fin:∀s,I m s->Ok (done s) Q):Ok (forO body done m a s0) Q:=by
 have key:∀(r j:Nat) (s:O),j+r=m->I j s->Ok (forO body done r (a+j) s) Q:=by
  intro r
  induction r with
  |zero=>
   intro j s g hi;obtain rfl:j=m:=by omega
   exact fin s hi
  |succ r i=>
   intro j s g hi;refine step j s _ (by omega) hi fun b h=>?_
   grind
 have:=key m 0 s0 (by omega) f;simpa using this
theorem AxW{body:O->(O->Option U)->Option U}{s0:O}(I:O->Prop)(b:O->Nat)(k:I s0)(i:b s0<Ik)
  (step:∀s n,I s->(∀a,I a->b a<b s->Ok (n a) Q)->Ok (body s n) Q):Ok (whileO body Ik s0) Q:=by
 have key:∀(f:Nat) (s:O),I s->b s<f->Ok (whileO body f s) Q:=by
  intro f
  induction f with
  |zero=>intro s _ h;omega
  |succ f l=>
   intro s hi m;exact step s _ hi fun a g j=>l a g (by omega)
 exact key Ik s0 k i
end
theorem Iz:Ik=1099511627776:=rfl
theorem Br{n:Int}(a:-9223372036854775808<=n)(b:n<=9223372036854775807):w64 n=n:=AhR a b
theorem Ev{V:Type}{l:List V}{i:Nat}{d:V}(h:i<l.length):l.getD i d=l[i]:=by
 simp[B5,h]
theorem Og{V:Type}{l:List V}{i:Nat}{d:V}(h:i<l.length):l.getD i d∈l:=by
 rw[Ev h];exact H0 h
theorem AdH{V:Type}{pre post:List V}{x d:V}:(pre++x::post).getD pre.length d=x:=by
 simp[B5]
theorem AtB{V:Type}{pre post:List V}{x y d:V}:(pre++[y]++x::post).getD pre.length d=y:=by
 simp[B5]
theorem Jh{V U:Type}{p:V->Bool}{f:V->U}{z:U}{xs:List V}{body:Nat->V->Unit->(Unit->Option U)->Option U}{done:Unit->Option U}
  (g:∀k x n,body k x () n=if p x then some (f x)else n ()) (a:done ()=some z):Ba body done xs 0 ()=some ((xs.find? p).elim z f):=by
 have key:∀k,Ba body done xs k ()=some ((xs.find? p).elim z f):=by
  induction xs with
  |nil=>intro k;simp[Ba,a]
  |cons x r b=>grind[Ba]
 exact key 0
theorem Lk{V U γ:Type}{p:V->Bool}{f:V->γ}{xs:List V}{s0:List γ}{r:List γ->Option U}{body:Nat->V->List γ->(List γ->Option U)->Option U}{done:List γ->Option U}
  (g:∀k x s n,s.length+1<=1073741824->body k x s n=if p x then n (s++[f x])else n s) (b:∀s,done s=r s) (a:s0.length+xs.length<=1073741824):Ba body done xs 0 s0=r (s0++(xs.filter p).map f):=by
 have key:∀k s,s.length+xs.length<=1073741824->Ba body done xs k s=r (s++(xs.filter p).map f):=by
  clear a
  induction xs with
  |nil=>intro k s _;simp[Ba,b]
  |cons x q h=>grind[only,Ba]
 exact key 0 s0 a
theorem Awk{V U:Type}{p:V->Bool}{xs:List V}{r:Int->Option U}{body:Nat->V->Int->(Int->Option U)->Option U}{done:Int->Option U}
  (j:∀k x s n,x∈xs->body k x s n=if p x then n (w64 (s+1))else n s) (g:∀s,done s=r s) (b:xs.length<=1073741824):Ba body done xs 0 0=r ((xs.countP p:Nat):Int):=by
 have key:∀(a:List V) (k c:Nat),(∀x∈a,x∈xs)->c+a.length<=1073741824->Ba body done a k (c:Int)=r ((c+a.countP p:Nat):Int):=by
  intro a
  induction a with
  |nil=>intro k c _ _;simp[Ba,g]
  |cons x q l=>
   intro k c f b;simp only[E9]at b;rw[Ba,j _ _ _ _ (f x (by simp)),List.countP_cons];cases m:p x
   ·grind
   ·simp only[if_true];rw[Br (by omega) (by omega)];have:=l (k+1) (c+1) (fun y i=>f y (by simp[i])) (by omega);grind
 have:=key xs 0 0 (fun _ h=>h) (by omega);simpa using this
end Go.Dm

namespace Go.Dm
def AcB(c:Int):Bool:=(((((decide (c>=97))&&(decide (c<=122)))||((decide (c>=65))&&(decide (c<=90))))||((decide (c>=48))&&(decide (c<=57))))||(c==95))||(c==45)
def Er(s:ByteArray):Bool:=decide (0<s.size)&&decide (s.size<=32)&&(((Cb s 0:Nat):Int)!=45)&&(Lx s).all AcB
theorem Alr(s:ByteArray):Acp s=some (Er s):=by
 apply Ok.eq;unfold Acp;refine Aya (fun h=>?_) fun h=>?_
 ·refine Ok.ret ?_;have:s.size=0:=by simpa using h
  simp[Er,this]
 have g:0<s.size:=by
  have:¬ (s.size:Int)=0:=by simpa using h
  omega
 refine Aya (fun h=>?_) fun h=>?_
 ·refine Ok.ret ?_
  have:¬ s.size<=32:=by
   have:=of_decide_eq_true h;omega
  simp[Er,this]
 have b:s.size<=32:=by
  have:=of_decide_eq_false h;omega
 refine Ok.guard g ?_;unfold Yj;refine Aya (fun h=>?_) fun h=>?_
 ·refine Ok.ret ?_;simp only[Er,bne,h];simp
 refine Ok.guard (by omega) ?_;refine AxZ (fun j _=>((Lx s).take j).all AcB=true) (by simp) ?_ ?_
 ·intro j _ n l hi k;have a:j<s.size:=by omega
  unfold Ami;refine Ok.guard (by omega) ?_;have e:Int.toNat (0+(j:Int))=j:=by omega
  rw[e];have i:(Lx s)[j]?=some ((Cb s j:Nat):Int):=by simp[Lx,a]
  refine Aya (fun h=>?_) fun h=>?_
  ·refine Ok.ret ?_;have f:AcB ((Cb s j:Nat):Int)=false:=by simpa only[AcB,D7]using h
   have:(Lx s).all AcB=false:=by
    rw[List.all_eq_false];exact⟨_,B3 i,by simp[f]⟩
   simp[Er,this]
  ·refine k () ?_;have f:AcB ((Cb s j:Nat):Int)=true:=by simpa only[AcB,J4]using h
   rw[G7,List.all_append,hi,i];simp[f]
 ·intro _ hi;refine Ok.ret ?_;have:(Lx s).length<=Int.toNat ((s.size:Int)-0):=by rw[Wc];omega
  rw[F9 this]at hi;simp only[Er,bne,h,hi];simp[g,b]
theorem AmJ(a:ByteArray):Eb a a=true:=by simp[Eb]
def upR:List Ah->Int->List Int
 |[],_=>[]
 |x::r,id=>if x.id==id then id::upR r x.parent else upR r id
def upT(t:Ae)(id:Int):List Int:=upR t.nodes.reverse id
theorem Kn(l:List Ah)(id:Int):(upR l id).length<=l.length:=by
 induction l generalizing id with
 |nil=>simp[upR]
 |cons x r a=>
  rw[upR];split
  ·have:=a x.parent;simp;omega
  ·have:=a id;simp;omega
theorem Apr(t:Ae)(id:Int)(v:t.nodes.length<=1000000):AjU t id=some (upT t id):=by
 apply Ok.eq;unfold AjU;rw[Br (by omega) (by omega)];refine AxW (fun s=>∃m:Nat,s.2.2=(m:Int)-1/\m<=t.nodes.length/\s.1.length+m<=t.nodes.length/\s.1++upR (t.nodes.take m).reverse s.2.1=upT t id) (fun s=>(s.2.2+1).toNat) ?_ ?_ ?_
 ·exact⟨t.nodes.length,rfl,by omega,by simp,by simp[upT]⟩
 ·rw[Iz];simp only[];omega
 rintro⟨o,i,c⟩ n ⟨m,u,x,b,a⟩ g;simp only at u b a g;unfold Asm;simp only;refine Aya (fun h=>?_) fun h=>?_
 ·have k:=of_decide_eq_true h;obtain⟨q,rfl⟩:∃q,m=q+1:=⟨m-1,by omega⟩;have f:c=(q:Int):=by omega
  subst f;have j:q<t.nodes.length:=by omega
  refine Ok.guard (by omega) ?_
  have r:t.nodes.take (q+1)=t.nodes.take q++[t.nodes.getD q default]:=by
   rw[G7,Ev j];simp[j]
  rw[r,J0,L3,M1,J5,M6,upR]at a;have eq:Int.toNat (q:Int)=q:=by omega
  rw[eq];have l:w64 ((q:Int)-1)=(q:Int)-1:=Br (by omega) (by omega);refine Aya (fun h=>?_) fun h=>?_
  ·refine Ok.guard (by omega) ?_;refine Ok.guard (by omega) ?_;unfold AeJ;simp only;rw[l];rw[if_pos h]at a;refine g _ ⟨q,rfl,by omega,by simp;omega,?_⟩ (by simp only;omega);simpa using a
  ·unfold AeJ;simp only;rw[l];rw[if_neg (by rw[h];simp)]at a;exact g _ ⟨q,rfl,by omega,by simp only;omega,a⟩ (by simp only;omega)
 ·have:=of_decide_eq_false h;have:m=0:=by omega
  subst this;refine Ok.ret ?_;simpa[upR]using a
def Nr(pre:List Ah)(x:Ah):Bool:=
 (x.kind==0||x.kind==1)&&decide (0<=x.control)&&decide (x.control<=31)&&decide (0<=x.owner)&&decide (x.owner<=1048576) &&
 match pre.getLast? with
 |none=>x.id==1&&x.parent==0&&Eb x.name ByteArray.empty&&x.kind==0
 |some y=>decide (y.id<x.id)&&Er x.name&&pre.any (fun k=>k.id==x.parent)&&pre.all (fun k=>!(k.parent==x.parent&&Eb k.name x.name))
theorem Aug(t:Ae)(pre post:List Ah)(x:Ah)(r:t.nodes=pre++x::post)(R:t.nodes.length<=1000000):Aih t (pre.length:Int)=some (Nr pre x):=by
 have f:pre.length<t.nodes.length:=by rw[r];simp
 apply Ok.eq;unfold Aih;refine Ok.guard (by omega) ?_
 have ex:t.nodes.getD (Int.toNat (pre.length:Int)) default=x:=by
  rw[r];have:Int.toNat (pre.length:Int)=pre.length:=by omega
  rw[this];exact AdH
 rw[ex];refine Aya (fun h=>?_) fun h=>?_
 ·refine Ok.ret ?_;simp only[Nr];simp only[B7,A6,bne_iff_ne,decide_eq_true_eq]at h;rcases h with(((⟨J,A⟩|h)|h)|h)|h
  ·simp[J,A]
  ·have:¬ 0<=x.control:=by omega
   simp[this]
  ·have:¬ x.control<=31:=by omega
   simp[this]
  ·have:¬ 0<=x.owner:=by omega
   simp[this]
  ·have:¬ x.owner<=1048576:=by omega
   simp[this]
 simp only[E3,Bool.and_eq_false_imp,bne_iff_ne,decide_eq_false_iff_not,bne_eq_false_iff_eq]at h;obtain⟨⟨⟨⟨I,A⟩,T⟩,Q⟩,V⟩:=h
 have m:(x.kind==0||x.kind==1)=true:=by
  by_cases q:x.kind=0
  ·simp[q]
  ·simp[I q]
 have a2:0<=x.control:=by omega
 have a3:x.control<=31:=by omega
 have a4:0<=x.owner:=by omega
 have a5:x.owner<=1048576:=by omega
 refine Aya (fun h=>?_) fun h=>?_
 ·refine Ok.ret ?_
  have:pre=[]:=by
   have:pre.length=0:=by
    have:(pre.length:Int)=0:=by simpa using h
    omega
   exact L2.mp this
  subst this;simp[Nr,m,a2,a3,a4,a5]
 have K:0<pre.length:=by
  have:¬ (pre.length:Int)=0:=by simpa using h
  omega
 obtain⟨a,y,rfl⟩:∃a y,pre=a++[y]:=by
  have l:pre≠[]:=by intro e;simp[e]at K
  exact⟨pre.dropLast,pre.getLast l,(List.dropLast_concat_getLast l).symm⟩
 have G:w64 (((a++[y]).length:Int)-1)=(a.length:Int):=by
  rw[Br (by simp) (by simp;simp at f;omega)];simp
 rw[G];refine Ok.guard (by simp at f;omega) ?_
 have O:t.nodes.getD (Int.toNat (a.length:Int)) default=y:=by
  rw[r];have:Int.toNat (a.length:Int)=a.length:=by omega
  rw[this];exact AtB
 rw[O]
 have v:Nr (a++[y]) x=(decide (y.id<x.id)&&Er x.name&&(a++[y]).any (fun k=>k.id==x.parent)&&(a++[y]).all (fun k=>!(k.parent==x.parent&&Eb k.name x.name))):=by
  simp[Nr,m,a2,a3,a4,a5]
 refine Aya (fun h=>?_) fun h=>?_
 ·refine Ok.ret ?_
  have:¬ y.id<x.id:=by
   have:=of_decide_eq_true h;omega
  rw[v];simp[this]
 have L:y.id<x.id:=by
  have:=of_decide_eq_false h;omega
 refine Ok.step (Alr _) ?_;unfold AdY;refine Aya (fun h=>?_) fun h=>?_
 ·refine Ok.ret ?_;have:Er x.name=false:=by simpa using h
  rw[v];simp[this]
 have H:Er x.name=true:=by simpa using h
 have M:Nr (a++[y]) x=((a++[y]).any (fun k=>k.id==x.parent)&&(a++[y]).all (fun k=>!(k.parent==x.parent&&Eb k.name x.name))):=by
  rw[v];simp[L,H]
 rw[M];generalize a++[y]=P at *;refine Ok.guard (by omega) ?_;refine AxZ (fun j s=>s=(P.take j).any (fun k=>k.id==x.parent)/\(P.take j).all (fun k=>!(k.parent==x.parent&&Eb k.name x.name))=true) (by simp) ?_ ?_
 ·intro j s n U i N;have g:j<P.length:=by omega
  have E:Int.toNat (0+(j:Int))=j:=by omega
  have F:t.nodes.getD j default=P[j]:=by
   rw[r];simp[B5,List.getElem?_append,g]
  have B:P.take (j+1)=P.take j++[P[j]]:=by
   rw[G7];simp[g]
  have o:(P[j].parent==x.parent&&Eb P[j].name x.name)=true->(P.any (fun k=>k.id==x.parent)&&P.all (fun k=>!(k.parent==x.parent&&Eb k.name x.name)))=false:=by
   intro u
   have:P.all (fun k=>!(k.parent==x.parent&&Eb k.name x.name))=false:=by
    rw[List.all_eq_false];exact⟨P[j],H0 g,by rw[u];simp⟩
   rw[this,Bool.and_false]
  have C:∀b:Bool,b=(P.take (j+1)).any (fun k=>k.id==x.parent)->Ok (AaK t (P.length:Int) (0+(j:Int)) n b) (· = (P.any (fun k=>k.id==x.parent)&&P.all (fun k=>!(k.parent==x.parent&&Eb k.name x.name)))):=by
   intro b u;unfold AaK;refine Ok.guard (by omega) ?_;rw[E,F,ex]
   have good:(P[j].parent==x.parent&&Eb P[j].name x.name)=false->Ok (n b) (· = (P.any (fun k=>k.id==x.parent)&&P.all (fun k=>!(k.parent==x.parent&&Eb k.name x.name)))):=by
    intro z;refine N _ ⟨u,?_⟩;rw[B,List.all_append,i.2];simp only[L9,List.all_nil,z];rfl
   refine Aya (fun h=>?_) fun h=>?_
   ·refine Ok.guard (by omega) ?_;unfold Aap;refine Aya (fun h'=>?_) fun h'=>?_
    ·exact Ok.ret (o (by rw[h,h'];rfl)).symm
    ·exact good (by rw[h,h'];rfl)
   ·unfold Aap;exact good (by rw[h];rfl)
  unfold AoC
  have D:(P.take (j+1)).any (fun k=>k.id==x.parent)=(s||(P[j].id==x.parent)):=by
   rw[B,M9,<-i.1];simp
  refine Aya (fun h=>?_) fun h=>?_
  ·refine C _ ?_;rw[D,h];rfl
  ·refine Ok.guard (by omega) ?_;rw[E,F,ex];refine C _ ?_;rw[D,h];rfl
 ·intro s i;refine Ok.ret ?_;have:P.take (Int.toNat ((P.length:Int)-0))=P:=F9 (by omega);rw[this]at i;rw[i.2,Bool.and_true];exact i.1
end Go.Dm

namespace Go.Dm
structure WfT(t:Ae):Prop where
 len1:1<=t.nodes.length
 len2:t.nodes.length<=64
 node:∀pre x post,t.nodes=pre++x::post->Nr pre x=true
 depth:∀x∈t.nodes,(upT t x.id).length<=9
 last:(t.nodes.getD (t.nodes.length-1) default).id<t.next
 nextLe:t.next<=2147483648
theorem AeT(t:Ae):Ok (Pc t) (fun b=>b=true↔WfT t):=by
 unfold Pc;refine Aya (fun h=>?_) fun h=>?_
 ·refine Ok.ret ?_;simp only[B7,decide_eq_true_eq]at h;refine⟨fun e=>by simp at e,fun w=>?_⟩;have:=w.len1;have:=w.len2;omega
 simp only[E3,decide_eq_false_iff_not]at h;have l:1<=t.nodes.length:=by omega
 have m:t.nodes.length<=64:=by omega
 refine Ok.guard (by omega) ?_;refine Ok.range (fun pre _=>∀q x p,pre=q++x::p->Nr q x=true) (by intro q x p e;simp at e) ?_ ?_
 ·intro pre x post s n a f i;unfold Amd;refine Ok.step (Aug t pre post x a (by omega)) ?_;refine Aya (fun h=>?_) fun h=>?_
  ·refine Ok.ret ⟨fun e=>by simp at e,fun w=>?_⟩;have:=w.node pre x post a;simp[this]at h
  ·refine i () fun q y p e=>?_
   rcases List.eq_nil_or_concat p with rfl|⟨j,z,rfl⟩
   ·simp_all
   ·have e2:pre++[x]=(q++y::j)++[z]:=by simpa using e
    have:=M2 e2 rfl;exact f q y j this.1
 ·intro _ f;unfold Amf;refine Ok.guard (by omega) ?_;refine Ok.range (fun pre _=>∀x∈pre,(upT t x.id).length<=9) (by simp) ?_ ?_
  ·intro pre x post s n a g i;unfold Ano;refine Ok.step (Apr t x.id (by omega)) ?_;refine Aya (fun h=>?_) fun h=>?_
   ·refine Ok.ret ⟨fun e=>by simp at e,fun w=>?_⟩;have:=w.depth x (by rw[a];simp);have:=of_decide_eq_true h;omega
   grind
  ·intro _ g;unfold Anb AcU
   have k:w64 ((t.nodes.length:Int)-1)=((t.nodes.length-1:Nat):Int):=by
    rw[Br (by omega) (by omega)];omega
   rw[k];refine Ok.guard (by omega) ?_;have:Int.toNat ((t.nodes.length-1:Nat):Int)=t.nodes.length-1:=by omega
   rw[this];refine Aya (fun h=>?_) fun h=>?_
   ·refine Ok.ret ⟨fun e=>?_,fun w=>?_⟩
    ·exact⟨l,m,f,g,by simpa using h,by simpa using e⟩
    ·simpa using w.nextLe
   ·refine Ok.ret ⟨fun e=>by simp at e,fun w=>?_⟩;have:=w.last;have:=of_decide_eq_false h;omega
theorem Ahh{t:Ae}(h:WfT t):Pc t=some true:=by
 obtain⟨b,a,e⟩:=AeT t;rw[a,e.mpr h]
theorem Ava{t:Ae}(h:¬ WfT t):Pc t=some false:=by
 obtain⟨b,a,e⟩:=AeT t;grind
def zN:Ah:={id:=0,parent:=0,name:=ByteArray.empty,control:=0,kind:=0,owner:=0}
def Ha(t:Ae)(id:Int):Option Ah:=t.nodes.find? (fun x=>x.id==id)
def Aw(t:Ae)(id:Int):Bool:=(Ha t id).isSome
theorem Sb{t:Ae}(h:WfT t)(id:Int):Dr t id=some ((Ha t id).elim (zN,false) (fun x=>(x,true))):=by
 unfold Dr;rw[Ahh h];have:=h.len2;simp only[A0,B4,A2,if_false];rw[if_pos (by omega)];exact Jh (fun k x n=>rfl) rfl
theorem AiQ{t:Ae}(h:¬ WfT t)(id:Int):Dr t id=some (zN,false):=by
 unfold Dr;rw[Ava h];rfl
theorem Mv{t:Ae}(h:WfT t)(id:Int):Gz t id=some (Aw t id):=by
 unfold Gz;rw[Sb h,A0];unfold Aw;cases Ha t id<;>rfl
theorem Apo{t:Ae}(h:¬ WfT t)(id:Int):Gz t id=some false:=by
 unfold Gz;rw[AiQ h];rfl
def ancN(t:Ae)(id:Int):List Int:=if Aw t id then upT t id else[]
theorem Uq{t:Ae}(h:WfT t)(id:Int):Jy t id=some (ancN t id):=by
 unfold Jy ancN;rw[Mv h];have:=h.len2;grind[Aw,Apr]
def Bb(t:Ae)(id:Int):List Int:=(t.nodes.filter (fun x=>x.parent==id)).map (·.id)
theorem Acw{t:Ae}(h:WfT t)(id:Int):Ll t id=some (if Aw t id then Bb t id else[]):=by
 unfold Ll;rw[Mv h];have:=h.len2;cases Aw t id
 ·rfl
 ·simp only[A0,B4,A2,if_false,if_true];rw[if_pos (by omega)];refine(Lk (p:=fun x:Ah=>x.parent==id) (f:=fun x:Ah=>x.id) (r:=some) ?_ (fun _=>rfl) (by simp;omega)).trans (by simp[Bb]);grind[Ahy,Wy]
theorem Aur{t:Ae}(h:WfT t)(id:Int):Agd t id=some (w64 (((ancN t id).length:Int)-1)):=by
 unfold Agd;rw[Uq h];rfl
theorem AbW(t:Ae)(h:t.nodes.length<=1073741824):Yw t=some t:=by
 unfold Yw;simp;omega
end Go.Dm

namespace Go.Dm
theorem Ri{V:Type}(L:List V):L=[]\/∃P x,L=P++[x]:=by
 rcases List.eq_nil_or_concat L with h|⟨P,x,h⟩
 all_goals grind
structure Xj(x:Ah):Prop where
 kind:x.kind=0\/x.kind=1
 c1:0<=x.control
 c2:x.control<=31
 o1:0<=x.owner
 o2:x.owner<=1048576
structure Aix(x:Ah):Prop where
 id:x.id=1
 parent:x.parent=0
 name:Eb x.name ByteArray.empty=true
 kind:x.kind=0
structure NodeS(pre:List Ah)(x:Ah):Prop where
 lt:∀y∈pre,y.id<x.id
 valid:Er x.name=true
 parent:∃y∈pre,y.id=x.parent
 fresh:∀y∈pre,y.parent=x.parent->Eb y.name x.name=false
inductive WfP:List Ah->Prop
 |root (x:Ah):Xj x->Aix x->WfP [x]
 |snoc (L:List Ah) (x:Ah):WfP L->Xj x->NodeS L x->WfP (L++[x])
theorem nodeV_of{pre:List Ah}{x:Ah}(h:Nr pre x=true):Xj x:=by
 simp only[Nr,A6,B7,beq_iff_eq,decide_eq_true_eq]at h;exact⟨h.1.1.1.1.1,h.1.1.1.1.2,h.1.1.1.2,h.1.1.2,h.1.2⟩
theorem WfP.pos{L:List Ah}(h:WfP L):0<L.length:=by
 cases h<;>simp
theorem wfP_of{L:List Ah}(r:1<=L.length)(h:∀pre x post,L=pre++x::post->Nr pre x=true):WfP L:=by
 have key:∀(n:Nat) (M:List Ah),M.length=n->1<=M.length->(∀pre x post,M=pre++x::post->Nr pre x=true)->WfP M/\∀y,M.getLast?=some y->∀z∈M,z.id<=y.id:=by
  intro n
  induction n with
  |zero=>intro M g t;omega
  |succ n s=>
   intro M g t k;rcases Ri M with rfl|⟨P,x,rfl⟩
   ·simp at g
   have a:Nr P x=true:=k P x [] (by simp);have j:=nodeV_of a;rcases Ri P with rfl|⟨l,y,rfl⟩
   ·simp only[Nr,List.getLast?_nil,A6,beq_iff_eq]at a;refine⟨.root x j ⟨a.2.1.1.1,a.2.1.1.2,a.2.1.2,a.2.2⟩,?_⟩;grind
   ·obtain⟨w,i⟩:=s (l++[y]) (by simp at g ⊢;omega) (by simp) (fun pre u post e=>k pre u (post++[x]) (by rw[e];simp));have i:=i y (by simp);simp only[Nr,List.getLast?_append,List.getLast?_singleton,Option.some_or,A6,decide_eq_true_eq,F6,B6,beq_iff_eq]at a;obtain⟨_,⟨⟨m,f⟩,b⟩,o⟩:=a
    have q:NodeS (l++[y]) x:=by
     refine⟨fun z v=>?_,f,b,fun z v A=>?_⟩
     all_goals grind
    refine⟨.snoc _ x w j q,?_⟩;grind
 exact(key _ L rfl r h).1
theorem AtH{x:Ah}(v:Xj x)(r:Aix x):Nr [] x=true:=by
 have:=v.kind;simp[Nr,v.c1,v.c2,v.o1,v.o2,r.id,r.parent,r.name,r.kind]
theorem AsR{L:List Ah}{x:Ah}(a:0<L.length)(v:Xj x)(r:NodeS L x):Nr L x=true:=by
 rcases Ri L with rfl|⟨P,y,rfl⟩
 ·simp at a
 simp only[Nr,List.getLast?_append,List.getLast?_singleton,Option.some_or,A6,decide_eq_true_eq,F6,B6,beq_iff_eq,B7];refine⟨⟨⟨⟨⟨v.kind,v.c1⟩,v.c2⟩,v.o1⟩,v.o2⟩,⟨⟨r.lt y (by simp),r.valid⟩,r.parent⟩,fun z b=>?_⟩
 by_cases hp:z.parent=x.parent
 ·simp[r.fresh z b hp]
 ·simp[hp]
theorem WfP.split{L:List Ah}(h:WfP L):∀pre x post,L=pre++x::post->Nr pre x=true:=by
 induction h with
 |root x v r=>
  intro pre y post e
  have:pre=[]/\y=x:=by
   cases pre with
   |nil=>simp at e;exact⟨rfl,e.1.symm⟩
   |cons a q=>simp at e
  rw[this.1,this.2]
  exact AtH v r
 |snoc L x w v s f=>
  intro pre y post e;rcases Ri post with rfl|⟨b,z,rfl⟩
  ·have:=M2 (s₁:=L) (t₁:=[x]) (s₂:=pre) (t₂:=[y]) (by simpa using e) rfl;have e2:x=y:=by simpa using this.2
   rw[<-this.1,<-e2];exact AsR w.pos v s
  ·have e2:L++[x]=(pre++y::b)++[z]:=by simpa using e
   have:=M2 e2 rfl;exact f pre y b this.1
theorem WfP.sorted{L:List Ah}(h:WfP L):L.Pairwise (fun a b=>a.id<b.id):=by
 induction h with
 |root x v r=>simp
 |snoc L x w v s i=>
  rw[E4];exact⟨i,by simp,fun a g b f=>by simp at f;subst f;exact s.lt a g⟩
theorem WfP.val{L:List Ah}(h:WfP L):∀x∈L,Xj x:=by
 induction h with
 |root x v r=>intro y a;simp at a;subst a;exact v
 |snoc L x w v s b=>grind
theorem WfP.first{L:List Ah}(h:WfP L):∃x r,L=x::r/\Aix x:=by
 induction h with
 |root x v r=>exact⟨x,[],rfl,r⟩
 |snoc L x w v s a=>grind
theorem WfP.ge1{L:List Ah}(h:WfP L):∀x∈L,1<=x.id:=by
 induction h with
 |root x v r=>intro y a;simp at a;subst a;rw[r.id];omega
 |snoc L x w v s b=>
  intro y a;rcases B1.mp a with a|a
  ·exact b y a
  ·simp at a;subst a;obtain⟨z,f,_⟩:=s.parent;have:=b z f;have:=s.lt z f;omega
theorem WfP.par{L:List Ah}(h:WfP L):∀x∈L,(x.id=1/\Aix x)\/(1<=x.parent/\x.parent<x.id/\(∃y∈L,y.id=x.parent)/\Er x.name=true):=by
 induction h with
 |root x v r=>intro y a;simp at a;subst a;exact .inl ⟨r.id,r⟩
 |snoc L x w v s g=>
  intro y a;rcases B1.mp a with a|a
  ·grind
  ·simp at a;subst a;obtain⟨z,b,f⟩:=s.parent;refine .inr ⟨?_,?_,⟨z,by simp[b],f⟩,s.valid⟩
   ·have:=w.ge1 z b;omega
   ·have:=s.lt z b;omega
theorem Rv{L:List Ah}(h:L.Pairwise (fun a b=>a.id<b.id)){x y:Ah}(f:x∈L)(i:y∈L)(e:x.id=y.id):x=y:=by
 induction L with
 |nil=>simp at f
 |cons a r g=>
  rw[L1]at h;grind
theorem Un{t:Ae}{id:Int}{x:Ah}(h:Ha t id=some x):x∈t.nodes/\x.id=id:=
 ⟨D0 h,by have:=F3 h;simpa using this⟩
theorem getN_of{t:Ae}(g:t.nodes.Pairwise (fun a b=>a.id<b.id)){x:Ah}(h:x∈t.nodes):Ha t x.id=some x:=by
 unfold Ha
 cases f:t.nodes.find? (fun y=>y.id==x.id)with
 |none=>grind
 |some y=>grind[Rv]
theorem hasN_iff{t:Ae}{id:Int}:Aw t id=true↔∃x∈t.nodes,x.id=id:=by
 unfold Aw Ha;rw[List.find?_isSome];simp
theorem Afg{A B:List Ah}{id:Int}(h:∀x∈A,x.id≠id):upR (A++B) id=upR B id:=by
 induction A with
 |nil=>rfl
 |cons a r b=>grind[upR]
theorem Adj{A:List Ah}{id:Int}(h:∀x∈A,x.id≠id):upR A id=[]:=by
 have:=Afg (B:=[]) h;simpa[upR]using this
theorem WfP.up{L:List Ah}(h:WfP L):∀x∈L,upR L.reverse x.id=x.id::upR L.reverse x.parent:=by
 induction h with
 |root x v r=>
  intro y a;simp at a;subst a
  simp[upR,r.parent,r.id]
 |snoc L x w v s k=>
  intro y a;rw[J0,L3,M1,J5,M6];rcases B1.mp a with a|a
  ·have b:=s.lt y a
   have g:y.parent<x.id:=by
    rcases w.par y a with⟨l,r⟩|⟨_,i,_⟩
    ·rw[r.parent];have:=w.ge1 y a;omega
    ·omega
   grind[upR]
  ·simp at a;subst a;obtain⟨z,f,j⟩:=s.parent;have:=s.lt z f;grind[upR]
theorem WfT.p{t:Ae}(h:WfT t):WfP t.nodes:=wfP_of h.len1 h.node
theorem WfT.sorted{t:Ae}(h:WfT t):t.nodes.Pairwise (fun a b=>a.id<b.id):=h.p.sorted
theorem WfT.up{t:Ae}(h:WfT t){x:Ah}(a:x∈t.nodes):upT t x.id=x.id::upT t x.parent:=h.p.up x a
theorem WfT.upZero{t:Ae}(h:WfT t):upT t 0=[]:=Adj fun x a=>by
 have:=h.p.ge1 x (by simpa using a);omega
theorem WfT.next{t:Ae}(h:WfT t):∀x∈t.nodes,x.id<t.next:=by
 have a:=h.last;have g:=h.len1;have b:=h.sorted;intro x f;obtain⟨i,hi,rfl⟩:=D1 f;rw[Ev (by omega)]at a
 by_cases e:i=t.nodes.length-1
 ·subst e;exact a
 ·have:=C9.mp b i (t.nodes.length-1) hi (by omega) (by omega);omega
theorem WfT.root{t:Ae}(h:WfT t):∃x r,t.nodes=x::r/\Aix x:=h.p.first
theorem WfT.mk'{t:Ae}(a:WfP t.nodes)(g:t.nodes.length<=64)(b:∀x∈t.nodes,(upT t x.id).length<=9)(h:∀x∈t.nodes,x.id<t.next)(f:t.next<=2147483648):WfT t:=by
 refine⟨a.pos,g,a.split,b,h _ (Og ?_),f⟩;have:=a.pos;omega
end Go.Dm

namespace Go.Dm
structure Bg(d:Aj):Prop where
 a0:0<=d.atF
 a1:d.atF<=(d.l.length:Int)
 l:d.l.length<=600
theorem dice_roll{l:List Int}(h:l.length<=600):Bg {l:=l,atF:=0}:=⟨by simp,by simp,h⟩
theorem AjC{d:Aj}(h:Bg d)(n:Int)(j:n<=1000000):Ok (Bo d n) (fun r=>Bg r.2/\0<=r.1/\(r.1<n\/(n<1/\r.1=0))):=by
 have g:=h.a0;have f:=h.a1;have b:=h.l;unfold Bo;refine Aya (fun c=>?_) fun c=>?_
 ·simp only[B7,decide_eq_true_eq]at c;refine Ok.ret ⟨h,by simp,?_⟩;show(0:Int)<n\/(n<1/\(0:Int)=0);omega
 simp only[E3,decide_eq_false_iff_not]at c;have e1:w64 (d.atF+1)=d.atF+1:=Br (by omega) (by omega)
 have e2:w64 (d.atF+1-1)=d.atF:=by
  rw[Br (by omega) (by omega)];omega
 have a:Bg {d with atF:=d.atF+1}:=⟨by simp only;omega,by simp only;omega,b⟩;rw[e1,e2];refine Ok.guard (by omega) ?_;refine Ok.guard (by omega) ?_;generalize d.l.getD d.atF.toNat 0=x;have b1:Int.tmod x n<n:=Int.tmod_lt_of_pos x (by omega)
 have i:-n<Int.tmod x n:=by
  have:=Int.tmod_lt_of_pos (-x) (show 0<n by omega);rw[Int.neg_tmod]at this;omega
 unfold Vb;rw[e1];refine Aya (fun c2=>?_) fun c2=>?_
 ·have:=of_decide_eq_true c2;rw[Br (by omega) (by omega)];refine Ok.ret ⟨a,?_,?_⟩<;>simp only<;>omega
 ·have:=of_decide_eq_false c2;refine Ok.ret ⟨a,?_,?_⟩<;>simp only<;>omega
theorem Dy{d:Aj}(h:Bg d)(n:Int)(g:1<=n)(f:n<=1000000):Ok (Bo d n) (fun r=>Bg r.2/\0<=r.1/\r.1<n):=
 (AjC h n f).mono fun r ⟨a,b,c⟩=>⟨a,b,by omega⟩
theorem Pt{d:Aj}(h:Bg d)(n:Int)(a:n<=1000000):Ok (Dk d n) (fun r=>Bg r.2):=by
 unfold Dk;exact Ok.bind (AjC h n a) fun r b=>Ok.ret b.1
theorem AvH:∀s∈[(bs [97]),(bs [98]),(bs [99]),(bs [119,101,98]),(bs [100,98,45,49]),(bs [88,95,57])],Er s=true:=by
 intro s a;have:([(bs [97]),(bs [98]),(bs [99]),(bs [119,101,98]),(bs [100,98,45,49]),(bs [88,95,57])].all Er)=true:=by kernel_rfl
 exact B6.mp this s a
theorem Name_ok{d:Aj}(h:Bg d):Ok (Tk d) (fun r=>Bg r.2/\Er r.1=true):=by
 unfold Tk;refine Ok.bind (Dy h 6 (by omega) (by omega)) fun r ⟨b,g,f⟩=>?_
 refine Ok.guard ⟨g,f⟩ ?_;have a:r.1.toNat < [(bs [97]),(bs [98]),(bs [99]),(bs [119,101,98]),(bs [100,98,45,49]),(bs [88,95,57])].length:=by simp only[E9,J6];omega
 refine Ok.guard a (Ok.ret ⟨b,AvH _ (Og a)⟩)
theorem Aku{d:Aj}(h:Bg d)(t:Ae)(j:t.nodes.length<=1000000):Ok (Kx d t) (fun r=>Bg r.2):=by
 unfold Kx;refine Ok.bind (Pt h 15 (by omega)) fun r g=>?_
 have i:∀b:Bool,(b=false->0<t.nodes.length)->Ok (Oj t r b) (fun r=>Bg r.2):=by
  intro b f;unfold Oj;refine Aya (fun _=>?_) fun c=>?_
  ·exact Ok.bind (AjC g 9 (by omega)) fun q a=>Ok.ret a.1
  ·have:=f c;refine Ok.bind (Dy g _ (by omega) (by omega)) fun q a=>?_
   exact Ok.guard ⟨a.2.1,a.2.2⟩ (Ok.ret a.1)
 refine Aya (fun _=>?_) fun _=>?_
 ·exact i true (by simp)
 ·refine i _ fun f=>?_
  have:¬ (t.nodes.length:Int)=0:=by simpa using f
  omega
theorem Any{d:Aj}(h:Bg d)(t:Aa)(j:t.tasks.length<=1000000):Ok (Md d t) (fun r=>Bg r.2):=by
 unfold Md;refine Ok.bind (Pt h 15 (by omega)) fun r g=>?_
 have i:∀b:Bool,(b=false->0<t.tasks.length)->Ok (Qf t r b) (fun r=>Bg r.2):=by
  intro b f;unfold Qf;refine Aya (fun _=>?_) fun c=>?_
  ·exact Ok.bind (AjC g 9 (by omega)) fun q a=>Ok.ret a.1
  ·have:=f c;refine Ok.bind (Dy g _ (by omega) (by omega)) fun q a=>?_
   exact Ok.guard ⟨a.2.1,a.2.2⟩ (Ok.ret a.1)
 refine Aya (fun _=>?_) fun _=>?_
 ·exact i true (by simp)
 ·refine i _ fun f=>?_
  have:¬ (t.tasks.length:Int)=0:=by simpa using f
  omega
theorem Ajo{d:Aj}(h:Bg d):Ok (Kb d) (fun r=>Bg r.2/\-1<=r.1/\r.1<=32):=by
 unfold Kb;refine Ok.bind (Dy h 9 (by omega) (by omega)) fun r ⟨g,f,i⟩=>?_
 refine Ok.guard ⟨f,i⟩ ?_;have a:r.1.toNat < [(1:Int),9,31,2,25,4,0,32,(-1)].length:=by simp only[E9,J6];omega
 refine Ok.guard a (Ok.ret ⟨g,?_⟩);have b:=Og (d:=(0:Int)) a;have:∀x∈[(1:Int),9,31,2,25,4,0,32,(-1)],-1<=x/\x<=32:=by decide
 exact this _ b
def zT:Ae:={nodes:=[],next:=0}
def Wt(t:Ae)(p:Int)(s:ByteArray):Ae×Int×Int:=
 if !Er s then(zT,0,1)else if !Aw t p then(zT,0,4)else if t.nodes.any (fun x=>x.parent==p&&Eb x.name s)then(zT,0,5)
 else if decide (9<=(upT t p).length)||decide (64<=t.nodes.length)||decide (2147483647<t.next)then(zT,0,7)
 else({nodes:=t.nodes++[{id:=t.next,parent:=p,name:=s,control:=0,kind:=0,owner:=0}],next:=t.next+1},t.next,0)
theorem AwT{t:Ae}(h:WfT t)(p:Int)(s:ByteArray):AkM t p s=some (Wt t p s):=by
 apply Ok.eq;have A:=h.len2;have l:=h.nextLe;unfold AkM;refine Ok.step (Ahh h) ?_;simp only[B4,A2,if_false];refine Ok.step (Alr s) ?_;unfold AfO Wt;refine Aya (fun c=>?_) fun c=>?_
 ·rw[if_pos c];exact Ok.ret rfl
 rw[if_neg (c:=(!Er s)=true) (by rw[c];simp)];refine Ok.step (Mv h p) ?_;refine Aya (fun c=>?_) fun c=>?_
 ·rw[if_pos c];exact Ok.ret rfl
 rw[if_neg (c:=(!Aw t p)=true) (by rw[c];simp)];have j:Aw t p=true:=by simpa using c
 refine Ok.guard (by omega) ?_;refine Ok.range (fun pre _=>pre.any (fun x=>x.parent==p&&Eb x.name s)=false) rfl ?_ ?_
 ·intro pre x post u n q g o;unfold Apm;refine Aya (fun c=>?_) fun c=>?_
  ·refine Ok.ret ?_;rw[if_pos]
   ·rfl
   ·rw[q,M9,N6,c];simp
  ·refine o () ?_;rw[M9,g,N6,c];rfl
 ·intro _ g;rw[if_neg (by rw[g];simp)];unfold AqE;refine Ok.step (Aur h p) ?_;have y:ancN t p=upT t p:=by simp[ancN,j]
  have B:(upT t p).length<=64:=by
   have:=Kn t.nodes.reverse p;simp at this;unfold upT;omega
  rw[y,Br (by omega) (by omega)]
  have f:∀c,(c=true->(decide (9<=(upT t p).length)||decide (64<=t.nodes.length)||decide (2147483647<t.next))=true)->(c=false->(decide (9<=(upT t p).length)||decide (64<=t.nodes.length)||decide (2147483647<t.next))=false) ->
    Ok (Zk t p s c) (· = if decide (9<=(upT t p).length)||decide (64<=t.nodes.length)||decide (2147483647<t.next)then(zT,0,7)
 else({nodes:=t.nodes++[{id:=t.next,parent:=p,name:=s,control:=0,kind:=0,owner:=0}],next:=t.next+1},t.next,0)):=by
   intro c i k;unfold Zk;refine Aya (fun c=>?_) fun c=>?_
   ·rw[if_pos (i c)];exact Ok.ret rfl
   ·rw[if_neg (by rw[k c];simp)];refine Ok.step (AbW t (by omega)) ?_;refine Ok.guard (by omega) ?_
    have v:0<t.next:=by
     obtain⟨x,r,e,m⟩:=h.root;have:=h.next x (by rw[e];simp);rw[m.id]at this;omega
    rw[Br (by omega) (by omega)];exact Ok.ret rfl
  refine Aya (fun c=>?_) fun c=>?_
  ·have:=of_decide_eq_true c;refine f true (fun _=>?_) (by simp);have:9<=(upT t p).length:=by omega
   simp[this]
  ·have C:=of_decide_eq_false c;refine Aya (fun c=>?_) fun c=>?_
   ·have:=of_decide_eq_true c;refine f true (fun _=>?_) (by simp);have:64<=t.nodes.length:=by omega
    simp[this]
   ·have z:=of_decide_eq_false c;have a:¬ 9<=(upT t p).length:=by omega
    have b:¬ 64<=t.nodes.length:=by omega
    refine f _ (fun c=>?_) fun c=>?_
    ·have:=of_decide_eq_true c;have:2147483647<t.next:=by omega
     simp[this]
    ·have:=of_decide_eq_false c;have:¬ 2147483647<t.next:=by omega
     simp[this,a,b]
theorem AgC{L:List Ah}{x:Ah}{id:Int}(h:x.id≠id):upR (L++[x]).reverse id=upR L.reverse id:=by
 rw[J0];exact Afg (A:=[x].reverse) (by simpa using h)
theorem addT_wf{t:Ae}(h:WfT t){p:Int}{s:ByteArray}{r:Ae×Int×Int}(e:Wt t p s=r)(f:r.2.2=0):WfT r.1:=by
 have A:=h.len2;unfold Wt at e;split at e
 ·subst e;simp at f
 split at e
 ·subst e;simp at f
 split at e
 ·subst e;simp at f
 split at e
 ·subst e;simp at f
 rename_i v q z l;subst e;have j:Er s=true:=by simpa using v
 have k:Aw t p=true:=by simpa using q
 obtain⟨y,o,g⟩:=hasN_iff.mp k;simp only[B7,decide_eq_true_eq,not_or]at l
 have i:∀x∈t.nodes,x.parent=p->Eb x.name s=false:=by
  intro x a m;cases u:Eb x.name s
  ·rfl
  ·exact absurd (F6.mpr ⟨x,a,by simp[m,u]⟩) z
 have b:=h.next;refine WfT.mk' (.snoc _ _ h.p ⟨.inl rfl,by simp,by simp,by simp,by simp⟩ ⟨b,j,⟨y,o,g⟩,i⟩) (by simp;omega) ?_ ?_ (by simp only;omega)
 ·intro x a;rcases B1.mp a with a|a
  ·have:=h.depth x a;unfold upT at this ⊢;simp only;have n:=b x a;rw[AgC (by simp only;omega)];exact this
  ·simp at a;subst a;unfold upT;simp only[J0,L3,M1,J5,M6];rw[upR,if_pos (by simp)];have:=l.1.1;unfold upT at this;simp;omega
 ·intro x a;simp only;rcases B1.mp a with a|a
  ·have:=b x a;omega
  ·simp at a;subst a;simp only;omega
end Go.Dm

namespace Go.Dm
def Mo(t:Ae)(id:Int):Ae×Int:=
 if !Aw t id then(zT,4)else if id==1 then(zT,9)else if decide (0<(Bb t id).length)then(zT,6)
 else({t with nodes:=t.nodes.filter (fun x=>x.id !=id)},0)
theorem AsZ{t:Ae}(h:WfT t)(id:Int):Aee t id=some (Mo t id):=by
 apply Ok.eq;have g:=h.len2;unfold Aee Mo;refine Ok.step (Ahh h) ?_;simp only[B4,A2,if_false];refine Ok.step (Mv h id) ?_;refine Aya (fun c=>?_) fun c=>?_
 ·rw[if_pos c];exact Ok.ret rfl
 rw[if_neg (c:=(!Aw t id)=true) (by rw[c];simp)];have a:Aw t id=true:=by simpa using c
 refine Aya (fun c=>?_) fun c=>?_
 ·rw[if_pos c];exact Ok.ret rfl
 rw[if_neg (c:=(id==1)=true) (by rw[c];simp)];refine Ok.step (Acw h id) ?_;rw[if_pos a];refine Aya (fun c=>?_) fun c=>?_
 ·have:=of_decide_eq_true c;have:0<(Bb t id).length:=by omega
  rw[if_pos (c:=decide (0<(Bb t id).length)=true) (by simp[this])];exact Ok.ret rfl
 have:=of_decide_eq_false c;have:¬ 0<(Bb t id).length:=by omega
 rw[if_neg (c:=decide (0<(Bb t id).length)=true) (by simp[this])];refine Ok.guard (by omega) ?_
 have e:=Lk (p:=fun x:Ah=>x.id !=id) (f:=fun x:Ah=>x) (xs:=t.nodes) (s0:=[]) (r:=Afk t) (body:=Afc id) (done:=Afk t) (fun k x s n b=>by
  unfold Afc Abg
  rw[if_pos b]) (fun _=>rfl) (by simp;omega)
 rw[e];refine Ok.ret ?_;simp
theorem Aqp{A:List Ah}{id k:Int}(g:k≠id)(h:∀x∈A,x.parent≠id):upR (A.filter (fun x=>x.id !=id)) k=upR A k:=by
 induction A generalizing k with
 |nil=>rfl
 |cons a r b=>
  have f:∀x∈r,x.parent≠id:=fun x i=>h x (by simp[i])
  rw[G3]
  by_cases e:a.id=id
  ·rw[if_neg (by simp[e]),b g f,upR,if_neg (by simp;omega)]
  ·rw[if_pos (by simp[e]),upR,upR]
   by_cases q:a.id=k
   ·rw[if_pos (by simp[q]),if_pos (by simp[q]),b (h a (by simp)) f]
   ·rw[if_neg (by simp[q]),if_neg (by simp[q]),b g f]
theorem WfP.remove{L:List Ah}(h:WfP L){id:Int}(j:id≠1)(g:∀x∈L,x.parent≠id):WfP (L.filter (fun x=>x.id !=id)):=by
 induction h with
 |root x v r=>
  have:(x.id !=id)=true:=by simp[r.id];omega
  simp only[G3,this,if_true,P1]
  exact .root x v r
 |snoc L x w v s i=>
  have f:=i fun y a=>g y (by simp[a])
  rw[E6]
  by_cases e:x.id=id
  ·have:[x].filter (fun x=>x.id !=id)=[]:=by simp[e]
   rw[this,I3];exact f
  ·have:[x].filter (fun x=>x.id !=id)=[x]:=by simp[e]
   rw[this];refine .snoc _ x f v ⟨fun y a=>s.lt y (C1.mp a).1,s.valid,?_,fun y a=>s.fresh y (C1.mp a).1⟩;obtain⟨y,a,b⟩:=s.parent;refine⟨y,C1.mpr ⟨a,?_⟩,b⟩;have:=g x (by simp);simp only[bne_iff_ne];omega
theorem AqG{t:Ae}(h:WfT t){id:Int}{r:Ae×Int}(e:Mo t id=r)(g:r.2=0):WfT r.1:=by
 have m:=h.len2;unfold Mo at e;split at e
 ·subst e;simp at g
 split at e
 ·subst e;simp at g
 split at e
 ·subst e;simp at g
 rename_i o n j;subst e;have i:id≠1:=by simpa using n
 have a:∀x∈t.nodes,x.parent≠id:=by
  intro x f k;have j:¬ 0<(Bb t id).length:=by simpa using j
  have:x.id∈Bb t id:=by
   unfold Bb;exact B8.mpr ⟨x,C1.mpr ⟨f,by simp[k]⟩,rfl⟩
  have:=L5 this;omega
 refine WfT.mk' (h.p.remove i a) (H9 (F2 _ _) m) ?_ (fun x f=>h.next x (C1.mp f).1) h.nextLe;intro x f;have b:=C1.mp f;have:=h.depth x b.1;unfold upT at this ⊢;simp only;rw[<-List.filter_reverse,Aqp (by simpa using b.2) (fun y l=>a y (by simpa using l))];exact this
def Ln(x y:Ah):Ah:=if y.id==x.id then x else y
def setT(t:Ae)(x:Ah):Ae:={t with nodes:=t.nodes.map (Ln x)}
theorem AaP(t:Ae)(x:Ah)(u:t.nodes.length<=1000000):Adk t x=some (setT t x):=by
 apply Ok.eq;unfold Adk;refine Ok.step (AbW t (by omega)) ?_;refine AxW (fun s=>∃m:Nat,s.2=(m:Int)/\m<=t.nodes.length/\s.1=(t.nodes.take m).map (Ln x)++t.nodes.drop m) (fun s=>((t.nodes.length:Int)-s.2).toNat) ?_ ?_ ?_
 ·exact⟨0,rfl,by omega,by simp⟩
 ·rw[Iz];simp only;omega
 rintro⟨L,c⟩ n ⟨m,k,v,b⟩ i;simp only at k b i;subst k
 have f:L.length=t.nodes.length:=by
  rw[b];simp;omega
 unfold Apv AfQ;simp only;rw[f];refine Aya (fun c=>?_) fun c=>?_
 ·have l:=of_decide_eq_true c;have a:m<t.nodes.length:=by omega
  have r:Int.toNat (m:Int)=m:=by omega
  rw[r];refine Ok.guard (by omega) ?_;refine Ok.guard a ?_
  have q:w64 ((m:Int)+1)=((m+1:Nat):Int):=by
   rw[Br (by omega) (by omega)];omega
  have g:t.nodes.drop m=t.nodes[m]::t.nodes.drop (m+1):=I5 a
  have o:L.getD m default=t.nodes[m]:=by
   rw[b,g,B5,B9 (by simp;omega)];have:m-(List.map (Ln x) (List.take m t.nodes)).length=0:=by simp;omega
   rw[this];rfl
  have j:(t.nodes.take (m+1)).map (Ln x)++t.nodes.drop (m+1)=(t.nodes.take m).map (Ln x)++Ln x t.nodes[m]::t.nodes.drop (m+1):=by
   have:t.nodes.take (m+1)=t.nodes.take m++[t.nodes[m]]:=by
    rw[G7];simp[a]
   rw[this,G9,H8];rfl
  have h:(List.map (Ln x) (List.take m t.nodes)).length=m:=by
   rw[G8,I7];omega
  rw[o,q];refine Aya (fun c=>?_) fun c=>?_
  ·refine Ok.guard (by omega) ?_;refine Ok.guard a ?_;refine i _ ⟨m+1,rfl,by omega,?_⟩ (by simp only;omega);simp only;rw[j,b,g,List.set_append_right _ _ (by omega),h,Nat.sub_self,List.set_cons_zero,Ln,if_pos c]
  ·refine i _ ⟨m+1,rfl,by omega,?_⟩ (by simp only;omega);simp only;rw[j,b,g];simp[Ln,c]
 ·have:=of_decide_eq_false c;obtain rfl:m=t.nodes.length:=by omega
  refine Ok.ret ?_;simp[b,setT]
theorem Arp{A:List Ah}{f:Ah->Ah}{k:Int}(h:∀y∈A,(f y).id=y.id/\(f y).parent=y.parent):upR (A.map f) k=upR A k:=by
 induction A generalizing k with
 |nil=>rfl
 |cons a r g=>
  have i:=h a (by simp);rw[D8,upR,upR,i.1,i.2,g fun y b=>h y (by simp[b]),g fun y b=>h y (by simp[b])]
theorem WfP.map{L:List Ah}(h:WfP L){f:Ah->Ah}(j:∀y∈L,(f y).id=y.id/\(f y).parent=y.parent/\(f y).name=y.name/\Xj (f y)/\(y.id=1->(f y).kind=0)):WfP (L.map f):=by
 induction h with
 |root x v r=>
  obtain⟨o,k,l,n,t⟩:=j x (by simp)
  exact .root _ n ⟨by rw[o,r.id],by rw[k,r.parent],by rw[l,r.name],t r.id⟩
 |snoc L x w v s A=>
  have u:=A fun y i=>j y (by simp[i])
  obtain⟨o,k,l,n,t⟩:=j x (by simp)
  have m:∀y∈L,(f y).id=y.id/\(f y).parent=y.parent/\(f y).name=y.name:=fun y i=>by
   obtain⟨a,b,c,_⟩:=j y (by simp[i]);exact⟨a,b,c⟩
  rw[G9,D8,G2];refine .snoc _ _ u n ⟨?_,by rw[l];exact s.valid,?_,?_⟩
  ·intro y i;obtain⟨z,g,rfl⟩:=B8.mp i;rw[(m z g).1,o];exact s.lt z g
  ·obtain⟨z,g,q⟩:=s.parent;exact⟨f z,B8.mpr ⟨z,g,rfl⟩,by rw[(m z g).1,k,q]⟩
  ·intro y i;obtain⟨z,g,rfl⟩:=B8.mp i;rw[(m z g).2.1,(m z g).2.2,k,l];exact s.fresh z g
theorem WfT.map{t:Ae}(h:WfT t){f:Ah->Ah}(a:∀y∈t.nodes,(f y).id=y.id/\(f y).parent=y.parent/\(f y).name=y.name/\Xj (f y)/\(y.id=1->(f y).kind=0)):WfT {t with nodes:=t.nodes.map f}:=by
 refine WfT.mk' (h.p.map a) (by simp;exact h.len2) ?_ ?_ h.nextLe
 ·intro x g;obtain⟨z,b,rfl⟩:=B8.mp g;have:=h.depth z b;unfold upT at this ⊢;simp only;rw[<-O6,Arp (fun y i=>⟨(a y (by simpa using i)).1,(a y (by simpa using i)).2.1⟩),(a z b).1];exact this
 ·intro x g;obtain⟨z,b,rfl⟩:=B8.mp g;simp only;rw[(a z b).1];exact h.next z b
theorem setT_wf{t:Ae}(h:WfT t){x y:Ah}(g:y∈t.nodes)(k:x.id=y.id)(i:x.parent=y.parent)(m:x.name=y.name)(j:Xj x)(l:y.id=1->x.kind=0):WfT (setT t x):=by
 refine h.map fun z f=>?_
 unfold Ln
 by_cases e:z.id=x.id
 ·obtain rfl:z=y:=Rv h.sorted f g (by omega);rw[if_pos (by simp[e])];exact⟨k,i,m,j,l⟩
 ·rw[if_neg (by simpa using e)];refine⟨rfl,rfl,rfl,h.p.val z f,fun q=>?_⟩;rcases h.p.par z f with⟨_,r⟩|⟨a,b,_⟩
  ·exact r.kind
  ·omega
def newT:Ae:={nodes:=[{id:=1,parent:=0,name:=ByteArray.empty,control:=0,kind:=0,owner:=0}],next:=2}
theorem AvE:Akf=some newT:=rfl
theorem newT_wf:WfT newT:=by
 refine WfT.mk' (.root _ ⟨.inl rfl,by simp,by simp,by simp,by simp⟩ ⟨rfl,rfl,AmJ _,rfl⟩) (by simp[newT]) ?_ ?_ (by simp[newT])
 ·intro x a;have:=Kn newT.nodes.reverse x.id;simp[newT]at this;simp[upT,newT];omega
 ·intro x a;simp[newT]at a;subst a;simp[newT]
end Go.Dm

namespace Go.Dm
def zK:Ar:={id:=0,process:=0,group:=0,user:=0}
def Bx(L:List Ar)(id:Int):Option Ar:=L.find? (fun x=>x.id==id)
theorem Ard(L:List Ar)(p:Int)(a:L.length<=1000000):AdU L p=some ((Bx L p).elim (zK,false) (fun x=>(x,x.process==p))):=by
 unfold AdU;rw[if_pos (by omega)];exact Jh (fun k x n=>rfl) rfl
structure TaskV(h:Aa)(x:Ar):Prop where
 pos:1<=x.id
 grp:Aw h.tree x.group=true
 u1:0<=x.user
 u2:x.user<=1048576
 ldr:∃p,Bx h.tasks x.process=some p/\p.process=x.process/\p.user=x.user
structure WfH(h:Aa):Prop where
 tree:WfT h.tree
 len:h.tasks.length<=128
 n1:1<=h.next
 n2:h.next<=2147483648
 sorted:h.tasks.Pairwise (fun a b=>a.id<b.id)
 lt:∀x∈h.tasks,x.id<h.next
 val:∀x∈h.tasks,TaskV h x
theorem Afb(h:Aa):Ok (Hc h) (fun b=>b=true↔WfH h):=by
 have g:¬ WfH h->Ok (some false) (fun b=>b=true↔WfH h):=fun D=>Ok.ret ⟨fun e=>by simp at e,fun w=>absurd w D⟩
 unfold Hc;refine Ok.bind (AeT h.tree) fun b E=>?_
 unfold Na;refine Aya (fun c=>?_) fun c=>?_
 ·have:¬ WfT h.tree:=fun w=>by have:=E.mpr w;simp[this]at c
  exact g fun w=>this w.tree
 have wt:WfT h.tree:=E.mp (by simpa using c);refine Aya (fun c=>?_) fun c=>?_
 ·have:=of_decide_eq_true c;exact g fun w=>by have:=w.len;omega
 have J:h.tasks.length<=128:=by
  have:=of_decide_eq_false c;omega
 refine Aya (fun c=>?_) fun c=>?_
 ·have:=of_decide_eq_true c;exact g fun w=>by have:=w.n1;omega
 have G:=of_decide_eq_false c;refine Aya (fun c=>?_) fun c=>?_
 ·have:=of_decide_eq_true c;exact g fun w=>by have:=w.n2;omega
 have Q:=of_decide_eq_false c
 have loop:(∀x∈h.tasks.getLast?,x.id<h.next)->Ok (if h.tasks.length<=9223372036854775807 then Ba (AgR h) Amg h.tasks 0 ()else none) (fun b=>b=true↔WfH h):=by
  intro j;refine Ok.guard (by omega) ?_;refine Ok.range (fun pre _=>pre.Pairwise (fun a b=>a.id<b.id)/\∀x∈pre,TaskV h x) (by simp) ?_ ?_
  ·intro pre x post s n F l D;have i:x∈h.tasks:=by rw[F];simp
   unfold AgR;refine Ok.step (Ard h.tasks x.process (by omega)) ?_;have f:¬ WfH h->Ok (Dd n true) (fun b=>b=true↔WfH h):=g;refine Aya (fun c=>?_) fun c=>?_
   ·have:=of_decide_eq_true c;exact f fun w=>by have:=(w.val x i).pos;omega
   have o:=of_decide_eq_false c
   have tail:(∀y∈pre,y.id<x.id)->Ok ((Gz h.tree x.group).bind fun C=>(if(!C)then((Dd n) true)else(if(decide (x.user<0))then((Dd n) true)else(if(decide (x.user>1048576))then((Dd n) true)else(if(!((Bx h.tasks x.process).elim (zK,false) (fun y=>(y,y.process==x.process))).2)then((Dd n) true)else((Dd n) (((Bx h.tasks x.process).elim (zK,false) (fun y=>(y,y.process==x.process))).1.user !=x.user))))))) (fun b=>b=true↔WfH h):=by
    intro L;refine Ok.step (Mv wt x.group) ?_;refine Aya (fun c=>?_) fun c=>?_
    ·exact f fun w=>by have:=(w.val x i).grp;simp[this]at c
    have N:Aw h.tree x.group=true:=by simpa using c
    refine Aya (fun c=>?_) fun c=>?_
    ·have:=of_decide_eq_true c;exact f fun w=>by have:=(w.val x i).u1;omega
    have M:=of_decide_eq_false c;refine Aya (fun c=>?_) fun c=>?_
    ·have:=of_decide_eq_true c;exact f fun w=>by have:=(w.val x i).u2;omega
    have H:=of_decide_eq_false c
    cases u:Bx h.tasks x.process with
    |none=>
     simp only[K4]
     exact f fun w=>by
      obtain⟨p,k,_⟩:=(w.val x i).ldr;rw[u]at k
      simp at k
    |some p=>
     simp only[D6];refine Aya (fun c=>?_) fun c=>?_
     ·exact f fun w=>by
       obtain⟨q,O,U,_⟩:=(w.val x i).ldr;grind
     have A:p.process=x.process:=by simpa using c
     unfold Dd;refine Aya (fun c=>?_) fun c=>?_
     ·refine g fun w=>?_
      obtain⟨q,O,_,K⟩:=(w.val x i).ldr;grind
     have v:p.user=x.user:=by simpa using c
     refine D () ⟨?_,?_⟩
     ·grind
     ·intro y m;rcases B1.mp m with m|m
      ·exact l.2 y m
      ·obtain rfl:y=x:=by simpa using m
       exact⟨by omega,N,by omega,by omega,p,u,A,v⟩
   refine Aya (fun c=>?_) fun c=>?_
   ·have u:=of_decide_eq_true c;rcases Ri pre with rfl|⟨t,y,rfl⟩
    ·simp at u
    have B:w64 (((t++[y]).length:Int)-1)=(t.length:Int):=by grind[Br]
    have T:t.length<h.tasks.length:=by rw[F];simp
    have R:h.tasks.getD (Int.toNat (t.length:Int)) default=y:=by simp_all
    rw[B,R];refine Ok.guard (by omega) ?_;refine Aya (fun c=>?_) fun c=>?_
    ·have:=of_decide_eq_true c;refine f fun w=>?_
     have V:=w.sorted;grind
    ·have I:=of_decide_eq_false c;refine tail fun z r=>?_
     rcases B1.mp r with r|r
     ·have:=l.1;rw[E4]at this;have:=this.2.2 z r y (by simp);omega
     grind
   grind
  ·intro _ l;refine Ok.ret ⟨fun _=>⟨wt,J,by omega,by omega,l.1,?_,l.2⟩,fun _=>rfl⟩;intro x i;rcases Ri h.tasks with e|⟨P,y,e⟩
   ·rw[e]at i;simp at i
   ·have m:=j y (by rw[e];simp);have k:=l.1;rw[e]at k i;rw[E4]at k;rcases B1.mp i with i|i
    ·have:=k.2.2 x i y (by simp);omega
    grind
 refine Aya (fun c=>?_) fun c=>?_
 ·have o:=of_decide_eq_true c
  have B:w64 ((h.tasks.length:Int)-1)=((h.tasks.length-1:Nat):Int):=by
   rw[Br (by omega) (by omega)];omega
  rw[B];refine Ok.guard (by omega) ?_;have:Int.toNat ((h.tasks.length-1:Nat):Int)=h.tasks.length-1:=by omega
  rw[this,Ev (by omega)];refine Aya (fun c=>?_) fun c=>?_
  ·have:=of_decide_eq_true c;exact g fun w=>by have:=w.lt _ (H0 (show h.tasks.length-1<h.tasks.length by omega));omega
  grind
 grind
theorem Ks{h:Aa}(w:WfH h):Hc h=some true:=by
 obtain⟨b,a,e⟩:=Afb h;rw[a,e.mpr w]
theorem AgN{h:Aa}(w:¬ WfH h):Hc h=some false:=by
 obtain⟨b,a,e⟩:=Afb h;grind
theorem AaN{h:Aa}(w:WfH h)(id:Int):Jv h id=some ((Bx h.tasks id).elim (zK,false) (fun x=>(x,true))):=by
 unfold Jv;rw[Ks w];have:=w.len;simp only[A0,B4,A2,if_false];rw[if_pos (by omega)];exact Jh (fun k x n=>rfl) rfl
theorem Awp{h:Aa}(w:¬ WfH h)(id:Int):Jv h id=some (zK,false):=by
 unfold Jv;rw[AgN w];rfl
def tasksK(h:Aa)(g:Int):List Int:=(h.tasks.filter (fun x=>x.group==g)).map (·.id)
theorem AgW{h:Aa}(w:WfH h)(g:Int):Mq h g=some (tasksK h g):=by
 unfold Mq;rw[Ks w];have:=w.len;simp only[A0,B4,A2,if_false];rw[if_pos (by omega)];refine(Lk (p:=fun x:Ar=>x.group==g) (f:=fun x:Ar=>x.id) (r:=some) ?_ (fun _=>rfl) (by simp;omega)).trans (by simp[tasksK]);grind[AlO,AcN]
theorem Auw{h:Aa}(w:¬ WfH h)(g:Int):Mq h g=some []:=by
 unfold Mq;rw[AgN w];rfl
theorem AdR{L:List Ar}(h:L.Pairwise (fun a b=>a.id<b.id)){x y:Ar}(f:x∈L)(i:y∈L)(e:x.id=y.id):x=y:=by
 induction L with
 |nil=>simp at f
 |cons a r g=>
  rw[L1]at h;grind
theorem Rn{L:List Ar}{id:Int}{x:Ar}(h:Bx L id=some x):x∈L/\x.id=id:=
 ⟨D0 h,by have:=F3 h;simpa using this⟩
theorem AbQ{L:List Ar}(g:L.Pairwise (fun a b=>a.id<b.id)){x:Ar}(h:x∈L):Bx L x.id=some x:=by
 unfold Bx
 cases f:L.find? (fun y=>y.id==x.id)with
 |none=>grind
 |some y=>grind[AdR]
theorem getK_iff{L:List Ar}(g:L.Pairwise (fun a b=>a.id<b.id)){id:Int}{x:Ar}:Bx L id=some x↔x∈L/\x.id=id:=
 ⟨Rn,fun⟨f,h⟩=>by rw[<-h];exact AbQ g f⟩
end Go.Dm

namespace Go.Dm
theorem AuP{V:Type}{M:List V}{m:Nat}{d:V}(h:m<M.length):M.set m (M.getD m d)=M:=by
 rw[Ev h];exact List.set_getElem_self h
theorem while_map{V R:Type}{f:V->V}{L:List V}{d:V}{body:List V×Int->(List V×Int->Option R)->Option R}{ret:List V->Option R}(q:L.length<=1000000)
  (i:∀(M:List V) (m:Nat) n,M.length=L.length->m<L.length->body (M,(m:Int)) n=n (M.set m (f (M.getD m d)),((m+1:Nat):Int)))
  (s:∀(M:List V) n,M.length=L.length->body (M,(L.length:Int)) n=ret M):whileO body Ik (L,0)=ret (L.map f):=by
 have key:∀(r m F:Nat),m+r=L.length->r<F->whileO body F ((L.take m).map f++L.drop m,(m:Int))=ret (L.map f):=by
  intro r
  induction r with
  |zero=>
   intro m F k o;obtain⟨F,rfl⟩:∃G,F=G+1:=⟨F-1,by omega⟩
   grind[whileO]
  |succ r l=>
   intro m F k o;obtain⟨F,rfl⟩:∃G,F=G+1:=⟨F-1,by omega⟩;have a:m<L.length:=by omega
   rw[whileO,i _ _ _ (by simp;omega) a];have g:L.drop m=L[m]::L.drop (m+1):=I5 a;have b:(List.map f (List.take m L)).length=m:=by grind
   have j:((L.take m).map f++L.drop m).getD m d=L[m]:=by grind
   have h:(L.take (m+1)).map f++L.drop (m+1)=(L.take m).map f++f L[m]::L.drop (m+1):=by grind
   rw[j,g,List.set_append_right _ _ (by omega),b,Nat.sub_self,List.set_cons_zero,<-h];exact l (m+1) F (by omega) (by omega)
 have:=key L.length 0 Ik (by omega) (by rw[Iz];omega);simpa using this
def zH:Aa:={tree:=zT,tasks:=[],next:=0}
theorem Tv(h:Aa)(a:h.tree.nodes.length<=1000000)(b:h.tasks.length<=1000000):Yg h=some h:=by
 unfold Yg;rw[AbW _ (by omega),A0,if_pos (by omega)]
def Afd(h:Aa)(x:Ar):Aa×Int×Int:=
 if decide (128<=h.tasks.length)||decide (2147483647<h.next)then(zH,0,7)
 else({h with tasks:=h.tasks++[{x with id:=h.next,process:=if x.process==0 then h.next else x.process}],next:=h.next+1},h.next,0)
theorem AqF{h:Aa}(w:WfH h)(x:Ar):AgY h x=some (Afd h x):=by
 have b:=w.len;have f:=w.tree.len2;have g:=w.n1;have a:=w.n2;apply Ok.eq;unfold AgY Afd;refine Aya (fun c=>?_) fun c=>?_
 ·simp only[B7,decide_eq_true_eq]at c;rw[if_pos]
  ·exact Ok.ret rfl
  grind
 ·simp only[E3,decide_eq_false_iff_not]at c;rw[if_neg]
  ·refine Ok.step (Tv h (by omega) (by omega)) ?_;unfold Agh;rw[Br (by omega) (by omega)];refine Aya (fun c=>?_) fun c=>?_
   ·rw[if_pos (c:=(x.process==0)=true) c];exact Ok.guard (by omega) (Ok.ret rfl)
   ·rw[if_neg (c:=(x.process==0)=true) (by rw[c];simp)];exact Ok.guard (by omega) (Ok.ret rfl)
  grind
theorem Aaz{L M:List Ar}{p:Int}:Bx (L++M) p=(Bx L p).or (Bx M p):=by
 unfold Bx;rw[N7]
theorem addK_wf{h:Aa}(w:WfH h){x:Ar}(t:Aw h.tree x.group=true)(u1:0<=x.user)(u2:x.user<=1048576)(o:x.process=0\/x∈h.tasks){r:Aa×Int×Int}(e:Afd h x=r)(s:r.2.2=0):WfH r.1:=by
 have A:=w.len;have B:=w.n1;have C:=w.n2;unfold Afd at e;split at e
 ·subst e;simp at s
 rename_i z;simp only[B7,decide_eq_true_eq,not_or]at z;subst e;have g:=w.lt;refine⟨w.tree,by simp;omega,by simp only;omega,by simp only;omega,?_,?_,?_⟩
 ·rw[E4];exact⟨w.sorted,by simp,fun a u b j=>by simp at j;subst j;exact g a u⟩
 ·grind
 ·intro y f;rcases B1.mp f with f|f
  ·have v:=w.val y f;obtain⟨p,l,n,m⟩:=v.ldr;exact⟨v.pos,v.grp,v.u1,v.u2,p,by simp only;rw[Aaz,l];rfl,n,m⟩
  ·rw[E7]at f;subst f;refine⟨by simp only;omega,t,u1,u2,?_⟩;simp only;have k:(x.process=0/\(if(x.process==0)=true then h.next else x.process)=h.next)\/(x.process≠0/\(if(x.process==0)=true then h.next else x.process)=x.process):=by grind
   generalize (if(x.process==0)=true then h.next else x.process)=q at k;rcases k with⟨i,rfl⟩|⟨i,rfl⟩
   ·grind[Aaz,Bx]
   ·have v:=w.val x (by rcases o with h|h;exact absurd h i;exact h);obtain⟨p,l,n,m⟩:=v.ldr;grind[Aaz]
def AaT(h:Aa)(g u:Int):Aa×Int×Int:=
 if decide (u<0)||decide (1048576<u)then(zH,0,1)else if !Aw h.tree g then(zH,0,4)else Afd h {id:=0,process:=0,group:=g,user:=u}
theorem Avn{h:Aa}(w:WfH h)(g u:Int):AfE h g u=some (AaT h g u):=by
 apply Ok.eq;unfold AfE AaT;refine Ok.step (Ks w) ?_;simp only[B4,A2,if_false];unfold Ym
 by_cases h1:u<0
 ·simp only[h1,decide_true,if_true,Bool.true_or];exact Ok.ret rfl
 by_cases h2:u>1048576
 ·have:1048576<u:=by omega
  simp only[h2,decide_true,if_true,Bool.or_true,ite_self];exact Ok.ret rfl
 ·have a:¬ 1048576<u:=by omega
  simp only[h1,h2,decide_false,Bool.or_self,A2,if_false];refine Ok.step (Mv w.tree g) ?_;refine Aya (fun c=>?_) fun c=>?_
  ·rw[if_pos c];exact Ok.ret rfl
  grind[Aw,Ok.step,AqF,Ok.ret]
theorem Asf{h:Aa}(w:WfH h){g u:Int}{r:Aa×Int×Int}(e:AaT h g u=r)(a:r.2.2=0):WfH r.1:=by
 unfold AaT at e;split at e
 ·subst e;simp at a
 split at e
 ·subst e;simp at a
 rename_i f b;simp only[B7,decide_eq_true_eq,not_or]at f;exact addK_wf w (by simpa using b) (by simp only;omega) (by simp only;omega) (.inl rfl) e a
def Kz(h:Aa)(k:Int):Aa×Int×Int:=(Bx h.tasks k).elim (zH,0,4) (Afd h)
theorem Auc{h:Aa}(w:WfH h)(k:Int):AfP h k=some (Kz h k):=by
 apply Ok.eq;unfold AfP Kz;refine Ok.step (Ks w) ?_;simp only[B4,A2,if_false];refine Ok.step (AaN w k) ?_
 cases Bx h.tasks k with
 |none=>exact Ok.ret rfl
 |some x=>grind[only,Ok.step,AqF,Ok.ret]
theorem AsI{h:Aa}(w:WfH h){k:Int}{r:Aa×Int×Int}(e:Kz h k=r)(b:r.2.2=0):WfH r.1:=by
 unfold Kz at e
 cases a:Bx h.tasks k with
 |none=>rw[a]at e;subst e;simp at b
 |some x=>
  rw[a]at e;obtain⟨f,_⟩:=Rn a;have v:=w.val x f;exact addK_wf w v.grp v.u1 v.u2 (.inr f) e b
def Alf(h:Aa)(k:Int):Aa×Int:=
 (Bx h.tasks k).elim (zH,4) fun _=>({h with tasks:=h.tasks.filter (fun x=>x.id !=k&&x.process !=k)},0)
theorem Awg{h:Aa}(w:WfH h)(k:Int):Air h k=some (Alf h k):=by
 have b:=w.len;have g:=w.tree.len2;apply Ok.eq;unfold Air Alf;refine Ok.step (Ks w) ?_;simp only[B4,A2,if_false];refine Ok.step (AaN w k) ?_
 cases Bx h.tasks k with
 |none=>exact Ok.ret rfl
 |some x=>
  simp only[D6,B4,A2,if_false];refine Ok.step (AbW _ (by omega)) ?_;refine Ok.guard (by omega) ?_
  have e:=Lk (p:=fun x:Ar=>x.id !=k&&x.process !=k) (f:=fun x:Ar=>x) (xs:=h.tasks) (s0:=[]) (r:=Ajb h h.tree) (body:=AiU k) (done:=Ajb h h.tree) (fun k x s n a=>by
   unfold AiU Aeh
   rw[if_pos a]) (fun _=>rfl) (by simp;omega)
  rw[e];refine Ok.ret ?_;simp
theorem AuF{h:Aa}(w:WfH h){k:Int}{r:Aa×Int}(e:Alf h k=r)(i:r.2=0):WfH r.1:=by
 unfold Alf at e
 cases g:Bx h.tasks k with
 |none=>rw[g]at e;subst e;simp at i
 |some x=>
  rw[g]at e;subst e;have j:(h.tasks.filter (fun x=>x.id !=k&&x.process !=k)).Pairwise (fun a b=>a.id<b.id):=w.sorted.sublist K6;refine⟨w.tree,H9 (F2 _ _) w.len,w.n1,w.n2,j,fun y f=>w.lt y (C1.mp f).1,fun y f=>?_⟩;obtain⟨f,n⟩:=C1.mp f;have v:=w.val y f;obtain⟨p,l,o,m⟩:=v.ldr;obtain⟨s,q⟩:=Rn l;simp only[A6,bne_iff_ne]at n;refine⟨v.pos,v.grp,v.u1,v.u2,p,?_,o,m⟩;grind[getK_iff,only]
def Qr(k g:Int)(y:Ar):Ar:=if y.id==k then{y with group:=g}else y
def Aju(h:Aa)(k g:Int):Aa×Int:=
 if(Bx h.tasks k).isSome&&Aw h.tree g then({h with tasks:=h.tasks.map (Qr k g)},0)else(zH,4)
theorem Acj{h:Aa}(w:WfH h)(k g:Int):AcM h k g=some (Aju h k g):=by
 have q:=w.len;have r:=w.tree.len2;apply Ok.eq;unfold AcM Aju;refine Ok.step (Ks w) ?_;simp only[B4,A2,if_false];refine Ok.step (AaN w k) ?_
 cases o:Bx h.tasks k with
 |none=>exact Ok.ret rfl
 |some x=>
  simp only[D6,B4,A2,if_false,I0,G5];refine Ok.step (Mv w.tree g) ?_;unfold AcR;refine Aya (fun c=>?_) fun c=>?_
  ·rw[if_neg (by simpa using c)];exact Ok.ret rfl
  ·rw[if_pos (c:=Aw h.tree g=true) (by simpa using c)];refine Ok.step (Tv h (by omega) (by omega)) ?_
   have e:=while_map (f:=Qr k g) (L:=h.tasks) (d:=default) (body:=Acf k g h) (ret:=fun M=>some (({h with tasks:=M}:Aa),0)) (by omega) (fun M m n b l=>by
    unfold Acf AcF;simp only;have i:Int.toNat (m:Int)=m:=by omega
    rw[i,if_pos (by simp;omega),if_pos (by omega),if_pos (by omega),Br (by omega) (by omega)];have j:(m:Int)+1=((m+1:Nat):Int):=by omega
    rw[j]
    by_cases hc:(M.getD m default).id=k
    ·grind[Qr]
    ·have a:((M.getD m default).id==k)=false:=by simpa using hc
     rw[if_neg (by rw[a];simp),Qr,if_neg (by rw[a];simp),AuP (by omega)]) (fun M n b=>by
    unfold Acf;simp only
    rw[b,if_neg (by simp)])
   rw[e];exact Ok.ret rfl
theorem Zq(k g:Int)(y:Ar):(Qr k g y).id=y.id/\(Qr k g y).process=y.process/\(Qr k g y).user=y.user:=by
 unfold Qr;split<;>exact⟨rfl,rfl,rfl⟩
theorem AkD{L:List Ar}{f:Ar->Ar}(b:∀y∈L,(f y).id=y.id){p:Int}:Bx (L.map f) p=(Bx L p).map f:=by
 induction L with
 |nil=>rfl
 |cons a r g=>grind[Bx]
theorem Ais{h:Aa}(w:WfH h){k g:Int}{r:Aa×Int}(e:Aju h k g=r)(i:r.2=0):WfH r.1:=by
 unfold Aju at e;split at e
 case isFalse=>subst e;simp at i
 rename_i f;subst e;simp only[A6]at f;refine⟨w.tree,by simp;exact w.len,w.n1,w.n2,?_,?_,?_⟩
 ·rw[G0];refine w.sorted.imp fun h=>?_
  grind[Zq]
 ·intro y a;obtain⟨z,b,rfl⟩:=B8.mp a;rw[(Zq k g _).1];exact w.lt z b
 ·intro y a;obtain⟨z,b,rfl⟩:=B8.mp a;have v:=w.val z b;obtain⟨p,j,m,l⟩:=v.ldr;refine⟨by rw[(Zq k g _).1];exact v.pos,?_,by rw[(Zq k g _).2.2];exact v.u1,by rw[(Zq k g _).2.2];exact v.u2,Qr k g p,?_,?_,?_⟩
  ·unfold Qr;split
   ·exact f.2
   ·exact v.grp
  all_goals grind[only,AkD,Zq]
end Go.Dm

namespace Go.Dm
abbrev Tot{V:Type}(m:Option V):Prop:=Ok m (fun _=>True)
theorem Dw(t:Ae)(id:Int):Tot (Dr t id):=by
 grind[Ok.of_eq,Sb,AiQ]
theorem AuD(t:Ae)(id:Int):Tot (Gz t id):=by
 grind[Gz,Ok.bind,Dw,Ok.ret]
theorem Yu(t:Ae)(id:Int):(Bb t id).length<=t.nodes.length:=by
 grind[Bb]
theorem Aal(t:Ae)(id:Int):Ok (Ll t id) (fun l=>l.length<=64):=by
 by_cases h:WfT t
 ·refine Ok.of_eq (Acw h id) ?_;have:=Yu t id;have:=h.len2;split
  ·omega
  ·simp
 grind[Ll,Ok.step,Apo,Ok.ret]
theorem AvD(t:Ae)(id:Int):(ancN t id).length<=t.nodes.length:=by
 unfold ancN;have:=Kn t.nodes.reverse id;simp at this;split
 ·exact this
 ·simp
theorem Ane(t:Ae)(id:Int):Ok (Jy t id) (fun l=>l.length<=64):=by
 by_cases h:WfT t
 ·refine Ok.of_eq (Uq h id) ?_;have:=AvD t id;have:=h.len2;omega
 grind[Jy,Ok.step,Apo,Ok.ret]
theorem Aly(h:Aa)(id:Int):Tot (Jv h id):=by
 grind[Ok.of_eq,AaN,Awp]
theorem Po(h:Aa)(id:Int):Tot (Mq h id):=by
 grind[Ok.of_eq,AgW,Auw]
theorem AbP{V U:Type}{body:Nat->V->Unit->(Unit->Option U)->Option U}{done:Unit->Option U}{xs:List V}(b:∀k x n,Tot (n ())->Tot (body k x () n))(a:Tot (done ())):Tot (Ba body done xs 0 ()):=
 Ok.range (fun _ _=>True) trivial (fun _ _ _ _ _ _ _ f=>b _ _ _ (f () trivial)) (fun _ _=>a)
theorem Aps(t:Ae)(id:Int):Tot (AaU t id):=by
 unfold AaU;refine Ok.bind (Dw _ _) fun _ _=>Aya (fun _=>Ok.ret trivial) fun _=>?_
 exact Ok.bind (Dw _ _) fun _ _=>Aya (fun _=>Ok.ret trivial) fun _=>Ok.ret trivial
theorem Yl(t:Ae)(id:Int):Tot (Me t id):=by
 unfold Me
 have a:∀r y,Tot (Mc r y):=fun r y=>by
  unfold Mc Pz;exact Aya (fun _=>Ok.ret trivial) fun _=>Ok.ret trivial
 refine Ok.bind (Dw _ _) fun _ _=>Aya (fun _=>Ok.ret trivial) fun _=>Aya (fun _=>?_) fun _=>a _ _
 grind[Ok.bind,Aps]
theorem AeU(h:Aa):Ok (Ux h) (fun b=>b=true->WfH h):=by
 unfold Ux
 by_cases w:WfH h
 ·have:=w.tree.len2;refine Ok.step (Ks w) (Ok.guard (by omega) ?_);refine Ok.mono (P:=fun _=>True) ?_ fun _ _ _=>w
  refine AbP (fun k x n f=>?_) (Ok.ret trivial);unfold AgJ;have a:∀b,Tot (Nb n b):=fun b=>by simp_all[Nb,Aya,Ok.ret]
  refine Ok.bind (Yl _ _) fun _ _=>Aya (fun _=>a _) fun _=>Aya (fun _=>Aya (fun _=>?_) fun _=>a _) fun _=>a _
  grind[Ok.bind,Po]
 grind[Ok.step,AgN,Ok.ret]
theorem Xh(t:Ae)(id:Int):Tot (Mw t id):=by
 unfold Mw;refine Ok.bind (Ane _ _) fun l b=>Ok.guard (by omega) ?_
 refine AbP (fun k x n a=>?_) (Ok.ret trivial);unfold Afa;exact Ok.bind (Dw _ _) fun _ _=>Aya (fun _=>Ok.ret trivial) fun _=>a
theorem AcG(t:Ae)(id:Int)(b:Bool):Tot (Pk t id b):=by
 unfold Pk;refine Aya (fun _=>Ok.ret trivial) fun _=>?_
 refine Ok.bind (Aal _ _) fun l f=>Ok.guard (by omega) ?_
 refine AbP (fun k x n a=>?_) (Ok.ret trivial);unfold AiW;exact Ok.bind (Dw _ _) fun _ _=>Aya (fun _=>Ok.ret trivial) fun _=>a
theorem ArO{t:Ae}(w:WfT t):∀(n:Nat) (id:Int),id.toNat<n->Tot (Ji n t id):=by
 intro n
 induction n with
 |zero=>intro id h;omega
 |succ n m=>
  intro id i;unfold Ji Uv;refine Ok.step (Sb w id) ?_
  cases k:Ha t id with
  |none=>exact Ok.ret trivial
  |some x=>
   obtain⟨l,o⟩:=Un k;simp only[D6,B4,A2,if_false];refine Aya (fun _=>Ok.ret trivial) fun _=>?_
   refine Ok.step (Sb w x.parent) ?_
   cases g:Ha t x.parent with
   |none=>exact AcG t id false
   |some p=>
    obtain⟨f,j⟩:=Un g;simp only[D6,if_true];refine Aya (fun _=>AcG _ _ _) fun _=>?_
    refine Ok.bind (m p.id ?_) fun _ _=>AcG _ _ _
    have q:=w.p.ge1 p f;rcases w.p.par x l with⟨_,r⟩|⟨a,b,_⟩
    ·have:=r.parent;omega
    ·omega
theorem Wa(t:Ae)(id:Int):Tot (Lm t id):=by
 by_cases w:WfT t
 ·by_cases hid:id.toNat<Ik
  ·exact ArO w Ik id hid
  ·unfold Lm;rw[Iz]at *;unfold Ji Uv;refine Ok.step (Sb w id) ?_
   cases b:Ha t id with
   |none=>exact Ok.ret trivial
   |some x=>
    obtain⟨f,a⟩:=Un b;have:=w.next x f;have:=w.nextLe;omega
 ·unfold Lm;rw[Iz];grind[Ji,Uv,Ok.step,AiQ,Ok.ret]
theorem Qb(h:Aa):Ok (Jx h) (fun b=>b=true->WfH h):=by
 unfold Jx;refine Ok.bind (AeU h) fun b i=>?_
 refine Aya (fun _=>Ok.ret fun e=>by simp at e) fun c=>?_
 have w:WfH h:=i (by simpa using c);have:=w.len;have:=w.tree.len2;refine Ok.mono (P:=fun _=>True) ?_ fun _ _ _=>w
 refine Ok.guard (by omega) (AbP (fun k x n g=>?_) ?_)
 ·unfold AiX;refine Ok.bind (Aly _ _) fun _ _=>Ok.bind (Xh _ _) fun _ _=>Ok.bind (Xh _ _) fun _ _=>?_
  exact Aya (fun _=>Ok.ret trivial) fun _=>g
 ·unfold AiS;refine Ok.guard (by omega) (AbP (fun k x n g=>?_) (Ok.ret trivial));have f:∀b,Tot (Lc n b):=fun b=>by simp_all[Lc,Aya,Ok.ret]
  have a:∀r b,Tot (Nm h x n r b):=fun r b=>by
   unfold Nm;refine Aya (fun _=>Ok.ret trivial) fun _=>Aya (fun _=>Aya (fun _=>Aya (fun _=>f _) fun _=>?_) fun _=>?_) fun _=>f _
   all_goals grind[Ok.bind,Wa]
  unfold AiM;refine Ok.bind (Dw _ _) fun _ _=>Ok.bind (Wa _ _) fun _ _=>?_
  refine Aya (fun _=>Aya (fun _=>a _ _) fun _=>?_) fun _=>a _ _
  grind[Ok.bind,Po]
theorem Aka(h:Aa)(id a d:Int):Tot (Yz h id a d):=by
 unfold Yz;refine Ok.bind (AeU h) fun b i=>?_
 have g:Tot (Hu h id a d true):=Ok.ret trivial;refine Aya (fun _=>g) fun c=>?_
 have w:WfH h:=i (by simpa using c);have:=w.len;have:=w.tree.len2
 have f:∀r b,Tot (Mx h a d r b):=fun r b=>by
  unfold Mx;refine Aya (fun _=>Ok.ret trivial) fun _=>?_
  grind[Ok.step,Tv,AaP,Ok.ret]
 have o:∀b,Tot (Hu h id a d b):=fun b=>by
  unfold Hu;refine Aya (fun _=>Ok.ret trivial) fun _=>?_
  refine Ok.bind (Dw _ _) fun r _=>Aya (fun _=>Ok.ret trivial) fun _=>?_
  refine Ok.bind (Yl _ _) fun _ _=>Aya (fun _=>Ok.ret trivial) fun _=>?_
  refine Ok.bind (Aal _ _) fun l m=>Ok.guard (by omega) (AbP (fun k x n j=>?_) ?_)
  ·unfold AgV;exact Ok.bind (Dw _ _) fun _ _=>Aya (fun _=>Ok.ret trivial) fun _=>j
  ·unfold Agw;refine Aya (fun _=>Aya (fun _=>?_) fun _=>f _ _) fun _=>f _ _
   grind[Ok.bind,Po]
 unfold Ahb;grind
theorem AqU(h:Aa)(id a d:Int):Ok (Se h id a d) (fun r=>r.2=0->WfH r.1):=by
 unfold Se;have f:∀(x:Aa) (n:Int),n≠0->Ok (some (x,n)) (fun r:Aa×Int=>r.2=0->WfH r.1):=fun x n i=>Ok.ret fun e=>absurd e i
 refine Ok.bind (Qb h) fun _ _=>Aya (fun _=>f _ _ (by decide)) fun _=>?_
 refine Ok.bind (Aka _ _ _ _) fun r _=>Aya (fun c=>f _ _ (by simpa using c)) fun _=>?_
 refine Ok.bind (Qb r.1) fun b g=>Aya (fun _=>f _ _ (by decide)) fun c=>?_
 exact Ok.ret fun _=>g (by simpa using c)
theorem AqM(h:Aa)(id:Int):Ok (Px h id) (fun r=>r.2=0->WfH r.1):=by
 unfold Px;have a:∀(x:Aa) (n:Int),n≠0->Ok (some (x,n)) (fun r:Aa×Int=>r.2=0->WfH r.1):=fun x n i=>Ok.ret fun e=>absurd e i
 refine Ok.bind (Qb h) fun b g=>Aya (fun _=>a _ _ (by decide)) fun c=>?_
 have w:WfH h:=g (by simpa using c);have:=w.len;have:=w.tree.len2
 have f:∀r b,Ok (Kc h id r b) (fun r=>r.2=0->WfH r.1):=fun r b=>by
  unfold Kc;refine Aya (fun _=>a _ _ (by decide)) fun _=>Aya (fun _=>a _ _ (by decide)) fun _=>?_
  refine Ok.step (Tv h (by omega) (by omega)) (Ok.step (AaP h.tree _ (by omega)) ?_);refine Ok.bind (Po _ _) fun _ _=>?_
  unfold Tb;refine Aya (fun _=>a _ _ (by decide)) fun _=>?_
  refine Ok.bind (Qb _) fun b g=>Aya (fun _=>a _ _ (by decide)) fun c=>?_
  exact Ok.ret fun _=>g (by simpa using c)
 refine Ok.bind (Dw _ _) fun _ _=>Aya (fun _=>a _ _ (by decide)) fun _=>Aya (fun _=>a _ _ (by decide)) fun _=>?_
 refine Ok.bind (Dw _ _) fun _ _=>Ok.bind (Wa _ _) fun _ _=>Aya (fun _=>f _ _) fun _=>Aya (fun _=>f _ _) fun _=>f _ _
theorem Aib(h:Aa)(g:Int):Tot (Mp h g):=by
 unfold Mp;refine Ok.bind (Qb h) fun b a=>Aya (fun _=>Ok.ret trivial) fun c=>?_
 refine Ok.bind (Dw _ _) fun _ _=>Aya (fun _=>Ok.ret trivial) fun _=>?_
 refine Ok.bind (Wa _ _) fun _ _=>Aya (fun _=>Ok.ret trivial) fun _=>Aya (fun _=>Ok.ret trivial) fun _=>Ok.ret trivial
theorem Akq(h:Aa)(k g:Int):Ok (Im h k g) (fun r=>r.2=0->WfH r.1):=by
 unfold Im;have a:∀(x:Aa) (n:Int),n≠0->Ok (some (x,n)) (fun r:Aa×Int=>r.2=0->WfH r.1):=fun x n j=>Ok.ret fun e=>absurd e j
 refine Ok.bind (Qb h) fun b i=>Aya (fun _=>a _ _ (by decide)) fun c=>?_
 have w:WfH h:=i (by simpa using c)
 have f:∀r b,Ok (Iy h k g r b) (fun r=>r.2=0->WfH r.1):=fun r b=>by
  unfold Iy;refine Aya (fun _=>a _ _ (by decide)) fun _=>?_
  refine Ok.bind (Aib _ _) fun _ _=>Aya (fun c=>a _ _ (by simpa using c)) fun _=>?_
  refine Ok.bind (Xh _ _) fun _ _=>Ok.bind (Xh _ _) fun _ _=>Aya (fun _=>a _ _ (by decide)) fun _=>?_
  grind[Ok.step,Acj,Ok.ret,Ais]
 refine Ok.bind (Aly _ _) fun _ _=>Aya (fun _=>f _ _) fun _=>Ok.bind (AuD _ _) fun _ _=>f _ _
end Go.Dm

namespace Go.Dm
theorem Aoq(bs:ByteArray)(i:Nat)(r:List UInt8):ByteArray.toList.loop bs i r=r.reverse++bs.data.toList.drop i:=by
 by_cases h:i<bs.size
 ·rw[ByteArray.toList.loop,if_pos h,Aoq bs (i+1)]
  have a:bs.data.toList.drop i=bs.get! i::bs.data.toList.drop (i+1):=by
   rw[I5 (show i<bs.data.toList.length from h)];congr 1;have:bs.get! i=bs.data[i]!:=rfl;rw[this,getElem!_pos bs.data i h];simp
  rw[a];simp
 ·rw[ByteArray.toList.loop,if_neg h,List.drop_of_length_le (by simpa using h)];simp
termination_by bs.size - i
theorem AvU(bs:ByteArray):bs.toList=bs.data.toList:=by
 unfold ByteArray.toList;rw[Aoq];simp
theorem beqS_eq{a b:ByteArray}(h:Eb a b=true):a=b:=by
 simp only[Eb,beq_iff_eq,AvU]at h;exact ByteArray.ext (Array.toList_inj.mp h)
theorem AuR{c:Int}(a:0<=c)(h:c<=31):Bp .i64 c 31=0:=by
 have:∀n:Fin 32,Bp .i64 (n.val:Int) 31=0:=by decide
 have:=this ⟨c.toNat,by omega⟩;simpa[Int.toNat_of_nonneg a]using this
theorem Auk{c:Int}(h:31<c)(o:c<9223372036854775808):Bp .i64 c 31≠0:=by
 obtain⟨n,rfl⟩:∃n:Nat,c=(n:Int):=⟨c.toNat,by omega⟩;intro e;unfold Bp at e;have g:IntKind.i64.bits=64:=rfl;rw[g]at e;generalize b:(BitVec.ofInt 64 (n:Int) &&& ~~~(BitVec.ofInt 64 31))=x at e
 have j:∀i,5<=i->n.testBit i=false:=by
  intro i hi
  by_cases h63:i<63
  ·have m:x.toNat<2 ^ 64:=x.isLt
   have l:x.toNat<=n:=by
    rw[<-b,BitVec.toNat_and];refine H9 Nat.and_le_left ?_;grind
   have f:IntKind.i64.wrap (x.toNat:Int)=(x.toNat:Int):=AhR (by omega) (by omega);rw[f]at e
   have a:x=0#64:=by
    apply BitVec.eq_of_toNat_eq;simp;omega
   have:x.getLsbD i=false:=by rw[a];simp
   rw[<-b,BitVec.getLsbD_and,BitVec.getLsbD_not]at this
   have k:(BitVec.ofInt 64 31).getLsbD i=false:=by
    have:(BitVec.ofInt 64 31)=BitVec.ofNat 64 31:=rfl;rw[this,BitVec.getLsbD_ofNat];have:Nat.testBit 31 i=false:=Nat.testBit_lt_two_pow (D9 (by decide:31<2 ^ 5) (Nat.pow_le_pow_right (by decide) hi));simp[this]
   grind
  ·exact Nat.testBit_lt_two_pow (D9 (show n<2 ^ 63 by omega) (Nat.pow_le_pow_right (by decide) (by omega)))
 have:n<2 ^ 5:=Nat.lt_pow_two_of_testBit n j;omega
theorem Alv(s:ByteArray)(h:s.size<=9223372036854775807):AcP s=some (Er s):=by
 apply Ok.eq;unfold AcP;refine Ok.guard (by rw[Wc];exact h) ?_;refine Ok.range (fun pre _=>pre.all AcB=true) rfl ?_ ?_
 ·intro pre x post _ n e f j;unfold AmT AkI;refine Ok.step rfl ?_;refine Aya (fun c=>?_) fun c=>?_
  all_goals grind[Ok.ret,Lx,AcB,only,Er]
 ·intro _ f;unfold AmI Yi;refine Aya (fun c=>?_) fun c=>?_
  ·have i:0<s.size:=by
    rcases Nat.eq_zero_or_pos s.size with g|g
    all_goals simp_all[AmJ]
   refine Aya (fun c2=>?_) fun c2=>?_
   ·have:=of_decide_eq_true c2;refine Ok.guard i (Ok.ret ?_);grind[Er]
   grind[Ok.ret,Er]
  ·refine Ok.ret ?_
   have:s.size=0:=by
    rw[beqS_eq (a:=s) (b:=ByteArray.empty) (by simpa using c)];rfl
   simp[Er,this]
end Go.Dm

namespace Go.Dm
def Aig(x:Ah):Prop:=x.name.size<=9223372036854775807/\x.control<9223372036854775808
theorem AuS{pre:List Ah}{y x:Ah}(r:pre.length<=1000000)(l:Aig x):
  AhB (pre++[y]) x=some (decide (y.id<x.id)&&Er x.name&&(x.kind==0||x.kind==1)&&(pre++[y]).any (fun k=>k.id==x.parent)&&(pre++[y]).all (fun k=>!(k.parent==x.parent&&Eb k.name x.name))):=by
 apply Ok.eq;unfold AhB
 have j:w64 (((pre++[y]).length:Int)-1)=(pre.length:Int):=by
  rw[Br (by simp) (by simp;omega)];simp
 have o:(pre++[y]).getD (Int.toNat (pre.length:Int)) default=y:=by grind
 rw[j,o];refine Ok.guard (by simp;omega) ?_;refine Aya (fun c=>?_) fun c=>?_
 ·have:=of_decide_eq_true c;have:¬ y.id<x.id:=by omega
  refine Ok.ret ?_;simp[this]
 have a:y.id<x.id:=by
  have:=of_decide_eq_false c;omega
 refine Ok.step (Alv _ l.1) ?_;refine Aya (fun c=>?_) fun c=>?_
 ·refine Ok.ret ?_;grind
 have m:Er x.name=true:=by simpa using c
 have g:(x.kind==0||x.kind==1)=true->Ok (Pe (pre++[y]) x false) (· = (decide (y.id<x.id)&&Er x.name&&(x.kind==0||x.kind==1)&&(pre++[y]).any (fun k=>k.id==x.parent)&&(pre++[y]).all (fun k=>!(k.parent==x.parent&&Eb k.name x.name)))):=by
  intro b;rw[b,m];simp only[a,decide_true,Bool.and_self,G5];have h:(pre++[y]).length<=9223372036854775807:=by simp;omega
  generalize pre++[y]=P at *;unfold Pe;refine Ok.guard h ?_;refine Ok.range (fun pre s=>s=pre.any (fun k=>k.id==x.parent)/\pre.all (fun k=>!(k.parent==x.parent&&Eb k.name x.name))=true) ⟨rfl,rfl⟩ ?_ ?_
  ·intro q z post s n e f t;unfold AoF;refine Aya (fun c=>?_) fun c=>?_
   all_goals grind[Ok.ret,Eb]
  ·intro s f;refine Ok.ret ?_;rw[f.2,Bool.and_true];exact f.1
 have i:(x.kind==0||x.kind==1)=false->Ok (Pe (pre++[y]) x true) (· = (decide (y.id<x.id)&&Er x.name&&(x.kind==0||x.kind==1)&&(pre++[y]).any (fun k=>k.id==x.parent)&&(pre++[y]).all (fun k=>!(k.parent==x.parent&&Eb k.name x.name)))):=by
  intro b;refine Ok.ret ?_;rw[b];simp
 grind
theorem nodes_pre{L pre post:List Ah}{x:Ah}(h:WfP L)(e:L=pre++x::post)(a:pre≠[]):WfP pre/\Xj x/\NodeS pre x:=by
 induction h generalizing post with
 |root z v r=>
  exfalso;have:(pre++x::post).length=1:=by rw[<-e];rfl
  simp at this;have:=List.length_pos_iff.mpr a
  omega
 |snoc L z w v s b=>
  rcases Ri post with rfl|⟨f,u,rfl⟩
  ·simp_all
  ·have e2:L++[z]=(pre++x::f)++[u]:=by simpa using e
   have:=M2 e2 rfl;exact b this.1
theorem up_pre{L pre post:List Ah}(h:WfP L)(e:L=pre++post)(a:WfP pre){x:Ah}(g:x∈pre):upR L.reverse x.id=upR pre.reverse x.id:=by
 rw[e,J0];refine Afg fun y b=>?_
 have f:=h.sorted;grind
theorem AeV(t:Ae)(hm:∀x∈t.nodes,Aig x):Ok (Ig t) (fun b=>b=true↔WfT t):=by
 have j:¬ WfT t->Ok (some false) (fun b=>b=true↔WfT t):=fun V=>Ok.ret ⟨fun e=>by simp at e,fun w=>absurd w V⟩
 unfold Ig;refine Aya (fun c=>?_) fun c=>?_
 ·have:=of_decide_eq_true c;exact j fun w=>by have:=w.len1;omega
 have l1:=of_decide_eq_false c;refine Aya (fun c=>?_) fun c=>?_
 ·have:=of_decide_eq_true c;exact j fun w=>by have:=w.len2;omega
 have l2:=of_decide_eq_false c;refine Ok.guard (by omega) ?_;unfold AlS;refine Ok.step rfl ?_;unfold Yk
 have D:WfT t->((((t.nodes.getD 0 default).id==1&&(t.nodes.getD 0 default).parent==0)&&Eb (t.nodes.getD 0 default).name ByteArray.empty)&&(t.nodes.getD 0 default).kind==0)=true:=by
  intro w;obtain⟨x,r,e,u⟩:=w.root;rw[e];simp[u.id,u.parent,u.name,u.kind]
 refine Aya (fun c=>?_) fun c=>?_
 ·grind
 have G:Aix (t.nodes.getD 0 default):=by
  simp only[J4,A6,beq_iff_eq]at c;exact⟨c.1.1.1,c.1.1.2,c.1.2,c.2⟩
 refine Ok.guard (by omega) ?_;refine Ok.range (fun pre s=>(pre=[]/\∀i,s.get i=0)\/(WfP pre/\(∀y∈pre,s.get y.id=((upR pre.reverse y.id).length:Int)-1/\(upR pre.reverse y.id).length<=9)/\∀i,(∀y∈pre,y.id≠i)->s.get i=0)) (.inl ⟨rfl,fun i=>rfl⟩) ?_ ?_
 ·intro pre x post s n o R V;have f:x∈t.nodes:=by rw[o];simp
  have U:∀b,(b=true->¬ WfT t)->(b=false->Xj x/\(pre≠[]->NodeS pre x))->(Xj x->pre=[]->Aix x)->Ok (Jf pre.length x s n b) (fun b=>b=true↔WfT t):=by
   intro b Q J a;unfold Jf;refine Aya (fun c=>j (Q c)) fun c=>?_
   obtain⟨W,B⟩:=J c;unfold Ach;rcases R with⟨rfl,E⟩|⟨m,I,E⟩
   ·simp only[J6,Int.ofNat_eq_natCast,Int.cast_ofNat_Int,gt_iff_lt,Int.lt_irrefl,decide_false,A2,if_false];rw[E];simp only[Int.reduceLT,decide_false,A2,if_false];have u:=a W rfl;refine V _ (.inr ⟨.root x W u,?_,fun i _=>E i⟩);grind[upR]
   ·have K:pre≠[]:=by
     intro e;have:=m.pos;simp[e]at this
    have B:=B K;have hpos:=m.pos;have N:decide ((pre.length:Int)>0)=true:=by simp;omega
    rw[N];simp only[if_true];obtain⟨p,F,A⟩:=B.parent;have H:=I p F;rw[A]at H;have O:upR (pre++[x]).reverse x.id=x.id::upR pre.reverse x.parent:=by grind[upR]
    have X:(s.set x.id (w64 (s.get x.parent+1))).get x.id=((upR pre.reverse x.parent).length:Int):=by grind[AoA,Br]
    have L:WfP (pre++[x]):=.snoc pre x m W B;refine Aya (fun c=>?_) fun c=>?_
    ·refine j fun w=>?_
     have:=of_decide_eq_true c;rw[X]at this;have l:=w.depth x f;unfold upT at l;rw[up_pre w.p (show t.nodes=(pre++[x])++post by rw[o];simp) L (by simp),O]at l;simp at l;omega
    grind[AoA,AgC]
  have a:Xj x->pre=[]->Aix x:=by
   intro _ e;subst e;rw[o]at G;exact G
  unfold Amr;have g:∀P:Prop,(WfT t->P)->¬ P->Ok (Jf pre.length x s n true) (fun b=>b=true↔WfT t):=fun P h1 h2=>U true (fun _ w=>h2 (h1 w)) (by simp) a
  refine Aya (fun c=>?_) fun c=>?_
  ·have:=of_decide_eq_true c;exact g (0<=x.control) (fun w=>(w.p.val x f).c1) (by omega)
  have c1:=of_decide_eq_false c;refine Aya (fun c=>?_) fun c=>?_
  ·refine g (x.control<=31) (fun w=>(w.p.val x f).c2) fun h=>?_
   grind[AuR]
  have c2:x.control<=31:=by
   by_cases h:x.control<=31
   ·exact h
   ·have:=Auk (c:=x.control) (by omega) (hm x f).2;grind
  refine Aya (fun c=>?_) fun c=>?_
  ·have:=of_decide_eq_true c;exact g (0<=x.owner) (fun w=>(w.p.val x f).o1) (by omega)
  have o1:=of_decide_eq_false c;refine Aya (fun c=>?_) fun c=>?_
  ·have:=of_decide_eq_true c;exact g (x.owner<=1048576) (fun w=>(w.p.val x f).o2) (by omega)
  have o2:=of_decide_eq_false c;refine Aya (fun c=>?_) fun c=>?_
  ·have C:=of_decide_eq_true c;have Y:pre.length<=t.nodes.length:=by rw[o];simp
   refine Ok.guard (by omega) ?_;have ht:t.nodes.take pre.length=pre:=by rw[o];simp
   rw[ht];rcases Ri pre with rfl|⟨T,y,rfl⟩
   ·simp at C
   have m:WfP (T++[y]):=by grind
   refine Ok.step (AuS (by simp at Y;omega) (hm x f)) ?_;refine U _ ?_ ?_ a
   ·intro M w;obtain⟨_,v,s⟩:=nodes_pre w.p o (by simp);have a1:=s.lt y (by simp);have a2:=s.valid
    have a3:(x.kind==0||x.kind==1)=true:=by
     rcases v.kind with h|h<;>simp[h]
    have a4:(T++[y]).any (fun k=>k.id==x.parent)=true:=by
     obtain⟨p,F,A⟩:=s.parent;grind
    have a5:(T++[y]).all (fun k=>!(k.parent==x.parent&&Eb k.name x.name))=true:=by
     rw[B6];intro k C
     by_cases q:k.parent=x.parent
     ·simp[s.fresh k C q]
     ·simp[q]
    grind
   ·intro M;simp only[J4,A6,decide_eq_true_eq,F6,B6,beq_iff_eq,B7]at M;obtain⟨⟨⟨⟨a1,a2⟩,a3⟩,a4⟩,a5⟩:=M;refine⟨⟨a3,by omega,c2,by omega,by omega⟩,fun _=>⟨?_,a2,a4,?_⟩⟩
    ·intro z E;have B:=m.sorted;grind
    grind
  ·have C:=of_decide_eq_false c;have e:pre=[]:=L2.mp (by omega);refine U false (by simp) (fun _=>⟨?_,fun h=>absurd e h⟩) a;subst e;rw[o]at G;exact⟨.inl G.kind,by omega,c2,by omega,by omega⟩
 ·intro s R;unfold Amp Abm
  have m:w64 ((t.nodes.length:Int)-1)=((t.nodes.length-1:Nat):Int):=by
   rw[Br (by omega) (by omega)];omega
  rw[m];refine Ok.guard (by omega) ?_;have:Int.toNat ((t.nodes.length-1:Nat):Int)=t.nodes.length-1:=by omega
  rw[this];rcases R with⟨e,_⟩|⟨F,I,_⟩
  ·rw[e]at l1;simp at l1
  refine Aya (fun c=>?_) fun c=>?_
  ·have hc:=of_decide_eq_true c;refine Ok.ret ⟨fun e=>?_,fun w=>?_⟩
   ·exact⟨by omega,by omega,F.split,fun x hx=>(I x hx).2,hc,by simpa using e⟩
   ·simpa using w.nextLe
  ·have:=of_decide_eq_false c;exact j fun w=>by have:=w.last;omega
theorem WfP.names{L:List Ah}(h:WfP L):∀x∈L,Aig x:=by
 intro x a;have v:=h.val x a;refine⟨?_,by have:=v.c2;omega⟩;rcases h.par x a with⟨_,r⟩|⟨_,_,_,b⟩
 ·rw[beqS_eq r.name];decide
 grind[only,Er]
theorem Ng{t:Ae}(w:WfT t):Ig t=some true:=by
 obtain⟨b,a,e⟩:=AeV t w.p.names;rw[a,e.mpr w]
end Go.Dm

namespace Go.Dm
theorem Jg{V:Type}{p:V->Bool}{xs:List V}{body:Nat->V->Unit->(Unit->Option Int)->Option Int}{done:Unit->Option Int}
  (g:∀k x n,body k x () n=if p x then some (k:Int)else n ()) (b:done ()=some (-1)):Ba body done xs 0 ()=some ((xs.findIdx? p).elim (-1) (fun i=>(i:Int))):=by
 have key:∀(a:List V) (k:Nat),Ba body done a k ()=some ((a.findIdx? p).elim (-1) (fun i=>((i+k:Nat):Int))):=by
  intro a
  induction a with
  |nil=>intro k;simp[Ba,b]
  |cons x r f=>
   intro k;rw[Ba,g,List.findIdx?_cons];cases h:p x
   ·simp only[A2,if_false];rw[f (k+1)]
    cases r.findIdx? p with
    |none=>rfl
    |some i=>grind
   ·simp
 have:=key xs 0;simpa using this
theorem Fh{V:Type}(p:V->Bool)(xs:List V)(d:V):
  (∃i,i<xs.length/\xs.findIdx? p=some i/\xs.find? p=some (xs.getD i d))\/(xs.findIdx? p=none/\xs.find? p=none):=by
 induction xs with
 |nil=>exact .inr ⟨rfl,rfl⟩
 |cons x r a=>grind
theorem Agg(h:Aa)(id:Int)(a:h.tasks.length<=1000000):AbE h id=some ((h.tasks.findIdx? (fun x=>x.id==id)).elim (-1) (fun i=>(i:Int))):=by
 unfold AbE Kf;rw[if_pos (by omega),Jg (p:=fun x:Ar=>x.id==id) (fun k x n=>rfl) rfl];rfl
theorem AcJ(h:Aa)(id:Int)(f:h.tasks.length<=1000000):No h id=some ((Bx h.tasks id).elim (zK,false) (fun x=>(x,true))):=by
 unfold No Bx;rw[Agg h id f,A0];rcases Fh (fun x:Ar=>x.id==id) h.tasks default with⟨i,b,a,g⟩|⟨b,a⟩
 ·grind
 ·rw[b,a];rfl
theorem Yp(t:Ae)(id:Int)(a:t.nodes.length<=1000000):Fp t id=some ((t.nodes.findIdx? (fun x=>x.id==id)).elim (-1) (fun i=>(i:Int))):=by
 unfold Fp Jc;rw[if_pos (by omega),Jg (p:=fun x:Ah=>x.id==id) (fun k x n=>rfl) rfl];rfl
theorem Ajv(t:Ae)(id:Int)(f:t.nodes.length<=1000000):Fz t id=some ((Ha t id).elim (zN,false) (fun x=>(x,true))):=by
 unfold Fz Ha;rw[Yp t id f,A0];rcases Fh (fun x:Ah=>x.id==id) t.nodes default with⟨i,b,a,g⟩|⟨b,a⟩
 ·grind
 ·rw[b,a];rfl
theorem Li(t:Ae)(id:Int)(a:t.nodes.length<=1000000):Ok (Fp t id) (fun i=>decide (i<0)=!Aw t id/\decide (i>=0)=Aw t id):=by
 refine Ok.of_eq (Yp t id a) ?_;unfold Aw Ha;rcases Fh (fun x:Ah=>x.id==id) t.nodes default with⟨i,f,b,g⟩|⟨f,b⟩
 all_goals grind
theorem Yo(t:Ae)(id:Int)(a:t.nodes.length<=1000000):Nw t id=some (Bb t id):=by
 unfold Nw;rw[if_pos (by omega)];refine(Lk (p:=fun x:Ah=>x.parent==id) (f:=fun x:Ah=>x.id) (r:=some) ?_ (fun _=>rfl) (by simp;omega)).trans (by simp[Bb]);grind[Afo,Ss]
theorem Akd{V:Type}[DecidableEq V]:∀{l m:List V},l.Nodup->(∀x∈l,x∈m)->l.length<=m.length
 |[],_,_,_=>by simp
 |a::r,m,hn,hs=>by
  rw[H4]at hn;have f:=hs a (by simp)
  have:=Akd (l:=r) (m:=m.erase a) hn.2 fun x g=>by
   have b:x≠a:=fun e=>hn.1 (by rw[<-e];exact g)
   rw[List.mem_erase_of_ne b];exact hs x (by simp[g])
  rw[List.length_erase_of_mem f]at this;have:=L5 f;simp;omega
theorem WfT.id_pos{t:Ae}(w:WfT t){x:Ah}(h:x∈t.nodes):1<=x.id:=w.p.ge1 x h
theorem WfT.par_lt{t:Ae}(w:WfT t){x:Ah}(h:x∈t.nodes):x.parent<x.id:=by
 rcases w.p.par x h with⟨b,r⟩|⟨_,a,_⟩
 ·rw[r.parent];omega
 ·exact a
theorem Gi{t:Ae}{x k:Int}(h:k∈upT t x):∃n∈t.nodes,n.id=x:=by
 grind[upT,Adj]
theorem WfT.induct{t:Ae}(w:WfT t){P:Ah->Prop}(step:∀x∈t.nodes,(∀y∈t.nodes,y.id=x.parent->P y)->P x):∀x∈t.nodes,P x:=by
 have key:∀(n:Nat),∀x∈t.nodes,x.id.toNat<n->P x:=by
  intro n
  induction n with
  |zero=>intro x _ h;omega
  |succ n b=>
   intro x a h;refine step x a fun y f e=>b y f ?_
   have:=w.par_lt a;have:=w.id_pos a;omega
 intro x a;exact key _ x a (O5 _)
theorem up_le{t:Ae}(w:WfT t):∀x∈t.nodes,∀k∈upT t x.id,k<=x.id:=by
 refine w.induct fun x b f k a=>?_
 rw[w.up b]at a;rcases C0.mp a with rfl|a
 ·exact J7 _
 ·obtain⟨y,g,e⟩:=Gi a;rw[<-e]at a;have:=f y g e k a;have:=w.par_lt b;omega
theorem AnJ{t:Ae}(w:WfT t){x:Ah}(a:x∈t.nodes):x.id∈upT t x.id:=by
 rw[w.up a];simp
theorem Aji{t:Ae}(w:WfT t):∀x∈t.nodes,∀k∈upT t x.id,∃n∈t.nodes,n.id=k:=by
 refine w.induct fun x b f k a=>?_
 rw[w.up b]at a;grind[Gi]
theorem AkX{t:Ae}(w:WfT t){k y:Int}(f:k∈upT t y):∀x∈t.nodes,y∈upT t x.id->k∈upT t x.id:=by
 refine w.induct fun x a b g=>?_
 have e:=w.up a;grind[Gi]
theorem AoM{t:Ae}(w:WfT t){y:Int}:∀x∈t.nodes,y∈upT t x.id->x.id=y\/∃c∈Bb t y,c∈upT t x.id:=by
 refine w.induct fun x a b f=>?_
 have e:=w.up a;grind[Gi,AnJ,Bb]
theorem kids_iff{t:Ae}{y c:Int}:c∈Bb t y↔∃x∈t.nodes,x.parent=y/\x.id=c:=by
 grind[Bb]
theorem AsK{t:Ae}(w:WfT t):(t.nodes.map (·.id)).Nodup:=by
 have:=w.sorted;grind
theorem Akg{t:Ae}(w:WfT t)(y:Int):(Bb t y).Nodup:=by
 unfold Bb List.Nodup;rw[G0];exact(w.sorted.sublist K6).imp fun h=>by omega
theorem Aol{t:Ae}(w:WfT t)(k:Int):Ok (Zf t k) (fun l=>l.Nodup/\l.length<=t.nodes.length/\∀x,x∈l↔k∈upT t x):=by
 have l2:=w.len2;unfold Zf;refine Ok.bind (Li t k (by omega)) fun i hi=>?_
 refine Aya (fun c=>?_) fun c=>?_
 ·refine Ok.ret ⟨List.nodup_nil,by simp,fun x=>⟨fun h=>by simp at h,fun h=>?_⟩⟩;exfalso
  have q:Aw t k=false:=by
   rw[hi.1]at c;simpa using c
  obtain⟨n,E,e⟩:=Gi h;rw[<-e]at h;obtain⟨m,H,Y⟩:=Aji w n E k h;have:=hasN_iff.mpr ⟨m,H,Y⟩;rw[this]at q;simp at q
 have U:Aw t k=true:=by
  rw[hi.1]at c;simpa using c
 obtain⟨kn,P,X⟩:=hasN_iff.mp U
 let I:List Int×List Int->Prop:=fun s=>(s.1++s.2).Nodup/\(∀z∈s.1++s.2,k∈upT t z)/\(∀z∈s.1++s.2,z=k\/∃n∈t.nodes,n.id=z/\n.parent∈s.1)/\(∀x,k∈upT t x->x∈s.1\/∃y∈s.2,y∈upT t x)
 have o:∀s,I s->s.1.length+s.2.length<=t.nodes.length:=by
  intro s hs;have:=Akd hs.1 (m:=t.nodes.map (·.id)) fun z a=>by grind
  simpa using this
 refine AxW I (fun s=>t.nodes.length-s.1.length) ?_ (by rw[Iz];simp only[J6];omega) ?_
 ·grind[AnJ]
 rintro⟨out,C⟩ n O E;have M:=o _ O;obtain⟨i1,D,v,i4⟩:=O;simp only at M i1 D v i4 E;unfold Agz;simp only
 cases C with
 |nil=>grind[only,Ok.ret]
 |cons y rest=>
  simp only[E9]at M;have K:(decide (((((y::rest).length:Nat):Int))>0)&&decide ((out.length:Int)<(t.nodes.length:Int)))=true:=by grind
  rw[if_pos K];refine Ok.guard (by simp) (Ok.guard (by omega) (Ok.guard (by simp) ?_));have ey:(y::rest).getD 0 0=y:=rfl;rw[ey];refine Ok.step (Yo t y (by omega)) (Ok.guard (by simp) ?_);have A:Cq (y::rest).length 1=rest.length:=rfl;rw[A];have R:=Yu t y;refine Ok.guard (by omega) ?_;have ed:(y::rest).drop 1=rest:=rfl;rw[ed];have g:=D y (by simp);have G:y∉out:=by grind
  have V:y∉rest:=by grind
  have N:∀c∈Bb t y,c∉out/\c∉rest/\c≠y:=by
   intro c K;obtain⟨u,b,f,j⟩:=kids_iff.mp K;have Q:=w.par_lt b
   have J:c≠k:=by
    rintro rfl;obtain⟨T,B,L⟩:=Gi g;rw[<-L]at g;have:=up_le w T B _ g;omega
   have q:c∉out++(y::rest):=by
    intro H;rcases v c H with h|⟨m,F,W,r⟩
    ·exact J h
    ·obtain rfl:m=u:=Rv w.sorted F b (by omega);rw[f]at r;exact G r
   grind
  refine E _ ⟨?_,?_,?_,?_⟩ (by simp only[I1,E9,J6];omega)
  ·grind[only,Akg]
  ·intro z a;simp only[B1,C0,O4,or_false]at a;rcases a with(a|rfl)|a|a
   ·exact D z (by simp[a])
   ·exact g
   ·obtain⟨u,b,f,j⟩:=kids_iff.mp a;rw[<-j];refine AkX w g u b ?_;rw[w.up b,f];grind[Gi,AnJ]
   ·exact D z (by simp[a])
  ·intro z a;simp only[B1,C0,O4,or_false]at a;have lift:(z=k\/∃n∈t.nodes,n.id=z/\n.parent∈out)->(z=k\/∃n∈t.nodes,n.id=z/\n.parent∈out++[y]):=by grind
   rcases a with(a|rfl)|a|a
   ·exact lift (v z (by simp[a]))
   ·exact lift (v z (by simp))
   ·obtain⟨u,b,f,j⟩:=kids_iff.mp a;exact .inr ⟨u,b,j,by simp[f]⟩
   ·exact lift (v z (by simp[a]))
  grind[Gi,AoM]
end Go.Dm

namespace Go.Dm
theorem ArP(h:Aa)(x:Ar)(n:h.tasks.length<=1000000)(o:h.tree.nodes.length<=1000000):
  Ok (AdV h x) (fun b=>b=true↔(0<=x.user/\x.user<=1048576/\Aw h.tree x.group=true/\∃p,Bx h.tasks x.process=some p/\p.process=x.process/\p.user=x.user)):=by
 unfold AdV Lh;refine Ok.step (AcJ h x.process n) ?_;have no:∀{P:Prop},¬ P->Ok (some false) (fun b=>b=true↔P):=fun k=>Ok.ret ⟨fun e=>by simp at e,fun w=>absurd w k⟩
 refine Aya (fun c=>?_) fun c=>?_
 rotate_left
 ·have:=of_decide_eq_false c;exact no fun w=>by omega
 have u1:=of_decide_eq_true c;refine Aya (fun c=>?_) fun c=>?_
 rotate_left
 ·have:=of_decide_eq_false c;exact no fun w=>by omega
 have u2:=of_decide_eq_true c
 cases m:Bx h.tasks x.process with
 |none=>
  exact no fun w=>by
   obtain⟨_,_,_,p,f,_⟩:=w
   simp at f
 |some p=>
  obtain⟨g,s⟩:=Rn m;simp only[D6,if_true];refine Aya (fun c=>?_) fun c=>?_
  rotate_left
  ·exact no fun w=>by
    obtain⟨_,_,_,q,a,l,_⟩:=w;obtain rfl:p=q:=by simpa using a
    have:¬ p.process=p.id:=by simpa using c
    omega
  have c1:p.process=p.id:=by simpa using c
  refine Aya (fun c=>?_) fun c=>?_
  rotate_left
  ·exact no fun w=>by
    obtain⟨_,_,_,q,a,_,r⟩:=w;obtain rfl:p=q:=by simpa using a
    have:¬ p.user=x.user:=by simpa using c
    omega
  have c2:p.user=x.user:=by simpa using c
  refine Ok.bind (Li h.tree x.group o) fun i hi=>Ok.ret ?_
  rw[hi.2];constructor
  ·intro j;exact⟨u1,u2,j,p,rfl,by omega,c2⟩
  ·intro w;exact w.2.2.1
theorem AhO(h:Aa)(B:∀x∈h.tree.nodes,Aig x):Ok (Hy h) (fun b=>b=true↔WfH h):=by
 have g:¬ WfH h->Ok (some false) (fun b=>b=true↔WfH h):=fun q=>Ok.ret ⟨fun e=>by simp at e,fun w=>absurd w q⟩
 unfold Hy;refine Aya (fun c=>?_) fun c=>?_
 ·have:=of_decide_eq_true c;exact g fun w=>by have:=w.len;omega
 have E:=of_decide_eq_false c;refine Aya (fun c=>?_) fun c=>?_
 ·have:=of_decide_eq_true c;exact g fun w=>by have:=w.n2;omega
 have n2:=of_decide_eq_false c;refine Ok.bind (AeV h.tree B) fun b i=>?_
 unfold Tx;refine Aya (fun c=>?_) fun c=>?_
 ·refine g fun w=>?_
  have:=i.mpr w.tree;rw[this]at c;simp at c
 have wt:WfT h.tree:=i.mp (by simpa using c);have F:=wt.len2;refine Ok.guard (by omega) ?_;refine Ok.range (fun pre s=>0<=s/\(∀y∈pre,y.id<=s)/\(s=0\/∃y∈pre,y.id=s)/\pre.Pairwise (fun a b=>a.id<b.id)/\∀x∈pre,TaskV h x) (by simp) ?_ ?_
 ·rintro pre x post s n t ⟨A,k,l,m,o⟩ q;have j:x∈h.tasks:=by rw[t];simp
  unfold AjS Zi;refine Aya (fun c=>?_) fun c=>?_
  ·have D:=of_decide_eq_true c;refine g fun w=>?_
   rcases l with rfl|⟨y,f,e⟩
   ·have:=(w.val x j).pos;omega
   ·have r:=w.sorted;rw[t,E4]at r;have:=r.2.2 y f x (by simp);omega
  have z:=of_decide_eq_false c;refine Ok.bind (ArP h x (by omega) (by omega)) fun b i=>?_
  refine Aya (fun c=>?_) fun c=>?_
  ·refine g fun w=>?_
   have v:=w.val x j;have:=i.mpr ⟨v.u1,v.u2,v.grp,v.ldr⟩;rw[this]at c;simp at c
  ·obtain⟨a1,a2,a3,a4⟩:=i.mp (by simpa using c);refine q _ ⟨by omega,?_,.inr ⟨x,by simp,rfl⟩,?_,?_⟩
   ·intro y f;rcases B1.mp f with f|f
    ·have:=k y f;omega
    ·obtain rfl:y=x:=by simpa using f
     exact J7 _
   ·rw[E4];refine⟨m,by simp,fun a C b i=>?_⟩;obtain rfl:b=x:=by simpa using i
    have:=k a C;omega
   ·intro y f;rcases B1.mp f with f|f
    ·exact o y f
    ·obtain rfl:y=x:=by simpa using f
     exact⟨by omega,a3,a1,a2,a4⟩
 ·rintro s ⟨A,k,l,m,o⟩;refine Ok.ret ⟨fun e=>?_,fun w=>?_⟩
  ·have u:s<h.next:=by
    have:=of_decide_eq_true e;omega
   exact⟨wt,by omega,by omega,by omega,m,fun x j=>by have:=k x j;omega,o⟩
  ·rcases l with rfl|⟨y,f,e⟩
   ·have:=w.n1;simp;omega
   ·have:=w.lt y f;simp;omega
theorem Pn{h:Aa}(w:WfH h):Hy h=some true:=by
 obtain⟨b,a,e⟩:=AhO h w.tree.p.names;rw[a,e.mpr w]
theorem AgL{h:Aa}(w:WfH h):Ts h=some h:=by
 unfold Ts;rw[Pn w];rfl
theorem AoG(l:List Int)(x:Int)(m:l.length<=1000000):Fq l x=some (l.contains x):=by
 unfold Fq Vf;rw[if_pos (by omega),Jg (p:=fun y:Int=>x==y) (fun k y n=>rfl) rfl,A0];rcases Fh (fun y:Int=>x==y) l 0 with⟨i,b,a,f⟩|⟨b,a⟩
 ·rw[a];have h:=D0 f;have j:=F3 f
  have:l.contains x=true:=by
   rw[G1];have:x=l.getD i 0:=by simpa using j
   rw[this];exact h
  rw[this];simp
 ·rw[b]
  have:l.contains x=false:=by
   rw[G4]at a;cases g:l.contains x
   ·rfl
   ·rw[G1]at g;have:=a x g;simp at this
  rw[this];simp
def Ge(h:Aa)(k:Int):Nat:=h.tasks.countP (fun x=>(upT h.tree x.group).contains k)
theorem Agu{h:Aa}(wt:WfT h.tree)(f:h.tasks.length<=1000000)(k:Int):Acl h k=some ((Ge h k:Nat):Int):=by
 apply Ok.eq;unfold Acl;have g:=wt.len2;refine Ok.bind (Aol wt k) fun l ⟨_,b,a⟩=>?_
 refine Ok.guard (by omega) ?_;refine Ok.of_eq (Awk (p:=fun x:Ar=>l.contains x.group) (r:=some) ?_ (fun _=>rfl) (by omega)) ?_
 ·intro q x s n _;unfold AlX Acg;rw[AoG _ _ (by omega)];rfl
 ·congr 1;unfold Ge;refine N8 fun x _=>?_
  rw[G1,G1];exact a x.group
theorem AeN(h:Aa)(k:Int):Ge h k<=h.tasks.length:=List.countP_le_length
theorem Py(h:Aa)(a:h.tree.nodes.length<=1000000)(b:h.tasks.length<=1000000):Pj h=some h:=by
 unfold Pj Gx Oq;rw[if_pos (by omega),if_pos (by omega)];rfl
end Go.Dm

namespace Go.Dm
theorem up_one{t:Ae}(w:WfT t){y:Int}{c i:Ah}(l:c∈t.nodes)(j:i∈t.nodes)(e:c.parent=y)(v:i.parent=y):
  ∀x∈t.nodes,c.id∈upT t x.id->i.id∈upT t x.id->c.id=i.id:=by
 have s:=w.par_lt l;have u:=w.par_lt j;refine w.induct fun x k r a b=>?_
 rw[w.up k]at a b
 have low:∀z:Ah,z∈t.nodes->z.id=y->∀q:Ah,q.parent=y->q.parent<q.id->q.id∉upT t z.id:=by
  intro z f n q A m o;have:=up_le w z f _ o;omega
 rcases C0.mp a with a|a<;>rcases C0.mp b with b|b
 ·omega
 ·exfalso;obtain⟨z,f,h⟩:=Gi b;rw[<-h]at b;have g:x=c:=Rv w.sorted k l a.symm;subst g;exact low z f (by omega) i v u b
 ·exfalso;obtain⟨z,f,h⟩:=Gi a;rw[<-h]at a;have g:x=i:=Rv w.sorted k j b.symm;subst g;exact low z f (by omega) c e s a
 ·obtain⟨z,f,h⟩:=Gi a;rw[<-h]at a b;exact r z f h a b
end Go.Dm

namespace Go.Dm
theorem De{t:Ae}(w:WfT t)(id:Int):Da t id=some (upT t id):=by
 apply Ok.eq;have m:=w.len2;unfold Da;refine Ok.guard (by omega) ?_;refine Ok.range (fun pre s=>s.1++upT t s.2=upT t id/\s.1.length=pre.length) ⟨by simp,rfl⟩ ?_ ?_
 ·rintro pre x post ⟨o,c⟩ n k ⟨b,f⟩ j;simp only at b f;unfold AeR Ro;refine Ok.step (Ajv t c (by omega)) ?_
  cases i:Ha t c with
  |none=>grind[Ok.ret,upT,Adj,Ha]
  |some y=>
   obtain⟨h,g⟩:=Un i;have l:pre.length<t.nodes.length:=by rw[k];simp
   simp only[D6,B4,A2,if_false];refine Ok.guard (by omega) (j _ ⟨?_,by simp[f]⟩);simp only;rw[<-b,<-g,w.up h];simp
 ·rintro⟨o,c⟩ ⟨b,f⟩;simp only at b f;refine Ok.ret ?_;have a:=Kn t.nodes.reverse id;rw[N1]at a;change (upT t id).length<=t.nodes.length at a;rw[<-b]at a
  have:(upT t c).length=0:=by
   rw[I1]at a;omega
  grind
def zC:Af:={group:=0,now:=0,limit:=0,peak:=0,events:=0}
def Ib(l:List Af)(g:Int):Option Af:=l.find? (fun c=>c.group==g)
theorem AkL(l:List Af)(g:Int)(a:l.length<=1000000):Tc l g=some ((l.findIdx? (fun c=>c.group==g)).elim (-1) (fun i=>(i:Int))):=by
 unfold Tc Jp;rw[if_pos (by omega),Jg (p:=fun c:Af=>c.group==g) (fun k x n=>rfl) rfl];rfl
theorem Awa(l:List Af)(g:Int)(f:l.length<=1000000):Ako l g=some ((Ib l g).elim (zC,false) (fun c=>(c,true))):=by
 unfold Ako Ib;rw[AkL l g f,A0];rcases Fh (fun c:Af=>c.group==g) l default with⟨i,b,a,h⟩|⟨b,a⟩
 ·grind
 ·rw[b,a];rfl
structure CntV(h:Aa)(c:Af):Prop where
 now:c.now=((Ge h c.group:Nat):Int)
 limit:(0<=c.limit/\c.limit<=1099511627776)\/c.limit=4611686018427387904
 p1:c.now<=c.peak
 p2:c.peak<=128
 e1:0<=c.events
 e2:c.events<=1099511627776
structure CntOk(h:Aa)(l:List Af):Prop where
 ids:l.map (·.group)=h.tree.nodes.map (·.id)
 val:∀c∈l,CntV h c
theorem CntOk.len{h:Aa}{l:List Af}(k:CntOk h l):l.length=h.tree.nodes.length:=by
 have:=congrArg List.length k.ids;simpa using this
theorem AsV{h:Aa}{c:Af}{g:Int}:Ok (AhX c g ((Ge h g:Nat):Int)) (fun b=>b=true↔(c.group=g/\CntV h c)):=by
 unfold AhX;refine Ok.ret ?_;simp only[A6,B7,beq_iff_eq,decide_eq_true_eq];constructor
 ·rintro⟨⟨⟨⟨⟨⟨a,i⟩,m⟩,j⟩,l⟩,f⟩,k⟩;exact⟨a,⟨by rw[a];exact i,m,j,l,f,k⟩⟩
 ·rintro⟨a,v⟩;have:=v.now;rw[a]at this;exact⟨⟨⟨⟨⟨⟨a,this⟩,v.limit⟩,v.p1⟩,v.p2⟩,v.e1⟩,v.e2⟩
theorem Aty{h:Aa}(w:WfH h)(l:List Af):Ok (Ot h l) (fun b=>b=true↔CntOk h l):=by
 have f:¬ CntOk h l->Ok (some false) (fun b=>b=true↔CntOk h l):=fun q=>Ok.ret ⟨fun e=>by simp at e,fun w=>absurd w q⟩
 have v:=w.len;have y:=w.tree.len2;unfold Ot;refine Ok.step (Pn w) ?_;simp only[B4,A2,if_false];unfold Acz;refine Aya (fun c=>?_) fun c=>?_
 ·refine f fun k=>?_
  have:=k.len;simp[this]at c
 have a:l.length=h.tree.nodes.length:=by grind
 refine Ok.guard (by omega) ?_;refine Ok.range (fun pre _=>(l.take pre.length).map (·.group)=pre.map (·.id)/\∀c∈l.take pre.length,CntV h c) (by simp) ?_ ?_
 ·intro pre x post _ n s ⟨o,i⟩ q;have g:pre.length<l.length:=by rw[a,s];simp
  unfold AmW;refine Ok.guard g ?_;refine Ok.step (Agu w.tree (by omega) x.id) ?_;refine Ok.bind AsV fun b j=>?_
  rw[Ev g]at j;refine Aya (fun c=>?_) fun c=>?_
  ·refine f fun k=>?_
   have r:l[pre.length].group=x.id:=by
    have:=congrArg (fun m=>m[pre.length]?) k.ids;grind
   have:=j.mpr ⟨r,k.val _ (H0 g)⟩;rw[this]at c;simp at c
  ·obtain⟨z,t⟩:=j.mp (by simpa using c);have u:l.take (pre++[x]).length=l.take pre.length++[l[pre.length]]:=by simp_all
   grind
 ·rintro _ ⟨o,i⟩;rw[<-a,I8]at o i;exact Ok.ret ⟨fun _=>⟨o,i⟩,fun _=>rfl⟩
theorem Ud{h:Aa}(w:WfH h){l:List Af}(k:CntOk h l):Ot h l=some true:=by
 obtain⟨b,a,e⟩:=Aty w l;rw[a,e.mpr k]
def Wr(h:Aa)(l:List Af)(x:Ah):Af:=
 let c:=(Ib l x.id).getD {group:=x.id,now:=0,limit:=4611686018427387904,peak:=0,events:=0}
 {c with now:=((Ge h x.id:Nat):Int),peak:=Us c.peak ((Ge h x.id:Nat):Int)}
theorem AlC{h:Aa}(w:WfH h){l:List Af}(i:l.length<=1000000):AaE h l=some (h.tree.nodes.map (Wr h l)):=by
 apply Ok.eq;have k:=w.len;have m:=w.tree.len2;unfold AaE;refine Ok.step (Pn w) (Ok.guard (by omega) ?_);refine Ok.range (fun pre s=>s=pre.map (Wr h l)) rfl ?_ ?_
 ·intro pre x post s n g a f;have j:pre.length<h.tree.nodes.length:=by rw[g];simp
  unfold Aln Abr;refine Ok.step (Awa l x.id i) ?_;have b:s.length+1<=1073741824:=by rw[a];simp;omega
  cases o:Ib l x.id with
  |none=>
   refine Ok.step (Agu w.tree (by omega) x.id) (Ok.guard b (f _ ?_))
   grind[Wr]
  |some c=>
   refine Ok.step (Agu w.tree (by omega) x.id) (Ok.guard b (f _ ?_));grind[Wr]
 ·intro s a;exact Ok.ret a
end Go.Dm

namespace Go.Dm
theorem Atv{V:Type}{l:List V}{i:Nat}{a d:V}(h:i<l.length):(l.set i a).getD i d=a:=by
 simp[B5,h]
theorem Ant{a b c:Int}(f:a<=c)(g:b<=c):Us a b<=c:=by
 unfold Us;split<;>omega
theorem AqO(a b:Int):b<=Us a b:=by
 unfold Us;split<;>omega
structure CntMade(h:Aa)(l:List Af):Prop where
 ok:CntOk h l
 ev:∀c∈l,c.events<=2
theorem new_made{h:Aa}(w:WfH h):CntMade h (h.tree.nodes.map (Wr h [])):=by
 have f:=w.len;refine⟨⟨?_,?_⟩,?_⟩
 ·rw[H7];rfl
 ·intro c a;obtain⟨x,b,rfl⟩:=B8.mp a;have:=AeN h x.id;refine⟨rfl,.inr rfl,?_,?_,by simp[Wr,Ib],by simp[Wr,Ib]⟩
  ·simp only[Wr,Us];split<;>omega
  ·exact Ant (show(0:Int)<=128 by omega) (show((Ge h x.id:Nat):Int)<=128 by omega)
 ·intro c a;obtain⟨x,b,rfl⟩:=B8.mp a;simp[Wr,Ib]
theorem Axk{h:Aa}(w:WfH h):AkT h=some (h.tree.nodes.map (Wr h [])):=by
 unfold AkT;rw[AlC w (by simp)];rfl
end Go.Dm

namespace Go.Dm
theorem CntOk.at{h:Aa}{l:List Af}(k:CntOk h l){a:Int}(j:∃n∈h.tree.nodes,n.id=a):
  ∃i,i<l.length/\l.findIdx? (fun c=>c.group==a)=some i/\Ib l a=some (l.getD i default)/\(l.getD i default).group=a:=by
 rcases Fh (fun c:Af=>c.group==a) l default with⟨i,f,b,g⟩|⟨f,b⟩
 ·have:=F3 g;exact⟨i,f,b,g,by simpa using this⟩
 ·exfalso;obtain⟨n,m,e⟩:=j
  have:a∈l.map (·.group):=by
   rw[k.ids];exact B8.mpr ⟨n,m,e⟩
  grind
theorem CntOk.inj{h:Aa}(w:WfH h){l:List Af}(k:CntOk h l){i j:Nat}(hi:i<l.length)(f:j<l.length)(e:l[i].group=l[j].group):i=j:=by
 have a:=AsK w.tree;rw[<-k.ids]at a;unfold List.Nodup at a;rw[G0]at a;have b:=C9.mp a;grind
theorem Acc{l:List Af}{a:Int}{i:Nat}(b:l.length<=1000000)(h:l.findIdx? (fun c=>c.group==a)=some i):Tc l a=some (i:Int):=by
 rw[AkL l a b,h];rfl
def Sr(a:Int)(f:Af->Af)(c:Af):Af:=if c.group==a then f c else c
theorem Aus{h:Aa}(w:WfH h){l:List Af}(k:CntOk h l){i:Nat}(hi:i<l.length){a:Int}(e:(l.getD i default).group=a)(f:Af->Af):
  l.set i (f (l.getD i default))=l.map (Sr a f):=by
 rw[Ev hi]at e ⊢;apply I6
 ·simp
 ·intro j m n;have g:j<l.length:=by simpa using m
  rw[M3,K3,Sr]
  by_cases q:i=j
  ·grind
  ·rw[if_neg q,if_neg];intro b;have b:l[j].group=a:=by simpa using b
   exact q (k.inj w hi g (by omega))
def Aiz(l:List Af)(n a:Int):Bool:=decide ((((Ib l a).getD default).limit-((Ib l a).getD default).now)<n)
theorem room_val{h:Aa}(w:WfH h){c:Af}(v:CntV h c):w64 (c.limit-c.now)=c.limit-c.now:=by
 have:=v.now;have:=AeN h c.group;have:=w.len;rcases v.limit with⟨a,b⟩|a
 all_goals grind[Br]
theorem AoP{t:Ae}(w:WfT t){g a:Int}(h:a∈upT t g):∃n∈t.nodes,n.id=a:=by
 grind[Gi,Aji]
def Agm(c:Af):Af:={c with events:=Jj (w64 (c.events+1)) 1099511627776}
theorem Att{h:Aa}(w:WfH h){l:List Af}(k:CntOk h l)(g n:Int):
  Aed h l g n=some (((upT h.tree g).find? (Aiz l n)).elim (l,0) (fun a=>(l.map (Sr a Agm),a))):=by
 apply Ok.eq;have s:=k.len;have x:=w.tree.len2;unfold Aed;refine Ok.step (Ud w k) ?_;simp only[B4,A2,if_false];refine Ok.step (a:=l) (by unfold Fe;rw[if_pos (by omega)]) ?_;refine Ok.step (De w.tree g) ?_;have o:=Kn h.tree.nodes.reverse g;rw[N1]at o;refine Ok.guard (by unfold upT;omega) ?_;refine Ok.range (fun pre _=>pre.find? (Aiz l n)=none) rfl ?_ ?_
 ·intro pre a post _ next q b u
  obtain⟨i,hi,j,f,t⟩:=k.at (AoP w.tree (show a∈upT h.tree g by rw[q];simp));have v:=k.val _ (Og (d:=default) hi);unfold Alt;refine Ok.step (Acc (by omega) j) ?_;have m:Int.toNat (i:Int)=i:=by omega
  rw[m];refine Ok.guard (by omega) (Ok.guard hi ?_);unfold AeO;refine Ok.step rfl ?_;rw[room_val w v]
  have r:Aiz l n a=decide ((l.getD i default).limit-(l.getD i default).now<n):=by
   unfold Aiz;rw[f];rfl
  refine Aya (fun c=>?_) fun c=>?_
  ·refine Ok.guard (by omega) (Ok.guard hi (Ok.guard (by omega) (Ok.guard hi (Ok.ret ?_))));grind[upT,Aiz,Aus,Agm,only]
  grind
 ·intro _ b;refine Ok.ret ?_;rw[b];rfl
end Go.Dm

namespace Go.Dm
theorem getC_map{L:List Ah}{f:Ah->Af}(k:∀x∈L,(f x).group=x.id){x:Ah}(j:x∈L)(m:L.Pairwise (fun a b=>a.id<b.id)):Ib (L.map f) x.id=some (f x):=by
 unfold Ib
 have:∀M:List Ah,(∀y∈M,y∈L)->x∈M->(M.map f).find? (fun c=>c.group==x.id)=some (f x):=by
  intro M
  induction M with
  |nil=>intro _ h;simp at h
  |cons a r n=>
   intro g i;rw[D8,J2,k a (g a (by simp))]
   by_cases e:a.id=x.id
   ·have:=Rv m (g a (by simp)) j e;subst this;simp
   ·have o:(a.id==x.id)=false:=by simpa using e
    rw[o];refine n (fun y l=>g y (by simp[l])) ?_;rcases C0.mp i with h|h
    ·exact absurd (by rw[h]) e
    ·exact h
 exact this L (fun _ h=>h) j
theorem AkJ(h:Aa)(l:List Af)(x:Ah):(Wr h l x).group=x.id:=by
 unfold Wr
 cases a:Ib l x.id with
 |none=>rfl
 |some c=>
  have:=F3 a;simpa using this
theorem get_adj{h:Aa}(w:WfH h)(l:List Af){x:Ah}(a:x∈h.tree.nodes):Ib (h.tree.nodes.map (Wr h l)) x.id=some (Wr h l x):=
 getC_map (fun y _=>AkJ h l y) a w.tree.sorted
theorem Vz{t:Ae}{x:Ah}(a:x∈t.nodes):Aw t x.id=true:=hasN_iff.mpr ⟨x,a,rfl⟩
end Go.Dm

namespace Go.Dm
def CIds(h:Aa)(l:List Af):Prop:=l.map (·.group)=h.tree.nodes.map (·.id)
theorem CIds.len{h:Aa}{l:List Af}(k:CIds h l):l.length=h.tree.nodes.length:=by
 have:=congrArg List.length k;simpa using this
theorem CIds.at{h:Aa}{l:List Af}(k:CIds h l){a:Int}(j:∃n∈h.tree.nodes,n.id=a):
  ∃i,i<l.length/\l.findIdx? (fun c=>c.group==a)=some i/\Ib l a=some (l.getD i default)/\(l.getD i default).group=a:=by
 rcases Fh (fun c:Af=>c.group==a) l default with⟨i,f,b,g⟩|⟨f,b⟩
 ·have:=F3 g;exact⟨i,f,b,g,by simpa using this⟩
 ·exfalso;obtain⟨n,m,e⟩:=j
  have:a∈l.map (·.group):=by
   rw[k];exact B8.mpr ⟨n,m,e⟩
  grind
theorem CIds.inj{h:Aa}(w:WfH h){l:List Af}(k:CIds h l){i j:Nat}(hi:i<l.length)(f:j<l.length)(e:l[i].group=l[j].group):i=j:=by
 have a:=AsK w.tree;rw[<-k]at a;unfold List.Nodup at a;rw[G0]at a;have b:=C9.mp a;grind
theorem CIds.set{h:Aa}(w:WfH h){l:List Af}(k:CIds h l){i:Nat}(hi:i<l.length){a:Int}(e:(l.getD i default).group=a)(f:Af->Af):
  l.set i (f (l.getD i default))=l.map (Sr a f):=by
 rw[Ev hi]at e ⊢;apply I6
 ·simp
 ·intro j m n;have g:j<l.length:=by simpa using m
  rw[M3,K3,Sr]
  by_cases q:i=j
  ·grind
  ·rw[if_neg q,if_neg];intro b;have b:l[j].group=a:=by simpa using b
   exact q (k.inj w hi g (by omega))
theorem CIds.none{h:Aa}{l:List Af}(k:CIds h l){a:Int}(b:Aw h.tree a=false):l.findIdx? (fun c=>c.group==a)=none:=by
 rw[List.findIdx?_eq_none_iff];intro c f;have:c.group∈l.map (·.group):=B8.mpr ⟨c,f,rfl⟩;rw[k]at this;obtain⟨n,g,e⟩:=B8.mp this
 by_cases q:c.group=a
 ·have:=hasN_iff.mpr ⟨n,g,e.trans q⟩;rw[this]at b;simp at b
 ·simpa using q
theorem up_nodup{t:Ae}(w:WfT t)(g:Int):(upT t g).Nodup:=by
 have key:∀x∈t.nodes,(upT t x.id).Nodup:=w.induct fun x b i=>by
  rw[w.up b,H4];rcases w.p.par x b with⟨j,r⟩|⟨_,h,⟨z,f,e⟩,_⟩
  ·rw[r.parent,w.upZero];simp
  ·have:=i z f e;rw[e]at this;refine⟨fun a=>?_,this⟩;rw[<-e]at a;have:=up_le w z f _ a;omega
 grind[key,upT,Adj]
def Anr(n:Int)(c:Af):Af:={c with now:=w64 (c.now+n),peak:=Us c.peak (w64 (c.now+n))}
def Ij(up:List Int)(n:Int)(c:Af):Af:=if up.contains c.group then Anr n c else c
theorem Als(up:List Int)(n:Int)(c:Af):(Ij up n c).group=c.group:=by
 unfold Ij Anr;split<;>rfl
theorem CIds.charge{h:Aa}{l:List Af}(k:CIds h l)(up:List Int)(n:Int):CIds h (l.map (Ij up n)):=by
 unfold CIds;rw[H7,<-k];exact C8 fun c _=>Als up n c
theorem AvR{pre:List Int}{a:Int}(b:a∉pre)(n:Int)(c:Af):Sr a (Anr n) (Ij pre n c)=Ij (pre++[a]) n c:=by
 grind[Sr,Als,Ij]
theorem AjP{l:List Af}(a:l.length<=1000000):Fe l=some l:=by
 grind[Fe]
theorem AjM{t:Ae}(w:WfT t)(g:Int):(upT t g).length<=64:=by
 have:=Kn t.nodes.reverse g;have:=w.len2;grind[upT]
theorem AqX{h:Aa}(w:WfH h){l:List Af}(k:CIds h l)(g n:Int):Acx h l g n=some (l.map (Ij (upT h.tree g) n)):=by
 apply Ok.eq;have y:=k.len;have A:=w.tree.len2;unfold Acx;refine Ok.step (AjP (by omega)) ?_;refine Ok.step (De w.tree g) ?_;have z:=AjM w.tree g;refine Ok.guard (by omega) ?_;refine Ok.range (fun pre s=>s=l.map (Ij pre n)) ?_ ?_ ?_
 ·have:∀c,Ij [] n c=c:=fun c=>rfl
  rw[C8 (g:=id) fun c _=>this c,List.map_id]
 ·rintro pre a post s next v rfl u
  have ks:=k.charge pre n
  have j:a∉pre:=by
   have:=up_nodup w.tree g;grind
  obtain⟨i,hi,o,x,r⟩:=ks.at (AoP w.tree (show a∈upT h.tree g by rw[v];simp));have m:=ks.len;have fin:=ks.set w hi r (Anr n);rw[H7,C8 (f:=Sr a (Anr n) ∘ Ij pre n) (g:=Ij (pre++[a]) n) fun c _=>AvR j n c]at fin;generalize List.map (Ij pre n) l=S at *;unfold AjH;refine Ok.step (Acc (by omega) o) ?_;have q:Int.toNat (i:Int)=i:=by omega
  rw[q];have b:∀c,i<(S.set i c).length:=fun c=>by rw[List.length_set];exact hi
  refine Ok.guard (by omega) (Ok.guard hi (Ok.guard hi (Ok.guard (b _) (Ok.guard (b _) (Ok.guard (b _) (u _ ?_))))));rw[Atv hi,List.set_set];exact fin
 ·intro s t;exact Ok.ret t
def Xf(l:List Af)(up:List Int):Int:=Us (up.foldl (fun s a=>Jj s (w64 (((Ib l a).getD zC).limit-((Ib l a).getD zC).now))) 128) 0
theorem Amu{h:Aa}(w:WfH h){l:List Af}(k:CIds h l)(g:Int):AcX h l g=some (Xf l (upT h.tree g)):=by
 apply Ok.eq;have j:=k.len;have r:=w.tree.len2;unfold AcX;refine Ok.step (De w.tree g) ?_;have n:=AjM w.tree g;refine Ok.guard (by omega) ?_;refine Ok.range (fun pre s=>s=pre.foldl (fun s a=>Jj s (w64 (((Ib l a).getD zC).limit-((Ib l a).getD zC).now))) 128) rfl ?_ ?_
 ·rintro pre a post s next b rfl q
  obtain⟨i,hi,f,m,o⟩:=k.at (AoP w.tree (show a∈upT h.tree g by rw[b];simp));unfold Amm;refine Ok.step (Acc (by omega) f) ?_;simp_all[Ok.guard,AeO,Ok.step]
 ·rintro s rfl;exact Ok.ret rfl
theorem at_neg{h:Aa}(w:WfH h){l:List Af}(k:CIds h l)(g:Int):Ok (Tc l g) (fun i=>decide (i<0)=!Aw h.tree g):=by
 have b:=k.len;have f:=w.tree.len2
 cases a:Aw h.tree g with
 |true=>
  obtain⟨i,hi,j,_,_⟩:=k.at (hasN_iff.mp a)
  grind[Ok.of_eq,Acc]
 |false=>
  refine Ok.of_eq (AkL l g (by omega)) ?_;rw[k.none a];rfl
theorem Aom{h:Aa}(w:WfH h){l:List Af}(k:CntOk h l)(g:Int):AeA h l g=some (if Aw h.tree g then Xf l (upT h.tree g)else 0):=by
 apply Ok.eq;unfold AeA;refine Ok.step (Ud w k) ?_;simp only[B4,A2,if_false];refine Ok.bind (at_neg w k.ids g) fun i hi=>?_
 rw[hi];unfold AdQ
 cases Aw h.tree g with
 |true=>exact Ok.step (Amu w k.ids g) (Ok.ret rfl)
 |false=>exact Ok.ret rfl
def AjO(n:Int)(c:Af):Af:={c with limit:=n}
def Aky(n:Int):Bool:=(n==4611686018427387904)||(decide (n>=0)&&decide (n<=1099511627776))
def limitR(h:Aa)(l:List Af)(g n:Int):List Af×Int:=
 if !Aw h.tree g then([],4)else if !Aky n then([],3)else(l.map (Sr g (AjO n)),0)
theorem lim_iff(n:Int):((n !=4611686018427387904)&&((decide (n<0))||(decide (n>1099511627776))))=!Aky n:=by
 grind[Aky,only]
theorem AtR{h:Aa}(w:WfH h){l:List Af}(k:CntOk h l)(g n:Int):AfM h l g n=some (limitR h l g n):=by
 have m:=k.len;have o:=w.tree.len2;apply Ok.eq;unfold AfM limitR
 cases f:Aw h.tree g with
 |false=>
  refine Ok.bind (at_neg w k.ids g) fun i hi=>?_
  grind[Ok.step,Ud,Ok.ret]
 |true=>
  obtain⟨i,hi,a,_,j⟩:=k.at (hasN_iff.mp f);refine Ok.step (Acc (by omega) a) ?_;refine Ok.step (Ud w k) ?_;have:decide ((i:Int)<0)=false:=by simp
  rw[this,lim_iff];simp only[B4,A2,if_false];refine Aya (fun c=>?_) fun c=>?_
  ·rw[if_pos c];exact Ok.ret rfl
  ·rw[if_neg (by rw[c];simp)];refine Ok.step (AjP (by omega)) ?_;have b:Int.toNat (i:Int)=i:=by omega
   rw[b];refine Ok.guard (by omega) (Ok.guard hi (Ok.ret ?_));rw[<-Aus w k hi j (AjO n)];rfl
end Go.Dm

namespace Go.Dm
theorem ArT(a b:Int):Km a b=some (decide (a<b)):=by
 unfold Km Abo Te;simp
theorem asc_at{L:List Int}(h:L.Pairwise (· < ·)){i j:Nat}(a:i<j)(b:j<L.length):L.getD i 0<L.getD j 0:=by
 rw[Ev b,Ev (by omega)];exact C9.mp h i j (by omega) b a
theorem Arb{L:List Int}(h:L.Pairwise (· < ·)){i j:Nat}(a:i<j)(b:j<L.length):decide (L.getD j 0<L.getD i 0)=false:=by
 have:=asc_at h a b;rw[decide_eq_false_iff_not];omega
theorem Atz{L:List Int}(h:L.Pairwise (· < ·))(m:L.length<=1000000):Gs L 0 (L.length:Int)=some L:=by
 apply Ok.eq;unfold Gs;have e1:w64 (0+1)=1:=Br (by omega) (by omega);rw[e1];refine Ok.guard (by omega) ?_;refine AxZ (fun _ s=>s=L) rfl ?_ ?_
 ·intro j s n l b f;subst b;unfold Pl;refine AxW (fun q=>q=(s,1+(j:Int))) (fun _=>0) rfl (by rw[Iz];omega) ?_;intro q nn k _;subst k;unfold Pg Gd;simp only
  have g:w64 (1+(j:Int)-1)=(j:Int):=by
   rw[Br (by omega) (by omega)];omega
  have i:Int.toNat (j:Int)=j:=by omega
  have a:Int.toNat (1+(j:Int))=j+1:=by omega
  rw[g,i,a,ArT,Arb h (show j<j+1 by omega) (by omega)];refine Aya (fun _=>?_) fun _=>f _ rfl
  refine Ok.guard (by omega) (Ok.guard (by omega) (Ok.guard (by omega) (Ok.guard (by omega) ?_)));exact Ok.step rfl (f _ rfl)
 ·intro s b;subst b;exact Ok.ret rfl
theorem AkN{L:List Int}(h:L.Pairwise (· < ·)){a b:Nat}(f:a<b)(i:b<L.length)(c:Int):Fs L (a:Int) (b:Int) c=some ((a:Int),(b:Int),c):=by
 unfold Fs;have g:Int.toNat (a:Int)=a:=by omega
 have j:Int.toNat (b:Int)=b:=by omega
 rw[if_pos (by omega),if_pos (by omega),g,j,ArT,Arb h f i];rfl
theorem Alc{L:List Int}(h:L.Pairwise (· < ·)){a b c:Nat}(f:a<b)(g:b<c)(i:c<L.length)(k:Int):Hw L (a:Int) (b:Int) (c:Int) k=some ((b:Int),k):=by
 unfold Hw;rw[AkN h f (by omega),A0,AkN h g i,A0,AkN h f (by omega)];rfl
theorem Ahg{L:List Int}(h:L.Pairwise (· < ·)){a:Nat}(g:0<a)(b:a+1<L.length)(f:L.length<=1000000)(k:Int):Ds L (a:Int) k=some ((a:Int),k):=by
 unfold Ds
 have e1:w64 ((a:Int)-1)=((a-1:Nat):Int):=by
  rw[Br (by omega) (by omega)];omega
 have e2:w64 ((a:Int)+1)=((a+1:Nat):Int):=by
  rw[Br (by omega) (by omega)];omega
 rw[e1,e2,Alc h (by omega) (by omega) b];rfl
theorem pivot_asc{L:List Int}(h:L.Pairwise (· < ·))(g:12<L.length)(a:L.length<=1000000):Ok (Ho L 0 (L.length:Int)) (fun r=>r.2=1):=by
 unfold Ho
 have b:w64 ((L.length:Int)-0)=(L.length:Int):=by
  rw[Br (by omega) (by omega)];omega
 rw[b]
 have eq:w64 (Int.tdiv (L.length:Int) 4)=((L.length / 4:Nat):Int):=by
  rw[Int.tdiv_eq_ediv_of_nonneg (by omega),Br (by omega) (by omega)];omega
 rw[eq];have l:3<=L.length / 4:=by omega
 have k:4*(L.length / 4)<=L.length:=by omega
 generalize L.length / 4=q at *
 have j:w64 (0+w64 ((q:Int)*1))=(q:Int):=by
  rw[Br (n:=(q:Int)*1) (by omega) (by omega),Br (by omega) (by omega)];omega
 have f:w64 (0+w64 ((q:Int)*2))=((2*q:Nat):Int):=by
  rw[Br (n:=(q:Int)*2) (by omega) (by omega),Br (by omega) (by omega)];omega
 have i:w64 (0+w64 ((q:Int)*3))=((3*q:Nat):Int):=by
  rw[Br (n:=(q:Int)*3) (by omega) (by omega),Br (by omega) (by omega)];omega
 rw[j,f,i];unfold Gu Gt;refine Aya (fun _=>?_) fun c=>?_
 ·refine Aya (fun c=>?_) fun _=>?_
  ·have:=of_decide_eq_true c;refine Ok.step (Ahg h (by omega) (by omega) a 0) ?_;refine Ok.step (Ahg h (by omega) (by omega) a 0) ?_;refine Ok.step (Ahg h (by omega) (by omega) a 0) ?_;exact Ok.step (Alc h (by omega) (by omega) (by omega) 0) (Ok.ret rfl)
  ·exact Ok.step (Alc h (by omega) (by omega) (by omega) 0) (Ok.ret rfl)
 ·have:=of_decide_eq_false c;omega
theorem Avz{L:List Int}(h:L.Pairwise (· < ·))(k:1<=L.length)(m:L.length<=1000000):Es L 0 (L.length:Int)=some (true,L):=by
 apply Ok.eq;unfold Es;have e1:w64 (0+1)=1:=Br (by omega) (by omega);rw[e1];refine AxZ (fun j s=>j=0/\s=(L,1)) ⟨rfl,rfl⟩ ?_ ?_
 ·rintro j s n r ⟨rfl,rfl⟩ o;unfold Lf;simp only;refine AxW (fun q=>∃i:Nat,q=((i+1:Nat):Int)/\i+1<=L.length) (fun q=>L.length-q.toNat) ⟨0,rfl,k⟩ (by rw[Iz];omega) ?_;rintro q nn ⟨i,rfl,hi⟩ b;unfold Ki Eh;simp only
  have f:w64 (((i+1:Nat):Int)-1)=(i:Int):=by
   rw[Br (by omega) (by omega)];omega
  have l:Int.toNat (i:Int)=i:=by omega
  have a:Int.toNat ((i+1:Nat):Int)=i+1:=by omega
  refine Aya (fun c=>?_) fun c=>?_
  ·have c:=of_decide_eq_true c;rw[f,l,a,ArT,Arb h (show i<i+1 by omega) (by omega)];refine Ok.guard (by omega) (Ok.guard (by omega) (Ok.guard (by omega) (Ok.guard (by omega) ?_)));refine Ok.step rfl (b _ ⟨i+1,?_,by omega⟩ ?_)
   ·rw[Br (by omega) (by omega)];omega
   ·rw[Br (by omega) (by omega)];omega
  ·have c:=of_decide_eq_false c;have:((i+1:Nat):Int)=(L.length:Int):=by omega
   simp only[A2,if_false];rw[if_pos (by rw[this];simp)];exact Ok.ret rfl
 ·rintro s ⟨g,_⟩;simp at g
theorem Avs:(List.range 1001).all (fun n=>(Abv (IntKind.u64.wrap (n:Int))).any (fun k=>n==0||decide (1<=k)))=true:=by decide +kernel
theorem len_bits{n:Nat}(b:0<n)(f:n<=1000):Ok (Abv (IntKind.u64.wrap (n:Int))) (fun k=>1<=k):=by
 have:=B6.mp Avs n (by rw[F8];omega)
 cases a:Abv (IntKind.u64.wrap (n:Int))with
 |none=>rw[a]at this;simp at this
 |some k=>
  rw[a]at this;simp at this;exact⟨k,rfl,by omega⟩
theorem AtW{n:Nat}(b:n<=1000):Ok (Abv (IntKind.u64.wrap (n:Int))) (fun _=>True):=by
 have:=B6.mp Avs n (by rw[F8];omega)
 cases a:Abv (IntKind.u64.wrap (n:Int))with
 |none=>rw[a]at this;simp at this
 |some k=>exact⟨k,rfl,trivial⟩
theorem Apb{L:List Int}(h:L.Pairwise (· < ·))(b:L.length<=1000):Nz L=some L:=by
 apply Ok.eq;unfold Nz;refine Ok.bind (P:=fun k=>12<L.length->1<=k) ?_ fun k g=>?_
 ·by_cases h0:0<L.length
  ·exact(len_bits h0 b).mono fun _ h _=>h
  ·exact(AtW b).mono fun _ _ h=>by omega
 refine Ok.step (a:=L) ?_ (Ok.guard rfl (Ok.ret rfl));apply Ok.eq;unfold Ou;refine AxW (fun _=>True) (fun _=>0) trivial (by rw[Iz];omega) ?_;rintro⟨⟩ n _ _;unfold Uk
 have i:w64 ((L.length:Int)-0)=(L.length:Int):=by
  rw[Br (by omega) (by omega)];omega
 rw[i];refine Aya (fun _=>?_) fun c=>?_
 ·exact Ok.step (Atz h (by omega)) (Ok.guard rfl (Ok.ret rfl))
 ·have c:=of_decide_eq_false c;have:=g (by omega);refine Aya (fun c=>?_) fun _=>?_
  ·exfalso;have:k=0:=by simpa using c
   omega
  refine Ok.bind (pivot_asc h (by omega) (by omega)) fun r f=>?_
  refine Aya (fun c=>by rw[f]at c;simp at c) fun _=>?_
  unfold Nn;refine Aya (fun _=>?_) fun c=>by rw[f]at c;simp at c
  exact Ok.step (Avz h (by omega) (by omega)) (Ok.guard rfl (Ok.ret rfl))
theorem AiR{L:List Int}(h:L.Pairwise (· < ·))(i:L.length<=1000000):Jw L=some (L.length,L):=by
 apply Ok.eq;unfold Jw;refine Aya (fun _=>Ok.ret rfl) fun c=>?_
 refine Ok.guard (by omega) ?_;refine AxZ (fun _ _=>True) trivial ?_ fun _ _=>Ok.ret rfl
 intro j _ n k _ g;unfold AcC
 have b:w64 (1+(j:Int)-1)=(j:Int):=by
  rw[Br (by omega) (by omega)];omega
 have f:Int.toNat (j:Int)=j:=by omega
 have a:Int.toNat (1+(j:Int))=j+1:=by omega
 rw[b,f,a];have:=asc_at h (show j<j+1 by omega) (by omega);refine Ok.guard (by omega) (Ok.guard (by omega) (Ok.guard (by omega) (Ok.guard (by omega) ?_)));refine Aya (fun c=>?_) fun _=>g () trivial
 have:L.getD (j+1) 0=L.getD j 0:=by simpa using c
 omega
theorem ids_asc{L:List Ar}(h:L.Pairwise (fun a b=>a.id<b.id))(p:Ar->Bool):((L.filter p).map (·.id)).Pairwise (· < ·):=by
 rw[G0];exact h.filter p
def Fk(h:Aa)(p:Int):List Int:=(h.tasks.filter (fun x=>x.process==p)).map (·.id)
theorem Tq{h:Aa}(j:h.tasks.Pairwise (fun a b=>a.id<b.id))(m:h.tasks.length<=1000)(g:Int):Ov h g=some (tasksK h g):=by
 unfold Ov Ke;rw[if_pos (by omega)];have l:=ids_asc j (fun x=>x.group==g)
 have i:((h.tasks.filter (fun x=>x.group==g)).map (·.id)).length<=1000:=by
  rw[G8];have:=F2 (fun x:Ar=>x.group==g) h.tasks;omega
 rw[Lk (p:=fun x:Ar=>x.group==g) (f:=fun x:Ar=>x.id) (r:=Jb) (fun k x s n j=>by
  unfold Pd Ga Agt AjJ;simp only[A0]
  rw[if_pos j]) (fun _=>rfl) (by simp;omega)]
 rw[J5];unfold Jb;rw[Apb l i,A0,if_pos rfl,AiR l (by omega),A0,if_pos rfl,if_pos (B2 _),I8];rfl
theorem AqT{h:Aa}(j:h.tasks.Pairwise (fun a b=>a.id<b.id))(m:h.tasks.length<=1000)(g:Int):Acm h g=some (Fk h g):=by
 unfold Acm Je;rw[if_pos (by omega)];have l:=ids_asc j (fun x=>x.process==g)
 have i:((h.tasks.filter (fun x=>x.process==g)).map (·.id)).length<=1000:=by
  rw[G8];have:=F2 (fun x:Ar=>x.process==g) h.tasks;omega
 rw[Lk (p:=fun x:Ar=>x.process==g) (f:=fun x:Ar=>x.id) (r:=Hz) (fun k x s n j=>by
  unfold Ny Fm Adh AjJ;simp only[A0]
  rw[if_pos j]) (fun _=>rfl) (by simp;omega)]
 rw[J5];unfold Hz;rw[Apb l i,A0,if_pos rfl,AiR l (by omega),A0,if_pos rfl,if_pos (B2 _),I8];rfl
theorem AjE{h:Aa}(w:WfH h)(g:Int):Xv h g=some (tasksK h g):=by
 have:=w.len;unfold Xv;rw[AgL w,A0,Tq w.sorted (by omega)];rfl
theorem Alk{h:Aa}(w:WfH h)(id:Int):Wh h id=some ((Bx h.tasks id).elim (zK,false) (fun x=>(x,true))):=by
 have:=w.len;unfold Wh;rw[AgL w,A0,AcJ h id (by omega)];rfl
end Go.Dm

namespace Go.Dm
theorem range_ok{V U:Type}{Q:U->Prop}{body:Nat->V->Unit->(Unit->Option U)->Option U}{done:Unit->Option U}{xs:List V}(b:∀k x n,Ok (n ()) Q->Ok (body k x () n) Q)(a:Ok (done ()) Q):Ok (Ba body done xs 0 ()) Q:=
 Ok.range (fun _ _=>True) trivial (fun _ _ _ _ _ _ _ f=>b _ _ _ (f () trivial)) (fun _ _=>a)
def Hj(h:Aa)(x:Ah):Aa:={h with tree:=setT h.tree x}
theorem Write_ref7_like(h:Aa)(id a d:Int):Ok (Yz h id a d) (fun r=>r.2=0->∃x,r.1=Hj h x):=by
 have f:∀(x:Aa) (n:Int),n≠0->Ok (some (x,n)) (fun r:Aa×Int=>r.2=0->∃x,r.1=Hj h x):=fun x n i=>Ok.ret fun e=>absurd e i
 unfold Yz;refine Ok.bind (AeU h) fun b m=>?_
 have j:Ok (Hu h id a d true) (fun r:Aa×Int=>r.2=0->∃x,r.1=Hj h x):=f _ _ (by decide);refine Aya (fun _=>j) fun c=>?_
 have w:WfH h:=m (by simpa using c);have:=w.len;have:=w.tree.len2
 have g:∀r b,Ok (Mx h a d r b) (fun r:Aa×Int=>r.2=0->∃x,r.1=Hj h x):=fun r b=>by
  unfold Mx;refine Aya (fun _=>f _ _ (by decide)) fun _=>?_
  refine Ok.step (Tv h (by omega) (by omega)) ?_;exact Ok.step (AaP h.tree _ (by omega)) (Ok.ret fun _=>⟨_,rfl⟩)
 have q:∀b,Ok (Hu h id a d b) (fun r:Aa×Int=>r.2=0->∃x,r.1=Hj h x):=fun b=>by
  unfold Hu;refine Aya (fun _=>f _ _ (by decide)) fun _=>?_
  refine Ok.bind (Dw _ _) fun r _=>Aya (fun _=>f _ _ (by decide)) fun _=>?_
  refine Ok.bind (Yl _ _) fun _ _=>Aya (fun _=>f _ _ (by decide)) fun _=>?_
  refine Ok.bind (Aal _ _) fun l o=>Ok.guard (by omega) (range_ok (fun k x n i=>?_) ?_)
  ·unfold AgV;exact Ok.bind (Dw _ _) fun _ _=>Aya (fun _=>f _ _ (by decide)) fun _=>i
  ·unfold Agw;refine Aya (fun _=>Aya (fun _=>?_) fun _=>g _ _) fun _=>g _ _
   grind[Ok.bind,Po]
 unfold Ahb;grind
theorem Tree_inv{d:Aj}(h:Bg d)(n:Int)(K:0<=n)(N:n<=1000)(P:Int->Ae->Prop)
  (b:∀c,0<=c->c<=n->P c newT)
  (i:∀c t,WfT t->0<=c->P (c+1) t->P c t)
  (l:∀c t p s r,WfT t->0<=c->P (c+1) t->Er s=true->Wt t p s=r->r.2.2=0->P c r.1)
  (m:∀c t id r,WfT t->0<=c->P c t->Mo t id=r->r.2=0->P c r.1):
  Ok (To d n) (fun r=>WfT r.1/\Bg r.2/\P 0 r.1):=by
 unfold To;refine Ok.step AvE ?_;rw[Br (by omega) (by omega)];refine Ok.bind (Dy h (n+1) (by omega) (by omega)) fun r ⟨a1,a2,a3⟩=>?_
 refine AxW (fun s=>Bg s.1/\WfT s.2.1/\s.2.2<=2000/\0<=s.2.2/\P s.2.2 s.2.1) (fun s=>s.2.2.toNat) ⟨a1,newT_wf,by simp only;omega,a2,b _ a2 (by simp only;omega)⟩ (by rw[Iz];simp only;omega) ?_;rintro⟨d,t,c⟩ k ⟨b1,g,u,G,o⟩ D;simp only at b1 g u G o D;unfold AgO;simp only;refine Aya (fun c1=>?_) fun c1=>?_
 ·have J:=of_decide_eq_true c1;have R:=g.len1;have T:=g.len2;have A:P (c-1+1) t:=by rw[show c-1+1=c by omega];exact o
  refine Ok.bind (Dy b1 _ (by omega) (by omega)) fun Q ⟨E,B,x⟩=>?_
  refine Ok.guard ⟨B,x⟩ ?_;refine Ok.bind (Name_ok E) fun q ⟨u1,u2⟩=>?_
  refine Ok.step (AwT g _ _) ?_;have I:w64 (c-1)=c-1:=Br (by omega) (by omega);have j:∀y:Aj×Ae,Bg y.1->WfT y.2->P (c-1) y.2->Ok (Mn (d,t,c) k y) (fun r=>WfT r.1/\Bg r.2/\P 0 r.1):=by grind[Mn,only]
  have v:∀y:Ae,WfT y->P (c-1) y->Ok (Qa (d,t,c) k q y) (fun r=>WfT r.1/\Bg r.2/\P 0 r.1):=by
   intro y f F;unfold Qa;refine Ok.bind (Pt u1 6 (by omega)) fun M a=>?_
   refine Aya (fun _=>?_) fun _=>?_
   ·have L:=f.len1;have U:=f.len2;refine Ok.bind (Dy a _ (by omega) (by omega)) fun O ⟨H,z,C⟩=>?_
    refine Ok.guard ⟨z,C⟩ ?_;refine Ok.step (AsZ f _) ?_;refine Aya (fun c2=>?_) fun _=>?_
    all_goals grind[AqG]
   ·exact j _ a f F
  refine Aya (fun c2=>?_) fun _=>?_
  all_goals grind[addT_wf]
 grind[Ok.ret]
def ownN(x:Ah)(u:Int):Ah:={x with owner:=u}
theorem AmM{h:Aa}(w:WfH h){x:Ah}(f:x∈h.tree.nodes){u:Int}(j:0<=u)(u1:u<=1048576):WfH (Hj h (ownN x u)):=by
 have v:=w.tree.p.val x f
 have wt:=setT_wf w.tree (x:=ownN x u) f rfl rfl rfl ⟨v.kind,v.c1,v.c2,j,u1⟩ (fun e=>by
  rcases w.tree.p.par x f with⟨_,r⟩|⟨a,b,_⟩
  ·exact r.kind
  ·omega)
 refine⟨wt,w.len,w.n1,w.n2,w.sorted,w.lt,fun y i=>?_⟩;have u:=w.val y i;refine⟨u.pos,?_,u.u1,u.u2,u.ldr⟩;obtain⟨z,k,g⟩:=hasN_iff.mp u.grp;refine hasN_iff.mpr ⟨Ln _ z,B8.mpr ⟨z,k,rfl⟩,?_⟩;unfold Ln;grind
structure HInv(n m:Int)(P R:Int->Aa->Prop):Prop where
 en:∀h g a r c,WfH h->P c h->Se h g a 0=some r->r.2=0->P c r.1
 co:∀h g r c,WfH h->P c h->Px h g=some r->r.2=0->P c r.1
 ow:∀h x u c,WfH h->P c h->x∈h.tree.nodes->x.id≠1->0<=u->u<3->P c (Hj h (ownN x u))
 skip:∀c h,WfH h->0<=c->P (c+1) h->P c h
 sp:∀c h g u r,WfH h->0<=c->P (c+1) h->Mp h g=some 0->0<=u->u<3->AaT h g u=r->r.2.2=0->R c r.1
 nosp:∀c h,WfH h->0<=c->P (c+1) h->R c h
 nocl:∀c h,WfH h->0<=c->R c h->P c h
 cl:∀c h k r,WfH h->0<=c->R c h->Kz h k=r->r.2.2=0->P c r.1
 atc:∀c h k g r,WfH h->0<=c->P c h->Im h k g=some r->r.2=0->P c r.1
 ex:∀c h k r,WfH h->0<=c->P c h->Alf h k=r->r.2=0->P c r.1
theorem AuO{n m:Int}{P R:Int->Aa->Prop}(I:HInv n m P R){c:Int}{d:Aj}(B:Bg d){h:Aa}(w:WfH h)(g:P c h):Ok (Zl d h) (fun r=>WfH r.1/\Bg r.2/\P c r.1):=by
 have E:=w.len;have F:=w.tree.len2;unfold Zl;refine Ok.bind (Aku B h.tree (by omega)) fun l C=>Ok.bind (AjC C 5 (by omega)) fun D j=>?_
 have f:∀y:Aj×Aa,Bg y.1->WfH y.2->P c y.2->Ok (Jn y) (fun r=>WfH r.1/\Bg r.2/\P c r.1):=fun y a b c=>Ok.ret ⟨b,a,c⟩
 have z:∀b,Ok (Qc h l D b) (fun r=>WfH r.1/\Bg r.2/\P c r.1):=fun b=>by
  unfold Qc;refine Aya (fun _=>?_) fun _=>Aya (fun _=>?_) fun _=>Aya (fun _=>?_) fun _=>f _ j.1 w g
  ·refine Ok.bind (Ajo j.1) fun v i=>?_
   obtain⟨q,k,s⟩:=AqU h l.1 v.1 0;refine Ok.step k (Aya (fun c=>?_) fun _=>f _ i.1 w g);have c:q.2=0:=by simpa using c
   exact Ok.ret ⟨s c,i.1,I.en _ _ _ _ _ w g k c⟩
  ·obtain⟨q,k,s⟩:=AqM h l.1;refine Ok.step k (Aya (fun c=>?_) fun _=>f _ j.1 w g);have c:q.2=0:=by simpa using c
   exact Ok.ret ⟨s c,j.1,I.co _ _ _ _ w g k c⟩
  ·refine Ok.step (Sb w.tree _) (Aya (fun c=>?_) fun _=>f _ j.1 w g)
   cases o:Ha h.tree l.1 with
   |none=>rw[o]at c;simp at c
   |some x=>
    obtain⟨A,u⟩:=Un o;rw[o]at c
    have t:x.id≠1:=by
     rw[u];simpa using c
    simp only[D6];refine Ok.bind (Dy j.1 3 (by omega) (by omega)) fun v i=>?_
    refine Ok.step (AaP _ _ (by omega)) (f _ i.1 ?_ ?_)
    ·exact AmM w A i.2.1 (by omega)
    ·exact I.ow _ _ _ _ w g A t i.2.1 i.2.2
 exact Aya (fun _=>z _) fun _=>z _
theorem Ati{n m:Int}{P R:Int->Aa->Prop}(I:HInv n m P R){d:Aj}(hd:Bg d)(n0:0<=n)(n1:n<=100)(N:0<=m)(m1:m<=100)
  (f:∀c,0<=c->c<=m->Ok (To d n) (fun r=>WfT r.1/\Bg r.2/\P c {tree:=r.1,tasks:=[],next:=1})):Ok (Lu d n m) (fun r=>WfH r.1/\Bg r.2/\P 0 r.1):=by
 unfold Lu;refine Ok.step (a:={tree:=newT,tasks:=[],next:=1}) rfl ?_;obtain⟨Y,e1,J,M,_⟩:=f 0 (by omega) N
 have D:∀c,0<=c->c<=m->P c {tree:=Y.1,tasks:=[],next:=1}:=fun c v c1=>by
  obtain⟨r,e,_,_,hp⟩:=f c v c1;grind
 clear f;refine Ok.step e1 ?_;rw[Br (by omega) (by omega)];refine Ok.bind (Dy M (n+3) (by omega) (by omega)) fun r2 ⟨X,a1,a2⟩=>?_
 refine AxW (fun s=>Bg s.1/\WfH s.2.1/\s.2.2<=2000/\∀c,0<=c->c<=m->P c s.2.1) (fun s=>s.2.2.toNat) ⟨X,?_,by simp only;omega,D⟩ (by rw[Iz];simp only;omega) ?_
 ·exact⟨J,by simp,by simp,by simp,by simp,by simp,by simp⟩
 rintro⟨d,h,c⟩ k ⟨b1,g,E,z⟩ C;simp only at b1 g E z C;unfold AbL;simp only;refine Aya (fun c1=>?_) fun _=>?_
 ·have hc:=of_decide_eq_true c1;obtain⟨V,e3,w3,U,_⟩:=AuO I b1 g (z 0 (by omega) N);refine Ok.step e3 ?_;rw[Br (by omega) (by omega)];refine C _ ⟨U,w3,by simp only;omega,fun q W q1=>?_⟩ (by simp only;omega);obtain⟨r,e,_,_,hp⟩:=AuO I b1 g (z q W q1);grind
 rw[Br (by omega) (by omega)];refine Ok.bind (Dy b1 (m+1) (by omega) (by omega)) fun V ⟨h3,a3,a4⟩=>?_
 clear C;refine AxW (fun s=>Bg s.1/\WfH s.2.1/\s.2.2<=2000/\0<=s.2.2/\P s.2.2 s.2.1) (fun s=>s.2.2.toNat) ⟨h3,g,by simp only;omega,a3,z _ a3 (by simp only;omega)⟩ (by rw[Iz];simp only;omega) ?_;clear b1 g E z D e1 J M;rintro⟨d,h,c⟩ k ⟨b1,g,E,z,K⟩ C;simp only at b1 g E z K C;unfold AbI;simp only;refine Aya (fun c1=>?_) fun c1=>?_
 rotate_left
 ·grind[Ok.ret]
 have hc:=of_decide_eq_true c1;have l1:=g.len;have l2:=g.tree.len2;have A:P (c-1+1) h:=by rw[show c-1+1=c by omega];exact K
 have v:0<=c-1:=by omega
 have hw:w64 (c-1)=c-1:=Br (by omega) (by omega);have i:∀y:Aj×Aa,Bg y.1->WfH y.2->P (c-1) y.2->Ok (Fj (d,h,c) k y) (fun r=>WfH r.1/\Bg r.2/\P 0 r.1):=fun y B b l=>by grind[Fj,only]
 have u:∀y:Aj×Aa,Bg y.1->WfH y.2->P (c-1) y.2->Ok (Gv (d,h,c) k y) (fun r=>WfH r.1/\Bg r.2/\P 0 r.1):=fun y B b l=>by
  unfold Gv;refine Ok.bind (Pt B 8 (by omega)) fun F o=>Aya (fun _=>?_) fun _=>i _ o b l
  have:=b.len;refine Ok.bind (Any o _ (by omega)) fun G j=>Ok.step (Awg b _) (Aya (fun c=>?_) fun _=>i _ j b l)
  exact i _ j (AuF b rfl (by simpa using c)) (I.ex _ _ _ _ b v l rfl (by simpa using c))
 have t:∀y:Aj×Aa,Bg y.1->WfH y.2->P (c-1) y.2->Ok (Gw (d,h,c) k y) (fun r=>WfH r.1/\Bg r.2/\P 0 r.1):=fun y B b l=>by
  unfold Gw;refine Ok.bind (Pt B 4 (by omega)) fun F o=>Aya (fun _=>?_) fun _=>u _ o b l
  have:=b.len;have:=b.tree.len2;refine Ok.bind (Any o _ (by omega)) fun G j=>Ok.bind (Aku j _ (by omega)) fun r6 Q=>?_
  obtain⟨r7,L,h7⟩:=Akq y.2 G.1 r6.1;refine Ok.step L (Aya (fun c=>?_) fun _=>u _ Q b l);have c:r7.2=0:=by simpa using c
  exact u _ Q (h7 c) (I.atc _ _ _ _ _ b v l L c)
 have x:∀(r:Int×Aj) (y:Aa),Bg r.2->WfH y->R (c-1) y->Ok (Ja (d,h,c) k r y) (fun r=>WfH r.1/\Bg r.2/\P 0 r.1):=fun r y B b l=>by
  have O:=I.nocl _ _ b v l;unfold Ja;refine Ok.bind (Pt B 3 (by omega)) fun F o=>Aya (fun _=>?_) fun _=>t _ o b O
  have:=b.len;refine Ok.bind (Any o _ (by omega)) fun G j=>Ok.step (Auc b _) (Aya (fun c=>?_) fun _=>t _ j b O)
  exact t _ j (AsI b rfl (by simpa using c)) (I.cl _ _ _ _ b v l rfl (by simpa using c))
 refine Ok.bind (Aku b1 _ (by omega)) fun F o=>?_
 obtain⟨a,T,_⟩:=Aib h F.1;refine Ok.step T (Aya (fun _=>i _ o g (I.skip _ _ g v A)) fun H=>?_);have H:a=0:=by simpa using H
 subst H;refine Ok.bind (Dy o 3 (by omega) (by omega)) fun G j=>Ok.step (Avn g _ _) (Aya (fun c=>?_) fun _=>x _ _ j.1 g (I.nosp _ _ g v A))
 exact x _ _ j.1 (Asf g rfl (by simpa using c)) (I.sp _ _ _ _ _ g v A T j.2.1 j.2.2 rfl (by simpa using c))
theorem ok_at{V:Type}{m:Option V}{Q:V->Prop}(h:Ok m Q){a:V}(e:m=some a):Q a:=by
 obtain⟨b,g,f⟩:=h;grind
end Go.Dm

namespace Go.Dm
theorem Ahd{V:Type}{L:List V}{a n:Nat}{x:V}(h:a+n<=L.length):(Iu L a n x).length=L.length:=by
 simp only[Iu,I1,I7,List.length_replicate,I9];omega
theorem AkQ{V:Type}{L:List V}{a n:Nat}{x:V}(h:a<=L.length):(Iu L a n x).take a=L.take a:=by
 unfold Iu;rw[N0 (by rw[I7];omega),List.take_take,Nat.min_self]
theorem AuY{V:Type}{L M:List V}{a n:Nat}(h:a+n<=L.length)(b:n<=M.length):(Vi L a n M).length=L.length:=by
 simp only[Vi,I1,I7,I9];omega
theorem Aou{V R:Type}{p:V->Bool}{L:List V}{d:V}(B:L.length<=1000000){body:List V×Int×Int->(List V×Int×Int->Option R)->Option R}{Q:R->Prop}{a:Nat}(k:a<L.length)(v:∀x∈L.take a,p x=false)(t:p (L.getD a d)=true)
  (z:∀(M:List V) (i j:Nat) n,M.length=L.length->i<j->j<L.length->(∀s,(s=if p (M.getD j d)then(M,(i:Int),((j+1:Nat):Int))else(M.set i (M.getD j d),((i+1:Nat):Int),((j+1:Nat):Int)))->Ok (n s) Q)->Ok (body (M,(i:Int),(j:Int)) n) Q)
  (u:∀(M:List V) (i:Nat) n,M.length=L.length->i<=L.length->M.take i=L.filter (fun x=>!p x)->Ok (body (M,(i:Int),(L.length:Int)) n) Q):Ok (whileO body Ik (L,(a:Int),((a+1:Nat):Int))) Q:=by
 refine AxW (fun s=>∃i j:Nat,s.2.1=(i:Int)/\s.2.2=(j:Int)/\i<j/\j<=L.length/\s.1.length=L.length/\s.1.take i=(L.take j).filter (fun x=>!p x)/\s.1.drop j=L.drop j) (fun s=>L.length-s.2.2.toNat) ?_ ?_ ?_
 ·refine⟨a,a+1,rfl,rfl,by omega,by omega,rfl,?_,rfl⟩
  have e:L.take (a+1)=L.take a++[L.getD a d]:=by
   rw[G7,Ev k];simp[k]
  rw[e,E6,N2.mpr fun x A=>by simp[v x A]];simp only[t,B4,G3,A2,if_false,P1,I3]
 ·rw[Iz];omega
 ·rintro⟨M,x,y⟩ n ⟨i,j,e1,e2,q,C,f,l,o⟩ r;simp only at e1 e2 f l o;subst e1 e2
  by_cases hjl:j<L.length
  ·refine z M i j n f q hjl fun s m=>?_
   have g:M.getD j d=L.getD j d:=by
    have:=congrArg List.head? o;rw[List.head?_drop,List.head?_drop]at this;rw[B5,B5,this]
   have e:L.take (j+1)=L.take j++[L.getD j d]:=by
    rw[G7,Ev hjl];simp[hjl]
   have h:M.drop (j+1)=L.drop (j+1):=by
    have:=congrArg (List.drop 1) o;rw[List.drop_drop,List.drop_drop]at this;exact this
   cases b:p (M.getD j d)with
   |true=>
    rw[b,if_pos rfl]at m;subst m;refine r _ ⟨i,j+1,rfl,rfl,by omega,by omega,f,?_,h⟩ (by simp only;omega);simp only;rw[l,e,E6,<-g,G3,b]
    simp
   |false=>
    rw[b,if_neg (by simp)]at m;subst m;refine r _ ⟨i+1,j+1,rfl,rfl,by omega,by omega,by simp[f],?_,?_⟩ (by simp only;omega)
    ·simp only;rw[e,E6,<-g,<-l];have hi:i<M.length:=by omega
     rw[G7,G3,b,List.take_set_of_le (B2 _),List.getElem?_set_self hi];rfl
    ·simp only;rw[List.drop_set_of_lt (by omega),h]
  ·obtain rfl:j=L.length:=by omega
   refine u M i n f (by omega) ?_;rw[l,I8]
theorem Alo{h:Aa}(a:h.tasks.length<=1000000)(b:h.tree.nodes.length<=1000000)(n1:1<=h.next)(x:Ar):AcS h x=some (Afd h x):=by
 apply Ok.eq;unfold AcS Afd;refine Aya (fun c=>?_) fun c=>?_
 ·rw[if_pos]
  ·exact Ok.ret rfl
  ·simp only[B7,decide_eq_true_eq]at c ⊢;omega
 ·simp only[E3,decide_eq_false_iff_not]at c;rw[if_neg (by simp only[B7,decide_eq_true_eq];omega)];refine Ok.step (Py h b a) ?_;unfold AbX;simp only;rw[Br (by omega) (by omega)];refine Aya (fun c=>Ok.guard (by omega) (Ok.ret ?_)) fun c=>Ok.guard (by omega) (Ok.ret ?_)
  ·rw[if_pos c]
  ·rw[if_neg (by rw[c];simp)]
theorem Spawn_member_t{h:Aa}(w:WfH h)(g u:Int):Amc h g u=some (AaT h g u):=by
 have b:=w.len;have f:=w.tree.len2;apply Ok.eq;unfold Amc AaT;refine Ok.step (Pn w) ?_;simp only[B4,A2,if_false];unfold Zh
 by_cases h1:u<0
 ·simp only[h1,decide_true,Bool.true_or,if_true];exact Ok.ret rfl
 by_cases h2:u>1048576
 ·have a:1048576<u:=h2;simp only[h1,h2,a,decide_true,decide_false,Bool.or_true,if_true,A2,if_false];exact Ok.ret rfl
 have a:¬ 1048576<u:=h2;simp only[h1,h2,a,decide_false,Bool.or_false,A2,if_false];refine Ok.bind (Li h.tree g (by omega)) fun i hi=>?_
 rw[hi.1]
 cases Aw h.tree g with
 |false=>exact Ok.ret rfl
 |true=>
  simp only[B4,A2,if_false];exact Ok.step (Alo (by omega) (by omega) w.n1 _) (Ok.ret rfl)
theorem Arx{h:Aa}(w:WfH h)(k:Int):AbZ h k=some (Kz h k):=by
 have a:=w.len;have b:=w.tree.len2;apply Ok.eq;unfold AbZ Kz;refine Ok.step (Pn w) ?_;simp only[B4,A2,if_false];refine Ok.step (AcJ h k (by omega)) ?_
 cases Bx h.tasks k with
 |none=>exact Ok.ret rfl
 |some x=>
  simp only[D6,B4,A2,if_false];exact Ok.step (Alo (by omega) (by omega) w.n1 _) (Ok.ret rfl)
theorem Arf(L:List Ah)(i:Nat)(hi:i<L.length)(h:L.length<=1000000):
  Ok (Rt L (i:Int) ((i+1:Nat):Int)) (fun r=>r.2.length=L.length/\r.1<=L.length/\r.2.take r.1=L.take i++L.drop (i+1)):=by
 unfold Rt;have g:Int.toNat (i:Int)=i:=by omega
 have b:Int.toNat ((i+1:Nat):Int)=i+1:=by omega
 rw[g,b];simp only[Rb,D5]
 have f:((L.drop (i+1)).take (L.length-(i+1)))=L.drop (i+1):=by
  rw[F9 (by rw[I9];omega)]
 rw[f];have a:(Vi L i (L.length-(i+1)) (L.drop (i+1))).length=L.length:=AuY (by omega) (by rw[I9];omega);refine Ok.guard (by omega) ?_;refine Aya (fun c=>?_) fun _=>?_
 ·have:(i:Int)=((i+1:Nat):Int):=by simpa using c
  omega
 refine Ok.guard (by omega) (Ok.guard (by omega) (Ok.guard (by omega) (Ok.guard (by rw[a];omega) (Ok.guard (by rw[a];omega) (Ok.ret ⟨?_,?_,?_⟩)))))
 ·simp only;rw[Ahd (by rw[a];omega),a]
 ·simp only;omega
 ·simp only;rw[AkQ (by rw[a];omega)];unfold Vi
  rw[<-H8,N0 (by
   simp only[I1,I7,I9]
   omega),F9 (by
   simp only[I1,I7,I9]
   omega),f]
theorem Avu{L:List Ah}(l:L.Pairwise (fun a b=>a.id<b.id)){i:Nat}(hi:i<L.length){k:Int}(e:L[i].id=k):L.take i++L.drop (i+1)=L.filter (fun x=>x.id !=k):=by
 have h:L=L.take i++L[i]::L.drop (i+1):=by
  rw[List.getElem_cons_drop,M7]
 have g:=l;rw[h,E4,L1]at g;obtain⟨_,⟨m,_⟩,j⟩:=g
 conv=>rhs;rw[h]
 rw[E6,G3,if_neg (by simp[e])];congr 1
 ·symm
  rw[N2];intro x f;have:=j x f L[i] (List.mem_cons_self ..);simp;omega
 ·symm
  rw[N2];intro x f;have:=m x f;simp;omega
theorem Atp{t:Ae}(w:WfT t)(id:Int):Aec t id=some (Mo t id):=by
 have m:=w.len2;apply Ok.eq;unfold Aec Mo Aw Ha;refine Ok.step (Yp t id (by omega)) ?_;refine Ok.step (Ng w) ?_;simp only[B4,A2,if_false];rcases Fh (fun x:Ah=>x.id==id) t.nodes default with⟨i,b,f,h⟩|⟨b,f⟩
 ·rw[f,h,D6]
  have g:t.nodes[i].id=id:=by
   have:=F3 h;rw[Ev b]at this;simpa using this
  refine Aya (fun c=>by have:=of_decide_eq_true c;omega) fun _=>?_
  simp only[I0,B4,A2,if_false];refine Aya (fun c=>?_) fun c=>?_
  ·rw[if_pos c];exact Ok.ret rfl
  rw[if_neg (by rw[c];simp)];refine Ok.step (Yo t id (by omega)) ?_;refine Aya (fun c=>?_) fun c=>?_
  ·have c:=of_decide_eq_true c;rw[if_pos (by simp;omega)];exact Ok.ret rfl
  have c:=of_decide_eq_false c;rw[if_neg (by rw[decide_eq_true_eq];omega)];refine Ok.step (a:=t) (by unfold Wi Gx;rw[if_pos (by omega)];rfl) ?_
  have e1:w64 ((i:Int)+1)=((i+1:Nat):Int):=by
   rw[Br (by omega) (by omega)];omega
  rw[e1];refine Ok.bind (Arf t.nodes i b (by omega)) fun r ⟨k,l,j⟩=>?_
  refine Ok.guard k.symm (Ok.guard (by omega) (Ok.ret ?_));rw[j,Avu w.sorted b g]
 ·rw[b,f];exact Ok.ret rfl
def Pu(h:Aa)(g:Int):Aa×Int:=
 if(Mo h.tree g).2 !=0 then(zH,(Mo h.tree g).2)else if decide (0<(tasksK h g).length)then(zH,6)
 else({h with tree:=(Mo h.tree g).1},0)
theorem Aqr{h:Aa}(w:WfH h)(g:Int):Abh h g=some (Pu h g):=by
 have a:=w.len;have b:=w.tree.len2;apply Ok.eq;unfold Abh Pu;refine Ok.step (Pn w) ?_;simp only[B4,A2,if_false];refine Ok.step (Atp w.tree g) ?_;refine Aya (fun c=>?_) fun c=>?_
 ·rw[if_pos c];exact Ok.ret rfl
 rw[if_neg (by rw[c];simp)];refine Ok.step (Tq w.sorted (by omega) g) ?_;refine Aya (fun c=>?_) fun c=>?_
 ·have c:=of_decide_eq_true c;rw[if_pos (by simp;omega)];exact Ok.ret rfl
 have c:=of_decide_eq_false c;rw[if_neg (by rw[decide_eq_true_eq];omega)];exact Ok.step (Py h (by omega) (by omega)) (Ok.ret rfl)
theorem Axp{h:Aa}(w:WfH h){g:Int}{r:Aa×Int}(e:Pu h g=r)(f:r.2=0):WfH r.1:=by
 unfold Pu at e;split at e
 ·rename_i c;subst e;simp only at f;simp[f]at c
 ·rename_i a;split at e
  ·subst e;simp at f
  ·rename_i c;have a:(Mo h.tree g).2=0:=by simpa using a
   have wt:=AqG w.tree rfl a;subst e;refine⟨wt,w.len,w.n1,w.n2,w.sorted,w.lt,fun y i=>?_⟩;have u:=w.val y i;refine⟨u.pos,?_,u.u1,u.u2,u.ldr⟩;obtain⟨z,n,b⟩:=hasN_iff.mp u.grp
   have j:y.group≠g:=fun e=>by
    have:y.id∈tasksK h g:=B8.mpr ⟨y,C1.mpr ⟨i,by simpa using e⟩,rfl⟩;have:=L5 this;rw[decide_eq_true_eq]at c;omega
   refine hasN_iff.mpr ⟨z,?_,b⟩;unfold Mo at a ⊢;split at a
   ·simp at a
   ·split at a
    ·simp at a
    ·split at a
     ·simp at a
     ·rename_i k m l;rw[if_neg k,if_neg m,if_neg l];simp only[C1];refine⟨n,?_⟩;simp;omega
theorem AvP(c:Ah):eqNode c c=true:=by simp[eqNode,AmJ]
end Go.Dm

namespace Go.Dm
structure RawH(h:Aa):Prop where
 nodes:h.tree.nodes.length<=1000
 tasks:h.tasks.length<=1000
 m:∀x∈h.tree.nodes,Aig x
theorem WfH.raw{h:Aa}(w:WfH h):RawH h:=⟨by have:=w.tree.len2;omega,by have:=w.len;omega,w.tree.p.names⟩
end Go.Dm

namespace Go.Dm
def Az(t:Ae)(a:Int):Ah:=(Ha t a).getD zN
def Dx(t:Ae)(a:Int):Bool:=(Az t a).kind==1
def Td(t:Ae)(id:Int):Bool:=((upT t id).find? (Dx t)).elim false (fun x=>x !=id)
def Fi(t:Ae)(id:Int):Int:=((upT t id).find? (fun a=>!Dx t a)).getD 0
def Em(t:Ae)(id:Int):Int:=if !Aw t id then 0 else if Dx t id then 2 else if Td t id then 3 else if(Bb t id).any (Dx t)then 1 else 0
theorem AcL{t:Ae}(w:WfT t)(id:Int):Dr t id=some (Az t id,Aw t id):=by
 rw[Sb w];unfold Az Aw;cases Ha t id<;>rfl
theorem AfH{t:Ae}(w:WfT t)(id:Int):Fz t id=some (Az t id,Aw t id):=by
 have:=w.len2;rw[Ajv t id (by omega)];unfold Az Aw;cases Ha t id<;>rfl
theorem find6{h:Aa}(w:WfH h)(id:Int):Jv h id=some ((Bx h.tasks id).getD zK,(Bx h.tasks id).isSome):=by
 rw[AaN w];cases Bx h.tasks id<;>rfl
theorem findC{h:Aa}(w:WfH h)(id:Int):No h id=some ((Bx h.tasks id).getD zK,(Bx h.tasks id).isSome):=by
 have:=w.len;rw[AcJ h id (by omega)];cases Bx h.tasks id<;>rfl
theorem Uz{t:Ae}(w:WfT t){x:Ah}(a:x∈t.nodes):Az t x.id=x:=by
 unfold Az;rw[getN_of w.sorted a];rfl
theorem Asw{t:Ae}{id:Int}(h:Aw t id=false):Az t id=zN:=by
 unfold Az Aw at *;simp_all
theorem Vk{t:Ae}{id:Int}(h:Aw t id=true):(Az t id).id=id/\Az t id∈t.nodes:=by
 unfold Az Aw at *
 cases a:Ha t id with
 |none=>rw[a]at h;simp at h
 |some x=>exact⟨(Un a).2,(Un a).1⟩
theorem ancN_up{t:Ae}(id:Int):ancN t id=upT t id:=by
 unfold ancN
 cases a:Aw t id with
 |true=>rfl
 |false=>
  have:upT t id=[]:=Adj fun y b e=>by
   have:=hasN_iff.mpr ⟨y,by simpa using b,e⟩;rw[a]at this;simp at this
  rw[this];rfl
theorem up_not{t:Ae}{id:Int}(h:Aw t id=false):upT t id=[]:=Adj fun y a e=>by
 have:=hasN_iff.mpr ⟨y,by simpa using a,e⟩;rw[h]at this;simp at this
theorem Ajz{t:Ae}(w:WfT t){id:Int}(h:Aw t id=true):upT t id=id::upT t (Az t id).parent:=by
 obtain⟨e,a⟩:=Vk h;have:=w.up a;rw[e]at this;exact this
theorem AuA{t:Ae}(w:WfT t):Aw t 0=false:=by
 cases h:Aw t 0 with
 |false=>rfl
 |true=>
  obtain⟨x,a,e⟩:=hasN_iff.mp h;have:=w.id_pos a;omega
theorem has_root{t:Ae}(w:WfT t):Aw t 1=true:=by
 obtain⟨n,q,e,a⟩:=w.root;exact hasN_iff.mpr ⟨n,by rw[e];simp,a.id⟩
theorem AkY{t:Ae}(w:WfT t){x:Ah}(b:x∈t.nodes)(a:x.id≠1):Aw t x.parent=true:=by
 rcases w.p.par x b with⟨h,_⟩|⟨_,_,⟨z,f,e⟩,_⟩
 ·exact absurd h a
 ·exact hasN_iff.mpr ⟨z,f,e⟩
theorem Aif{t:Ae}(w:WfT t){x:Ah}(a:x∈t.nodes)(f:x.id=1):x.parent=0/\x.kind=0:=by
 rcases w.p.par x a with⟨_,r⟩|⟨h,b,_⟩
 ·exact⟨r.parent,r.kind⟩
 ·omega
theorem Abq{t:Ae}(w:WfT t)(id:Int):Mw t id=some (Fi t id,((upT t id).find? (fun a=>!Dx t a)).isSome):=by
 unfold Mw;rw[Uq w,ancN_up,A0];have b:=AjM w id
 rw[if_pos (by omega),Jh (p:=fun a=>!Dx t a) (f:=fun a=>(a,true)) (z:=(0,false)) (fun k x n=>by
  unfold Afa;rw[AcL w];simp only[A0]
  rfl) rfl]
 unfold Fi;cases (upT t id).find? (fun a=>!Dx t a)<;>rfl
theorem Sz{t:Ae}(w:WfT t)(id:Int):Kr t id=some (Fi t id):=by
 unfold Kr;rw[De w,A0];have b:=AjM w id
 rw[if_pos (by omega),Jh (p:=fun a=>!Dx t a) (f:=fun a=>a) (z:=0) (fun k x n=>by
  unfold Afy;rw[AfH w];simp only[A0]
  rfl) rfl]
 unfold Fi;cases (upT t id).find? (fun a=>!Dx t a)<;>rfl
theorem Rg{t:Ae}(w:WfT t)(id:Int):Jl t id=some (Td t id):=by
 unfold Jl;rw[De w,A0];have b:=AjM w id
 rw[if_pos (by omega),Jh (p:=Dx t) (f:=fun a=>a !=id) (z:=false) (fun k x n=>by
  unfold Aeu;rw[AfH w];simp only[A0]
  rfl) rfl]
 rfl
theorem inv_step{t:Ae}(w:WfT t){id:Int}(h:Aw t id=true)(f:Dx t id=false):Td t id=(Aw t (Az t id).parent&&(Dx t (Az t id).parent||Td t (Az t id).parent)):=by
 obtain⟨e,b⟩:=Vk h;unfold Td;rw[Ajz w h,J2,f];simp only
 cases a:Aw t (Az t id).parent with
 |false=>
  rw[up_not a]
  rfl
 |true=>
  rw[Ajz w a,J2]
  cases i:Dx t (Az t id).parent with
  |true=>
   have:=w.par_lt b;simp
   omega
  |false=>
   simp only[G5,E8]
   cases g:(upT t (Az t (Az t id).parent).parent).find? (Dx t)with
   |none=>rfl
   |some y=>grind
theorem Afe{t:Ae}(w:WfT t){id:Int}(h:Aw t id=true)(b:Bool):Pk t id b=some (if b then 3 else if(Bb t id).any (Dx t)then 1 else 0):=by
 unfold Pk
 cases b with
 |true=>rfl
 |false=>
  simp only[A2,if_false];rw[Acw w,if_pos h,A0];have:=Yu t id;have:=w.len2
  rw[if_pos (by omega),Jh (p:=Dx t) (f:=fun _=>(1:Int)) (z:=(0:Int)) (fun k x n=>by
   unfold AiW;rw[AcL w];simp only[A0]
   rfl) rfl]
  cases a:(Bb t id).find? (Dx t)with
  |none=>grind
  |some y=>grind
theorem AuC{t:Ae}(w:WfT t):∀(n:Nat) (id:Int),id.toNat<n->Ji n t id=some (Em t id):=by
 intro n
 induction n with
 |zero=>intro id h;omega
 |succ n o=>
  intro id m;rw[Ji];unfold Uv;rw[AcL w,A0];unfold Em
  cases h:Aw t id with
  |false=>rfl
  |true=>
   simp only[B4,A2,if_false];obtain⟨e,k⟩:=Vk h
   cases f:Dx t id with
   |true=>
    have a:((Az t id).kind==1)=true:=f;rw[a]
    rfl
   |false=>
    have a:((Az t id).kind==1)=false:=f;rw[a];simp only[A2,if_false];rw[AcL w,A0,inv_step w h f];simp only
    cases j:Aw t (Az t id).parent with
    |false=>grind[only,Afe]
    |true=>
     obtain⟨q,g⟩:=Vk j;simp only[if_true,G5]
     cases i:Dx t (Az t id).parent with
     |true=>
      have b:((Az t (Az t id).parent).kind==1)=true:=i
      grind[only,Afe]
     |false=>
      have b:((Az t (Az t id).parent).kind==1)=false:=i;rw[b];simp only[A2,if_false,E8];have r:=w.par_lt k;have l:=w.id_pos g;grind[Afe,Em,Az,Td,only]
theorem Wj{t:Ae}(w:WfT t)(id:Int):Lm t id=some (Em t id):=by
 unfold Lm
 by_cases h:id.toNat<Ik
 ·exact AuC w Ik id h
 ·have b:Aw t id=false:=by
   cases a:Aw t id with
   |false=>rfl
   |true=>
    obtain⟨x,f,e⟩:=hasN_iff.mp a;have i:=w.next x f;have g:=w.nextLe;rw[Iz]at h;omega
  grind[Ik,Ji,Uv,Em,AcL]
theorem type_inv{t:Ae}{id:Int}:Em t id=3↔(Aw t id=true/\Dx t id=false/\Td t id=true):=by
 unfold Em;grind
def topN(t:Ae)(x:Ah):Int:=if x.id==1 then 31 else(Az t x.parent).control
def Jd(t:Ae)(x:Ah):Int:=if x.kind==1 then Bp .i64 (topN t x) 6 else topN t x
theorem Atn:(List.range 32).all (fun c=>Bp .i64 (Bp .i64 (c:Int) 6) 6==Bp .i64 (c:Int) 6)=true:=by decide +kernel
theorem AtP{c:Int}(b:0<=c)(a:c<=31):Bp .i64 (Bp .i64 c 6) 6=Bp .i64 c 6:=by
 have:=B6.mp Atn c.toNat (by rw[F8];omega);grind
theorem AqW{t:Ae}(w:WfT t)(id:Int):0<=(Az t id).control/\(Az t id).control<=31:=by
 cases h:Aw t id with
 |false=>
  rw[Asw h]
  simp[zN]
 |true=>
  have v:=w.p.val _ (Vk h).2;exact⟨v.c1,v.c2⟩
theorem Ajk{t:Ae}(w:WfT t)(x:Ah):Yt t x=some (Jd t x):=by
 have a:Tf x (topN t x)=some (Jd t x):=by grind[Tf,Aaa,Jd]
 grind[Yt,topN,Az,AfH,only]
theorem AoY{t:Ae}(w:WfT t){x:Ah}(a:x∈t.nodes):Me t x.id=some (Jd t x):=by
 unfold Me;rw[AcL w,A0,Uz w a,Vz a];simp only[B4,A2,if_false];unfold Mc Pz Jd
 by_cases h:x.id=1
 ·grind[topN]
 ·have b:(x.id !=1)=true:=by simpa using h
  have f:(x.id==1)=false:=by simpa using h
  have g:topN t x=(Az t x.parent).control:=by
   unfold topN;rw[f];rfl
  rw[b,if_pos rfl];unfold AaU;grind[AcL,Uz,Vz,only,AqW,AtP]
structure SndN(h:Aa)(x:Ah):Prop where
 av:Bp .i64 x.control (Jd h.tree x)=0
 busy:x.id≠1->kand .i64 x.control 6≠0->tasksK h x.id=[]
structure Acd(h:Aa):Prop where
 wf:WfH h
 snd:∀x∈h.tree.nodes,SndN h x
structure FitN(h:Aa)(x:Ah):Prop where
 inv:Em h.tree x.id=3->x.control=0/\tasksK h x.id=[]
 thr:x.kind=1->(x.parent≠1->kand .i64 (Az h.tree x.parent).control 6=0)/\Em h.tree x.parent≠3
def Kg(h:Aa)(x:Ar):Ar:=(Bx h.tasks x.process).getD zK
structure Bz(h:Aa):Prop where
 snd:Acd h
 dom:∀x∈h.tasks,Fi h.tree x.group=Fi h.tree (Kg h x).group
 nod:∀x∈h.tree.nodes,FitN h x
theorem Ur{V:Type}{P:V->Prop}{pre:List V}{x:V}(a:∀y∈pre,P y)(b:P x):∀y∈pre++[x],P y:=by
 grind
theorem len_pos_iff{l:List Int}:decide ((l.length:Int)>0)=false↔l=[]:=by
 simp_all
theorem ArI(h:Aa):Ok (Ux h) (fun b=>b=true↔Acd h):=by
 have f:¬ Acd h->Ok (some false) (fun b=>b=true↔Acd h):=fun i=>Ok.ret ⟨fun e=>by simp at e,fun w=>absurd w i⟩
 unfold Ux;refine Ok.bind (Afb h) fun b l=>?_
 refine Aya (fun c=>f fun s=>?_) fun c=>?_
 ·rw[l.mpr s.wf]at c;simp at c
 have w:=l.mp (by simpa using c);have o:=w.tree.len2;refine Ok.guard (by omega) ?_;refine Ok.range (fun pre _=>∀x∈pre,SndN h x) (by simp) ?_ ?_
 ·intro pre x post _ n m g i;have k:x∈h.tree.nodes:=by rw[m];simp
  unfold AgJ Nb;refine Ok.step (AoY w.tree k) ?_;refine Aya (fun c=>f fun s=>?_) fun c1=>?_
  ·rw[(s.snd x k).av]at c;simp at c
  have c1:Bp .i64 x.control (Jd h.tree x)=0:=by simpa using c1
  refine Aya (fun c2=>?_) fun c2=>?_
  ·have c2:x.id≠1:=by simpa using c2
   refine Aya (fun a=>?_) fun a=>?_
   ·have a:kand .i64 x.control 6≠0:=by simpa using a
    refine Ok.step (AgW w x.id) ?_;refine Aya (fun j=>f fun s=>?_) fun j=>?_
    ·rw[(s.snd x k).busy c2 a]at j;simp at j
    ·exact i () (Ur g ⟨c1,fun _ _=>len_pos_iff.mp j⟩)
   ·have a:kand .i64 x.control 6=0:=by simpa using a
    exact i () (Ur g ⟨c1,fun _ h=>absurd a h⟩)
  ·have c2:x.id=1:=by simpa using c2
   exact i () (Ur g ⟨c1,fun h=>absurd c2 h⟩)
 ·intro _ g;exact Ok.ret ⟨fun _=>⟨w,g⟩,fun _=>rfl⟩
theorem Aft{h:Aa}(r:RawH h):Ok (Qs h) (fun b=>b=true↔Acd h):=by
 have f:¬ Acd h->Ok (some false) (fun b=>b=true↔Acd h):=fun i=>Ok.ret ⟨fun e=>by simp at e,fun w=>absurd w i⟩
 unfold Qs;refine Ok.bind (AhO h r.m) fun b k=>?_
 refine Aya (fun c=>f fun s=>?_) fun c=>?_
 ·rw[k.mpr s.wf]at c;simp at c
 have w:=k.mp (by simpa using c);have o:=w.len;have q:=w.tree.len2;refine Ok.guard (by omega) ?_;refine Ok.range (fun pre _=>∀x∈pre,SndN h x) (by simp) ?_ ?_
 ·intro pre x post _ n m g i;have l:x∈h.tree.nodes:=by rw[m];simp
  unfold AhL Rh;refine Ok.step (Ajk w.tree x) ?_;refine Aya (fun c=>f fun s=>?_) fun c1=>?_
  ·rw[(s.snd x l).av]at c;simp at c
  have c1:Bp .i64 x.control (Jd h.tree x)=0:=by simpa using c1
  refine Aya (fun c2=>?_) fun c2=>?_
  ·have c2:x.id≠1:=by simpa using c2
   refine Aya (fun a=>?_) fun a=>?_
   ·have a:kand .i64 x.control 6≠0:=by simpa using a
    refine Ok.step (Tq w.sorted (by omega) x.id) ?_;refine Aya (fun j=>f fun s=>?_) fun j=>?_
    ·rw[(s.snd x l).busy c2 a]at j;simp at j
    ·exact i () (Ur g ⟨c1,fun _ _=>len_pos_iff.mp j⟩)
   ·have a:kand .i64 x.control 6=0:=by simpa using a
    exact i () (Ur g ⟨c1,fun _ h=>absurd a h⟩)
  ·have c2:x.id=1:=by simpa using c2
   exact i () (Ur g ⟨c1,fun h=>absurd c2 h⟩)
 ·intro _ g;exact Ok.ret ⟨fun _=>⟨w,g⟩,fun _=>rfl⟩
theorem Awx{t:Ae}(w:WfT t):Az t 0=zN:=Asw (AuA w)
theorem par_id{t:Ae}(w:WfT t){x:Ah}(a:x∈t.nodes):(Az t x.parent).id=x.parent:=by
 by_cases h:x.id=1
 ·rw[(Aif w a h).1,Awx w];rfl
 ·exact(Vk (AkY w a h)).1
theorem Wf(h:Aa):Ok (Jx h) (fun b=>b=true↔Bz h):=by
 have k:¬ Bz h->Ok (some false) (fun b=>b=true↔Bz h):=fun r=>Ok.ret ⟨fun e=>by simp at e,fun w=>absurd w r⟩
 unfold Jx;refine Ok.bind (ArI h) fun b y=>?_
 refine Aya (fun c=>k fun s=>?_) fun c=>?_
 ·rw[y.mpr s.snd]at c;simp at c
 have snd:=y.mp (by simpa using c);have w:=snd.wf;have z:=w.len;have A:=w.tree.len2;refine Ok.guard (by omega) ?_;refine Ok.range (fun pre _=>∀x∈pre,Fi h.tree x.group=Fi h.tree (Kg h x).group) (by simp) ?_ ?_
 ·intro pre x post _ n t u r;have g:x∈h.tasks:=by rw[t];simp
  unfold AiX;refine Ok.step (find6 w x.process) (Ok.step (Abq w.tree _) (Ok.step (Abq w.tree _) ?_));refine Aya (fun c=>k fun s=>?_) fun c=>?_
  ·have:=s.dom x g;unfold Kg at this;simp[this]at c
  ·refine r () (Ur u ?_);unfold Kg;simpa using c
 ·intro _ l;unfold AiS;refine Ok.guard (by omega) ?_;refine Ok.range (fun pre _=>∀x∈pre,FitN h x) (by simp) ?_ ?_
  ·intro pre x post _ n t u r;have g:x∈h.tree.nodes:=by rw[t];simp
   have a:∀b:Bool,(b=true->¬ Bz h)->(b=false->FitN h x)->Ok (Lc n b) (fun b=>b=true↔Bz h):=by
    intro b b1 v;unfold Lc;grind
   have m:=par_id w.tree g
   have i:∀b:Bool,(b=true->¬ Bz h)->(b=false->(Em h.tree x.id=3->x.control=0/\tasksK h x.id=[]))->Ok (Nm h x n (Az h.tree x.parent,Aw h.tree x.parent) b) (fun b=>b=true↔Bz h):=by
    intro b b1 v;unfold Nm;refine Aya (fun c=>k (b1 c)) fun c=>?_
    have f:=v c;simp only;rw[m];refine Aya (fun c1=>?_) fun c1=>?_
    ·have c1:x.kind=1:=by simpa using c1
     refine Aya (fun c2=>?_) fun c2=>?_
     ·have c2:x.parent≠1:=by simpa using c2
      refine Aya (fun j=>?_) fun j=>?_
      ·have j:kand .i64 (Az h.tree x.parent).control 6≠0:=by simpa using j
       exact a _ (fun _ s=>j (((s.nod x g).thr c1).1 c2)) (fun e=>by simp at e)
      ·have j:kand .i64 (Az h.tree x.parent).control 6=0:=by simpa using j
       refine Ok.step (Wj w.tree _) (a _ (fun e s=>((s.nod x g).thr c1).2 (by simpa using e)) fun e=>⟨f,fun _=>⟨fun _=>j,by simpa using e⟩⟩)
     ·have c2:x.parent=1:=by simpa using c2
      refine Ok.step (Wj w.tree _) (a _ (fun e s=>((s.nod x g).thr c1).2 (by simpa using e)) fun e=>⟨f,fun _=>⟨fun q=>absurd c2 q,by simpa using e⟩⟩)
    ·have c1:x.kind≠1:=by simpa using c1
     exact a _ (fun e=>by simp at e) fun _=>⟨f,fun q=>absurd q c1⟩
   unfold AiM;refine Ok.step (AcL w.tree _) (Ok.step (Wj w.tree _) ?_);refine Aya (fun c1=>?_) fun c1=>?_
   ·have c1:Em h.tree x.id=3:=by simpa using c1
    refine Aya (fun c2=>?_) fun c2=>?_
    ·have c2:x.control≠0:=by simpa using c2
     exact i _ (fun _ s=>c2 ((s.nod x g).inv c1).1) fun e=>by simp at e
    ·have c2:x.control=0:=by simpa using c2
     refine Ok.step (AgW w _) (i _ (fun e s=>?_) fun e _=>⟨c2,len_pos_iff.mp e⟩);rw[((s.nod x g).inv c1).2]at e;simp at e
   grind
  ·intro _ o;exact Ok.ret ⟨fun _=>⟨snd,l,o⟩,fun _=>rfl⟩
theorem Aqf{h:Aa}(w:WfH h){x:Ah}(j:x∈h.tree.nodes):Ok (Abe h x) (fun b=>b=true↔FitN h x):=by
 have o:=w.len;have a:=Uz w.tree j;unfold Abe Rc Xi;refine Aya (fun c=>?_) fun c=>?_
 ·have c:x.kind≠1:=by simpa using c
  have k:Dx h.tree x.id=false:=by
   unfold Dx;rw[a];simpa using c
  have i:Em h.tree x.id=3↔Td h.tree x.id=true:=by
   rw[type_inv,Vz j,k];simp
  have g:FitN h x↔(Td h.tree x.id=true->x.control=0/\tasksK h x.id=[]):=by
   constructor
   ·intro f e;exact f.inv (i.mpr e)
   ·intro f;exact⟨fun e=>f (i.mp e),fun e=>absurd e c⟩
  refine Ok.step (Rg w.tree x.id) ?_;refine Aya (fun c1=>Ok.ret ?_) fun c1=>?_
  ·grind
  have c1:Td h.tree x.id=true:=by simpa using c1
  refine Aya (fun c2=>?_) fun c2=>Ok.ret ?_
  ·have c2:x.control=0:=by simpa using c2
   refine Ok.step (Tq w.sorted (by omega) x.id) (Ok.ret ?_);simp_all
  grind
 ·have c:x.kind=1:=by simpa using c
  have k:Dx h.tree x.id=true:=by
   unfold Dx;rw[a];simpa using c
  have l:Em h.tree x.id≠3:=fun e=>by
   have:=(type_inv.mp e).2.1;rw[k]at this;simp at this
  have m:x.id≠1:=fun e=>by
   have:=(Aif w.tree j e).2;omega
  have n:=AkY w.tree j m
  have g:FitN h x↔((x.parent≠1->kand .i64 (Az h.tree x.parent).control 6=0)/\Em h.tree x.parent≠3):=by
   constructor
   ·intro f;exact f.thr c
   ·intro f;exact⟨fun e=>absurd e l,fun _=>f⟩
  have fin:Em h.tree x.parent≠3->((((x.parent==1)||(kand .i64 (Az h.tree x.parent).control 6==0))=true)↔FitN h x):=by grind
  refine Ok.step (AfH w.tree x.parent) ?_;simp only;refine Aya (fun c1=>?_) fun c1=>?_
  ·have c1:Dx h.tree x.parent=false:=by
    unfold Dx;simpa using c1
   refine Ok.step (Rg w.tree x.parent) ?_;refine Aya (fun c2=>Ok.ret ?_) fun c2=>Ok.ret (fin ?_)
   ·constructor
    ·intro e;simp at e
    ·intro f;exact absurd (type_inv.mpr ⟨n,c1,c2⟩) (g.mp f).2
   ·intro e;rw[(type_inv.mp e).2.2]at c2;simp at c2
  ·have c1:Dx h.tree x.parent=true:=by
    unfold Dx;simpa using c1
   refine Aya (fun c2=>by simp at c2) fun _=>Ok.ret (fin fun e=>?_)
   have:=(type_inv.mp e).2.1;rw[c1]at this;simp at this
theorem AtL{V:Type}(m:IMap V)(k:Int)(v:V)(j:Int):(m.set k v).get j=if j=k then v else m.get j:=rfl
theorem AfC{h:Aa}(r:RawH h):Ok (Dp h) (fun b=>b=true↔Bz h):=by
 have g:¬ Bz h->Ok (some false) (fun b=>b=true↔Bz h):=fun f=>Ok.ret ⟨fun e=>by simp at e,fun w=>absurd w f⟩
 unfold Dp;refine Ok.bind (Aft r) fun b l=>?_
 refine Aya (fun c=>g fun s=>?_) fun c=>?_
 ·rw[l.mpr s.snd]at c;simp at c
 have snd:=l.mp (by simpa using c);have w:=snd.wf;have A:=w.len;have B:=w.tree.len2;refine Ok.guard (by omega) ?_;refine Ok.range (fun pre m=>∀x∈pre,x.id=x.process->m.get x.id=Fi h.tree x.group) (by simp) ?_ ?_
 ·intro pre x post m n o i f;unfold Aiv Xo;refine Aya (fun c=>?_) fun c=>?_
  ·refine Ok.step (Sz w.tree x.group) (f _ ?_);intro y j t;rw[AtL];rcases B1.mp j with j|j
   ·have:y.id≠x.id:=fun e=>by
     have v:=w.sorted;rw[o,E4]at v;have:=v.2.2 y j x (by simp);omega
    rw[if_neg this];exact i y j t
   grind
  grind
 ·intro m z
  have u:∀x∈h.tasks,m.get x.process=Fi h.tree (Kg h x).group:=by
   intro x a;obtain⟨p,C,E,D⟩:=(w.val x a).ldr;grind[Rn,Kg]
  unfold AhW;refine Ok.guard (by omega) ?_;refine Ok.range (fun pre _=>∀x∈pre,Fi h.tree x.group=Fi h.tree (Kg h x).group) (by simp) ?_ ?_
  ·intro pre x post _ n o i f;have a:x∈h.tasks:=by rw[o];simp
   unfold AhZ;refine Ok.step (Sz w.tree x.group) ?_;rw[u x a];refine Aya (fun c=>g fun s=>?_) fun c=>f () (Ur i (by simpa using c))
   rw[s.dom x a]at c;simp at c
  ·intro _ k;unfold AhM;refine Ok.guard (by omega) ?_;refine Ok.range (fun pre _=>∀x∈pre,FitN h x) (by simp) ?_ ?_
   ·intro pre x post _ n o i f;have a:x∈h.tree.nodes:=by rw[o];simp
    unfold AgB;refine Ok.bind (Aqf w a) fun b l=>?_
    refine Aya (fun c=>g fun s=>?_) fun c=>f () (Ur i (l.mp (by simpa using c)))
    rw[l.mpr (s.nod x a)]at c;simp at c
   ·intro _ q;exact Ok.ret ⟨fun _=>⟨snd,k,q⟩,fun _=>rfl⟩
theorem Ajc{h:Aa}(f:Bz h):Jx h=some true:=by
 obtain⟨b,a,e⟩:=Wf h;rw[a,e.mpr f]
theorem Ep{h:Aa}(f:Bz h):Dp h=some true:=by
 obtain⟨b,a,e⟩:=AfC f.snd.wf.raw;rw[a,e.mpr f]
theorem Aia{h:Aa}(r:RawH h)(f:¬ Bz h):Dp h=some false:=by
 obtain⟨b,a,e⟩:=AfC r;grind
def Lz(t:Ae)(g:Int):Int:=
 if !Aw t g then 4 else if Em t g==3 then 10 else if(g !=1)&&(kand .i64 (Az t g).control 6 !=0)then 6 else 0
theorem Afp{h:Aa}(w:WfH h)(g:Int):Rd h g=some (Lz h.tree g):=by
 unfold Rd Lz Sn;rw[AfH w.tree,A0]
 cases i:Aw h.tree g with
 |false=>rfl
 |true=>
  simp only[B4,A2,if_false];have j:∀b:Bool,(Em h.tree g=3↔b=true)->(Em h.tree g==3)=b:=by grind
  cases f:Dx h.tree g with
  |true=>grind[Az,Dx,type_inv,only,kand]
  |false=>
   have a:((Az h.tree g).kind !=1)=true:=by
    unfold Dx at f;simpa using f
   rw[a,Rg w.tree,j (Td h.tree g) (by rw[type_inv,f,i];simp)];grind
theorem Abb{h:Aa}(f:Bz h)(g:Int):Mp h g=some (Lz h.tree g):=by
 have w:=f.snd.wf;unfold Mp Lz;rw[Ajc f,A0,AcL w.tree,A0,Wj w.tree];grind
end Go.Dm

namespace Go.Dm
def Agp(h:Aa)(l:List Af)(g:Int):List Af:=(((upT h.tree g).find? (Aiz l 1)).elim (l,(0:Int)) (fun a=>(l.map (Sr a Agm),a))).1
def forkR(h:Aa)(l:List Af)(g:Int)(o:Aa×Int×Int):Aa×List Af×Int×Int:=
 if o.2.2 !=0 then(zH,[],0,o.2.2)else if decide (Xf l (upT h.tree g)<1)then(zH,Agp h l g,0,11)
 else(o.1,l.map (Ij (upT h.tree g) 1),o.2.1,0)
theorem Auh{h:Aa}(w:WfH h){l:List Af}(k:CntOk h l)(g:Int)(o:Aa×Int×Int):AfK h o.1 l g o.2.1 o.2.2=some (forkR h l g o):=by
 unfold AfK forkR
 cases a:(o.2.2 !=0)with
 |true=>rfl
 |false=>
  simp only[A2,if_false];rw[Amu w k.ids,A0]
  cases b:decide (Xf l (upT h.tree g)<1)with
  |true=>
   simp only[if_true];rw[Att w k]
   rfl
  |false=>
   simp only[A2,if_false];rw[AqX w k.ids];rfl
def Qg(h:Aa)(k:Int):Int:=((Bx h.tasks k).getD zK).group
def Wg(h:Aa)(l:List Af)(k:Int):Aa×List Af×Int×Int:=forkR h l (Qg h k) (Kz h k)
theorem AuZ{h:Aa}(w:WfH h){l:List Af}(c:CntOk h l)(k:Int):AfI h l k=some (Wg h l k):=by
 unfold AfI;rw[Ud w c,A0];simp only[B4,A2,if_false];rw[findC w,A0,Arx w,A0,Auh w c _ (Kz h k)];rfl
theorem ArZ{h h':Aa}{x:Ar}(a:h'.tree=h.tree)(b:h'.tasks=h.tasks++[x])(k:Int):Ge h' k=Ge h k+if(upT h.tree x.group).contains k then 1 else 0:=by
 grind[Ge]
theorem Axu{h h':Aa}(w:WfH h)(w':WfH h'){l:List Af}(k:CntOk h l){x:Ar}(g:h'.tree=h.tree)(o:h'.tasks=h.tasks++[x]):CntOk h' (l.map (Ij (upT h.tree x.group) 1)):=by
 refine⟨?_,?_⟩
 ·rw[g];exact CIds.charge (h:=h) k.ids _ _
 ·intro c r;obtain⟨d,m,rfl⟩:=B8.mp r;have v:=k.val d m;have a:=ArZ g o d.group;have q:=AeN h' d.group;have j:=w'.len;have i:=v.now;have n:=v.p1;have s:=v.p2;unfold Ij
  cases b:(upT h.tree x.group).contains d.group with
  |false=>
   rw[b]at a;simp only[A2,if_false]at a ⊢
   exact⟨by omega,v.limit,v.p1,v.p2,v.e1,v.e2⟩
  |true=>
   rw[b]at a;simp only[if_true]at a ⊢;have f:w64 (d.now+1)=d.now+1:=Br (by omega) (by omega);refine⟨?_,v.limit,?_,?_,v.e1,v.e2⟩
   ·show w64 (d.now+1)=_;rw[f];show _=((Ge h' d.group:Nat):Int);omega
   ·exact AqO _ _
   ·refine Ant v.p2 ?_;rw[f];omega
theorem CntOk.refused{h:Aa}{l:List Af}(k:CntOk h l)(g:Int):CntOk h (Agp h l g):=by
 unfold Agp
 cases (upT h.tree g).find? (Aiz l 1)with
 |none=>exact k
 |some a=>
  simp only[D6];refine⟨?_,?_⟩
  ·rw[H7,<-k.ids];refine C8 fun c _=>?_
   grind[only,Sr,Agm]
  ·intro c f;obtain⟨d,b,rfl⟩:=B8.mp f;have v:=k.val d b;have e1:=v.e1;have e2:=v.e2;unfold Sr;split
   ·refine⟨v.now,v.limit,v.p1,v.p2,?_,?_⟩
    all_goals grind[only,Agm,Jj,Br]
   ·exact v
theorem AfT{h:Aa}{k g:Int}(b:(Bx h.tasks k).isSome=true)(a:Aw h.tree g=true):Aju h k g=({h with tasks:=h.tasks.map (Qr k g)},0):=by
 unfold Aju;rw[b,a];rfl
def Ti(p g:Int)(y:Ar):Ar:=if y.process==p then{y with group:=g}else y
theorem Ajj{h:Aa}(w:WfH h)(p:Int):AgP h p=some (Fk h p):=by
 have:=w.len;unfold AgP;rw[Ks w];simp only[A0,B4,A2,if_false];rw[if_pos (by omega)];refine(Lk (p:=fun x:Ar=>x.process==p) (f:=fun x:Ar=>x.id) (r:=some) ?_ (fun _=>rfl) (by simp;omega)).trans (by simp[Fk]);grind[Ajh,Adm]
theorem AqZ(h:Aa)(k g:Int):Ok (AdX h k g) (fun r=>r.2=0->WfH r.1/\r.1.tree=h.tree/\r.1.tasks.length=h.tasks.length/\r.1.next=h.next):=by
 unfold AdX;have a:∀(x:Aa) (n:Int),n≠0->Ok (some (x,n)) (fun r:Aa×Int=>r.2=0->WfH r.1/\r.1.tree=h.tree/\r.1.tasks.length=h.tasks.length/\r.1.next=h.next):=fun x n j=>Ok.ret fun e=>absurd e j
 refine Ok.bind (Wf h) fun b z=>Aya (fun _=>a _ _ (by decide)) fun c=>?_
 have f:=z.mp (by simpa using c);have w:=f.snd.wf;have D:=w.len
 have i:∀b,(b=false->Aw h.tree g=true)->Ok (Ra h k g b) (fun r=>r.2=0->WfH r.1/\r.1.tree=h.tree/\r.1.tasks.length=h.tasks.length/\r.1.next=h.next):=fun b t=>by
  unfold Ra;refine Aya (fun _=>a _ _ (by decide)) fun c=>?_
  have t:=t c;refine Ok.step (Wj w.tree g) (Aya (fun _=>a _ _ (by decide)) fun _=>?_);refine Ok.step (Abb f g) (Aya (fun c=>a _ _ (by simpa using c)) fun _=>?_);refine Ok.step (Ajj w k) ?_;have u:(Fk h k).length<=h.tasks.length:=by grind[Fk]
  refine Ok.guard (by omega) ?_;refine Ok.range (fun _ s=>WfH s/\s.tree=h.tree/\s.tasks.length=h.tasks.length/\s.next=h.next/\∀id,(Bx s.tasks id).isSome=(Bx h.tasks id).isSome) ⟨w,rfl,rfl,rfl,fun _=>rfl⟩ ?_ ?_
  ·intro pre x post s n A ⟨l,q,m,o,B⟩ j;unfold Afh;refine Ok.step (Acj l x g) (j _ ?_)
   have C:(Bx s.tasks x).isSome=true:=by
    rw[B];have:x∈Fk h k:=by rw[A];simp
    unfold Fk at this;obtain⟨y,v,rfl⟩:=B8.mp this;rw[AbQ w.sorted (C1.mp v).1];rfl
   grind[AfT,Ais,only,AkD,Zq]
  ·rintro s ⟨l,q,m,o,_⟩;exact Ok.ret fun _=>⟨l,q,m,o⟩
 refine Ok.step (find6 w k) (Aya (fun _=>i _ fun e=>by simp at e) fun _=>Aya (fun _=>i _ fun e=>by simp at e) fun _=>Ok.step (Mv w.tree g) (i _ fun e=>by simpa using e))
end Go.Dm

namespace Go.Dm
theorem tasks_nil{h:Aa}{g:Int}:tasksK h g=[]↔∀x∈h.tasks,x.group≠g:=by
 simp_all[tasksK]
theorem AwP{t:Ae}{g:Int}(h:Lz t g=0):Aw t g=true/\Em t g≠3/\(g≠1->kand .i64 (Az t g).control 6=0):=by
 grind[Lz,only]
theorem Acq{h h':Aa}(f:Bz h)(w':WfH h')(b:h'.tree=h.tree)(r:∀x∈h'.tasks,(∃y∈h.tasks,y.group=x.group)\/Lz h.tree x.group=0)
  (o:∀x∈h'.tasks,Fi h.tree x.group=Fi h.tree (Kg h' x).group):Bz h':=by
 have w:=f.snd.wf
 have l:∀x∈h.tree.nodes,(Em h.tree x.id=3\/(x.id≠1/\kand .i64 x.control 6≠0))->tasksK h x.id=[]->tasksK h' x.id=[]:=by
  intro x a A k;rw[tasks_nil]at k ⊢;intro y q e;rcases r y q with⟨z,u,v⟩|m
  ·exact k z u (by omega)
  ·rw[e]at m;obtain⟨_,a2,a3⟩:=AwP m;rw[Uz w.tree a]at a3;grind
 refine⟨⟨w',fun x a=>?_⟩,fun x a=>?_,fun x a=>?_⟩
 ·rw[b]at a;have s:=f.snd.snd x a;exact⟨by rw[b];exact s.av,fun i j=>l x a (.inr ⟨i,j⟩) (s.busy i j)⟩
 ·rw[b];exact o x a
 ·rw[b]at a;have n:=f.nod x a;refine⟨fun g=>?_,fun i=>?_⟩
  ·rw[b]at g;exact⟨(n.inv g).1,l x a (.inl g) (n.inv g).2⟩
  ·rw[b];exact n.thr i
theorem Rz{h:Aa}(w:WfH h){x:Ar}(a:x∈h.tasks):Bx h.tasks x.process=some (Kg h x)/\Kg h x∈h.tasks/\(Kg h x).id=x.process/\(Kg h x).process=x.process:=by
 obtain⟨p,f,b,_⟩:=(w.val x a).ldr;grind[Kg,Rn]
theorem Apw{h:Aa}{x:Ar}{r:Aa×Int×Int}(e:Afd h x=r)(a:r.2.2=0):
  r=({h with tasks:=h.tasks++[{x with id:=h.next,process:=if x.process==0 then h.next else x.process}],next:=h.next+1},h.next,0):=by
 grind[Afd]
theorem AtY{h:Aa}{g u:Int}{r:Aa×Int×Int}(e:AaT h g u=r)(a:r.2.2=0):
  r=({h with tasks:=h.tasks++[{id:=h.next,process:=h.next,group:=g,user:=u}],next:=h.next+1},h.next,0):=by
 unfold AaT at e;split at e
 ·subst e;simp at a
 split at e
 ·subst e;simp at a
 exact Apw e a
theorem AqY{h h':Aa}(w:WfH h){y:Ar}(a:h'.tasks=h.tasks++[y]){x:Ar}(b:x∈h.tasks):Kg h' x=Kg h x:=by
 grind[Rz,Kg,Aaz]
theorem AwB{h:Aa}(f:Bz h){g u:Int}(m:Lz h.tree g=0){r:Aa×Int×Int}(e:AaT h g u=r)(i:r.2.2=0):Bz r.1:=by
 have w:=f.snd.wf;have w':=Asf w e i;have s:=AtY e i;have j:r.1.tree=h.tree:=by rw[s]
 have b:r.1.tasks=h.tasks++[{id:=h.next,process:=h.next,group:=g,user:=u}]:=by rw[s]
 refine Acq f w' j (fun x a=>?_) fun x a=>?_
 ·grind
 ·rw[b]at a;rcases B1.mp a with a|a
  ·rw[AqY w b a];exact f.dom x a
  ·obtain rfl:x={id:=h.next,process:=h.next,group:=g,user:=u}:=by simpa using a
   have:Kg r.1 {id:=h.next,process:=h.next,group:=g,user:=u}={id:=h.next,process:=h.next,group:=g,user:=u}:=by
    unfold Kg;rw[b,Aaz]
    have k:Bx h.tasks h.next=none:=by
     unfold Bx;rw[G4];intro z l;have:=w.lt z l;simp;omega
    simp only[k,Option.none_or];simp[Bx]
   rw[this]
theorem Aqm{h:Aa}(f:Bz h){k:Int}{r:Aa×Int×Int}(e:Kz h k=r)(i:r.2.2=0):Bz r.1:=by
 have w:=f.snd.wf;have w':=AsI w e i;unfold Kz at e
 cases b:Bx h.tasks k with
 |none=>rw[b]at e;subst e;simp at i
 |some y=>
  rw[b]at e;have g:=(Rn b).1;have s:=Apw e i;obtain⟨q,n,u,o⟩:=Rz w g
  have j:(y.process==0)=false:=by
   have:=(w.val _ n).pos;simp;omega
  rw[j]at s;simp only[A2,if_false]at s;have m:r.1.tree=h.tree:=by rw[s]
  have l:r.1.tasks=h.tasks++[{y with id:=h.next}]:=by rw[s]
  refine Acq f w' m (fun x a=>?_) fun x a=>?_
  ·grind
  ·rw[l]at a;rcases B1.mp a with a|a
   ·rw[AqY w l a];exact f.dom x a
   ·obtain rfl:x={y with id:=h.next}:=by simpa using a
    have:Kg r.1 {y with id:=h.next}=Kg r.1 y:=rfl;rw[this,AqY w l g];exact f.dom y g
theorem exit_fits{h:Aa}(f:Bz h){k:Int}{r:Aa×Int}(e:Alf h k=r)(l:r.2=0):Bz r.1:=by
 have w:=f.snd.wf;have w':=AuF w e l;unfold Alf at e
 cases j:Bx h.tasks k with
 |none=>rw[j]at e;subst e;simp at l
 |some y=>
  rw[j]at e;have m:r.1.tree=h.tree:=by rw[<-e];rfl
  have n:r.1.tasks=h.tasks.filter (fun x=>x.id !=k&&x.process !=k):=by rw[<-e];rfl
  have g:∀x∈r.1.tasks,x∈h.tasks:=fun x i=>by grind
  refine Acq f w' m (fun x i=>.inl ⟨x,g x i,rfl⟩) fun x i=>?_
  have a:=Rz w' i;have b:=Rz w (g x i);have:Kg r.1 x=Kg h x:=AdR w.sorted (g _ a.2.1) b.2.1 (by rw[a.2.2.1,b.2.2.1]);rw[this];exact f.dom x (g x i)
def Aca(h:Aa)(k g:Int):Aa×Int:=
 if !((Bx h.tasks k).isSome&&Aw h.tree g)then(zH,4)else if Lz h.tree g !=0 then(zH,Lz h.tree g)else if Fi h.tree g !=Fi h.tree (Qg h k)then(zH,9)
 else({h with tasks:=h.tasks.map (Qr k g)},0)
theorem AlL{h:Aa}(f:Bz h)(k g:Int):Im h k g=some (Aca h k g):=by
 have w:=f.snd.wf;unfold Im Aca;rw[Ajc f,A0,if_neg (by simp),find6 w,A0]
 cases i:(Bx h.tasks k).isSome with
 |false=>rfl
 |true=>
  simp only[B4,A2,if_false,G5];rw[Mv w.tree,A0]
  cases b:Aw h.tree g with
  |false=>rfl
  |true=>
   unfold Iy;simp only[B4,A2,if_false];rw[Abb f,A0]
   cases j:(Lz h.tree g !=0)with
   |true=>rfl
   |false=>
    simp only[A2,if_false];rw[Abq w.tree,A0,Abq w.tree,A0];show(if(Fi h.tree g !=Fi h.tree (Qg h k))=true then _ else _)=_
    cases a:(Fi h.tree g !=Fi h.tree (Qg h k))with
    |true=>rfl
    |false=>grind[only,Acj,AfT]
theorem AuJ{h:Aa}{k g:Int}(e:(Aca h k g).2=0):(Bx h.tasks k).isSome=true/\Aw h.tree g=true/\Lz h.tree g=0/\Fi h.tree g=Fi h.tree (Qg h k)/\Aca h k g=({h with tasks:=h.tasks.map (Qr k g)},0):=by
 grind[Aca,only]
theorem ldr_map{h:Aa}{fn:Ar->Ar}(a:∀y,(fn y).id=y.id/\(fn y).process=y.process)(g:∀y∈h.tasks,(Bx h.tasks y.process).isSome=true){y:Ar}(f:y∈h.tasks){h':Aa}(b:h'.tasks=h.tasks.map fn):Kg h' (fn y)=fn (Kg h y):=by
 unfold Kg;rw[b,(a y).2,AkD fun z _=>(a z).1]
 cases e:Bx h.tasks y.process with
 |none=>
  have:=g y f;rw[e]at this
  simp at this
 |some p=>rfl
theorem ApF{h:Aa}(f:Bz h){k g:Int}(e:(Aca h k g).2=0):Bz (Aca h k g).1:=by
 have w:=f.snd.wf;obtain⟨q,n,v,o,r⟩:=AuJ e;have l:=AfT q n;have w':=Ais w l rfl;rw[r]
 have a:∀y∈h.tasks,Fi h.tree (Qr k g y).group=Fi h.tree y.group:=by
  intro y b;unfold Qr;split
  ·rename_i i;have i:y.id=k:=by simpa using i
   rw[o];unfold Qg;rw[<-i,AbQ w.sorted b];rfl
  ·rfl
 refine Acq f w' rfl (fun x j=>?_) fun x j=>?_
 ·grind[Qr]
 ·obtain⟨y,b,rfl⟩:=B8.mp j;have m:=Rz w b;rw[ldr_map (h:=h) (fun z=>⟨(Zq k g z).1,(Zq k g z).2.1⟩) (fun z u=>by rw[(Rz w u).1];rfl) b rfl,a y b,a _ m.2.1];exact f.dom y b
def attK(h:Aa)(k g:Int):Aa×Int:=
 if !((Bx h.tasks k).isSome&&(((Bx h.tasks k).getD zK).process==k)&&Aw h.tree g)then(zH,4)else if Em h.tree g==2 then(zH,10)else if Lz h.tree g !=0 then(zH,Lz h.tree g)
 else({h with tasks:=h.tasks.map (Ti k g)},0)
theorem AsY{h:Aa}(f:Bz h)(k g:Int):AdX h k g=some (attK h k g):=by
 have w:=f.snd.wf;have F:=w.len;unfold AdX attK;rw[Ajc f,A0,if_neg (by simp),find6 w,A0]
 cases E:(Bx h.tasks k).isSome with
 |false=>rfl
 |true=>
  simp only[B4,A2,if_false,G5]
  cases q:(((Bx h.tasks k).getD zK).process==k)with
  |false=>
   have:(((Bx h.tasks k).getD zK).process !=k)=true:=by simpa using q
   rw[this]
   rfl
  |true=>
   have:(((Bx h.tasks k).getD zK).process !=k)=false:=by simpa using q
   rw[this];simp only[A2,if_false,G5];rw[Mv w.tree,A0]
   cases u:Aw h.tree g with
   |false=>rfl
   |true=>
    unfold Ra;simp only[B4,A2,if_false];rw[Wj w.tree,A0]
    cases D:(Em h.tree g==2)with
    |true=>rfl
    |false=>
     simp only[A2,if_false];rw[Abb f,A0]
     cases G:(Lz h.tree g !=0)with
     |true=>rfl
     |false=>
      simp only[A2,if_false];refine Ok.eq ?_;refine Ok.step (Ajj w k) ?_;have o:(Fk h k).length<=h.tasks.length:=by grind[Fk]
      refine Ok.guard (by omega) ?_
      let put:List Int->Ar->Ar:=fun pre y=>if pre.contains y.id then{y with group:=g}else y
      have a:∀pre y,(put pre y).id=y.id:=fun pre y=>by grind
      refine Ok.range (fun pre s=>WfH s/\s={h with tasks:=h.tasks.map (put pre)}) ⟨w,?_⟩ ?_ ?_
      ·have:h.tasks.map (put [])=h.tasks:=by
        rw[C8 (g:=id) fun y _=>by simp[put]];simp
       rw[this]
      ·intro pre x post s n C ⟨r,i⟩ B;unfold Afh;refine Ok.step (Acj r x g) (B _ ?_)
       have A:(Bx s.tasks x).isSome=true:=by
        rw[i];simp only;rw[AkD fun y _=>a pre y,Option.isSome_map];have:x∈Fk h k:=by rw[C];simp
        unfold Fk at this;obtain⟨y,m,rfl⟩:=B8.mp this;rw[AbQ w.sorted (C1.mp m).1];rfl
       have b:=AfT A (by rw[i];exact u);refine⟨?_,?_⟩
       ·rw[b];exact Ais r b rfl
       ·rw[b,i];simp only[H7];congr 1;refine C8 fun y _=>?_
        show Qr x g (put pre y)=put (pre++[x]) y;unfold Qr;rw[a];simp only[put]
        by_cases e1:y.id=x
        all_goals grind
      ·rintro s ⟨_,i⟩;refine Ok.ret ?_;rw[i];congr 2;refine C8 fun y m=>?_
       show put (Fk h k) y=Ti k g y;simp only[put,Ti]
       have:(Fk h k).contains y.id=(y.process==k):=by
        unfold Fk;rw[K9,G1,B8];constructor
        ·rintro⟨z,v,e⟩;obtain⟨j,l⟩:=C1.mp v;rw[<-AdR w.sorted j m e];exact l
        grind
       rw[this]
theorem attK_ok{h:Aa}{k g:Int}(e:(attK h k g).2=0):(Bx h.tasks k).isSome=true/\((Bx h.tasks k).getD zK).process=k/\Aw h.tree g=true/\Em h.tree g≠2/\Lz h.tree g=0/\attK h k g=({h with tasks:=h.tasks.map (Ti k g)},0):=by
 grind[attK,only]
theorem Asn(k g:Int)(y:Ar):(Ti k g y).id=y.id/\(Ti k g y).process=y.process/\(Ti k g y).user=y.user:=by
 grind[Ti]
theorem attK_fits{h:Aa}(f:Bz h){k g:Int}(e:(attK h k g).2=0):Bz (attK h k g).1:=by
 have w:=f.snd.wf;obtain⟨r,n,o,q,u,l⟩:=attK_ok e;have j:=AsY f k g;have w':=(ok_at (AqZ h k g) j e).1;rw[l]at w' ⊢;refine Acq f w' rfl (fun x b=>?_) fun x b=>?_
 ·grind[Ti]
 ·obtain⟨y,a,rfl⟩:=B8.mp b;have i:=Rz w a;rw[ldr_map (h:=h) (fun z=>⟨(Asn k g z).1,(Asn k g z).2.1⟩) (fun z m=>by rw[(Rz w m).1];rfl) a rfl];unfold Ti;rw[i.2.2.2];split
  ·rfl
  ·exact f.dom y a
section
variable {t t':Ae} {fn:Ah->Ah}
theorem AtN(g:t'.nodes=t.nodes.map fn)(f:∀y∈t.nodes,(fn y).id=y.id)(a:Int):Ha t' a=(Ha t a).map fn:=by
 unfold Ha;rw[g]
 have:∀L:List Ah,(∀y∈L,(fn y).id=y.id)->(L.map fn).find? (fun x=>x.id==a)=(L.find? (fun x=>x.id==a)).map fn:=by
  intro L
  induction L with
  |nil=>intro _;rfl
  |cons b r h=>grind
 exact this _ f
structure Alike(t t':Ae)(fn:Ah->Ah):Prop where
 nodes:t'.nodes=t.nodes.map fn
 id:∀y∈t.nodes,(fn y).id=y.id
 par:∀y∈t.nodes,(fn y).parent=y.parent
 con:∀y∈t.nodes,(fn y).control=y.control
 kind:∀y∈t.nodes,(fn y).kind=y.kind
theorem Alike.has(h:Alike t t' fn)(a:Int):Aw t' a=Aw t a:=by
 unfold Aw;rw[AtN h.nodes h.id];simp
theorem Alike.node(h:Alike t t' fn)(a:Int):(Az t' a).control=(Az t a).control/\(Az t' a).kind=(Az t a).kind/\(Az t' a).parent=(Az t a).parent:=by
 unfold Az;rw[AtN h.nodes h.id]
 cases e:Ha t a with
 |none=>exact⟨rfl,rfl,rfl⟩
 |some y=>
  have b:=(Un e).1;exact⟨h.con y b,h.kind y b,h.par y b⟩
theorem Alike.thr(h:Alike t t' fn):Dx t'=Dx t:=by
 funext a;unfold Dx;rw[(h.node a).2.1]
theorem Alike.up(h:Alike t t' fn)(a:Int):upT t' a=upT t a:=by
 unfold upT;rw[h.nodes,<-O6];exact Arp fun y b=>⟨h.id y (by simpa using b),h.par y (by simpa using b)⟩
theorem Alike.kids(h:Alike t t' fn)(a:Int):Bb t' a=Bb t a:=by
 unfold Bb;rw[h.nodes,P2,H7];have e1:t.nodes.filter ((fun x=>x.parent==a) ∘ fn)=t.nodes.filter (fun x=>x.parent==a):=J9 fun y b=>by simp[h.par y b]
 rw[e1];exact C8 fun y b=>h.id y (C1.mp b).1
theorem Alike.dom(h:Alike t t' fn)(a:Int):Fi t' a=Fi t a:=by
 unfold Fi;rw[h.up,h.thr]
theorem Alike.inv(h:Alike t t' fn)(a:Int):Td t' a=Td t a:=by
 unfold Td;rw[h.up,h.thr]
theorem Alike.type(h:Alike t t' fn)(a:Int):Em t' a=Em t a:=by
 unfold Em;rw[h.has,h.inv,h.kids,h.thr]
theorem Aww{h h':Aa}(f:Bz h)(w':WfH h')(a:Alike h.tree h'.tree fn)(k:h'.tasks=h.tasks):Bz h':=by
 have o:∀g,tasksK h' g=tasksK h g:=fun g=>by
  unfold tasksK;rw[k]
 have q:∀x,Kg h' x=Kg h x:=fun x=>by
  unfold Kg;rw[k]
 refine⟨⟨w',fun x i=>?_⟩,fun x i=>?_,fun x i=>?_⟩
 ·rw[a.nodes]at i;obtain⟨y,b,rfl⟩:=B8.mp i;have s:=f.snd.snd y b
  have e1:Jd h'.tree (fn y)=Jd h.tree y:=by
   unfold Jd topN;rw[a.kind y b,a.id y b,a.par y b,(a.node y.parent).1]
  refine⟨?_,fun j l=>?_⟩
  ·rw[e1,a.con y b];exact s.av
  ·rw[o,a.id y b];rw[a.id y b]at j;rw[a.con y b]at l;exact s.busy j l
 ·rw[k]at i;rw[a.dom,a.dom,q];exact f.dom x i
 ·rw[a.nodes]at i;obtain⟨y,b,rfl⟩:=B8.mp i;have n:=f.nod y b;refine⟨fun m=>?_,fun j=>?_⟩
  ·rw[a.id y b,a.type]at m;rw[a.con y b,a.id y b,o];exact n.inv m
  ·rw[a.kind y b]at j;rw[a.par y b,a.type,(a.node y.parent).1];exact n.thr j
end
theorem own_fits{h:Aa}(f:Bz h){x:Ah}(b:x∈h.tree.nodes){u:Int}(g:0<=u)(u1:u<=1048576):Bz (Hj h (ownN x u)):=by
 have w:=f.snd.wf
 have i:∀y∈h.tree.nodes,Ln (ownN x u) y=if y.id==x.id then ownN y u else y:=fun y a=>by
  unfold Ln;have:(ownN x u).id=x.id:=rfl;rw[this];split
  ·rename_i e;rw[Rv w.tree.sorted a b (by simpa using e)]
  ·rfl
 refine Aww (fn:=Ln (ownN x u)) f (AmM w b g u1) ⟨rfl,?_,?_,?_,?_⟩ rfl
 all_goals
  intro y a;rw[i y a];split<;>rfl
section
variable {t t':Ae} {p:Int} {s:ByteArray}
structure Grown(t t':Ae)(p:Int)(s:ByteArray):Prop where
 nodes:t'.nodes=t.nodes++[{id:=t.next,parent:=p,name:=s,control:=0,kind:=0,owner:=0}]
 next:t'.next=t.next+1
 par:Aw t p=true
 wf:WfT t
 wf':WfT t'
 room:(upT t p).length<9
 fresh:∀x∈t.nodes,x.parent=p->Eb x.name s=false
theorem Akr(w:WfT t){r:Ae×Int×Int}(e:Wt t p s=r)(a:r.2.2=0):Grown t r.1 p s/\r.2.1=t.next:=by
 have b:=addT_wf w e a;unfold Wt at e;split at e
 ·subst e;simp at a
 split at e
 ·subst e;simp at a
 split at e
 ·subst e;simp at a
 split at e
 ·subst e;simp at a
 rename_i h f i g;subst e;simp only[B7,decide_eq_true_eq,not_or]at g;refine⟨⟨rfl,rfl,by simpa using f,w,b,by omega,fun x j e=>?_⟩,rfl⟩;grind
theorem Grown.lt(g:Grown t t' p s):∀x∈t.nodes,x.id<t.next:=g.wf.next
theorem Grown.get(g:Grown t t' p s){a:Int}(h:a≠t.next):Ha t' a=Ha t a:=by
 unfold Ha;rw[g.nodes,N7];grind
theorem Grown.getNone(g:Grown t t' p s):Ha t t.next=none:=by
 unfold Ha;rw[G4];intro x a;have:=g.lt x a;simp;omega
theorem Grown.getNew(g:Grown t t' p s):Ha t' t.next=some {id:=t.next,parent:=p,name:=s,control:=0,kind:=0,owner:=0}:=by
 have:=g.getNone;unfold Ha at this ⊢;rw[g.nodes,N7,this];simp
theorem Grown.has(g:Grown t t' p s){a:Int}(h:a≠t.next):Aw t' a=Aw t a:=by
 unfold Aw;rw[g.get h]
theorem Grown.node(g:Grown t t' p s)(a:Int):(Az t' a).control=(Az t a).control/\(Az t' a).kind=(Az t a).kind:=by
 unfold Az
 by_cases h:a=t.next
 ·subst h;rw[g.getNew,g.getNone];exact⟨rfl,rfl⟩
 ·rw[g.get h];exact⟨rfl,rfl⟩
theorem Grown.thr(g:Grown t t' p s):Dx t'=Dx t:=by
 funext a;unfold Dx;rw[(g.node a).2]
theorem Grown.up(g:Grown t t' p s){a:Int}(h:a≠t.next):upT t' a=upT t a:=by
 unfold upT;rw[g.nodes];exact AgC (fun e=>h e.symm)
theorem Grown.dom(g:Grown t t' p s){a:Int}(h:a≠t.next):Fi t' a=Fi t a:=by
 unfold Fi;rw[g.up h,g.thr]
theorem Grown.thrNew(g:Grown t t' p s):Dx t t.next=false:=by
 unfold Dx Az;rw[g.getNone];rfl
theorem Grown.type(g:Grown t t' p s){a:Int}(h:a≠t.next):Em t' a=Em t a:=by
 have b:(Bb t' a).any (Dx t)=(Bb t a).any (Dx t):=by
  unfold Bb;rw[g.nodes,E6,G9,M9]
  have:((([{id:=t.next,parent:=p,name:=s,control:=0,kind:=0,owner:=0}]:List Ah).filter (fun x=>x.parent==a)).map (·.id)).any (Dx t)=false:=by
   rw[G3];split
   ·simp[g.thrNew]
   ·simp
  rw[this,Bool.or_false]
 unfold Em Td;rw[g.has h,g.up h,g.thr,b]
theorem AvN{h:Aa}(f:Bz h){i:Ae}(g:Grown h.tree i p s):Bz {h with tree:=i}:=by
 have w:=f.snd.wf
 have k:∀x∈h.tasks,x.group≠h.tree.next:=fun x j e=>by
  obtain⟨n,D,en⟩:=hasN_iff.mp (w.val x j).grp;have:=g.lt n D;omega
 have w':WfH {h with tree:=i}:=by
  refine⟨g.wf',w.len,w.n1,w.n2,w.sorted,w.lt,fun x j=>?_⟩;have v:=w.val x j;refine⟨v.pos,?_,v.u1,v.u2,v.ldr⟩;show Aw i x.group=true;rw[g.has (k x j)];exact v.grp
 have A:∀a,tasksK {h with tree:=i} a=tasksK h a:=fun _=>rfl
 have l:∀y∈h.tree.nodes,y.parent≠h.tree.next:=fun y u=>by
  have:=w.tree.par_lt u;have:=g.lt y u;omega
 refine⟨⟨w',fun x j=>?_⟩,fun x j=>?_,fun x j=>?_⟩
 ·have b:x∈i.nodes:=j;rw[g.nodes]at b;rcases B1.mp b with b|b
  ·have r:=f.snd.snd x b
   have e1:Jd i x=Jd h.tree x:=by
    unfold Jd topN;rw[(g.node x.parent).1]
   exact⟨by show Bp .i64 x.control (Jd i x)=0;rw[e1];exact r.av,r.busy⟩
  ·obtain rfl:x={id:=h.tree.next,parent:=p,name:=s,control:=0,kind:=0,owner:=0}:=by simpa using b
   refine⟨?_,fun _ z=>?_⟩
   ·have:∀c:Int,Bp .i64 0 c=0:=fun c=>by simp[Bp];rfl
    exact this _
   ·exact absurd (by decide:kand .i64 0 6=0) z
 ·have b:x∈h.tasks:=j;have B:=Rz w b;show Fi i x.group=Fi i (Kg h x).group;rw[g.dom (k x b),g.dom (k _ B.2.1)];exact f.dom x b
 ·have b:x∈i.nodes:=j;rw[g.nodes]at b;rcases B1.mp b with b|b
  ·have n:=f.nod x b
   have q:x.id≠h.tree.next:=by
    have:=g.lt x b;omega
   refine⟨fun C=>?_,fun o=>?_⟩
   ·have m:Em i x.id=3:=C;rw[g.type q]at m;exact n.inv m
   ·show(x.parent≠1->kand .i64 (Az i x.parent).control 6=0)/\Em i x.parent≠3;rw[(g.node x.parent).1,g.type (l x b)];exact n.thr o
  ·obtain rfl:x={id:=h.tree.next,parent:=p,name:=s,control:=0,kind:=0,owner:=0}:=by simpa using b
   refine⟨fun _=>⟨rfl,?_⟩,fun o=>?_⟩
   ·rw[A,tasks_nil];exact k
   ·simp at o
end
theorem AoZ(h:Aa)(id a d:Int):Ok (Se h id a d) (fun r=>r.2=0->Bz r.1):=by
 unfold Se;have f:∀(x:Aa) (n:Int),n≠0->Ok (some (x,n)) (fun r:Aa×Int=>r.2=0->Bz r.1):=fun x n g=>Ok.ret fun e=>absurd e g
 refine Ok.bind (Wf h) fun _ _=>Aya (fun _=>f _ _ (by decide)) fun _=>?_
 refine Ok.bind (Aka _ _ _ _) fun r _=>Aya (fun c=>f _ _ (by simpa using c)) fun _=>?_
 refine Ok.bind (Wf r.1) fun b i=>Aya (fun _=>f _ _ (by decide)) fun c=>?_
 grind[Ok.ret]
theorem AnW(h:Aa)(id:Int):Ok (Px h id) (fun r=>r.2=0->Bz r.1):=by
 unfold Px;have a:∀(x:Aa) (n:Int),n≠0->Ok (some (x,n)) (fun r:Aa×Int=>r.2=0->Bz r.1):=fun x n i=>Ok.ret fun e=>absurd e i
 refine Ok.bind (Qb h) fun b g=>Aya (fun _=>a _ _ (by decide)) fun c=>?_
 have w:WfH h:=g (by simpa using c);have:=w.len;have:=w.tree.len2
 have f:∀r b,Ok (Kc h id r b) (fun r=>r.2=0->Bz r.1):=fun r b=>by
  unfold Kc;refine Aya (fun _=>a _ _ (by decide)) fun _=>Aya (fun _=>a _ _ (by decide)) fun _=>?_
  refine Ok.step (Tv h (by omega) (by omega)) (Ok.step (AaP h.tree _ (by omega)) ?_);refine Ok.bind (Po _ _) fun _ _=>?_
  unfold Tb;refine Aya (fun _=>a _ _ (by decide)) fun _=>?_
  refine Ok.bind (Wf _) fun b g=>Aya (fun _=>a _ _ (by decide)) fun c=>?_
  grind[Ok.ret]
 refine Ok.bind (Dw _ _) fun _ _=>Aya (fun _=>a _ _ (by decide)) fun _=>Aya (fun _=>a _ _ (by decide)) fun _=>?_
 refine Ok.bind (Dw _ _) fun _ _=>Ok.bind (Wa _ _) fun _ _=>Aya (fun _=>f _ _) fun _=>Aya (fun _=>f _ _) fun _=>f _ _
theorem fits_inv(n m:Int):HInv n m (fun _ h=>Bz h) (fun _ h=>Bz h):=by
 refine⟨?_,?_,?_,?_,?_,?_,?_,?_,?_,?_⟩
 ·grind[ok_at,AoZ]
 ·grind[ok_at,AnW]
 ·grind[own_fits]
 all_goals grind[Abb,AwB,Aqm,AlL,ApF,exit_fits]
theorem AwS{t:Ae}(w:WfT t)(h:∀x∈t.nodes,x.control=0/\x.kind=0):Bz {tree:=t,tasks:=[],next:=1}:=by
 have w':WfH {tree:=t,tasks:=[],next:=1}:=⟨w,by simp,by simp,by simp,by simp,by simp,by simp⟩;refine⟨⟨w',fun x a=>?_⟩,fun x a=>?_,fun x a=>?_⟩
 ·have f:=(h x a).1;refine⟨?_,fun _ _=>rfl⟩;rw[f];simp[Bp];rfl
 ·simp at a
 ·refine⟨fun _=>⟨(h x a).1,rfl⟩,fun b=>?_⟩;rw[(h x a).2]at b;simp at b
theorem Arl{d:Aj}(f:Bg d)(n m:Int)(h:0<=n)(n1:n<=100)(i:0<=m)(k:m<=100):Ok (Lu d n m) (fun r=>WfH r.1/\Bg r.2/\Bz r.1):=by
 refine Ati (fits_inv n m) f h n1 i k fun c q c1=>?_
 refine(Tree_inv f n h (by omega) (fun _ t=>WfT t->∀x∈t.nodes,x.control=0/\x.kind=0) ?_ ?_ ?_ ?_).mono fun r ⟨a,b,s⟩=>⟨a,b,AwS a (s a)⟩
 ·grind[newT]
 ·intro c t _ _ s;exact s
 ·intro c t p s r w _ o _ e j _ x l;have g:=(Akr w e j).1;rw[g.nodes]at l;grind
 grind[Mo]
end Go.Dm

namespace Go.Dm
end Go.Dm

namespace Go.Dm
def Vq(a:Int):Option (Ae×Int×Int):=(some ((⟨[],0⟩:Ae),0,a))
def Avm(p1:Int)(p2:ByteArray)(k1:Nat)(a:Ah)(b:Unit)(n1:Unit->Option Int):Option Int:=(if((a.parent==p1)&&(Eb a.name p2))then(some a.id)else(n1 ()))
def AtX(a:Unit):Option Int:=(some 0)
def AfG(a:Ae)(p1:Int)(p2:ByteArray):Option Int:=(if a.nodes.length<=9223372036854775807 then Ba (Avm p1 p2) AtX a.nodes 0 ()else none)
def Xw(a:Ae):Option Ae:=((Ig a).bind fun b=>(if(!b)then(some (⟨[],0⟩:Ae))else(some a)))
def Adu(f:Ae)(p1:Int):Option (List Int):=((Xw f).bind fun b=>((Da b p1).bind fun a=>(some a)))
def Agi(b:Ae)(p1:Int):Option Int:=((Adu b p1).bind fun a=>(some (w64 ((a.length:Int)-1))))
def Acr(f:Ae)(p1:Int)(p2:ByteArray)(g:Bool):Option (Ae×Int×Int):=(if g then((Vq 7).bind fun b=>(some (b.1,b.2.1,b.2.2)))else((Wi f).bind fun a=>(if a.nodes.length+1<=1073741824 then(some ((⟨(a.nodes++[(⟨f.next,p1,p2,0,0,0⟩:Ah)]),(w64 (a.next+1))⟩:Ae),f.next,0))else none)))
def AfR(a:Ae)(p1:Int)(p2:ByteArray)(k:Bool):Option (Ae×Int×Int):=(if k then((Vq 1).bind fun h=>(some (h.1,h.2.1,h.2.2)))else((Fp a p1).bind fun i=>(if(decide (i<0))then((Vq 4).bind fun g=>(some (g.1,g.2.1,g.2.2)))else((AfG a p1 p2).bind fun j=>(if(j !=0)then((Vq 5).bind fun b=>(some (b.1,b.2.1,b.2.2)))else((Agi a p1).bind fun f=>(if(decide (f>=8))then((Acr a p1 p2) true)else(if(decide ((a.nodes.length:Int)>=64))then((Acr a p1 p2) true)else((Acr a p1 p2) (decide (a.next>2147483647)))))))))))
def Akc(a:Ae)(p1:Int)(p2:ByteArray):Option (Ae×Int×Int):=((Ig a).bind fun f=>(if(!f)then((AfR a p1 p2) true)else((AcP p2).bind fun b=>((AfR a p1 p2) (!b)))))
def Wx(b:Aa)(p1:Int)(p2:ByteArray):Option (Aa×Int×Int):=((Dp b).bind fun g=>(if(!g)then(some ((⟨⟨[],0⟩,[],0⟩:Aa),0,1))else((Akc b.tree p1 p2).bind fun a=>(if(a.2.2 !=0)then(some ((⟨⟨[],0⟩,[],0⟩:Aa),0,a.2.2))else((Pj b).bind fun f=>(some (({f with tree:=a.1}:Aa),a.2.1,0)))))))
def Bv(a:Int):Option (Aa×Int):=(some ((⟨⟨[],0⟩,[],0⟩:Aa),a))
def AbM(f:Ae)(p1:Int):Option (Ah×Bool):=((Xw f).bind fun b=>((Fz b p1).bind fun a=>(some (a.1,a.2))))
def Aqc(p1:Int)(k1:Nat)(a:Ah)(b:Unit)(n1:Unit->Option Int):Option Int:=(if((a.parent==p1)&&(a.kind==1))then(some 1)else(n1 ()))
def AqB(a:Unit):Option Int:=(some 0)
def Aba(a:Ae)(p1:Int):Option Int:=((AbM a p1).bind fun b=>(if(!b.2)then(some 0)else(if(b.1.kind==1)then(some 2)else((Jl a p1).bind fun f=>(if f then(some 3)else(if a.nodes.length<=9223372036854775807 then Ba (Aqc p1) AqB a.nodes 0 ()else none))))))
def Nk(b:Int)(a:Aa)(g:Bool):Option (Aa×Int):=(if g then((Bv 6).bind fun f=>(some (f.1,f.2)))else(some (({a with tree:=(⟨(a.tree.nodes.set b.toNat (⟨(a.tree.nodes.getD b.toNat default).id,(a.tree.nodes.getD b.toNat default).parent,(a.tree.nodes.getD b.toNat default).name,(a.tree.nodes.getD b.toNat default).control,1,(a.tree.nodes.getD b.toNat default).owner⟩:Ah)),a.tree.next⟩:Ae)}:Aa),0)))
def Jr(h:Aa)(p1:Int)(b:Int)(k:Bool):Option (Aa×Int):=(if k then((Bv 10).bind fun g=>(some (g.1,g.2)))else(if((kand .i64 (h.tree.nodes.getD b.toNat default).control 6)!=0)then((Bv 9).bind fun f=>(some (f.1,f.2)))else((Pj h).bind fun a=>(if 0<=b/\b<(a.tree.nodes.length:Int)then(if b.toNat<a.tree.nodes.length then((Ov h p1).bind fun j=>(if(decide ((j.length:Int)>0))then((Nk b a) true)else((Dp ({a with tree:=(⟨(a.tree.nodes.set b.toNat (⟨(a.tree.nodes.getD b.toNat default).id,(a.tree.nodes.getD b.toNat default).parent,(a.tree.nodes.getD b.toNat default).name,(a.tree.nodes.getD b.toNat default).control,1,(a.tree.nodes.getD b.toNat default).owner⟩:Ah)),a.tree.next⟩:Ae)}:Aa)).bind fun i=>((Nk b a) (!i)))))else none)else none))))
def Vp(a:Aa)(p1:Int):Option (Aa×Int):=((Dp a).bind fun j=>(if(!j)then((Bv 1).bind fun i=>(some (i.1,i.2)))else((Fp a.tree p1).bind fun b=>(if(decide (b<0))then((Bv 4).bind fun h=>(some (h.1,h.2)))else(if 0<=b/\b<(a.tree.nodes.length:Int)then((Fz a.tree (a.tree.nodes.getD b.toNat default).parent).bind fun k=>(if((p1==1)||((a.tree.nodes.getD b.toNat default).kind==1))then((Bv 9).bind fun f=>(some (f.1,f.2)))else((Aba a.tree (a.tree.nodes.getD b.toNat default).parent).bind fun g=>(if(g==3)then((Jr a p1 b) true)else(if((a.tree.nodes.getD b.toNat default).parent !=1)then((Jr a p1 b) ((kand .i64 k.1.control 6)!=0))else((Jr a p1 b) false))))))else none)))))
def Sm(n1:(List Ar)->Option (Aa×Int))(a:List Ar):Option (Aa×Int):=(n1 a)
def Afx(p1:Int)(p2:Int)(k1:Int)(a:List Ar)(n1:(List Ar)->Option (Aa×Int)):Option (Aa×Int):=(if 0<=k1/\k1<(a.length:Int)then(if k1.toNat<a.length then(if((a.getD k1.toNat default).process==p1)then(if 0<=k1/\k1<(a.length:Int)then(if k1.toNat<a.length then((Sm n1) (a.set k1.toNat (⟨(a.getD k1.toNat default).id,(a.getD k1.toNat default).process,p2,(a.getD k1.toNat default).user⟩:Ar)))else none)else none)else((Sm n1) a))else none)else none)
def Aoj(a:Aa)(b:List Ar):Option (Aa×Int):=(some (({a with tasks:=b}:Aa),0))
def Xr(f:Aa)(p1:Int)(p2:Int):Option (Aa×Int):=((Dp f).bind fun m=>(if(!m)then((Bv 1).bind fun j=>(some (j.1,j.2)))else((No f p1).bind fun i=>((Fz f.tree p2).bind fun l=>(if(((!i.2)||(i.1.process !=p1))||(!l.2))then((Bv 4).bind fun k=>(some (k.1,k.2)))else(if(l.1.kind==1)then((Bv 10).bind fun h=>(some (h.1,h.2)))else((Rd f p2).bind fun g=>(if(g !=0)then((Bv g).bind fun b=>(some (b.1,b.2)))else((Pj f).bind fun a=>(if a.tasks.length<=9223372036854775807 then(forO (Afx p1 p2) (Aoj a) (Int.toNat ((a.tasks.length:Int)-0)) 0 a.tasks)else none))))))))))
def Lr(f:Aa)(p2:Int)(b:Int)(m:Bool):Option (Aa×Int):=(if m then((Bv 4).bind fun l=>(some (l.1,l.2)))else((Rd f p2).bind fun k=>(if(k !=0)then((Bv k).bind fun g=>(some (g.1,g.2)))else(if 0<=b/\b<(f.tasks.length:Int)then((Kr f.tree (f.tasks.getD b.toNat default).group).bind fun j=>((Kr f.tree p2).bind fun i=>(if(j !=i)then((Bv 9).bind fun h=>(some (h.1,h.2)))else((Pj f).bind fun a=>(if 0<=b/\b<(a.tasks.length:Int)then(if b.toNat<a.tasks.length then(some (({a with tasks:=(a.tasks.set b.toNat (⟨(a.tasks.getD b.toNat default).id,(a.tasks.getD b.toNat default).process,p2,(a.tasks.getD b.toNat default).user⟩:Ar))}:Aa),0))else none)else none)))))else none))))
def Nx(a:Aa)(p1:Int)(p2:Int):Option (Aa×Int):=((Dp a).bind fun h=>(if(!h)then((Bv 1).bind fun f=>(some (f.1,f.2)))else((AbE a p1).bind fun b=>(if(decide (b<0))then((Lr a p2 b) true)else((Fp a.tree p2).bind fun g=>((Lr a p2 b) (decide (g<0))))))))
def Aas(a:Int):Option Bool:=(some ((decide (a>=0))&&((Bp .i64 a 31)==0)))
def Aqi(p1:Int)(b:Int)(k1:Nat)(a:Ah)(f:Unit)(n1:Unit->Option (Aa×Int)):Option (Aa×Int):=(if((a.parent==p1)&&((kand .i64 a.control b)!=0))then(some ((⟨⟨[],0⟩,[],0⟩:Aa),9))else(n1 ()))
def Ns(f:Aa)(p2:Int)(g:Int)(b:Int)(h:Bool):Option (Aa×Int):=(if h then(some ((⟨⟨[],0⟩,[],0⟩:Aa),6))else((Pj f).bind fun a=>(if 0<=b/\b<(a.tree.nodes.length:Int)then(if b.toNat<a.tree.nodes.length then(some (({a with tree:=(⟨(a.tree.nodes.set b.toNat (⟨(a.tree.nodes.getD b.toNat default).id,(a.tree.nodes.getD b.toNat default).parent,(a.tree.nodes.getD b.toNat default).name,(kor .i64 (Bp .i64 (f.tree.nodes.getD b.toNat default).control g) p2),(a.tree.nodes.getD b.toNat default).kind,(a.tree.nodes.getD b.toNat default).owner⟩:Ah)),a.tree.next⟩:Ae)}:Aa),0))else none)else none)))
def Acn(a:Aa)(p1:Int)(p2:Int)(f:Int)(b:Int)(h:Unit):Option (Aa×Int):=(if((kand .i64 (Bp .i64 (kor .i64 (Bp .i64 (a.tree.nodes.getD b.toNat default).control f) p2) (a.tree.nodes.getD b.toNat default).control) 6)!=0)then(if(p1 !=1)then((Ov a p1).bind fun g=>((Ns a p2 f b) (decide ((g.length:Int)>0))))else((Ns a p2 f b) false))else((Ns a p2 f b) false))
def Nv(a:Aa)(p1:Int)(p2:Int)(g:Int)(h:Bool):Option (Aa×Int):=(if h then(some ((⟨⟨[],0⟩,[],0⟩:Aa),1))else((Fp a.tree p1).bind fun b=>(if(decide (b<0))then(some ((⟨⟨[],0⟩,[],0⟩:Aa),4))else(if 0<=b/\b<(a.tree.nodes.length:Int)then((Yt a.tree (a.tree.nodes.getD b.toNat default)).bind fun f=>(if((Bp .i64 p2 f)!=0)then(some ((⟨⟨[],0⟩,[],0⟩:Aa),9))else(if a.tree.nodes.length<=9223372036854775807 then Ba (Aqi p1 g) (Acn a p1 p2 g b) a.tree.nodes 0 ()else none)))else none))))
def Abk(b:Aa)(p1:Int)(p2:Int)(a:Int):Option (Aa×Int):=((Qs b).bind fun h=>(if(!h)then((Nv b p1 p2 a) true)else((Aas p2).bind fun f=>(if(!f)then((Nv b p1 p2 a) true)else((Aas a).bind fun g=>(if(!g)then((Nv b p1 p2 a) true)else((Nv b p1 p2 a) ((kand .i64 p2 a)!=0))))))))
def Xk(g:Aa)(p1:Int)(p2:Int)(i:Int):Option (Aa×Int):=((Dp g).bind fun k=>(if(!k)then((Bv 1).bind fun f=>(some (f.1,f.2)))else((Abk g p1 p2 i).bind fun a=>(if(a.2 !=0)then((Bv a.2).bind fun b=>(some (b.1,b.2)))else((Dp a.1).bind fun j=>(if(!j)then((Bv 10).bind fun h=>(some (h.1,h.2)))else(some (a.1,0))))))))
def Fd(a:Int):Option Bool:=(some ((decide (a>=0))&&(decide (a<=1048576))))
def Aco(b:Int)(p1:Ae)(p2:Int):Option Bool:=((Fz p1 b).bind fun a=>(some (a.1.owner==p2)))
def Lw(a:Ae)(b:Int)(k1:Nat)(g:Int)(h:Unit)(n1:Unit->Option Int):Option Int:=((Aco g a b).bind fun f=>(if f then(some (k1:Int))else(n1 ())))
def Wo(a:Unit):Option Int:=(some (-1))
def Ht(f:List Int)(a:Ae)(b:Int):Option Int:=(if f.length<=9223372036854775807 then Ba (Lw a b) Wo f 0 ()else none)
def Gr(g:List Int)(a:Ae)(b:Int):Option Bool:=((Ht g a b).bind fun f=>(some (decide (f>=0))))
def Vx(b:Ae)(p1:Int)(p2:List Int):Option Bool:=((Gr p2 b p1).bind fun a=>(some a))
def Kl(a:Bool):Option Bool:=(some a)
def Qu(b:Ae)(p1:Int)(p2:Int):Option Bool:=((Da b p2).bind fun a=>((Fd p1).bind fun f=>(if f then(if(decide ((a.length:Int)>0))then(if(p1==0)then(Kl true)else(if 1<=a.length then((Vx b p1 ((a.drop 1).take (Cq a.length 1))).bind fun g=>(Kl g))else none))else(Kl false))else(Kl false))))
def Mm(a:Bool):Option Bool:=(some a)
def Js(a:Ae)(p1:Int)(p2:Int):Option Bool:=((Qu a p1 p2).bind fun h=>(if h then(Mm true)else((Fd p1).bind fun f=>(if f then(if(p1 !=0)then((Da a p2).bind fun b=>((Vx a p1 b).bind fun g=>(Mm g)))else(Mm false))else(Mm false)))))
def Hp(a:Aa)(p1:Int)(p2:Int)(b:Bool):Option Int:=(if b then(some 1)else((Fp a.tree p2).bind fun g=>(if(decide (g<0))then(some 4)else((Js a.tree p1 p2).bind fun f=>(if(!f)then(some 8)else(some 0))))))
def Gh(a:Aa)(p1:Int)(p2:Int):Option Int:=((Fd p1).bind fun f=>(if(!f)then((Hp a p1 p2) true)else((Dp a).bind fun b=>((Hp a p1 p2) (!b)))))
def Xa(b:Aa)(p1:Int)(p2:Int)(g:ByteArray):Option (Aa×Int×Int):=((Gh b p1 p2).bind fun f=>(if(f !=0)then(some ((⟨⟨[],0⟩,[],0⟩:Aa),0,f))else((Wx b p2 g).bind fun a=>(some (a.1,a.2.1,a.2.2)))))
def Dj(a:Int):Option (Aa×Int):=(some ((⟨⟨[],0⟩,[],0⟩:Aa),a))
def AhC(f:List Int)(k1:Nat)(b:Int)(g:Unit)(n1:Unit->Option (Int×Bool)):Option (Int×Bool):=((Fq f b).bind fun a=>(if a then(some (b,true))else(n1 ())))
def AqJ(a:Unit):Option (Int×Bool):=(some (0,false))
def AaZ(b:Ae)(p1:Int)(p2:Int):Option (Int×Bool):=((Da b p2).bind fun f=>((Da b p1).bind fun a=>(if a.length<=9223372036854775807 then Ba (AhC f) AqJ a 0 ()else none)))
def Qd(n1:Unit->Option Int)(a:Bool):Option Int:=(if a then(some 8)else(n1 ()))
def AgH(f:Aa)(p1:Int)(p2:Int)(k1:Nat)(i:Int)(j:Unit)(n1:Unit->Option Int):Option Int:=((No f i).bind fun a=>((AaZ f.tree p2 a.1.group).bind fun b=>(if(p1 !=0)then(if(a.1.user !=p1)then((Qd n1) true)else((Js f.tree p1 b.1).bind fun h=>((Qd n1) (!h))))else((Js f.tree p1 b.1).bind fun g=>((Qd n1) (!g))))))
def AoS(a:Unit):Option Int:=(some 0)
def Ua(a:Aa)(p1:Int)(p2:Int)(b:List Int):Option Int:=((Fp a.tree p2).bind fun g=>(if(decide (g<0))then(some 4)else((Js a.tree p1 p2).bind fun f=>(if(!f)then(some 8)else(if b.length<=9223372036854775807 then Ba (AgH a p1 p2) AoS b 0 ()else none)))))
def Xg(g:Aa)(p1:Int)(p2:Int)(j:Int)(m:Bool):Option (Aa×Int):=(if m then((Dj 1).bind fun l=>(some (l.1,l.2)))else((No g p2).bind fun i=>(if((!i.2)||(i.1.process !=p2))then((Dj 4).bind fun k=>(some (k.1,k.2)))else((Acm g p2).bind fun h=>((Ua g p1 j h).bind fun f=>(if(f !=0)then((Dj f).bind fun b=>(some (b.1,b.2)))else((Xr g p2 j).bind fun a=>(some (a.1,a.2)))))))))
def Abp(a:Aa)(p1:Int)(p2:Int)(b:Int):Option (Aa×Int):=((Fd p1).bind fun g=>(if(!g)then((Xg a p1 p2 b) true)else((Dp a).bind fun f=>((Xg a p1 p2 b) (!f)))))
def AbA(a:Bool):Option Bool:=(some a)
def Zc(a:Ae)(p1:Int)(p2:Int):Option Bool:=((Ig a).bind fun f=>(if f then((Js a p1 p2).bind fun b=>(AbA b))else(AbA false)))
def Acb(a:Bool):Option Bool:=(some a)
def Abd(a:Ae)(p1:Int)(p2:Int):Option Bool:=((Ig a).bind fun f=>(if f then((Qu a p1 p2).bind fun b=>(Acb b))else(Acb false)))
def Aer(a:Int):Option Bool:=(some ((decide (a>=0))&&(decide (a<=1048576))))
def AoL(f:Ae)(p1:Int)(b:List Int)(k1:Int)(g:Unit)(n1:Unit->Option Bool):Option Bool:=(if 0<=k1/\k1<(b.length:Int)then(if k1.toNat<b.length then((Dr f (b.getD k1.toNat 0)).bind fun a=>(if(a.1.owner==p1)then(some true)else(n1 ())))else none)else none)
def Avw(a:Unit):Option Bool:=(some false)
def AaA(f:Ae)(p1:Int)(a:List Int)(b:Bool):Option Bool:=(if b then(some false)else(if(p1==0)then(some true)else(if a.length<=9223372036854775807 then(forO (AoL f p1 a) Avw (Int.toNat ((a.length:Int)-1)) 1 ())else none)))
def Aii(a:Ae)(p1:Int)(p2:Int):Option Bool:=((Jy a p2).bind fun b=>(if((b.length:Int)==0)then((AaA a p1 b) true)else((Aer p1).bind fun f=>((AaA a p1 b) (!f)))))
def Qe(a:Bool):Option Bool:=(some a)
def AfJ(a:Ae)(p1:Int)(p2:Int):Option Bool:=((Dr a p2).bind fun b=>(if b.2 then((Aii a p1 p2).bind fun f=>(if f then(Qe true)else((Aer p1).bind fun g=>(if g then(if(p1 !=0)then(Qe (b.1.owner==p1))else(Qe false))else(Qe false)))))else(Qe false)))
def Oa(f:Aa)(p1:Int)(p2:Int)(g:Int)(l:Bool):Option (Aa×Int):=(if l then((Dj 1).bind fun j=>(some (j.1,j.2)))else((AbE f p2).bind fun k=>(if(decide (k<0))then((Dj 4).bind fun i=>(some (i.1,i.2)))else((Ua f p1 g [p2]).bind fun h=>(if(h !=0)then((Dj h).bind fun b=>(some (b.1,b.2)))else((Nx f p2 g).bind fun a=>(some (a.1,a.2))))))))
def Qi(a:Aa)(p1:Int)(p2:Int)(b:Int):Option (Aa×Int):=((Fd p1).bind fun g=>(if(!g)then((Oa a p1 p2 b) true)else((Dp a).bind fun f=>((Oa a p1 p2 b) (!f)))))
def Ie(a:Aa)(p1:Int)(p2:Int)(b:Bool):Option Int:=(if b then(some 1)else((Fp a.tree p2).bind fun g=>(if(decide (g<0))then(some 4)else((Qu a.tree p1 p2).bind fun f=>(if(!f)then(some 8)else(some 0))))))
def Gm(a:Aa)(p1:Int)(p2:Int):Option Int:=((Fd p1).bind fun f=>(if(!f)then((Ie a p1 p2) true)else((Dp a).bind fun b=>((Ie a p1 p2) (!b)))))
def Xp(f:Aa)(p1:Int)(p2:Int):Option (Aa×Int):=((Gm f p1 p2).bind fun g=>(if(g !=0)then((Dj g).bind fun b=>(some (b.1,b.2)))else((Abh f p2).bind fun a=>(some (a.1,a.2)))))
def Vl(f:Aa)(p1:Int)(p2:Int)(h:Int)(i:Int):Option (Aa×Int):=((Gh f p1 p2).bind fun g=>(if(g !=0)then((Dj g).bind fun b=>(some (b.1,b.2)))else((Xk f p2 h i).bind fun a=>(some (a.1,a.2)))))
def Vo(f:Aa)(p1:Int)(p2:Int):Option (Aa×Int):=((Gm f p1 p2).bind fun g=>(if(g !=0)then((Dj g).bind fun b=>(some (b.1,b.2)))else((Vp f p2).bind fun a=>(some (a.1,a.2)))))
end Go.Dm

namespace Go.Dm
theorem AiP{t:Ae}(w:WfT t)(id:Int):AbM t id=some (Az t id,Aw t id):=by
 unfold AbM Xw;rw[Ng w];simp only[A0,B4,A2,if_false];rw[AfH w];rfl
theorem Aul{t:Ae}(a:∀x∈t.nodes,Aig x)(w:¬ WfT t):Ig t=some false:=by
 obtain⟨b,f,e⟩:=AeV t a;cases b
 ·exact f
 ·exact absurd (e.mp rfl) w
theorem ApD{t:Ae}(w:WfT t)(id:Int):Aba t id=some (Em t id):=by
 have o:=w.len2;unfold Aba Em;rw[AiP w,A0]
 cases l:Aw t id with
 |false=>rfl
 |true=>
  simp only[B4,A2,if_false];show(if Dx t id=true then _ else _)=_
  cases m:Dx t id with
  |true=>rfl
  |false=>
   simp only[A2,if_false];rw[Rg w,A0]
   cases hi:Td t id with
   |true=>rfl
   |false=>
    simp only[A2,if_false];rw[if_pos (by omega),Jh (p:=fun x:Ah=>(x.parent==id)&&(x.kind==1)) (f:=fun _=>(1:Int)) (z:=0) (fun k x n=>rfl) rfl];congr 1
    cases g:t.nodes.find? (fun x:Ah=>(x.parent==id)&&(x.kind==1))with
    |none=>
     rw[G4]at g
     have:(Bb t id).any (Dx t)=false:=by
      rw[List.any_eq_false];intro c j a;obtain⟨x,b,i,rfl⟩:=kids_iff.mp j;unfold Dx at a;rw[Uz w b]at a;exact g x b (by simp[i];simpa using a)
     rw[this]
     rfl
    |some x=>
     have h:=F3 g;have b:=D0 g;simp only[A6,beq_iff_eq]at h
     have:(Bb t id).any (Dx t)=true:=by
      rw[F6];refine⟨x.id,kids_iff.mpr ⟨x,b,h.1,rfl⟩,?_⟩;unfold Dx;rw[Uz w b];simpa using h.2
     rw[this];rfl
theorem for_map{V R:Type}{f:V->V}{d:V}{L:List V}{body:Int->List V->(List V->Option R)->Option R}{done:List V->Option R}
  (b:∀(M:List V) (m:Nat) n,M.length=L.length->m<M.length->body (m:Int) M n=n (M.set m (f (M.getD m d)))):forO body done L.length 0 L=done (L.map f):=by
 have key:∀(B A:List V),A.length+B.length=L.length->forO body done B.length (A.length:Int) (A.map f++B)=done (A.map f++B.map f):=by
  intro B
  induction B with
  |nil=>intro A _;rfl
  |cons x B g=>
   intro A a;simp only[E9]at a ⊢;rw[forO,b _ _ _ (by simp;omega) (by simp)]
   have e1:(A.map f++x::B).getD A.length d=x:=by
    have:=AdH (pre:=A.map f) (post:=B) (x:=x) (d:=d);rw[G8]at this;exact this
   have e2:(A.map f++x::B).set A.length (f x)=(A++[x]).map f++B:=by
    rw[List.set_append];simp
   rw[e1,e2];have:=g (A++[x]) (by simp;omega);rw[show((A.length:Int)+1)=(((A++[x]).length:Nat):Int) by simp,this];simp
 have:=key L [] (by simp);simpa using this
theorem Aoe{h:Aa}(f:Bz h)(k g:Int):Xr h k g=some (attK h k g):=by
 have w:=f.snd.wf;have v:=w.len;have x:=w.tree.len2;unfold Xr attK Bv;rw[Ep f,A0,if_neg (by simp),findC w,A0,AfH w.tree,A0]
 have q:((!(Bx h.tasks k).isSome||((Bx h.tasks k).getD zK).process !=k)||!Aw h.tree g)=!((Bx h.tasks k).isSome&&(((Bx h.tasks k).getD zK).process==k)&&Aw h.tree g):=by
  cases (Bx h.tasks k).isSome<;>cases Aw h.tree g<;>simp[bne]
 simp only;rw[q]
 cases a:(!((Bx h.tasks k).isSome&&(((Bx h.tasks k).getD zK).process==k)&&Aw h.tree g))with
 |true=>rfl
 |false=>
  simp only[A2,if_false]
  have j:Aw h.tree g=true:=by
   simp only[J4,A6]at a;exact a.2
  have i:(Em h.tree g==2)=((Az h.tree g).kind==1):=by
   unfold Em;rw[j];simp only[B4,A2,if_false];show _=Dx h.tree g;cases Dx h.tree g
   ·simp only[A2,if_false];cases Td h.tree g<;>cases (Bb h.tree g).any (Dx h.tree)<;>rfl
   ·rfl
  rw[i]
  cases t:((Az h.tree g).kind==1)with
  |true=>rfl
  |false=>
   simp only[A2,if_false];rw[Afp w,A0]
   cases u:(Lz h.tree g !=0)with
   |true=>rfl
   |false=>
    simp only[A2,if_false];rw[Py h (by omega) (by omega),A0,if_pos (by omega)];have l:Int.toNat ((h.tasks.length:Int)-0)=h.tasks.length:=by omega
    rw[l,for_map (f:=Ti k g) (d:=default) (L:=h.tasks) fun M m n s o=>by
     unfold Afx Sm;have b:Int.toNat (m:Int)=m:=by omega
     rw[b,if_pos (by omega),if_pos (by omega)];unfold Ti;cases r:((M.getD m default).process==k)
     ·simp only[A2,if_false];rw[AuP o]
     ·simp only[if_true]
      rw[if_pos (by omega),if_pos (by omega)]]
    rfl
theorem put_at{L:List Ar}(m:L.Pairwise (fun a b=>a.id<b.id)){i:Nat}(hi:i<L.length){k g:Int}(e:(L.getD i default).id=k):
  L.set i {id:=(L.getD i default).id,process:=(L.getD i default).process,group:=g,user:=(L.getD i default).user}=L.map (Qr k g):=by
 apply I6
 ·simp
 ·intro j q s;rw[M3,K3];have f:j<L.length:=by simpa using q
  have n:L.getD i default=L[i]:=Ev hi;rw[n]at e;simp only[n]
  by_cases ej:i=j
  ·subst ej;rw[if_pos rfl];unfold Qr;rw[if_pos (by simpa using e)]
  ·rw[if_neg ej];unfold Qr;rw[if_neg];intro o;have r:L[j].id=k:=by simpa using o
   have:=AdR m (H0 hi) (H0 f) (by omega);have l:=C9.mp m;rcases L0 ej with h|h
   ·have:=l i j hi f h;omega
   ·have:=l j i f hi h;omega
theorem Ahs{h:Aa}(f:Bz h)(k g:Int):Nx h k g=some (Aca h k g):=by
 have w:=f.snd.wf;have C:=w.len;have D:=w.tree.len2;unfold Nx Aca Bv;rw[Ep f,A0,if_neg (by simp)];rcases Fh (fun x:Ar=>x.id==k) h.tasks default with⟨i,l,m,v⟩|⟨l,m⟩
 ·have j:Bx h.tasks k=some (h.tasks.getD i default):=v;have o:=(Rn j).2
  have s:AbE h k=some (i:Int):=by
   rw[Agg h k (by omega),m];rfl
  have t:decide ((i:Int)<0)=false:=by simp
  rw[s,A0,j,t];simp only[I0,G5,A2,if_false];obtain⟨q,eq,y,_⟩:=Li h.tree g (by omega);rw[eq,A0,y];unfold Lr Bv
  cases A:Aw h.tree g with
  |false=>rfl
  |true=>
   simp only[B4,A2,if_false];rw[Afp w,A0]
   cases B:(Lz h.tree g !=0)with
   |true=>rfl
   |false=>
    simp only[A2,if_false];have u:Int.toNat (i:Int)=i:=by omega
    rw[if_pos (by omega),u,Sz w.tree,A0,Sz w.tree,A0]
    have r:Qg h k=(h.tasks.getD i default).group:=by
     unfold Qg;rw[j];rfl
    rw[r]
    have n:(Fi h.tree (h.tasks.getD i default).group !=Fi h.tree g)=(Fi h.tree g !=Fi h.tree (h.tasks.getD i default).group):=by
     rw[K9];simp only[bne_iff_ne];exact⟨fun a b=>a b.symm,fun a b=>a b.symm⟩
    rw[n]
    cases z:(Fi h.tree g !=Fi h.tree (h.tasks.getD i default).group)with
    |true=>rfl
    |false=>
     simp only[A2,if_false];rw[Py h (by omega) (by omega),A0,if_pos (by omega),if_pos l,put_at w.sorted l o]
 ·have j:Bx h.tasks k=none:=m;rw[Agg h k (by omega),l,j];rfl
end Go.Dm

namespace Go.Dm
theorem Atw{t:Ae}(w:WfT t):Wi t=some t:=by
 have a:=w.len2;unfold Wi Gx;rw[if_pos (by omega)];rfl
theorem AwU{t:Ae}(w:WfT t)(p:Int){s:ByteArray}(A:s.size<=1073741824):Akc t p s=some (Wt t p s):=by
 have D:=w.len2;have v:=w.nextLe
 have j:1<=t.next:=by
  obtain⟨x,r,e,f⟩:=w.root;have:=w.next x (by rw[e];simp);have:=f.id;omega
 unfold Akc Wt;rw[Ng w,A0,if_neg (by simp),Alv s (by omega),A0];unfold AfR Vq
 cases B:Er s with
 |false=>rfl
 |true=>
  simp only[B4,A2,if_false];obtain⟨q,eq,u,_⟩:=Li t p (by omega);rw[eq,A0,u]
  cases z:Aw t p with
  |false=>rfl
  |true=>
   simp only[B4,A2,if_false]
   have i:AfG t p s=some ((t.nodes.find? (fun x=>x.parent==p&&Eb x.name s)).elim 0 (·.id)):=by
    unfold AfG;rw[if_pos (by omega)];exact Jh (fun k x n=>rfl) rfl
   rw[i,A0]
   have a:(((t.nodes.find? (fun x=>x.parent==p&&Eb x.name s)).elim 0 (·.id):Int)!=0)=t.nodes.any (fun x=>x.parent==p&&Eb x.name s):=by
    cases l:t.nodes.find? (fun x=>x.parent==p&&Eb x.name s)with
    |none=>grind
    |some x=>
     have y:=F3 l;have f:=D0 l;have:=w.id_pos f;grind
   rw[a]
   cases C:t.nodes.any (fun x=>x.parent==p&&Eb x.name s)with
   |true=>rfl
   |false=>
    simp only[A2,if_false];have o:(upT t p).length<=t.nodes.length:=by grind[Kn,upT]
    have b:Agi t p=some (((upT t p).length:Int)-1):=by
     unfold Agi Adu Xw;grind[Ng,only,De,Br]
    rw[b,A0];unfold Acr Vq
    by_cases h9:9<=(upT t p).length
    ·have e1:decide (((upT t p).length:Int)-1>=8)=true:=decide_eq_true (by omega);have e2:decide (9<=(upT t p).length)=true:=decide_eq_true h9;rw[e1,e2];rfl
    ·have e1:decide (((upT t p).length:Int)-1>=8)=false:=decide_eq_false (by omega);have e2:decide (9<=(upT t p).length)=false:=decide_eq_false h9;rw[e1,e2];simp only[A2,if_false,E8]
     by_cases h64:64<=t.nodes.length
     ·have g:decide ((t.nodes.length:Int)>=64)=true:=decide_eq_true (by omega);have h:decide (64<=t.nodes.length)=true:=decide_eq_true h64;rw[g,h];rfl
     ·have g:decide ((t.nodes.length:Int)>=64)=false:=decide_eq_false (by omega);have h:decide (64<=t.nodes.length)=false:=decide_eq_false h64;rw[g,h];simp only[A2,if_false,E8]
      by_cases hn:2147483647<t.next
      ·have m:decide (t.next>2147483647)=true:=decide_eq_true hn;rw[m];rfl
      grind[only,Atw,Br]
def Tw(h:Aa)(p:Int)(s:ByteArray):Aa×Int×Int:=
 if(Wt h.tree p s).2.2 !=0 then(zH,0,(Wt h.tree p s).2.2)else({h with tree:=(Wt h.tree p s).1},(Wt h.tree p s).2.1,0)
theorem Aoi{h:Aa}(f:Bz h)(p:Int){s:ByteArray}(a:s.size<=1073741824):Wx h p s=some (Tw h p s):=by
 have w:=f.snd.wf;have b:=w.len;have g:=w.tree.len2;unfold Wx Tw;rw[Ep f,A0,if_neg (by simp),AwU w.tree p a,A0];cases e:((Wt h.tree p s).2.2 !=0)
 ·grind[only,Py]
 ·rfl
theorem Aui{h:Aa}(f:Bz h){p:Int}{s:ByteArray}(e:(Tw h p s).2.2=0):Bz (Tw h p s).1:=by
 unfold Tw at e ⊢;split at e
 ·rename_i c;simp at e c;exact absurd e c
 ·rename_i c;rw[if_neg c];exact AvN f (Akr f.snd.wf.tree rfl (by simpa using c)).1
end Go.Dm
