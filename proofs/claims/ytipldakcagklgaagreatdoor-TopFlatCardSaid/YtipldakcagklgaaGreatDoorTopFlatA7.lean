/- Texts of the proof of TopFlat: the data machine, the models of the Go functions, their contracts. -/
import Derived.Test.YtipldakcagklgaaGreatDoorTopFlatA2
import Derived.Test.YtipldakcagklgaaGreatDoorProg
import Derived.Test.YtipldakcagklgaaGreatDoorTopFlatA6
set_option linter.unusedVariables false
set_option linter.unusedSimpArgs false
/- Types of the program. -/
namespace Go.Dm
open Go.Proofs
set_option linter.unusedVariables false
def Tt : Ty := [(3,⟨.int .i64,1,8,[.int .i64 0],false⟩),
  (4,⟨.bool,1,1,[.bool false],false⟩),
  (5,⟨.int .u8,1,1,[.int .u8 0],false⟩),
  (9,⟨.str,1,16,[.string ByteArray.empty],false⟩),
  (22,⟨.slice 3,1,24,[.slice none 0 0],false⟩),
  (27,⟨.slice 93,1,24,[.slice none 0 0],false⟩),
  (29,⟨.struct [(0,27),(1,3)],2,32,[.slice none 0 0,.int .i64 0],false⟩),
  (30,⟨.slice 41,1,24,[.slice none 0 0],false⟩),
  (32,⟨.struct [(0,29),(2,30),(3,3)],4,64,[.slice none 0 0,.int .i64 0,.slice none 0 0,.int .i64 0],false⟩),
  (35,⟨.int .i64,1,8,[.int .i64 0],false⟩),
  (38,⟨.slice 9,1,24,[.slice none 0 0],false⟩),
  (41,⟨.struct [(0,3),(1,3),(2,3),(3,3)],4,32,[.int .i64 0,.int .i64 0,.int .i64 0,.int .i64 0],false⟩),
  (42,⟨.slice 102,1,24,[.slice none 0 0],false⟩),
  (80,⟨.struct [(0,22),(1,3)],2,32,[.slice none 0 0,.int .i64 0],false⟩),
  (90,⟨.func,1,8,[.nilFunc],false⟩),
  (93,⟨.struct [(0,3),(1,3),(2,9),(3,3),(4,3),(5,3)],6,56,[.int .i64 0,.int .i64 0,.string ByteArray.empty,.int .i64 0,.int .i64 0,.int .i64 0],false⟩),
  (94,⟨.slice 153,1,24,[.slice none 0 0],false⟩),
  (96,⟨.struct [(0,3),(1,94)],2,32,[.int .i64 0,.slice none 0 0],false⟩),
  (102,⟨.struct [(0,3),(1,96)],3,40,[.int .i64 0,.int .i64 0,.slice none 0 0],false⟩),
  (138,⟨.map 3 3,1,8,[(.map none)],false⟩),
  (149,⟨.map 3 4,1,8,[(.map none)],false⟩),
  (153,⟨.struct [(0,3),(1,3),(2,3),(3,4)],4,32,[.int .i64 0,.int .i64 0,.int .i64 0,.bool false],false⟩),
  (170,⟨.map 175 4,1,8,[(.map none)],false⟩),
  (171,⟨.slice 175,1,24,[.slice none 0 0],false⟩),
  (175,⟨.struct [(0,3),(1,3)],2,16,[.int .i64 0,.int .i64 0],true⟩),
  (225,⟨.slice 5,1,24,[.slice none 0 0],false⟩),
  (244,⟨.int .u64,1,8,[.int .u64 0],false⟩),
  (249,⟨.slice 4,1,24,[.slice none 0 0],false⟩),
  (291,⟨.int .i64,1,8,[.int .i64 0],false⟩),
  (300,⟨.int .u64,1,8,[.int .u64 0],false⟩),
  (334,⟨.int .u64,1,8,[.int .u64 0],false⟩)]
theorem Tgood : Fs Tryz.prog Tt:=AgW ⟨⟨⟨by kernel_rfl,by kernel_rfl⟩,trivial⟩,⟨⟨by kernel_rfl,by kernel_rfl⟩,trivial⟩,⟨⟨by kernel_rfl,by kernel_rfl⟩,trivial⟩,⟨⟨by kernel_rfl,by kernel_rfl⟩,trivial⟩,⟨⟨by kernel_rfl,by kernel_rfl⟩,trivial⟩,⟨⟨by kernel_rfl,by kernel_rfl⟩,trivial⟩,⟨⟨by kernel_rfl,by kernel_rfl⟩,trivial⟩,⟨⟨by kernel_rfl,by kernel_rfl⟩,trivial⟩,⟨⟨by kernel_rfl,by kernel_rfl⟩,trivial⟩,⟨⟨by kernel_rfl,by kernel_rfl⟩,trivial⟩,⟨⟨by kernel_rfl,by kernel_rfl⟩,trivial⟩,⟨⟨by kernel_rfl,by kernel_rfl⟩,trivial⟩,⟨⟨by kernel_rfl,by kernel_rfl⟩,trivial⟩,⟨⟨by kernel_rfl,by kernel_rfl⟩,trivial⟩,⟨⟨by kernel_rfl,by kernel_rfl⟩,trivial⟩,⟨⟨by kernel_rfl,by kernel_rfl⟩,trivial⟩,⟨⟨by kernel_rfl,by kernel_rfl⟩,trivial⟩,⟨⟨by kernel_rfl,by kernel_rfl⟩,trivial⟩,⟨⟨by kernel_rfl,by kernel_rfl⟩,trivial⟩,⟨⟨by kernel_rfl,by kernel_rfl⟩,trivial⟩,⟨⟨by kernel_rfl,by kernel_rfl⟩,trivial⟩,⟨⟨by kernel_rfl,by kernel_rfl⟩,trivial⟩,⟨⟨by kernel_rfl,by kernel_rfl⟩,trivial⟩,⟨⟨by kernel_rfl,by kernel_rfl⟩,trivial⟩,⟨⟨by kernel_rfl,by kernel_rfl⟩,⟨by kernel_rfl,by kernel_rfl,by kernel_rfl⟩⟩,⟨⟨by kernel_rfl,by kernel_rfl⟩,trivial⟩,⟨⟨by kernel_rfl,by kernel_rfl⟩,trivial⟩,⟨⟨by kernel_rfl,by kernel_rfl⟩,trivial⟩,⟨⟨by kernel_rfl,by kernel_rfl⟩,trivial⟩,⟨⟨by kernel_rfl,by kernel_rfl⟩,trivial⟩,⟨⟨by kernel_rfl,by kernel_rfl⟩,trivial⟩,trivial⟩ (by kernel_rfl) (by kernel_rfl)
theorem mixed : Tryz.prog.follows .mixedOrders=true:=by kernel_rfl
theorem RK {cx:Cx} {σ:St} {Q:Exit→St→Prop} {nt:Nat} (hnt:cx.nt=nt) {ops:Array Oper} {id:Nat} {draw:Bool} {r:List Code} (xs:List Orc) (sl:List (Nat×MV)) (ob:List (Nat×Obj))
    {q:Prop} (hq:q) (hQ:DW Tryz.prog cx r (Af sl ob) Q) (h:Wr Tryz.prog Tt nt ops xs (Cn sl) (Cn ob) draw σ=some ((sl,ob),q):=by kernel_rfl):DW Tryz.prog cx (.region id ops draw::r) σ Q:=DW.rk Tgood mixed hnt xs sl ob hq h hQ
theorem RD {cx:Cx} {Q:Exit→St→Prop} {nt:Nat} (hnt:cx.nt=nt) {ops:Array Oper} {id:Nat} {draw:Bool} {r:List Code} {sl0:List (Nat×MV)} {ob0:List (Nat×Obj)} (xs:List Orc) (ds:List Nat) (us:List (Nat×MV)) (dk:List Nat) (uo:List (Nat×Obj))
    {q:Prop} (hq:q) (hQ:DW Tryz.prog cx r (Af (up ds us sl0) (up dk uo ob0)) Q) (h:Wr Tryz.prog Tt nt ops xs (Cn (up ds us sl0)) (Cn (up dk uo ob0)) draw (Af sl0 ob0)=some ((up ds us sl0,up dk uo ob0),q):=by kernel_rfl):DW Tryz.prog cx (.region id ops draw::r) (Af sl0 ob0) Q:=DW.rd Tgood mixed hnt xs ds us dk uo hq hQ h
theorem SO {f:FuncId} {fn:Func} {c:Code} (hf:Tryz.prog.funcs[f]? = some fn) (hb:fn.body=some c)
    {args:List MV} {outs:List Body} {res:MV} {outs' news:List Body} (hlen:outs'.length=outs.length)
    (sl:List (Nat×MV)) (ob:List (Nat×Obj)) (hd:∀ cx:Cx,cx.nt=fn.ntmps→DW Tryz.prog cx [c] (Af sl ob) (finQ Tt fn.results.toList outs.length res (outs'++news)))
    (hname:fn.name ≠ "runtime.NumGoroutine" := by decide) (hle:Nat.ble args.length fn.ntmps=true:=by rfl) (hm:Nat.ble outs.length 1000=true:=by rfl)
    (h1:Sn (upN args.length 0) (upN outs.length 0) ⟨fun t=>(args[t]?).getD .any,Bn outs⟩=sl:=by kernel_rfl)
    (h2:Po (upN outs.length 0) ⟨fun t=>(args[t]?).getD .any,Bn outs⟩=ob:=by kernel_rfl) :
    Spec Tryz.prog f args outs res outs' news:=spec_of Tgood hf hname hb hlen (Nat.le_of_ble_eq_true hle) (Nat.le_of_ble_eq_true hm) h1 h2 fun cx hnt=>DW.start (hd cx hnt)
theorem RN {cx:Cx} {σ:St} {Q:Exit→St→Prop} {nt:Nat} (hnt:cx.nt=nt) {ops:Array Oper} {id:Nat} {draw:Bool} {r:List Code} (xs:List Orc) (sl:List (Nat×MV)) (ob:List (Nat×Obj))
    (ps:List (Nat×MV)) (qs:List (Nat×Body)) {q:Prop} (hq:q) (h:Wr Tryz.prog Tt nt ops xs (Cn sl) (Cn ob) draw σ=some ((Qy ps sl,Pk qs ob),q)) (hs:SP sl ps) (ho:OP ob qs)
    (hQ:DW Tryz.prog cx r (Af sl ob) Q):DW Tryz.prog cx (.region id ops draw::r) σ Q:=DW.rn Tgood mixed hnt xs sl ob ps qs hq h hs ho hQ
theorem RT {cx:Cx} {σ:St} {nt:Nat} (hnt:cx.nt=nt) {ops:Array Oper} {draw:Bool} {sl:List (Nat×MV)} {ob:List (Nat×Obj)} (xs:List Orc)
    (ps:List (Nat×MV)) {q:Prop} (hq:q) (h:Wr Tryz.prog Tt nt ops xs (Cn sl) (Cn ob) draw σ=some ((Qy ps sl,ob),q)) (hs:SP sl ps):RegTo Tryz.prog cx ops draw σ sl ob:=RegTo.rn Tgood mixed hnt xs ps hq h hs
end Go.Dm


/- Go functions compute their models, printed by a program. -/
namespace Go.Dm
open Go.Proofs
set_option linter.unusedVariables false
theorem Wb (RES:Bool) (hm:Ack=some RES):Spec Tryz.prog 4 [] [] (pB RES) [] []:=by
 obtain rfl:=Option.some.inj hm
 exact Ahk
abbrev o2 (ks:List Nat) (b:Bool) (RES:Bool) (sm:List Nat := []):Orc := .call 4 ks b (pB RES) [] [] sm

theorem AgA (p0:List Int) (RES:Bool) (hm:Acz p0=some RES):Spec Tryz.prog 5 [.p (slI p0)] [] (pB RES) [] []:=by
 unfold Acz at hm
 refine SO Tryz.func5 rfl rfl [(0,.p (slI p0))] [] ?_
 intro cx hnt
 refine Sq (RK hnt (.no :: []) [(0,.p (slI p0))] [] tv ?_)
 refine Sq (RK hnt (nn 4 []) [(2,pB (decide (((p0.length:Nat):Int)≤600)))] [] tv ?_)
 obtain rfl:=sj hm
 exact DW.ret (Aj [] [] (pB (decide (((p0.length:Nat):Int)≤600))))
abbrev o3 (ks:List Nat) (b:Bool) (RES:Bool) (sm:List Nat := []):Orc := .call 5 ks b (pB RES) [] [] sm

theorem Ahd (p0:List Int) (RES:Ey) (hm:AdC p0=some RES):Spec Tryz.prog 6 [.p (slI p0)] [] (rr 0) [] [.box (pm (Jm RES))]:=by
 unfold AdC at hm
 refine SO Tryz.func6 rfl rfl [(0,.p (slI p0))] [] ?_
 intro cx hnt
 refine Sq (RK hnt (.no :: []) [(0,.p (slI p0))] [] tv ?_)
 refine Sq (RK hnt (nn 4 []) [(2,rr 1040)] [(1040,bx [.p (slI p0),pI 0])] tv ?_)
 obtain rfl:=sj hm
 exact DW.ret (Aj [.box [.p (slI p0),pI 0]] [1040] (rr 0))
abbrev o4 (ks:List Nat) (b:Bool) (RES:Ey) (sm:List Nat := []):Orc := .call 6 ks b (rr 0) [] [.box (pm (Jm RES))] sm

abbrev c6e1 := ({ id:=1,parent:=0,name:=ByteArray.empty,control:=0,kind:=0,owner:=0 } : Bz)
theorem AhG (RES:Cd) (hm:Afm=some RES):Spec Tryz.prog 24 [] [] (.agg [ow 0 RES.nodes.length,pI RES.next]) [] [Ba RES.nodes]:=by
 unfold Afm at hm
 refine SO Tryz.func24 rfl rfl [] [] ?_
 intro cx hnt
 refine Sq (RK hnt (.no :: []) [(0,rr 1000)] [(1000,bx [.p (.sl .nil 0 0 (fun _ => [])),pI 0])] tv ?_)
 refine Sq (RN hnt (nn 4 []) [(0,rr 1000)] [(1000,bx [ow 1016 [(c6e1)].length,pI 2]),(1016,ob0 (Ba [(c6e1)]))] [] [(1000,.box [ow 1016 1,pI 2]),(1016,.row 6 1 (cut 6 [vi 1,vi 0,vs ByteArray.empty,vi 0,vi 0,vi 0]))] tv (by kernel_rfl) .nil (.cons rfl (.box (.cons (MLe.ownLen (enc:=Ax) (d:=Ay) (f:=(cut 6 [vi 1,vi 0,vs ByteArray.empty,vi 0,vi 0,vi 0])) (RowIs.lit (enc:=Ax) (d:=Ay) (n:=1) (f:=(cut 6 [vi 1,vi 0,vs ByteArray.empty,vi 0,vi 0,vi 0])) [(c6e1)] rfl (fun|0,_=>rfl|n+1,h=>absurd h (by omega)))) (.cons .rfl .nil))) (.cons rfl (BLe.typed (RowIs.lit (enc:=Ax) (d:=Ay) (n:=1) (f:=(cut 6 [vi 1,vi 0,vs ByteArray.empty,vi 0,vi 0,vi 0])) [(c6e1)] rfl (fun|0,_=>rfl|n+1,h=>absurd h (by omega)))) .nil)) ?_)
 obtain rfl:=sj hm
 exact DW.ret (Aj [Ba [(c6e1)]] [1016] (.agg [ow 0 [(c6e1)].length,pI 2]))
abbrev o6 (ks:List Nat) (b:Bool) (RES:Cd) (sm:List Nat := []):Orc := .call 24 ks b (.agg [ow 0 RES.nodes.length,pI RES.next]) [] [Ba RES.nodes] sm

theorem Agv (RES:Ac) (hm:Acb=some RES):Spec Tryz.prog 7 [] [] (.agg [ow 0 RES.tree.nodes.length,pI RES.tree.next,ow 1 RES.tasks.length,pI RES.next]) [] [Ba RES.tree.nodes,Ce RES.tasks]:=by
 unfold Acb at hm
 refine SO Tryz.func7 rfl rfl [] [] ?_
 intro cx hnt
 refine Sq (RK hnt (.no :: []) [(0,rr 1000)] [(1000,bx [.p (.sl .nil 0 0 (fun _ => [])),pI 0,.p (.sl .nil 0 0 (fun _ => [])),pI 0])] tv ?_)
 obtain ⟨r1,hr1,hm⟩:=bo hm
 refine Sq (RK hnt (o6 [] true r1::nn 2 []) [(0,rr 1000)] [(1000,bx [ow 1008 r1.nodes.length,pI r1.next,.p (.sl .nil 0 0 (fun _ => [])),pI 1]),(1008,ob0 (Ba r1.nodes))] (an (AhG r1 hr1) tv) ?_)
 refine DW.cv [] [] [] [(1000,bx [ow 1008 r1.nodes.length,pI r1.next,ow 100000 0,pI 1]),(100000,ob0 (Ce []))] (Conv.ads [(.o 1000 2,100000,4,elems Bd Bo [])]) ?_
 obtain rfl:=sj hm
 exact DW.ret (Aj [Ba r1.nodes,Ce []] [1008,100000] (.agg [ow 0 r1.nodes.length,pI r1.next,ow 1 0,pI 1]))
abbrev o5 (ks:List Nat) (b:Bool) (RES:Ac) (sm:List Nat := []):Orc := .call 7 ks b (.agg [ow 0 RES.tree.nodes.length,pI RES.tree.next,ow 1 RES.tasks.length,pI RES.next]) [] [Ba RES.tree.nodes,Ce RES.tasks] sm

abbrev c7e1 (p0:Ey):=(p0.l.getD (Int.toNat (w64 ((w64 (p0.atF+1))-1))) 0)
theorem Xn (p0:Ey) (p1:Int) (RES:Int×Ey) (hm:Il p0 p1=some RES):Spec Tryz.prog 8 [rr 0,pI p1] [.box (pm (Jm p0))] (pI RES.1) [.box (pm (Jm RES.2))] []:=by
 unfold Il at hm
 refine SO Tryz.func8 rfl rfl [(0,rr 0),(1,pI p1)] [(0,bx (pm (Jm p0)))] ?_
 intro cx hnt
 refine Sq (RD hnt (.no :: []) [] [] [] [] tv ?_)
 refine Sq (Sq (DW.regJ (sl2 := [(0,rr 0),(1,pI p1),(19,pB ((decide (p0.atF≥((p0.l.length:Nat):Int)))||(decide (p1<1))))]) (ob2 := [(0,bx (pm (Jm p0)))]) ?_ ?_))
 ·rcases bt (decide (p0.atF≥((p0.l.length:Nat):Int))) with h1|h1
  ·exact RT hnt (nn 11 (sk 2 (pT :: []))) [(19,pB true)] (an3 h1 tv) (by kernel_rfl) (.cons rfl (.of_eq (by rw [h1]; try rfl)) .nil)
  ·exact RT hnt (nn 13 (pF :: [])) [(19,pB (decide (p1<1)))] (an3 h1 tv) (by kernel_rfl) (.cons rfl (.of_eq (by rw [h1]; try rfl)) .nil)
 ·refine Ak hm ?_ ?_
  ·intro h2 hm
   refine Sq (RD hnt (.no :: []) [0,1,19] [(4,pI 0)] [] [] tv ?_)
   obtain rfl:=sj hm
   exact DW.ret (Aj [.box (pm (Jm p0))] [] (pI 0))
  ·intro h2 hm
   refine Sk ?_
   refine Sq (RD hnt (nn 8 []) [19] [] [] [(0,bx [.p (slI p0.l),pI (w64 (p0.atF+1))])] tv ?_)
   obtain ⟨g3,g4,hm⟩:=go2 hm
   refine Sq (RD hnt (nn 14 []) [0] [(5,pI (Int.tmod (c7e1 p0) p1))] [] [] (an g3.1 (an g3.2 (an g4 tv))) ?_)
   refine Sq (Sq (RD hnt (nn 2 []) [] [(41,pB (decide ((Int.tmod (c7e1 p0) p1)<0)))] [] [] tv ?_))
   refine Jn (ι:=Int) (fun (y1:Int)=>Af [(5,pI y1)] [(0,bx [.p (slI p0.l),pI (w64 (p0.atF+1))])]) (fun y1=>(Lg p0) y1=some RES) ?_ ?_
   ·intro y1 hm
    unfold Lg at hm
    refine Sq (RD hnt (nn 2 []) [5] [(4,pI y1)] [] [] tv ?_)
    obtain rfl:=sj hm
    exact DW.ret (Aj [.box [.p (slI p0.l),pI (w64 (p0.atF+1))]] [] (pI y1))
   ·refine Ak hm ?_ ?_
    ·intro h5 hm
     refine RD hnt (nn 4 []) [1,41] [(5,pI (w64 ((Int.tmod (c7e1 p0) p1)+p1)))] [] [] tv ?_
     exact jD (w64 ((Int.tmod (c7e1 p0) p1)+p1)) hm Conv.eqK
    ·intro h5 hm
     refine Sk ?_
     exact jD (Int.tmod (c7e1 p0) p1) hm Conv.t0
abbrev o7 (ks:List Nat) (b:Bool) (RES:Int×Ey) (sm:List Nat := []):Orc := .call 8 ks b (pI RES.1) [.box (pm (Jm RES.2))] [] sm

theorem Ahh (p0:Bz) (RES:Bool) (hm:Aeb p0=some RES):Spec Tryz.prog 119 [.p (.agg (Ax p0))] [] (pB RES) [] []:=by
 unfold Aeb at hm
 refine SO Tryz.func119 rfl rfl [(0,.p (.agg (Ax p0)))] [] ?_
 intro cx hnt
 refine Sq (RK hnt (nn 2 []) [(1,rr 1008)] [(1008,bx (pm (Ax p0)))] tv ?_)
 refine Sq (DW.regJ (sl2 := [(2,pB ((((p0.id==1)&&(p0.parent==0))&&(Xq p0.name ByteArray.empty))&&(p0.kind==0)))]) (ob2 := []) ?_ ?_)
 ·rcases bt (p0.id==1) with h1|h1
  ·rcases bt (p0.parent==0) with h2|h2
   ·rcases bt (Xq p0.name ByteArray.empty) with h3|h3
    ·exact RT hnt (nn 7 (pT::nn 4 (pT::nn 4 (pT :: .no :: [])))) [(2,pB (p0.kind==0))] (an4 h1 (an4 h2 (an4 h3 tv))) (by kernel_rfl) (.cons rfl (.of_eq (by rw [h1,h2,h3]; try rfl)) .nil)
    ·exact RT hnt (nn 7 (pT::nn 4 (pT :: .no::sk 3 (pF :: .no :: [])))) [(2,pB false)] (an4 h1 (an4 h2 (an4 h3 tv))) (by kernel_rfl) (.cons rfl (.of_eq (by rw [h1,h2,h3]; try rfl)) .nil)
   ·exact RT hnt (nn 7 (pT :: .no::sk 3 (pF :: .no::sk 3 (pF :: .no :: [])))) [(2,pB false)] (an4 h1 (an4 h2 (an4 ff tv))) (by kernel_rfl) (.cons rfl (.of_eq (by rw [h1,h2]; try rfl)) .nil)
  ·exact RT hnt (nn 4 (sk 3 (pF :: .no::sk 3 (pF :: .no::sk 3 (pF :: .no :: []))))) [(2,pB false)] (an4 h1 (an2 ff (an6 ff tv))) (by kernel_rfl) (.cons rfl (.of_eq (by rw [h1]; try rfl)) .nil)
 ·refine DW.ret ?_
  obtain rfl:=sj hm
  exact Aj [] [] (pB ((((p0.id==1)&&(p0.parent==0))&&(Xq p0.name ByteArray.empty))&&(p0.kind==0)))
abbrev o13 (ks:List Nat) (b:Bool) (RES:Bool) (sm:List Nat := []):Orc := .call 119 ks b (pB RES) [] [] sm

theorem AgH (p0:Int) (RES:Bool) (hm:Aco p0=some RES):Spec Tryz.prog 157 [.p (vk .u8 p0)] [] (pB RES) [] []:=by
 unfold Aco at hm
 refine SO Tryz.func157 rfl rfl [(0,.p (vk .u8 p0))] [] ?_
 intro cx hnt
 refine Sq (RD hnt (.no :: []) [] [] [] [] tv ?_)
 refine Sq (DW.regJ (sl2 := [(2,pB ((((((decide (p0≥97))&&(decide (p0≤122)))||((decide (p0≥65))&&(decide (p0≤90))))||((decide (p0≥48))&&(decide (p0≤57))))||(p0==95))||(p0==45)))]) (ob2 := []) ?_ ?_)
 ·rcases bt (decide (p0≥97)) with h1|h1
  ·rcases bt (decide (p0≤122)) with h2|h2
   ·exact RT hnt (nn 5 (pT :: .no::sk 6 (pT :: .no::sk 6 (pT :: .no::sk 2 (pT :: .no::sk 2 (pT :: .no :: [])))))) [(2,pB true)] (an3 h1 (an5 h2 (an5 tt (an6 tt tv)))) (by kernel_rfl) (.cons rfl (.of_eq (by rw [h1,h2]; try rfl)) .nil)
   ·rcases bt (decide (p0≥65)) with h3|h3
    ·rcases bt (decide (p0≤90)) with h4|h4
     ·exact RT hnt (nn 5 (pT::nn 6 (pT::pF :: .no::sk 6 (pT :: .no::sk 2 (pT :: .no::sk 2 (pT :: .no :: [])))))) [(2,pB true)] (an3 h1 (an3 h2 (an2 h3 (an h2 (an h3 (an h2 (an5 h4 (an6 tt tv)))))))) (by kernel_rfl) (.cons rfl (.of_eq (by rw [h1,h2,h3,h4]; try rfl)) .nil)
     ·rcases bt (decide (p0≥48)) with h5|h5
      ·rcases bt (decide (p0≤57)) with h6|h6
       ·exact RT hnt (nn 5 (pT::nn 6 (pT::pF::nn 6 (pT::pF :: .no::sk 2 (pT :: .no::sk 2 (pT :: .no :: [])))))) [(2,pB true)] (an3 h1 (an3 h2 (an2 h3 (an h2 (an h3 (an h2 (an3 h4 (an2 h5 (an h4 (an h5 (an h4 (an3 h6 (an3 tt tv))))))))))))) (by kernel_rfl) (.cons rfl (.of_eq (by rw [h1,h2,h3,h4,h5,h6]; try rfl)) .nil)
       ·rcases bt (p0==95) with h7|h7
        ·exact RT hnt (nn 5 (pT::nn 6 (pT::pF::nn 6 (pT::pF::nn 3 (pF :: .no::sk 2 (pT :: .no :: [])))))) [(2,pB true)] (an3 h1 (an3 h2 (an2 h3 (an h2 (an h3 (an h2 (an3 h4 (an2 h5 (an h4 (an h5 (an h4 (an3 h6 (an3 h7 tv))))))))))))) (by kernel_rfl) (.cons rfl (.of_eq (by rw [h1,h2,h3,h4,h5,h6,h7]; try rfl)) .nil)
        ·exact RT hnt (nn 5 (pT::nn 6 (pT::pF::nn 6 (pT::pF::nn 3 (pF::nn 3 (pF :: .no :: [])))))) [(2,pB (p0==45))] (an3 h1 (an3 h2 (an2 h3 (an h2 (an h3 (an h2 (an3 h4 (an2 h5 (an h4 (an h5 (an h4 (an3 h6 (an3 h7 tv))))))))))))) (by kernel_rfl) (.cons rfl (.of_eq (by rw [h1,h2,h3,h4,h5,h6,h7]; try rfl)) .nil)
      ·rcases bt (p0==95) with h8|h8
       ·exact RT hnt (nn 5 (pT::nn 6 (pT::pF::nn 4 (sk 2 (pF::pF::nn 3 (pF :: .no::sk 2 (pT :: .no :: []))))))) [(2,pB true)] (an3 h1 (an3 h2 (an2 h3 (an h2 (an h3 (an h2 (an3 h4 (an2 h5 (an h4 (an h5 (an h4 (an3 ff (an3 h8 tv))))))))))))) (by kernel_rfl) (.cons rfl (.of_eq (by rw [h1,h2,h3,h4,h5,h8]; try rfl)) .nil)
       ·exact RT hnt (nn 5 (pT::nn 6 (pT::pF::nn 4 (sk 2 (pF::pF::nn 3 (pF::nn 3 (pF :: .no :: []))))))) [(2,pB (p0==45))] (an3 h1 (an3 h2 (an2 h3 (an h2 (an h3 (an h2 (an3 h4 (an2 h5 (an h4 (an h5 (an h4 (an3 ff (an3 h8 tv))))))))))))) (by kernel_rfl) (.cons rfl (.of_eq (by rw [h1,h2,h3,h4,h5,h8]; try rfl)) .nil)
    ·rcases bt (decide (p0≥48)) with h9|h9
     ·rcases bt (decide (p0≤57)) with h10|h10
      ·exact RT hnt (nn 5 (pT::nn 4 (sk 2 (pF::pF::nn 6 (pT::pF :: .no::sk 2 (pT :: .no::sk 2 (pT :: .no :: []))))))) [(2,pB true)] (an3 h1 (an3 h2 (an2 h3 (an h2 (an h3 (an h2 (an3 ff (an2 h9 (an ff (an h9 (an ff (an3 h10 (an3 tt tv))))))))))))) (by kernel_rfl) (.cons rfl (.of_eq (by rw [h1,h2,h3,h9,h10]; try rfl)) .nil)
      ·rcases bt (p0==95) with h11|h11
       ·exact RT hnt (nn 5 (pT::nn 4 (sk 2 (pF::pF::nn 6 (pT::pF::nn 3 (pF :: .no::sk 2 (pT :: .no :: []))))))) [(2,pB true)] (an3 h1 (an3 h2 (an2 h3 (an h2 (an h3 (an h2 (an3 ff (an2 h9 (an ff (an h9 (an ff (an3 h10 (an3 h11 tv))))))))))))) (by kernel_rfl) (.cons rfl (.of_eq (by rw [h1,h2,h3,h9,h10,h11]; try rfl)) .nil)
       ·exact RT hnt (nn 5 (pT::nn 4 (sk 2 (pF::pF::nn 6 (pT::pF::nn 3 (pF::nn 3 (pF :: .no :: []))))))) [(2,pB (p0==45))] (an3 h1 (an3 h2 (an2 h3 (an h2 (an h3 (an h2 (an3 ff (an2 h9 (an ff (an h9 (an ff (an3 h10 (an3 h11 tv))))))))))))) (by kernel_rfl) (.cons rfl (.of_eq (by rw [h1,h2,h3,h9,h10,h11]; try rfl)) .nil)
     ·rcases bt (p0==95) with h12|h12
      ·exact RT hnt (nn 5 (pT::nn 4 (sk 2 (pF::pF::nn 4 (sk 2 (pF::pF::nn 3 (pF :: .no::sk 2 (pT :: .no :: [])))))))) [(2,pB true)] (an3 h1 (an3 h2 (an2 h3 (an h2 (an h3 (an h2 (an3 ff (an2 h9 (an ff (an h9 (an4 ff (an3 h12 tv)))))))))))) (by kernel_rfl) (.cons rfl (.of_eq (by rw [h1,h2,h3,h9,h12]; try rfl)) .nil)
      ·exact RT hnt (nn 5 (pT::nn 4 (sk 2 (pF::pF::nn 4 (sk 2 (pF::pF::nn 3 (pF::nn 3 (pF :: .no :: [])))))))) [(2,pB (p0==45))] (an3 h1 (an3 h2 (an2 h3 (an h2 (an h3 (an h2 (an3 ff (an2 h9 (an ff (an h9 (an4 ff (an3 h12 tv)))))))))))) (by kernel_rfl) (.cons rfl (.of_eq (by rw [h1,h2,h3,h9,h12]; try rfl)) .nil)
  ·rcases bt (decide (p0≥65)) with h13|h13
   ·rcases bt (decide (p0≤90)) with h14|h14
    ·exact RT hnt (nn 3 (sk 2 (pF::nn 6 (pT::pF :: .no::sk 6 (pT :: .no::sk 2 (pT :: .no::sk 2 (pT :: .no :: []))))))) [(2,pB true)] (an3 h1 (an3 ff (an2 h13 (an ff (an h13 (an ff (an5 h14 (an6 tt tv)))))))) (by kernel_rfl) (.cons rfl (.of_eq (by rw [h1,h13,h14]; try rfl)) .nil)
    ·rcases bt (decide (p0≥48)) with h15|h15
     ·rcases bt (decide (p0≤57)) with h16|h16
      ·exact RT hnt (nn 3 (sk 2 (pF::nn 6 (pT::pF::nn 6 (pT::pF :: .no::sk 2 (pT :: .no::sk 2 (pT :: .no :: []))))))) [(2,pB true)] (an3 h1 (an3 ff (an2 h13 (an ff (an h13 (an ff (an3 h14 (an2 h15 (an h14 (an h15 (an h14 (an3 h16 (an3 tt tv))))))))))))) (by kernel_rfl) (.cons rfl (.of_eq (by rw [h1,h13,h14,h15,h16]; try rfl)) .nil)
      ·rcases bt (p0==95) with h17|h17
       ·exact RT hnt (nn 3 (sk 2 (pF::nn 6 (pT::pF::nn 6 (pT::pF::nn 3 (pF :: .no::sk 2 (pT :: .no :: []))))))) [(2,pB true)] (an3 h1 (an3 ff (an2 h13 (an ff (an h13 (an ff (an3 h14 (an2 h15 (an h14 (an h15 (an h14 (an3 h16 (an3 h17 tv))))))))))))) (by kernel_rfl) (.cons rfl (.of_eq (by rw [h1,h13,h14,h15,h16,h17]; try rfl)) .nil)
       ·exact RT hnt (nn 3 (sk 2 (pF::nn 6 (pT::pF::nn 6 (pT::pF::nn 3 (pF::nn 3 (pF :: .no :: []))))))) [(2,pB (p0==45))] (an3 h1 (an3 ff (an2 h13 (an ff (an h13 (an ff (an3 h14 (an2 h15 (an h14 (an h15 (an h14 (an3 h16 (an3 h17 tv))))))))))))) (by kernel_rfl) (.cons rfl (.of_eq (by rw [h1,h13,h14,h15,h16,h17]; try rfl)) .nil)
     ·rcases bt (p0==95) with h18|h18
      ·exact RT hnt (nn 3 (sk 2 (pF::nn 6 (pT::pF::nn 4 (sk 2 (pF::pF::nn 3 (pF :: .no::sk 2 (pT :: .no :: [])))))))) [(2,pB true)] (an3 h1 (an3 ff (an2 h13 (an ff (an h13 (an ff (an3 h14 (an2 h15 (an h14 (an h15 (an h14 (an3 ff (an3 h18 tv))))))))))))) (by kernel_rfl) (.cons rfl (.of_eq (by rw [h1,h13,h14,h15,h18]; try rfl)) .nil)
      ·exact RT hnt (nn 3 (sk 2 (pF::nn 6 (pT::pF::nn 4 (sk 2 (pF::pF::nn 3 (pF::nn 3 (pF :: .no :: [])))))))) [(2,pB (p0==45))] (an3 h1 (an3 ff (an2 h13 (an ff (an h13 (an ff (an3 h14 (an2 h15 (an h14 (an h15 (an h14 (an3 ff (an3 h18 tv))))))))))))) (by kernel_rfl) (.cons rfl (.of_eq (by rw [h1,h13,h14,h15,h18]; try rfl)) .nil)
   ·rcases bt (decide (p0≥48)) with h19|h19
    ·rcases bt (decide (p0≤57)) with h20|h20
     ·exact RT hnt (nn 3 (sk 2 (pF::nn 4 (sk 2 (pF::pF::nn 6 (pT::pF :: .no::sk 2 (pT :: .no::sk 2 (pT :: .no :: [])))))))) [(2,pB true)] (an3 h1 (an3 ff (an2 h13 (an ff (an h13 (an4 ff (an2 h19 (an ff (an h19 (an ff (an3 h20 (an3 tt tv)))))))))))) (by kernel_rfl) (.cons rfl (.of_eq (by rw [h1,h13,h19,h20]; try rfl)) .nil)
     ·rcases bt (p0==95) with h21|h21
      ·exact RT hnt (nn 3 (sk 2 (pF::nn 4 (sk 2 (pF::pF::nn 6 (pT::pF::nn 3 (pF :: .no::sk 2 (pT :: .no :: [])))))))) [(2,pB true)] (an3 h1 (an3 ff (an2 h13 (an ff (an h13 (an4 ff (an2 h19 (an ff (an h19 (an ff (an3 h20 (an3 h21 tv)))))))))))) (by kernel_rfl) (.cons rfl (.of_eq (by rw [h1,h13,h19,h20,h21]; try rfl)) .nil)
      ·exact RT hnt (nn 3 (sk 2 (pF::nn 4 (sk 2 (pF::pF::nn 6 (pT::pF::nn 3 (pF::nn 3 (pF :: .no :: [])))))))) [(2,pB (p0==45))] (an3 h1 (an3 ff (an2 h13 (an ff (an h13 (an4 ff (an2 h19 (an ff (an h19 (an ff (an3 h20 (an3 h21 tv)))))))))))) (by kernel_rfl) (.cons rfl (.of_eq (by rw [h1,h13,h19,h20,h21]; try rfl)) .nil)
    ·rcases bt (p0==95) with h22|h22
     ·exact RT hnt (nn 3 (sk 2 (pF::nn 4 (sk 2 (pF::pF::nn 4 (sk 2 (pF::pF::nn 3 (pF :: .no::sk 2 (pT :: .no :: []))))))))) [(2,pB true)] (an3 h1 (an3 ff (an2 h13 (an ff (an h13 (an4 ff (an2 h19 (an ff (an h19 (an4 ff (an3 h22 tv))))))))))) (by kernel_rfl) (.cons rfl (.of_eq (by rw [h1,h13,h19,h22]; try rfl)) .nil)
     ·exact RT hnt (nn 3 (sk 2 (pF::nn 4 (sk 2 (pF::pF::nn 4 (sk 2 (pF::pF::nn 3 (pF::nn 3 (pF :: .no :: []))))))))) [(2,pB (p0==45))] (an3 h1 (an3 ff (an2 h13 (an ff (an h13 (an4 ff (an2 h19 (an ff (an h19 (an4 ff (an3 h22 tv))))))))))) (by kernel_rfl) (.cons rfl (.of_eq (by rw [h1,h13,h19,h22]; try rfl)) .nil)
 ·refine DW.ret ?_
  obtain rfl:=sj hm
  exact Aj [] [] (pB ((((((decide (p0≥97))&&(decide (p0≤122)))||((decide (p0≥65))&&(decide (p0≤90))))||((decide (p0≥48))&&(decide (p0≤57))))||(p0==95))||(p0==45)))
abbrev o16 (ks:List Nat) (b:Bool) (RES:Bool) (sm:List Nat := []):Orc := .call 157 ks b (pB RES) [] [] sm

theorem Sd (p0:ByteArray) (RES:Bool) (hm:Yu p0=some RES):Spec Tryz.prog 71 [pS p0] [] (pB RES) [] []:=by
 unfold Yu at hm
 refine SO Tryz.func71 rfl rfl [(0,pS p0)] [] ?_
 intro cx hnt
 refine Sq (RK hnt (.no :: []) [(0,pS p0)] [] tv ?_)
 refine Sq (Sq (RN hnt (nn 4 []) [(0,pS p0),(6,.p (Mv 1 (encK .u8) 0 (Pj p0))),(7,pI ((p0.size:Nat):Int)),(8,pI 0)] [] [(6,.p (.sl .unk 1 p0.size (Abt p0)))] [] tv (by kernel_rfl) (.cons rfl (MLe.typed RowIs.bytes) .nil) .nil ?_))
 refine Bk ?_
 obtain ⟨hc1,hm⟩:=go1 hm
 refine DW.rangeO (fun (k1:Nat) (s1:Unit)=>Af [(0,pS p0),(6,.p (Mv 1 (encK .u8) 0 (Pj p0))),(7,pI ((p0.size:Nat):Int)),(8,pI ((k1:Nat):Int))] []) 0 hm .refl ?_
 intro k1 s1 n1 hk1 hs1 he1
 refine Sq (RD hnt (.no :: []) [] [(9,pB (decide (((k1:Nat):Int)<((p0.size:Nat):Int))))] [] [] tv ?_)
 refine Sq (Bu (decide (((k1:Nat):Int)<((p0.size:Nat):Int))) ?_ ?_)
 ·intro h15
  have hlt1:k1<(Pj p0).length:=by have:=of_decide_eq_true h15; have:=Yb p0; omega
  have hm:=hs1 hlt1
  unfold Aec at hm
  refine Sk ?_
  refine Sq (Bk ?_)
  refine Sq (RD hnt (nn 3 []) [9] [(4,.p (vk .u8 ((Pj p0).getD k1 0)))] [] [] (an (nn0 k1) (an (ltc hlt1) tv)) ?_)
  obtain ⟨r16,hr16,hm⟩:=bo hm
  refine Sq (RD hnt (.no::o16 [] true r16 :: .no :: []) [4] [(14,pB (!r16))] [] [] (an (AgH ((Pj p0).getD k1 0) r16 hr16) tv) ?_)
  refine Ak hm ?_ ?_
  ·intro h17 hm
   refine Sq (RK hnt (.no :: []) [(2,pB false)] [] tv ?_)
   obtain rfl:=sj hm
   exact DW.ret (Aj [] [] (pB false))
  ·intro h17 hm
   refine Sk ?_
   refine DW.done ?_
   show DW _ _ _ _ _
   refine RD hnt (nn 2 []) [14] [(8,pI (w64 (((k1:Nat):Int)+1)))] [] [] tv ?_
   exact jD () ⟨hlt1,hm⟩ (Conv.tp [(8,pI (w64 (((k1:Nat):Int)+1)))] [] (by kernel_rfl) (.cons rfl (.of_eq (congrArg pI (Bb hlt1 hc1))) .nil) .nil)
 ·intro h15
  have hge1:¬ k1<(Pj p0).length:=by have:=of_decide_eq_false h15; have:=Yb p0; omega
  have hm:=he1 hge1
  unfold Ady at hm
  refine DW.exit ?_
  refine Ai ?_
  refine Ap ?_
  refine Ae ?_
  show DW _ _ _ _ _
  refine Sq ?_
  refine Jn (ι:=Bool) (fun (y3:Bool)=>Af [(2,pB y3)] []) (fun y3=>Qz y3=some RES) ?_ ?_
  ·intro y3 hm
   unfold Qz at hm
   obtain rfl:=sj hm
   exact DW.ret (Aj [] [] (pB y3))
  ·rcases bt (!(Xq p0 ByteArray.empty)) with h18|h18
   ·replace hm:=Bt h18 hm
    rcases bt (decide (((p0.size:Nat):Int)≤32)) with h19|h19
    ·replace hm:=Bt h19 hm
     obtain ⟨g20,hm⟩:=go1 hm
     refine RK hnt (nn 6 (pT::nn 4 (pT :: .no :: []))) [(2,pB ((((Ms p0 0):Nat):Int) != 45))] [] (an4 h18 (an2 h19 (an (nn0 0) (an (ltc g20) (an2 h19 tv))))) ?_
     exact jD ((((Ms p0 0):Nat):Int) != 45) hm .refl
    ·replace hm:=Bs h19 hm
     refine RK hnt (nn 6 (pT :: .no::sk 3 (pF :: .no :: []))) [(2,pB false)] [] (an4 h18 (an4 h19 tv)) ?_
     exact jD false hm .refl
   ·replace hm:=Bs h18 hm
    refine RK hnt (nn 3 (sk 3 (pF :: .no::sk 3 (pF :: .no :: [])))) [(2,pB false)] [] (an4 h18 (an4 ff tv)) ?_
    exact jD false hm .refl
abbrev o15 (ks:List Nat) (b:Bool) (RES:Bool) (sm:List Nat := []):Orc := .call 71 ks b (pB RES) [] [] sm

abbrev c14e1 (p1:Bz):Nat×Obj:=(1024,bx (pm (Ax p1)))
theorem AgZ (p0:List Bz) (p1:Bz) (RES:Bool) (hm:AdB p0 p1=some RES):Spec Tryz.prog 120 [.p (Cr p0),.p (.agg (Ax p1))] [] (pB RES) [] []:=by
 unfold AdB at hm
 refine SO Tryz.func120 rfl rfl [(0,.p (Cr p0)),(1,.p (.agg (Ax p1)))] [] ?_
 intro cx hnt
 refine Sq (RD hnt (nn 2 []) [1] [(3,rr 1024)] [] [(c14e1 p1)] tv ?_)
 obtain ⟨g1,hm⟩:=go1 hm
 refine Sq (Sq ?_)
 refine Jn (ι:=Bool) (fun (y1:Bool)=>Af [(0,.p (Cr p0)),(3,rr 1024),(33,pB y1)] [(c14e1 p1)]) (fun y1=>(Pq p0 p1) y1=some RES) ?_ ?_
 ·intro y1 hm
  unfold Pq at hm
  refine Ak hm ?_ ?_
  ·intro h6 hm
   refine Sq (RK hnt (.no :: []) [(4,pB false)] [] tv ?_)
   obtain rfl:=sj hm
   exact DW.ret (Aj [] [] (pB false))
  ·intro h6 hm
   refine Sk ?_
   refine Sq (RD hnt (.no :: []) [33] [(5,pB false)] [] [] tv ?_)
   refine Sq (Sq (RD hnt (nn 3 []) [0] [(34,.p (Cr p0)),(35,pI ((p0.length:Nat):Int)),(36,pI 0)] [] [] tv ?_))
   refine Bk ?_
   obtain ⟨hc1,hm⟩:=go1 hm
   refine DW.rangeO (fun (k1:Nat) (s1:Bool)=>Af [(3,rr 1024),(5,pB s1),(34,.p (Cr p0)),(35,pI ((p0.length:Nat):Int)),(36,pI ((k1:Nat):Int))] [(c14e1 p1)]) Ay hm Conv.eqK ?_
   intro k1 s1 n1 hk1 hs1 he1
   refine Sq (RD hnt (.no :: []) [] [(37,pB (decide (((k1:Nat):Int)<((p0.length:Nat):Int))))] [] [] tv ?_)
   refine Sq (Bu (decide (((k1:Nat):Int)<((p0.length:Nat):Int))) ?_ ?_)
   ·intro h16
    have hlt1:k1<p0.length:=by have:=of_decide_eq_true h16; omega
    have hm:=hs1 hlt1
    unfold AeW at hm
    refine Sk ?_
    refine Sq (Bk ?_)
    refine Sq (RD hnt (nn 4 []) [37] [(7,rr 1056)] [] [(1056,bx (pm (Ax (p0.getD k1 Ay))))] (an (nn0 k1) (an (ltc hlt1) tv)) ?_)
    refine Sq (DW.regJ (sl2 := [(3,rr 1024),(5,pB (s1||((p0.getD k1 Ay).id==p1.parent))),(7,rr 1056),(34,.p (Cr p0)),(35,pI ((p0.length:Nat):Int)),(36,pI ((k1:Nat):Int))]) (ob2 := [(c14e1 p1),(1056,bx (pm (Ax (p0.getD k1 Ay))))]) ?_ ?_)
    ·rcases bt s1 with h17|h17
     ·exact RT hnt (nn 2 (sk 5 (pT :: .no :: []))) [(5,pB true)] (an6 h17 tv) (by kernel_rfl) (.cons rfl (.of_eq (by rw [h17]; try rfl)) .nil)
     ·exact RT hnt (nn 7 (pF :: .no :: [])) [(5,pB ((p0.getD k1 Ay).id==p1.parent))] (an6 h17 tv) (by kernel_rfl) (.cons rfl (.of_eq (by rw [h17]; try rfl)) .nil)
    ·refine Sq (DW.regJ (sl2 := [(3,rr 1024),(5,pB (s1||((p0.getD k1 Ay).id==p1.parent))),(34,.p (Cr p0)),(35,pI ((p0.length:Nat):Int)),(36,pI ((k1:Nat):Int)),(59,pB (((p0.getD k1 Ay).parent==p1.parent)&&(Xq (p0.getD k1 Ay).name p1.name)))]) (ob2 := [(c14e1 p1)]) ?_ ?_)
     ·rcases bt ((p0.getD k1 Ay).parent==p1.parent) with h18|h18
      ·exact RT hnt (nn 11 (pT :: [])) [(59,pB (Xq (p0.getD k1 Ay).name p1.name))] (an6 h18 tv) (by kernel_rfl) (.cons rfl (.of_eq (by rw [h18]; try rfl)) .nil)
      ·exact RT hnt (nn 6 (sk 5 (pF :: []))) [(59,pB false)] (an6 h18 tv) (by kernel_rfl) (.cons rfl (.of_eq (by rw [h18]; try rfl)) .nil)
     ·refine Ak hm ?_ ?_
      ·intro h19 hm
       refine Sq (RK hnt (.no :: []) [(4,pB false)] [] tv ?_)
       obtain rfl:=sj hm
       exact DW.ret (Aj [] [] (pB false))
      ·intro h19 hm
       refine Sk ?_
       refine DW.done ?_
       show DW _ _ _ _ _
       refine RD hnt (nn 2 []) [59] [(36,pI (w64 (((k1:Nat):Int)+1)))] [] [] tv ?_
       exact jD (s1||((p0.getD k1 Ay).id==p1.parent)) ⟨hlt1,hm⟩ (Conv.tp [(36,pI (w64 (((k1:Nat):Int)+1)))] [] (by kernel_rfl) (.cons rfl (.of_eq (congrArg pI (Bb hlt1 hc1))) .nil) .nil)
   ·intro h16
    have hge1:¬ k1<p0.length:=by have:=of_decide_eq_false h16; omega
    have hm:=he1 hge1
    unfold AeF at hm
    refine DW.exit ?_
    refine Ai ?_
    refine Ap ?_
    refine Ae ?_
    show DW _ _ _ _ _
    refine Sq (RK hnt (nn 2 []) [(4,pB s1)] [] tv ?_)
    obtain rfl:=sj hm
    exact DW.ret (Aj [] [] (pB s1))
 ·rcases bt (decide (p1.id≤(p0.getD (Int.toNat (w64 (((p0.length:Nat):Int)-1))) Ay).id)) with h2|h2
  ·replace hm:=Bt h2 hm
   refine RD hnt (nn 11 (sk 4 (pT :: .no::sk 8 (pT :: [])))) [] [(33,pB true)] [] [] (an g1.1 (an g1.2 (an5 h2 (an6 tt tv)))) ?_
   exact jD true hm Conv.eqK
  ·replace hm:=Bs h2 hm
   obtain ⟨r3,hr3,hm⟩:=bo hm
   rcases bt (!r3) with h4|h4
   ·replace hm:=Bt h4 hm
    refine RD hnt (nn 13 (o15 [] true r3 :: .no::pF :: .no::sk 8 (pT :: []))) [] [(33,pB true)] [] [] (an g1.1 (an g1.2 (an3 h2 (an (Sd p1.name r3 hr3) (an2 h2 (an6 h4 tv)))))) ?_
    exact jD true hm Conv.eqK
   ·replace hm:=Bs h4 hm
    rcases bt (p1.kind != 0) with h5|h5
    ·replace hm:=Bt h5 hm
     refine RD hnt (nn 13 (o15 [] true r3 :: .no::pF::nn 8 (pT::pF :: []))) [] [(33,pB (p1.kind != 1))] [] [] (an g1.1 (an g1.2 (an3 h2 (an (Sd p1.name r3 hr3) (an2 h2 (an4 h4 (an3 h5 (an h4 (an h5 (an h4 tv)))))))))) ?_
     exact jD (p1.kind != 1) hm Conv.eqK
    ·replace hm:=Bs h5 hm
     refine RD hnt (nn 13 (o15 [] true r3 :: .no::pF::nn 5 (sk 3 (pF::pF :: [])))) [] [(33,pB false)] [] [] (an g1.1 (an g1.2 (an3 h2 (an (Sd p1.name r3 hr3) (an2 h2 (an4 h4 (an3 h5 (an h4 (an h5 (an h4 tv)))))))))) ?_
     exact jD false hm Conv.eqK
abbrev o14 (ks:List Nat) (b:Bool) (RES:Bool) (sm:List Nat := []):Orc := .call 120 ks b (pB RES) [] [] sm

abbrev c12e1 (s1:IMap Int) (p0:Cd) (k1:Nat):=(s1.set (p0.nodes.getD k1 Ay).id (w64 ((s1.get (p0.nodes.getD k1 Ay).parent)+1)))
abbrev c12e2 (p0:Cd):Nat×Obj:=(1008,bx (pm (Bl p0)))
theorem Rk (p0:Cd) (RES:Bool) (hm:Uh p0=some RES):Spec Tryz.prog 50 [.p (.agg (Bl p0))] [] (pB RES) [] []:=by
 unfold Uh at hm
 refine SO Tryz.func50 rfl rfl [(0,.p (.agg (Bl p0)))] [] ?_
 intro cx hnt
 refine Sq (RK hnt (nn 2 []) [(1,rr 1008)] [(c12e2 p0)] tv ?_)
 refine Sq (Sq ?_)
 refine Jn (ι:=Bool) (fun (y1:Bool)=>Af [(1,rr 1008),(23,pB y1)] [(c12e2 p0)]) (fun y1=>(Qn p0) y1=some RES) ?_ ?_
 ·intro y1 hm
  unfold Qn at hm
  refine Ak hm ?_ ?_
  ·intro h5 hm
   refine Sq (RK hnt (.no :: []) [(2,pB false)] [] tv ?_)
   obtain rfl:=sj hm
   exact DW.ret (Aj [] [] (pB false))
  ·intro h5 hm
   refine Sk ?_
   refine Sq (RD hnt (nn 2 []) [23] [(3,.mref 1192 0)] [] [(1192,ob0 (Nd vi (vi 0) (IMap.empty 0)))] tv ?_)
   refine Sq (Sq (RD hnt (nn 4 []) [] [(26,.p (Cr p0.nodes)),(27,pI ((p0.nodes.length:Nat):Int)),(28,pI 0)] [] [] tv ?_))
   refine Bk ?_
   obtain ⟨hc1,hm⟩:=go1 hm
   refine DW.rangeO (fun (k1:Nat) (s1:IMap Int)=>Af [(1,rr 1008),(3,.mref 1192 0),(26,.p (Cr p0.nodes)),(27,pI ((p0.nodes.length:Nat):Int)),(28,pI ((k1:Nat):Int))] [(c12e2 p0),(1192,ob0 (Nd vi (vi 0) s1))]) Ay hm Conv.eqK ?_
   intro k1 s1 n1 hk1 hs1 he1
   refine Sq (RD hnt (.no :: []) [] [(29,pB (decide (((k1:Nat):Int)<((p0.nodes.length:Nat):Int))))] [] [] tv ?_)
   refine Sq (Bu (decide (((k1:Nat):Int)<((p0.nodes.length:Nat):Int))) ?_ ?_)
   ·intro h36
    have hlt1:k1<p0.nodes.length:=by have:=of_decide_eq_true h36; omega
    have hm:=hs1 hlt1
    unfold AdE at hm
    refine Sk ?_
    refine Sq (Bk ?_)
    refine Sq (RD hnt (nn 6 []) [29] [(4,pI ((k1:Nat):Int)),(5,rr 1040)] [] [(1040,bx (pm (Ax (p0.nodes.getD k1 Ay))))] (an (nn0 k1) (an (ltc hlt1) tv)) ?_)
    refine Sq (Sq ?_)
    refine Jn (ι:=Bool) (fun (y8:Bool)=>Af [(1,rr 1008),(3,.mref 1192 0),(4,pI ((k1:Nat):Int)),(5,rr 1040),(26,.p (Cr p0.nodes)),(27,pI ((p0.nodes.length:Nat):Int)),(28,pI ((k1:Nat):Int)),(64,pB y8)] [(c12e2 p0),(1040,bx (pm (Ax (p0.nodes.getD k1 Ay)))),(1192,ob0 (Nd vi (vi 0) s1))]) (fun y8=>(Iw k1 (p0.nodes.getD k1 Ay) s1 n1) y8=some RES) ?_ ?_
    ·intro y8 hm
     unfold Iw at hm
     refine Ak hm ?_ ?_
     ·intro h44 hm
      refine Sq (RK hnt (.no :: []) [(2,pB false)] [] tv ?_)
      obtain rfl:=sj hm
      exact DW.ret (Aj [] [] (pB false))
     ·intro h44 hm
      refine Sk ?_
      refine Sq (Sq (RD hnt (nn 2 []) [4,64] [(66,pB (decide (((k1:Nat):Int)>0)))] [] [] tv ?_))
      refine Jn (ι:=IMap Int) (fun (y9:IMap Int)=>Af [(1,rr 1008),(3,.mref 1192 0),(5,rr 1040),(26,.p (Cr p0.nodes)),(27,pI ((p0.nodes.length:Nat):Int)),(28,pI ((k1:Nat):Int))] [(c12e2 p0),(1040,bx (pm (Ax (p0.nodes.getD k1 Ay)))),(1192,ob0 (Nd vi (vi 0) y9))]) (fun y9=>(Uw (p0.nodes.getD k1 Ay) n1) y9=some RES) ?_ ?_
      ·intro y9 hm
       unfold Uw at hm
       refine Sq (RD hnt (nn 5 []) [5] [(79,pB (decide ((y9.get (p0.nodes.getD k1 Ay).id)>8)))] [1040] [] (an (PLe.rfl:PLe (vi 0) (vi 0)) tv) ?_)
       refine Ak hm ?_ ?_
       ·intro h46 hm
        refine Sq (RK hnt (.no :: []) [(2,pB false)] [] tv ?_)
        obtain rfl:=sj hm
        exact DW.ret (Aj [] [] (pB false))
       ·intro h46 hm
        refine Sk ?_
        refine DW.done ?_
        show DW _ _ _ _ _
        refine RD hnt (nn 2 []) [79] [(28,pI (w64 (((k1:Nat):Int)+1)))] [] [] tv ?_
        exact jD y9 ⟨hlt1,hm⟩ (Conv.tp [(28,pI (w64 (((k1:Nat):Int)+1)))] [] (by kernel_rfl) (.cons rfl (.of_eq (congrArg pI (Bb hlt1 hc1))) .nil) .nil)
      ·refine Ak hm ?_ ?_
       ·intro h45 hm
        refine RD hnt (nn 8 (.asM (vi 0) (c12e1 s1 p0 k1).has (fun j=>vi ((c12e1 s1 p0 k1).get j)) :: [])) [66] [] [] [(1192,ob0 (Nd vi (vi 0) (c12e1 s1 p0 k1)))] (an (PLe.rfl:PLe (vi 0) (vi 0)) (an (AgI vi (vi 0) s1 (p0.nodes.getD k1 Ay).id (w64 ((s1.get (p0.nodes.getD k1 Ay).parent)+1)) PLe.rfl) tv)) ?_
        exact jD (c12e1 s1 p0 k1) hm Conv.eqK
       ·intro h45 hm
        refine Sk ?_
        exact jD s1 hm Conv.t0
    ·rcases bt (decide ((p0.nodes.getD k1 Ay).control<0)) with h37|h37
     ·replace hm:=Bt h37 hm
      refine RD hnt (nn 4 (sk 4 (pT :: .no::sk 3 (pT :: .no::sk 3 (pT :: .no::sk 11 (pT :: [])))))) [] [(64,pB true)] [] [] (an5 h37 (an tt (an6 tt (an6 tt tv)))) ?_
      exact jD true hm Conv.eqK
     ·replace hm:=Bs h37 hm
      rcases bt ((Vn .i64 (p0.nodes.getD k1 Ay).control 31) != 0) with h38|h38
      ·replace hm:=Bt h38 hm
       refine RD hnt (nn 8 (pF :: .no::sk 3 (pT :: .no::sk 3 (pT :: .no::sk 11 (pT :: []))))) [] [(64,pB true)] [] [] (an5 h37 (an4 h38 (an3 tt (an6 tt tv)))) ?_
       exact jD true hm Conv.eqK
      ·replace hm:=Bs h38 hm
       rcases bt (decide ((p0.nodes.getD k1 Ay).owner<0)) with h39|h39
       ·replace hm:=Bt h39 hm
        refine RD hnt (nn 8 (pF::nn 4 (pF :: .no::sk 3 (pT :: .no::sk 11 (pT :: []))))) [] [(64,pB true)] [] [] (an5 h37 (an4 h38 (an4 h39 (an5 tt tv)))) ?_
        exact jD true hm Conv.eqK
       ·replace hm:=Bs h39 hm
        rcases bt (decide ((p0.nodes.getD k1 Ay).owner>1048576)) with h40|h40
        ·replace hm:=Bt h40 hm
         refine RD hnt (nn 8 (pF::nn 4 (pF::nn 4 (pF :: .no::sk 11 (pT :: []))))) [] [(64,pB true)] [] [] (an5 h37 (an4 h38 (an4 h39 (an5 h40 tv)))) ?_
         exact jD true hm Conv.eqK
        ·replace hm:=Bs h40 hm
         rcases bt (decide (((k1:Nat):Int)>0)) with h41|h41
         ·replace hm:=Bt h41 hm
          obtain ⟨g42,hm⟩:=go1 hm
          obtain ⟨r43,hr43,hm⟩:=bo hm
          refine RD hnt (nn 8 (pF::nn 4 (pF::nn 4 (pF::nn 9 (o14 [] true r43 :: .no::pT::pF :: []))))) [] [(64,pB (!r43))] [] [] (an5 h37 (an4 h38 (an4 h39 (an3 h40 (an4 h41 (an (by omega:(0:Int)≤0) (an (by omega:(0:Int)≤((k1:Nat):Int)) (an (by omega:((k1:Nat):Int)≤((p0.nodes.length:Nat):Int)) (an2 h41 (an (Spec.args (xs := [.p (.sl .unk 6 k1 (Adr p0.nodes)),.p (.agg (Ax (p0.nodes.getD k1 Ay)))]) (AgZ (p0.nodes.take k1) (p0.nodes.getD k1 Ay) r43 hr43) (.cons (.p (PLe.typed (RowIs.elems.take (by omega)))) (.cons .rfl .nil))) (an h41 (an h40 (an h41 (an h40 tv)))))))))))))) ?_
          exact jD (!r43) hm Conv.eqK
         ·replace hm:=Bs h41 hm
          refine RD hnt (nn 8 (pF::nn 4 (pF::nn 4 (pF::nn 4 (sk 7 (pF::pF :: [])))))) [] [(64,pB false)] [] [] (an5 h37 (an4 h38 (an4 h39 (an3 h40 (an h41 (an6 h41 (an h40 (an h41 (an h40 tv))))))))) ?_
          exact jD false hm Conv.eqK
   ·intro h36
    have hge1:¬ k1<p0.nodes.length:=by have:=of_decide_eq_false h36; omega
    have hm:=he1 hge1
    unfold AdI at hm
    refine DW.exit ?_
    refine Ai ?_
    refine Ap ?_
    refine Ae ?_
    show DW _ _ _ _ _
    obtain ⟨g47,hm⟩:=go1 hm
    refine Sq ?_
    refine Jn (ι:=Bool) (fun (y10:Bool)=>Af [(2,pB y10)] []) (fun y10=>Sx y10=some RES) ?_ ?_
    ·intro y10 hm
     unfold Sx at hm
     obtain rfl:=sj hm
     exact DW.ret (Aj [] [] (pB y10))
    ·rcases bt (decide (p0.next>(p0.nodes.getD (Int.toNat (w64 (((p0.nodes.length:Nat):Int)-1))) Ay).id)) with h48|h48
     ·replace hm:=Bt h48 hm
      refine RK hnt (nn 16 (pT :: .no :: [])) [(2,pB (decide (p0.next≤2147483648)))] [] (an g47.1 (an g47.2 (an4 h48 tv))) ?_
      exact jD (decide (p0.next≤2147483648)) hm .refl
     ·replace hm:=Bs h48 hm
      refine RK hnt (nn 13 (sk 3 (pF :: .no :: []))) [(2,pB false)] [] (an g47.1 (an g47.2 (an4 h48 tv))) ?_
      exact jD false hm .refl
 ·rcases bt (decide (((p0.nodes.length:Nat):Int)<1)) with h1|h1
  ·replace hm:=Bt h1 hm
   refine RD hnt (nn 5 (sk 4 (pT :: .no::sk 6 (pT :: [])))) [] [(23,pB true)] [] [] (an5 h1 (an tt (an6 tt tv))) ?_
   exact jD true hm Conv.eqK
  ·replace hm:=Bs h1 hm
   rcases bt (decide (((p0.nodes.length:Nat):Int)>64)) with h2|h2
   ·replace hm:=Bt h2 hm
    refine RD hnt (nn 9 (pF :: .no::sk 6 (pT :: []))) [] [(23,pB true)] [] [] (an5 h1 (an h2 (an6 h2 tv))) ?_
    exact jD true hm Conv.eqK
   ·replace hm:=Bs h2 hm
    obtain ⟨g3,hm⟩:=go1 hm
    obtain ⟨r4,hr4,hm⟩:=bo hm
    refine RD hnt (nn 9 (pF::nn 5 (o13 [] true r4 :: .no::pF :: []))) [] [(23,pB (!r4))] [] [] (an5 h1 (an3 h2 (an (nn0 0) (an (ltc g3) (an2 h2 (an (Ahh (p0.nodes.getD 0 Ay) r4 hr4) (an2 h2 tv))))))) ?_
    exact jD (!r4) hm Conv.eqK
abbrev o12 (ks:List Nat) (b:Bool) (RES:Bool) (sm:List Nat := []):Orc := .call 50 ks b (pB RES) [] [] sm

theorem Aha (p0:Cf) (p1:Int) (RES:Bool) (hm:AcS p0 p1=some RES):Spec Tryz.prog 186 [.p (.agg (Bd p0)),rr 0] [.box [pI p1]] (pB RES) [.box [pI p1]] []:=by
 unfold AcS at hm
 refine SO Tryz.func186 rfl rfl [(0,.p (.agg (Bd p0))),(1,rr 0)] [(0,bx [pI p1])] ?_
 intro cx hnt
 refine Sq (RD hnt (nn 2 []) [0] [(2,rr 1016)] [] [(1016,bx (pm (Bd p0)))] tv ?_)
 refine Sq (RK hnt (nn 5 []) [(3,pB (p0.id==p1))] [(0,bx [pI p1])] tv ?_)
 obtain rfl:=sj hm
 exact DW.ret (Aj [.box [pI p1]] [] (pB (p0.id==p1)))

theorem Rp (p0:List Cf) (p1c0:Int) (RES:Int) (hm:Gy p0 p1c0=some RES):Spec Tryz.prog 185 [.p (Dn p0),.fn 186 [rr 0]] [.box [pI p1c0]] (pI RES) [.box [pI p1c0]] []:=by
 unfold Gy at hm
 refine SO Tryz.func185 rfl rfl [(0,.p (Dn p0)),(1,.fn 186 [rr 0])] [(0,bx [pI p1c0])] ?_
 intro cx hnt
 refine Sq (RD hnt (.no :: []) [] [] [] [] tv ?_)
 refine Sq (Sq (RD hnt (nn 3 []) [] [(7,pI ((p0.length:Nat):Int)),(8,pI 0)] [] [] tv ?_))
 refine Bk ?_
 obtain ⟨hc1,hm⟩:=go1 hm
 refine DW.rangeO (fun (k1:Nat) (s1:Unit)=>Af [(0,.p (Dn p0)),(1,.fn 186 [rr 0]),(7,pI ((p0.length:Nat):Int)),(8,pI ((k1:Nat):Int))] [(0,bx [pI p1c0])]) Bo hm Conv.eqK ?_
 intro k1 s1 n1 hk1 hs1 he1
 refine Sq (RD hnt (.no :: []) [] [(9,pB (decide (((k1:Nat):Int)<((p0.length:Nat):Int))))] [] [] tv ?_)
 refine Sq (Bu (decide (((k1:Nat):Int)<((p0.length:Nat):Int))) ?_ ?_)
 ·intro h9
  have hlt1:k1<p0.length:=by have:=of_decide_eq_true h9; omega
  have hm:=hs1 hlt1
  unfold Km at hm
  refine Sk ?_
  refine Sq (Bk ?_)
  refine Sq (RD hnt (nn 2 []) [9] [(5,pI ((k1:Nat):Int))] [] [] tv ?_)
  obtain ⟨r10,hr10,hm⟩:=bo hm
  refine Sq (RD hnt (nn 5 (.call 186 [0] true (pB r10) [.box [pI p1c0]] [] [] :: [])) [] [(16,pB r10)] [] [] (an (nn0 k1) (an (ltc hlt1) (an (Aha (p0.getD k1 Bo) p1c0 r10 hr10) (an tv tv)))) ?_)
  refine Ak hm ?_ ?_
  ·intro h11 hm
   refine Sq (RK hnt (nn 2 []) [(4,pI ((k1:Nat):Int))] [(0,bx [pI p1c0])] tv ?_)
   obtain rfl:=sj hm
   exact DW.ret (Aj [.box [pI p1c0]] [] (pI ((k1:Nat):Int)))
  ·intro h11 hm
   refine Sk ?_
   refine DW.done ?_
   show DW _ _ _ _ _
   refine RD hnt (nn 2 []) [5,16] [(8,pI (w64 (((k1:Nat):Int)+1)))] [] [] tv ?_
   exact jD () ⟨hlt1,hm⟩ (Conv.tp [(8,pI (w64 (((k1:Nat):Int)+1)))] [] (by kernel_rfl) (.cons rfl (.of_eq (congrArg pI (Bb hlt1 hc1))) .nil) .nil)
 ·intro h9
  have hge1:¬ k1<p0.length:=by have:=of_decide_eq_false h9; omega
  have hm:=he1 hge1
  unfold Ko at hm
  refine DW.exit ?_
  refine Ai ?_
  refine Ap ?_
  refine Ae ?_
  show DW _ _ _ _ _
  refine Sq (RK hnt (.no :: []) [(4,pI (-1))] [(0,bx [pI p1c0])] tv ?_)
  obtain rfl:=sj hm
  exact DW.ret (Aj [.box [pI p1c0]] [] (pI (-1)))

theorem Ail (p0:Ac) (p1:Int) (RES:Int) (hm:Agj p0 p1=some RES):Spec Tryz.prog 114 [.p (.agg (Ab p0)),pI p1] [] (pI RES) [] []:=by
 unfold Agj at hm
 refine SO Tryz.func114 rfl rfl [(0,.p (.agg (Ab p0))),(1,pI p1)] [] ?_
 intro cx hnt
 refine Sq (RK hnt (nn 3 []) [(2,rr 1016),(3,rr 1024)] [(1016,bx (pm (Ab p0))),(1024,bx [pI p1])] tv ?_)
 obtain ⟨r1,hr1,hm⟩:=bo hm
 refine Sq (RK hnt (nn 3 (.call 185 [1024] true (pI r1) [.box [pI p1]] [] [] :: .no :: [])) [(4,pI r1)] [] (an (Rp p0.tasks p1 r1 hr1) (an tv tv)) ?_)
 obtain rfl:=sj hm
 exact DW.ret (Aj [] [] (pI r1))
abbrev o19 (ks:List Nat) (b:Bool) (RES:Int) (sm:List Nat := []):Orc := .call 114 ks b (pI RES) [] [] sm

theorem Ya (p0:Ac) (p1:Int) (RES:Cf×Bool) (hm:Tq p0 p1=some RES):Spec Tryz.prog 44 [.p (.agg (Ab p0)),pI p1] [] (.p (.tup [.agg (Bd RES.1),vb RES.2])) [] []:=by
 unfold Tq at hm
 refine SO Tryz.func44 rfl rfl [(0,.p (.agg (Ab p0))),(1,pI p1)] [] ?_
 intro cx hnt
 refine Sq (RK hnt (nn 3 []) [(1,pI p1),(2,rr 1016),(4,rr 1032)] [(1016,bx (pm (Ab p0))),(1032,bx [pI 0,pI 0,pI 0,pI 0])] tv ?_)
 obtain ⟨r1,hr1,hm⟩:=bo hm
 refine Sq (RD hnt (nn 2 (o19 [] true r1 :: .no :: [])) [1] [(6,pI r1)] [] [] (an (Ail p0 p1 r1 hr1) tv) ?_)
 refine Sq (Sq (RD hnt (nn 2 []) [] [(11,pB (decide (r1<0)))] [] [] tv ?_))
 refine Ak hm ?_ ?_
 ·intro h2 hm
  refine Sq (RD hnt (nn 3 []) [2,6,11] [(5,pB false)] [1016] [] tv ?_)
  obtain rfl:=sj hm
  exact DW.ret (Aj [] [] (.p (.tup [.agg [vi 0,vi 0,vi 0,vi 0],vb false])))
 ·intro h2 hm
  refine Sk ?_
  obtain ⟨g3,hm⟩:=go1 hm
  refine Sq (RK hnt (nn 7 []) [(4,rr 1032),(5,pB true)] [(1032,bx (pm (Bd (p0.tasks.getD (Int.toNat r1) Bo))))] (an g3.1 (an g3.2 tv)) ?_)
  obtain rfl:=sj hm
  exact DW.ret (Aj [] [] (.p (.tup [.agg (Bd (p0.tasks.getD (Int.toNat r1) Bo)),vb true])))
abbrev o18 (ks:List Nat) (b:Bool) (RES:Cf×Bool) (sm:List Nat := []):Orc := .call 44 ks b (.p (.tup [.agg (Bd RES.1),vb RES.2])) [] [] sm

theorem AfX (p0:Bz) (p1:Int) (RES:Bool) (hm:Abo p0 p1=some RES):Spec Tryz.prog 78 [.p (.agg (Ax p0)),rr 0] [.box [pI p1]] (pB RES) [.box [pI p1]] []:=by
 unfold Abo at hm
 refine SO Tryz.func78 rfl rfl [(0,.p (.agg (Ax p0))),(1,rr 0)] [(0,bx [pI p1])] ?_
 intro cx hnt
 refine Sq (RD hnt (nn 2 []) [0] [(2,rr 1016)] [] [(1016,bx (pm (Ax p0)))] tv ?_)
 refine Sq (RK hnt (nn 5 []) [(3,pB (p0.id==p1))] [(0,bx [pI p1])] tv ?_)
 obtain rfl:=sj hm
 exact DW.ret (Aj [.box [pI p1]] [] (pB (p0.id==p1)))

theorem Qm (p0:List Bz) (p1c0:Int) (RES:Int) (hm:Gi p0 p1c0=some RES):Spec Tryz.prog 77 [.p (Cr p0),.fn 78 [rr 0]] [.box [pI p1c0]] (pI RES) [.box [pI p1c0]] []:=by
 unfold Gi at hm
 refine SO Tryz.func77 rfl rfl [(0,.p (Cr p0)),(1,.fn 78 [rr 0])] [(0,bx [pI p1c0])] ?_
 intro cx hnt
 refine Sq (RD hnt (.no :: []) [] [] [] [] tv ?_)
 refine Sq (Sq (RD hnt (nn 3 []) [] [(7,pI ((p0.length:Nat):Int)),(8,pI 0)] [] [] tv ?_))
 refine Bk ?_
 obtain ⟨hc1,hm⟩:=go1 hm
 refine DW.rangeO (fun (k1:Nat) (s1:Unit)=>Af [(0,.p (Cr p0)),(1,.fn 78 [rr 0]),(7,pI ((p0.length:Nat):Int)),(8,pI ((k1:Nat):Int))] [(0,bx [pI p1c0])]) Ay hm Conv.eqK ?_
 intro k1 s1 n1 hk1 hs1 he1
 refine Sq (RD hnt (.no :: []) [] [(9,pB (decide (((k1:Nat):Int)<((p0.length:Nat):Int))))] [] [] tv ?_)
 refine Sq (Bu (decide (((k1:Nat):Int)<((p0.length:Nat):Int))) ?_ ?_)
 ·intro h9
  have hlt1:k1<p0.length:=by have:=of_decide_eq_true h9; omega
  have hm:=hs1 hlt1
  unfold Jj at hm
  refine Sk ?_
  refine Sq (Bk ?_)
  refine Sq (RD hnt (nn 2 []) [9] [(5,pI ((k1:Nat):Int))] [] [] tv ?_)
  obtain ⟨r10,hr10,hm⟩:=bo hm
  refine Sq (RD hnt (nn 5 (.call 78 [0] true (pB r10) [.box [pI p1c0]] [] [] :: [])) [] [(16,pB r10)] [] [] (an (nn0 k1) (an (ltc hlt1) (an (AfX (p0.getD k1 Ay) p1c0 r10 hr10) (an tv tv)))) ?_)
  refine Ak hm ?_ ?_
  ·intro h11 hm
   refine Sq (RK hnt (nn 2 []) [(4,pI ((k1:Nat):Int))] [(0,bx [pI p1c0])] tv ?_)
   obtain rfl:=sj hm
   exact DW.ret (Aj [.box [pI p1c0]] [] (pI ((k1:Nat):Int)))
  ·intro h11 hm
   refine Sk ?_
   refine DW.done ?_
   show DW _ _ _ _ _
   refine RD hnt (nn 2 []) [5,16] [(8,pI (w64 (((k1:Nat):Int)+1)))] [] [] tv ?_
   exact jD () ⟨hlt1,hm⟩ (Conv.tp [(8,pI (w64 (((k1:Nat):Int)+1)))] [] (by kernel_rfl) (.cons rfl (.of_eq (congrArg pI (Bb hlt1 hc1))) .nil) .nil)
 ·intro h9
  have hge1:¬ k1<p0.length:=by have:=of_decide_eq_false h9; omega
  have hm:=he1 hge1
  unfold Jl at hm
  refine DW.exit ?_
  refine Ai ?_
  refine Ap ?_
  refine Ae ?_
  show DW _ _ _ _ _
  refine Sq (RK hnt (.no :: []) [(4,pI (-1))] [(0,bx [pI p1c0])] tv ?_)
  obtain rfl:=sj hm
  exact DW.ret (Aj [.box [pI p1c0]] [] (pI (-1)))

theorem Tb (p0:Cd) (p1:Int) (RES:Int) (hm:Tu p0 p1=some RES):Spec Tryz.prog 29 [.p (.agg (Bl p0)),pI p1] [] (pI RES) [] []:=by
 unfold Tu at hm
 refine SO Tryz.func29 rfl rfl [(0,.p (.agg (Bl p0))),(1,pI p1)] [] ?_
 intro cx hnt
 refine Sq (RK hnt (nn 3 []) [(2,rr 1016),(3,rr 1024)] [(1016,bx (pm (Bl p0))),(1024,bx [pI p1])] tv ?_)
 obtain ⟨r1,hr1,hm⟩:=bo hm
 refine Sq (RK hnt (nn 3 (.call 77 [1024] true (pI r1) [.box [pI p1]] [] [] :: .no :: [])) [(4,pI r1)] [] (an (Qm p0.nodes p1 r1 hr1) (an tv tv)) ?_)
 obtain rfl:=sj hm
 exact DW.ret (Aj [] [] (pI r1))
abbrev o22 (ks:List Nat) (b:Bool) (RES:Int) (sm:List Nat := []):Orc := .call 29 ks b (pI RES) [] [] sm

theorem Aga (p0:Ac) (p1:Cf) (RES:Bool) (hm:Abe p0 p1=some RES):Spec Tryz.prog 76 [.p (.agg (Ab p0)),.p (.agg (Bd p1))] [] (pB RES) [] []:=by
 unfold Abe at hm
 refine SO Tryz.func76 rfl rfl [(0,.p (.agg (Ab p0))),(1,.p (.agg (Bd p1)))] [] ?_
 intro cx hnt
 refine Sq (RK hnt (nn 3 []) [(2,rr 1016),(3,rr 1024)] [(1016,bx (pm (Ab p0))),(1024,bx (pm (Bd p1)))] tv ?_)
 obtain ⟨r1,hr1,hm⟩:=bo hm
 refine Sq (RD hnt (nn 3 (o18 [] true r1::nn 6 [])) [] [(5,rr 1040),(6,pB r1.2)] [] [(1040,bx (pm (Bd r1.1)))] (an (Ya p0 p1.process r1 hr1) tv) ?_)
 refine Sq ?_
 refine Jn (ι:=Bool) (fun (y1:Bool)=>Af [(4,pB y1)] []) (fun y1=>Ic y1=some RES) ?_ ?_
 ·intro y1 hm
  unfold Ic at hm
  obtain rfl:=sj hm
  exact DW.ret (Aj [] [] (pB y1))
 ·rcases bt (decide (p1.user≥0)) with h2|h2
  ·replace hm:=Bt h2 hm
   rcases bt (decide (p1.user≤1048576)) with h3|h3
   ·replace hm:=Bt h3 hm
    rcases bt r1.2 with h4|h4
    ·replace hm:=Bt h4 hm
     rcases bt (r1.1.process==r1.1.id) with h5|h5
     ·replace hm:=Bt h5 hm
      rcases bt (r1.1.user==p1.user) with h6|h6
      ·replace hm:=Bt h6 hm
       obtain ⟨r7,hr7,hm⟩:=bo hm
       refine RK hnt (nn 7 (pT::nn 2 (pT::nn 6 (pT::nn 6 (pT::nn 5 (o22 [] true r7 :: .no::pT :: .no :: [])))))) [(4,pB (decide (r7≥0)))] [] (an4 h2 (an2 h3 (an6 h4 (an6 h5 (an5 h6 (an (Tb p0.tree p1.group r7 hr7) (an2 h6 tv))))))) ?_
       exact jD (decide (r7≥0)) hm .refl
      ·replace hm:=Bs h6 hm
       refine RK hnt (nn 7 (pT::nn 2 (pT::nn 6 (pT::nn 6 (pT :: .no::sk 6 (pF :: .no :: [])))))) [(4,pB false)] [] (an4 h2 (an2 h3 (an6 h4 (an6 h5 (an h6 (an6 h6 tv)))))) ?_
       exact jD false hm .refl
     ·replace hm:=Bs h5 hm
      refine RK hnt (nn 7 (pT::nn 2 (pT::nn 6 (pT :: .no::sk 5 (pF :: .no::sk 6 (pF :: .no :: [])))))) [(4,pB false)] [] (an4 h2 (an2 h3 (an6 h4 (an6 h5 (an ff (an6 ff tv)))))) ?_
      exact jD false hm .refl
    ·replace hm:=Bs h4 hm
     refine RK hnt (nn 7 (pT::nn 2 (pT :: .no::sk 5 (pF :: .no::sk 5 (pF :: .no::sk 6 (pF :: .no :: [])))))) [(4,pB false)] [] (an4 h2 (an2 h3 (an6 h4 (an ff (an6 ff (an6 ff tv)))))) ?_
     exact jD false hm .refl
   ·replace hm:=Bs h3 hm
    refine RK hnt (nn 7 (pT :: .no :: .skip::pF :: .no::sk 5 (pF :: .no::sk 5 (pF :: .no::sk 6 (pF :: .no :: []))))) [(4,pB false)] [] (an4 h2 (an2 h3 (an ff (an6 ff (an6 ff (an6 ff tv)))))) ?_
    exact jD false hm .refl
  ·replace hm:=Bs h2 hm
   refine RK hnt (nn 4 (sk 3 (pF :: .no :: .skip::pF :: .no::sk 5 (pF :: .no::sk 5 (pF :: .no::sk 6 (pF :: .no :: [])))))) [(4,pB false)] [] (an4 h2 (an3 ff (an6 ff (an6 ff (an6 ff tv))))) ?_
   exact jD false hm .refl
abbrev o17 (ks:List Nat) (b:Bool) (RES:Bool) (sm:List Nat := []):Orc := .call 76 ks b (pB RES) [] [] sm

theorem Dp (p0:Ac) (RES:Bool) (hm:Li p0=some RES):Spec Tryz.prog 28 [.p (.agg (Ab p0))] [] (pB RES) [] []:=by
 unfold Li at hm
 refine SO Tryz.func28 rfl rfl [(0,.p (.agg (Ab p0)))] [] ?_
 intro cx hnt
 refine Sq (RK hnt (nn 2 []) [(1,rr 1008)] [(1008,bx (pm (Ab p0)))] tv ?_)
 refine Sq (Sq ?_)
 refine Jn (ι:=Bool) (fun (y1:Bool)=>Af [(1,rr 1008),(20,pB y1)] [(1008,bx (pm (Ab p0)))]) (fun y1=>(Nk p0) y1=some RES) ?_ ?_
 ·intro y1 hm
  unfold Nk at hm
  refine Ak hm ?_ ?_
  ·intro h4 hm
   refine Sq (RK hnt (.no :: []) [(2,pB false)] [] tv ?_)
   obtain rfl:=sj hm
   exact DW.ret (Aj [] [] (pB false))
  ·intro h4 hm
   refine Sk ?_
   refine Sq (RD hnt (.no :: []) [20] [(3,pI 0)] [] [] tv ?_)
   refine Sq (Sq (RD hnt (nn 4 []) [] [(22,.p (Dn p0.tasks)),(23,pI ((p0.tasks.length:Nat):Int)),(24,pI 0)] [] [] tv ?_))
   refine Bk ?_
   obtain ⟨hc1,hm⟩:=go1 hm
   refine DW.rangeO (fun (k1:Nat) (s1:Int)=>Af [(1,rr 1008),(3,pI s1),(22,.p (Dn p0.tasks)),(23,pI ((p0.tasks.length:Nat):Int)),(24,pI ((k1:Nat):Int))] [(1008,bx (pm (Ab p0)))]) Bo hm Conv.eqK ?_
   intro k1 s1 n1 hk1 hs1 he1
   refine Sq (RD hnt (.no :: []) [] [(25,pB (decide (((k1:Nat):Int)<((p0.tasks.length:Nat):Int))))] [] [] tv ?_)
   refine Sq (Bu (decide (((k1:Nat):Int)<((p0.tasks.length:Nat):Int))) ?_ ?_)
   ·intro h15
    have hlt1:k1<p0.tasks.length:=by have:=of_decide_eq_true h15; omega
    have hm:=hs1 hlt1
    unfold AbD at hm
    refine Sk ?_
    refine Sq (Bk ?_)
    refine Sq (RD hnt (nn 4 []) [25] [(5,rr 1040)] [] [(1040,bx (pm (Bd (p0.tasks.getD k1 Bo))))] (an (nn0 k1) (an (ltc hlt1) tv)) ?_)
    refine Sq (Sq ?_)
    refine Jn (ι:=Bool) (fun (y4:Bool)=>Af [(1,rr 1008),(5,rr 1040),(22,.p (Dn p0.tasks)),(23,pI ((p0.tasks.length:Nat):Int)),(24,pI ((k1:Nat):Int)),(37,pB y4)] [(1008,bx (pm (Ab p0))),(1040,bx (pm (Bd (p0.tasks.getD k1 Bo))))]) (fun y4=>(Rl (p0.tasks.getD k1 Bo) n1) y4=some RES) ?_ ?_
    ·intro y4 hm
     unfold Rl at hm
     refine Ak hm ?_ ?_
     ·intro h18 hm
      refine Sq (RK hnt (.no :: []) [(2,pB false)] [] tv ?_)
      obtain rfl:=sj hm
      exact DW.ret (Aj [] [] (pB false))
     ·intro h18 hm
      refine Sk ?_
      refine RD hnt (nn 3 []) [5,37] [(3,pI (p0.tasks.getD k1 Bo).id)] [1040] [] tv ?_
      refine DW.done ?_
      show DW _ _ _ _ _
      refine RD hnt (nn 2 []) [] [(24,pI (w64 (((k1:Nat):Int)+1)))] [] [] tv ?_
      exact jD (p0.tasks.getD k1 Bo).id ⟨hlt1,hm⟩ (Conv.tp [(24,pI (w64 (((k1:Nat):Int)+1)))] [] (by kernel_rfl) (.cons rfl (.of_eq (congrArg pI (Bb hlt1 hc1))) .nil) .nil)
    ·rcases bt (decide ((p0.tasks.getD k1 Bo).id≤s1)) with h16|h16
     ·replace hm:=Bt h16 hm
      refine RD hnt (nn 5 (sk 4 (pT :: []))) [3] [(37,pB true)] [] [] (an5 h16 tv) ?_
      exact jD true hm Conv.eqK
     ·replace hm:=Bs h16 hm
      obtain ⟨r17,hr17,hm⟩:=bo hm
      refine RD hnt (nn 7 (o17 [] true r17 :: .no::pF :: [])) [3] [(37,pB (!r17))] [] [] (an3 h16 (an (Aga p0 (p0.tasks.getD k1 Bo) r17 hr17) (an2 h16 tv))) ?_
      exact jD (!r17) hm Conv.eqK
   ·intro h15
    have hge1:¬ k1<p0.tasks.length:=by have:=of_decide_eq_false h15; omega
    have hm:=he1 hge1
    unfold Abu at hm
    refine DW.exit ?_
    refine Ai ?_
    refine Ap ?_
    refine Ae ?_
    show DW _ _ _ _ _
    refine Sq (RK hnt (nn 5 []) [(2,pB (decide (p0.next>s1)))] [] tv ?_)
    obtain rfl:=sj hm
    exact DW.ret (Aj [] [] (pB (decide (p0.next>s1))))
 ·rcases bt (decide (((p0.tasks.length:Nat):Int)>128)) with h1|h1
  ·replace hm:=Bt h1 hm
   refine RD hnt (nn 5 (sk 3 (pT :: .no::sk 4 (pT :: [])))) [] [(20,pB true)] [] [] (an4 h1 (an5 tt tv)) ?_
   exact jD true hm Conv.eqK
  ·replace hm:=Bs h1 hm
   rcases bt (decide (p0.next>2147483648)) with h2|h2
   ·replace hm:=Bt h2 hm
    refine RD hnt (nn 8 (pF :: .no::sk 4 (pT :: []))) [] [(20,pB true)] [] [] (an4 h1 (an5 h2 tv)) ?_
    exact jD true hm Conv.eqK
   ·replace hm:=Bs h2 hm
    obtain ⟨r3,hr3,hm⟩:=bo hm
    refine RD hnt (nn 8 (pF::nn 3 (o12 [] true r3 :: .no::pF :: []))) [] [(20,pB (!r3))] [] [] (an4 h1 (an3 h2 (an (Rk p0.tree r3 hr3) (an2 h2 tv)))) ?_
    exact jD (!r3) hm Conv.eqK
abbrev o11 (ks:List Nat) (b:Bool) (RES:Bool) (sm:List Nat := []):Orc := .call 28 ks b (pB RES) [] [] sm

theorem Mp (p0:Cd) (p1:Int) (RES:Bz×Bool) (hm:Mw p0 p1=some RES):Spec Tryz.prog 155 [.p (.agg (Bl p0)),pI p1] [] (.p (.tup [.agg (Ax RES.1),vb RES.2])) [] []:=by
 unfold Mw at hm
 refine SO Tryz.func155 rfl rfl [(0,.p (.agg (Bl p0))),(1,pI p1)] [] ?_
 intro cx hnt
 refine Sq (RK hnt (nn 3 []) [(1,pI p1),(2,rr 1016),(4,rr 1032)] [(1016,bx (pm (Bl p0))),(1032,bx [pI 0,pI 0,pS ByteArray.empty,pI 0,pI 0,pI 0])] tv ?_)
 obtain ⟨r1,hr1,hm⟩:=bo hm
 refine Sq (RD hnt (nn 2 (o22 [] true r1 :: .no :: [])) [1] [(6,pI r1)] [] [] (an (Tb p0 p1 r1 hr1) tv) ?_)
 refine Sq (Sq (RD hnt (nn 2 []) [] [(11,pB (decide (r1<0)))] [] [] tv ?_))
 refine Ak hm ?_ ?_
 ·intro h2 hm
  refine Sq (RD hnt (nn 3 []) [2,6,11] [(5,pB false)] [1016] [] tv ?_)
  obtain rfl:=sj hm
  exact DW.ret (Aj [] [] (.p (.tup [.agg [vi 0,vi 0,vs ByteArray.empty,vi 0,vi 0,vi 0],vb false])))
 ·intro h2 hm
  refine Sk ?_
  obtain ⟨g3,hm⟩:=go1 hm
  refine Sq (RK hnt (nn 7 []) [(4,rr 1032),(5,pB true)] [(1032,bx (pm (Ax (p0.nodes.getD (Int.toNat r1) Ay))))] (an g3.1 (an g3.2 tv)) ?_)
  obtain rfl:=sj hm
  exact DW.ret (Aj [] [] (.p (.tup [.agg (Ax (p0.nodes.getD (Int.toNat r1) Ay)),vb true])))
abbrev o26 (ks:List Nat) (b:Bool) (RES:Bz×Bool) (sm:List Nat := []):Orc := .call 155 ks b (.p (.tup [.agg (Ax RES.1),vb RES.2])) [] [] sm

theorem Afa (p0:Cd) (p1:Bz) (RES:Int) (hm:Zj p0 p1=some RES):Spec Tryz.prog 154 [.p (.agg (Bl p0)),.p (.agg (Ax p1))] [] (pI RES) [] []:=by
 unfold Zj at hm
 refine SO Tryz.func154 rfl rfl [(0,.p (.agg (Bl p0))),(1,.p (.agg (Ax p1)))] [] ?_
 intro cx hnt
 refine Sq (RK hnt (nn 3 []) [(2,rr 1016),(3,rr 1024)] [(1016,bx (pm (Bl p0))),(1024,bx (pm (Ax p1)))] tv ?_)
 refine Sq (RD hnt (.no :: []) [] [(5,pI 31)] [] [] tv ?_)
 refine Sq (Sq (RD hnt (nn 3 []) [] [(10,pB (p1.id != 1))] [] [] tv ?_))
 refine Jn (ι:=Int) (fun (y1:Int)=>Af [(3,rr 1024),(5,pI y1)] [(1024,bx (pm (Ax p1)))]) (fun y1=>(Rq p1) y1=some RES) ?_ ?_
 ·intro y1 hm
  unfold Rq at hm
  refine Sq (Sq (RK hnt (nn 3 []) [(5,pI y1),(22,pB (p1.kind==1))] [] tv ?_))
  refine Jn (ι:=Int) (fun (y2:Int)=>Af [(5,pI y2)] []) (fun y2=>Rm y2=some RES) ?_ ?_
  ·intro y2 hm
   unfold Rm at hm
   refine Sq (RK hnt (nn 2 []) [(4,pI y2)] [] tv ?_)
   obtain rfl:=sj hm
   exact DW.ret (Aj [] [] (pI y2))
  ·refine Ak hm ?_ ?_
   ·intro h3 hm
    refine RK hnt (nn 3 []) [(5,pI (Vn .i64 y1 6))] [] tv ?_
    exact jD (Vn .i64 y1 6) hm .refl
   ·intro h3 hm
    refine Sk ?_
    exact jD y1 hm Conv.t0
 ·refine Ak hm ?_ ?_
  ·intro h1 hm
   obtain ⟨r2,hr2,hm⟩:=bo hm
   refine Sq (RD hnt (nn 3 (o26 [] true r2::nn 6 [])) [2,5,10] [(6,rr 1048)] [1016] [(1048,bx (pm (Ax r2.1)))] (an (Mp p0 p1.parent r2 hr2) tv) ?_)
   refine RD hnt (nn 3 []) [6] [(5,pI r2.1.control)] [1048] [] tv ?_
   exact jD r2.1.control hm Conv.eqK
  ·intro h1 hm
   refine Sk ?_
   exact jD 31 hm Conv.t0
abbrev o25 (ks:List Nat) (b:Bool) (RES:Int) (sm:List Nat := []):Orc := .call 154 ks b (pI RES) [] [] sm

theorem Afb (p0:Cf) (p1:Int) (RES:Bool) (hm:Zw p0 p1=some RES):Spec Tryz.prog 171 [.p (.agg (Bd p0)),rr 0] [.box [pI p1]] (pB RES) [.box [pI p1]] []:=by
 unfold Zw at hm
 refine SO Tryz.func171 rfl rfl [(0,.p (.agg (Bd p0))),(1,rr 0)] [(0,bx [pI p1])] ?_
 intro cx hnt
 refine Sq (RD hnt (nn 2 []) [0] [(2,rr 1016)] [] [(1016,bx (pm (Bd p0)))] tv ?_)
 refine Sq (RK hnt (nn 5 []) [(3,pB (p0.group==p1))] [(0,bx [pI p1])] tv ?_)
 obtain rfl:=sj hm
 exact DW.ret (Aj [.box [pI p1]] [] (pB (p0.group==p1)))

theorem AhY (p0:Cf) (RES:Int) (hm:Agq p0=some RES):Spec Tryz.prog 172 [.p (.agg (Bd p0))] [] (pI RES) [] []:=by
 unfold Agq at hm
 refine SO Tryz.func172 rfl rfl [(0,.p (.agg (Bd p0)))] [] ?_
 intro cx hnt
 refine Sq (RK hnt (nn 2 []) [(1,rr 1008)] [(1008,bx (pm (Bd p0)))] tv ?_)
 refine Sq (RK hnt (nn 3 []) [(2,pI p0.id)] [] tv ?_)
 obtain rfl:=sj hm
 exact DW.ret (Aj [] [] (pI p0.id))
abbrev o30 (ks:List Nat) (b:Bool) (RES:Int) (sm:List Nat := []):Orc := .call 172 ks b (pI RES) [] [] sm

abbrev c33e1 (y3:Int×Int):=(w64 (y3.2+(w64 (((Ms (bs [0,1,2,2,3,3,3,3,4,4,4,4,4,4,4,4,5,5,5,5,5,5,5,5,5,5,5,5,5,5,5,5,6,6,6,6,6,6,6,6,6,6,6,6,6,6,6,6,6,6,6,6,6,6,6,6,6,6,6,6,6,6,6,6,7,7,7,7,7,7,7,7,7,7,7,7,7,7,7,7,7,7,7,7,7,7,7,7,7,7,7,7,7,7,7,7,7,7,7,7,7,7,7,7,7,7,7,7,7,7,7,7,7,7,7,7,7,7,7,7,7,7,7,7,7,7,7,7,8,8,8,8,8,8,8,8,8,8,8,8,8,8,8,8,8,8,8,8,8,8,8,8,8,8,8,8,8,8,8,8,8,8,8,8,8,8,8,8,8,8,8,8,8,8,8,8,8,8,8,8,8,8,8,8,8,8,8,8,8,8,8,8,8,8,8,8,8,8,8,8,8,8,8,8,8,8,8,8,8,8,8,8,8,8,8,8,8,8,8,8,8,8,8,8,8,8,8,8,8,8,8,8,8,8,8,8,8,8,8,8,8,8,8,8,8,8,8,8,8,8,8,8,8,8,8,8]) (Int.toNat (IntKind.u8.wrap y3.1))):Nat):Int))))
theorem Agx (p0:Int) (RES:Int) (hm:Acl p0=some RES):Spec Tryz.prog 251 [.p (vk .u64 p0)] [] (pI RES) [] []:=by
 unfold Acl at hm
 refine SO Tryz.func251 rfl rfl [(0,.p (vk .u64 p0))] [] ?_
 intro cx hnt
 refine Sq (RD hnt (.no :: []) [] [(2,pI 0)] [] [] tv ?_)
 refine Sq (Sq (RD hnt (nn 2 []) [] [(4,pB (decide (p0≥4294967296)))] [] [] tv ?_))
 refine Jn (ι:=Int×Int) (fun (y1:Int×Int)=>Af [(0,.p (vk .u64 y1.1)),(2,pI y1.2)] []) (fun y1=>Um y1=some RES) ?_ ?_
 ·intro y1 hm
  unfold Um at hm
  refine Sq (Sq (RD hnt (nn 2 []) [] [(8,pB (decide (y1.1≥65536)))] [] [] tv ?_))
  refine Jn (ι:=Int×Int) (fun (y2:Int×Int)=>Af [(0,.p (vk .u64 y2.1)),(2,pI y2.2)] []) (fun y2=>Ue y2=some RES) ?_ ?_
  ·intro y2 hm
   unfold Ue at hm
   refine Sq (Sq (RD hnt (nn 2 []) [] [(14,pB (decide (y2.1≥256)))] [] [] tv ?_))
   refine Jn (ι:=Int×Int) (fun (y3:Int×Int)=>Af [(0,.p (vk .u64 y3.1)),(2,pI y3.2)] []) (fun y3=>Uk y3=some RES) ?_ ?_
   ·intro y3 hm
    unfold Uk at hm
    obtain ⟨g4,hm⟩:=go1 hm
    refine Sq (RK hnt (nn 7 []) [(2,pI (c33e1 y3))] [] (an g4.1 (an g4.2 tv)) ?_)
    obtain rfl:=sj hm
    exact DW.ret (Aj [] [] (pI (c33e1 y3)))
   ·refine Ak hm ?_ ?_
    ·intro h3 hm
     refine Sq (RK hnt (nn 3 []) [(0,.p (vk .u64 (kshr .u64 y2.1 8))),(2,pI y2.2)] [] (an (by decide:(0:Int)≤8) tv) ?_)
     refine RD hnt (nn 3 []) [] [(2,pI (w64 (y2.2+8)))] [] [] tv ?_
     exact jD ((kshr .u64 y2.1 8),(w64 (y2.2+8))) hm Conv.eqK
    ·intro h3 hm
     refine Sk ?_
     exact jD (y2.1,y2.2) hm Conv.t0
  ·refine Ak hm ?_ ?_
   ·intro h2 hm
    refine Sq (RK hnt (nn 3 []) [(0,.p (vk .u64 (kshr .u64 y1.1 16))),(2,pI y1.2)] [] (an (by decide:(0:Int)≤16) tv) ?_)
    refine RD hnt (nn 3 []) [] [(2,pI (w64 (y1.2+16)))] [] [] tv ?_
    exact jD ((kshr .u64 y1.1 16),(w64 (y1.2+16))) hm Conv.eqK
   ·intro h2 hm
    refine Sk ?_
    exact jD (y1.1,y1.2) hm Conv.t0
 ·refine Ak hm ?_ ?_
  ·intro h1 hm
   refine Sq (RK hnt (nn 3 []) [(0,.p (vk .u64 (kshr .u64 p0 32)))] [] (an (by decide:(0:Int)≤32) tv) ?_)
   refine RD hnt (.no :: []) [] [(2,pI 32)] [] [] tv ?_
   exact jD ((kshr .u64 p0 32),32) hm Conv.eqK
  ·intro h1 hm
   refine Sk ?_
   exact jD (p0,0) hm Conv.t0
abbrev o33 (ks:List Nat) (b:Bool) (RES:Int) (sm:List Nat := []):Orc := .call 251 ks b (pI RES) [] [] sm

theorem AdM (p0:Int) (RES:Int) (hm:Acr p0=some RES):Spec Tryz.prog 174 [.p (vk .u64 p0)] [] (pI RES) [] []:=by
 unfold Acr at hm
 refine SO Tryz.func174 rfl rfl [(0,.p (vk .u64 p0))] [] ?_
 intro cx hnt
 refine Sq (RD hnt (.no :: []) [] [] [] [] tv ?_)
 refine Sq (Aeq ff ?_)
 refine Sk ?_
 obtain ⟨r1,hr1,hm⟩:=bo hm
 refine Sq (RK hnt (.no::o33 [] true r1 :: .no :: []) [(2,pI r1)] [] (an (Agx p0 r1 hr1) tv) ?_)
 obtain rfl:=sj hm
 exact DW.ret (Aj [] [] (pI r1))
abbrev o32 (ks:List Nat) (b:Bool) (RES:Int) (sm:List Nat := []):Orc := .call 174 ks b (pI RES) [] [] sm

theorem Fw (p0:Int) (RES:Bool) (hm:Ln p0=some RES):Spec Tryz.prog 178 [pI p0] [] (pB RES) [] []:=by
 unfold Ln at hm
 refine SO Tryz.func178 rfl rfl [(0,pI p0)] [] ?_
 intro cx hnt
 refine Sq (RK hnt (.no :: []) [(0,pI p0)] [] tv ?_)
 refine Sq (RK hnt (nn 4 []) [(2,pB (p0 != p0))] [] tv ?_)
 obtain rfl:=sj hm
 exact DW.ret (Aj [] [] (pB (p0 != p0)))
abbrev o37 (ks:List Nat) (b:Bool) (RES:Bool) (sm:List Nat := []):Orc := .call 178 ks b (pB RES) [] [] sm

theorem Co (p0:Int) (p1:Int) (RES:Bool) (hm:De p0 p1=some RES):Spec Tryz.prog 247 [pI p0,pI p1] [] (pB RES) [] []:=by
 unfold De at hm
 refine SO Tryz.func247 rfl rfl [(0,pI p0),(1,pI p1)] [] ?_
 intro cx hnt
 refine Sq (RD hnt (.no :: []) [] [] [] [] tv ?_)
 obtain ⟨r1,hr1,hm⟩:=bo hm
 refine Sq ?_
 refine Jn (ι:=Bool) (fun (y1:Bool)=>Af [(4,pB y1)] []) (fun y1=>Nu y1=some RES) ?_ ?_
 ·intro y1 hm
  unfold Nu at hm
  obtain rfl:=sj hm
  exact DW.ret (Aj [] [] (pB y1))
 ·rcases bt r1 with h2|h2
  ·replace hm:=Bt h2 hm
   obtain ⟨r3,hr3,hm⟩:=bo hm
   rcases bt (!r3) with h4|h4
   ·replace hm:=Bt h4 hm
    refine RK hnt (.no::o37 [] true r1::nn 2 (o37 [] true r3 :: .no::pT :: .no::sk 3 (pT :: .no :: []))) [(4,pB true)] [] (an (Fw p0 r1 hr1) (an2 h2 (an (Fw p1 r3 hr3) (an2 h2 (an4 h4 tv))))) ?_
    exact jD true hm .refl
   ·replace hm:=Bs h4 hm
    refine RK hnt (.no::o37 [] true r1::nn 2 (o37 [] true r3 :: .no::pT::nn 4 (pF :: .no :: []))) [(4,pB (decide (p0<p1)))] [] (an (Fw p0 r1 hr1) (an2 h2 (an (Fw p1 r3 hr3) (an2 h2 (an4 h4 tv))))) ?_
    exact jD (decide (p0<p1)) hm .refl
  ·replace hm:=Bs h2 hm
   refine RK hnt (.no::o37 [] true r1 :: .no::sk 3 (pF::nn 4 (pF :: .no :: []))) [(4,pB (decide (p0<p1)))] [] (an (Fw p0 r1 hr1) (an4 h2 (an4 ff tv))) ?_
   exact jD (decide (p0<p1)) hm .refl
abbrev o36 (ks:List Nat) (b:Bool) (RES:Bool) (sm:List Nat := []):Orc := .call 247 ks b (pB RES) [] [] sm

abbrev Aen (s4:(List Int)×Int):=(s4.1.getD (Int.toNat (w64 (s4.2-1))) 0)
abbrev c35e2 (s4:(List Int)×Int):=(Az (Az (elI s4.1) (Int.toNat s4.2) [vi (Aen s4)]) (Int.toNat (w64 (s4.2-1))) (setRange ((Az (elI s4.1) (Int.toNat s4.2) [vi (Aen s4)]) (Int.toNat (w64 (s4.2-1)))) 0 [vi (s4.1.getD (Int.toNat s4.2) 0)]))
abbrev c35e3 (s4:(List Int)×Int):=((s4.1.set (Int.toNat s4.2) (Aen s4)).set (Int.toNat (w64 (s4.2-1))) (s4.1.getD (Int.toNat s4.2) 0))
theorem Ru (p0:List Int) (p1:Int) (p2:Int) (RES:List Int) (hm:Ha p0 p1 p2=some RES):Spec Tryz.prog 241 [ow 0 p0.length,pI p1,pI p2] [roI p0] (.p (.tup [])) [roI RES] []:=by
 unfold Ha at hm
 refine SO Tryz.func241 rfl rfl [(0,ow 0 p0.length),(1,pI p1),(2,pI p2)] [(0,ob0 (roI p0))] ?_
 intro cx hnt
 refine Sq (RD hnt (nn 3 []) [] [(6,pI (w64 (p1+1)))] [] [] tv ?_)
 refine Bk ?_
 obtain ⟨hc1,hm⟩:=go1 hm
 refine DW.forO (fun (k1:Int) (s1:List Int)=>Af [(0,ow 0 s1.length),(1,pI p1),(2,pI p2),(6,pI k1)] [(0,ob0 (roI s1))]) (lo:=(w64 (p1+1))) (hi:=p2) hm Conv.eqK ?_
 intro k1 s1 n1 hk1 hs1 he1
 refine Sq (Sq (RD hnt (nn 3 []) [] [(12,pB (decide (k1<p2)))] [] [] tv ?_))
 refine Bu (decide (k1<p2)) ?_ ?_
 ·intro h75
  have hlt1:k1<p2:=by have:=of_decide_eq_true h75; omega
  have hm:=hs1 hlt1
  unfold Kq at hm
  refine Sk ?_
  refine Sq (Bk ?_)
  refine Sq (RD hnt (nn 2 []) [12] [(7,pI k1)] [] [] tv ?_)
  refine Bk ?_
  refine DW.whileO (fun (s4:(List Int)×Int)=>Af [(0,ow 0 s4.1.length),(1,pI p1),(2,pI p2),(6,pI k1),(7,pI s4.2)] [(0,ob0 (roI s4.1))]) hm Conv.eqK ?_
  intro s4 n4 hm
  unfold Kp at hm
  refine Sq (Sq ?_)
  refine Jn (ι:=Bool) (fun (y6:Bool)=>Af [(0,ow 0 s4.1.length),(1,pI p1),(2,pI p2),(6,pI k1),(7,pI s4.2),(30,pB y6)] [(0,ob0 (roI s4.1))]) (fun y6=>(Dz n1 s4 n4) y6=some RES) ?_ ?_
  ·intro y6 hm
   unfold Dz at hm
   refine Ak hm ?_ ?_
   ·intro h97 hm
    refine Sk ?_
    refine Sq (Bk ?_)
    obtain ⟨g98,g99,g100,g101,hm⟩:=go4 hm
    obtain ⟨g102,g103,g104,g105,hm⟩:=go4 hm
    refine RN hnt (nn 18 []) [(0,ow 0 (c35e3 s4).length),(1,pI p1),(2,pI p2),(6,pI k1),(7,pI s4.2)] [(0,ob0 (roI (c35e3 s4)))] [(0,ow 0 s4.1.length)] [(0,.row 1 s4.1.length (c35e2 s4))] (an g98.1 (an g98.2 (an g99 (an g100.1 (an g100.2 (an g101 (an g102.1 (an g102.2 (an g103 (an g104.1 (an g104.2 (an g105 tv)))))))))))) (by kernel_rfl) (.cons rfl (MLe.ownLen (enc:=Bm) (d:=0) (f:=(c35e2 s4)) (RowIs.updR (RowIs.upd RowIs.elems (Aen s4) rfl) (by omega) (s4.1.getD (Int.toNat s4.2) 0) rfl)) .nil) (.cons rfl (BLe.typed (RowIs.updR (RowIs.upd RowIs.elems (Aen s4) rfl) (by omega) (s4.1.getD (Int.toNat s4.2) 0) rfl)) .nil) ?_
    refine DW.done ?_
    show DW _ _ _ _ _
    refine RD hnt (nn 3 []) [] [(7,pI (w64 (s4.2-1)))] [] [] tv ?_
    exact jD ((c35e3 s4),(w64 (s4.2-1))) hm Conv.eqK
   ·intro h97 hm
    refine DW.exit ?_
    refine Ai ?_
    refine Ap ?_
    refine Ae ?_
    show DW _ _ _ _ _
    refine DW.done ?_
    show DW _ _ _ _ _
    refine RD hnt (nn 3 []) [7,30] [(6,pI (w64 (k1+1)))] [] [] tv ?_
    exact jD s4.1 ⟨hlt1,hm⟩ (Conv.tp [(6,pI (w64 (k1+1)))] [] (by kernel_rfl) (.cons rfl (.of_eq (congrArg pI (Pr (lo:=(w64 (p1+1))) (hi:=p2) (by omega) hk1 hlt1 (by omega)))) .nil) .nil)
  ·rcases bt (decide (s4.2>p1)) with h91|h91
   ·replace hm:=Bt h91 hm
    obtain ⟨g92,g93,g94,g95,hm⟩:=go4 hm
    obtain ⟨r96,hr96,hm⟩:=bo hm
    refine RD hnt (nn 13 (o36 [] true r96::pT :: [])) [] [(30,pB r96)] [] [] (an3 h91 (an g92.1 (an g92.2 (an h91 (an g93 (an4 h91 (an g94.1 (an g94.2 (an h91 (an g95 (an h91 (an (Co (s4.1.getD (Int.toNat s4.2) 0) (Aen s4) r96 hr96) (an h91 tv))))))))))))) ?_
    exact jD r96 hm Conv.eqK
   ·replace hm:=Bs h91 hm
    refine RD hnt (nn 4 (sk 10 (pF :: []))) [] [(30,pB false)] [] [] (an5 h91 (an6 h91 tv)) ?_
    exact jD false hm Conv.eqK
 ·intro h75
  have hge1:¬ k1<p2:=by have:=of_decide_eq_false h75; omega
  have hm:=he1 hge1
  unfold Kt at hm
  refine DW.exit ?_
  refine Ai ?_
  refine Ap ?_
  refine Ae ?_
  show DW _ _ _ _ _
  refine DW.done ?_
  obtain rfl:=sj hm
  exact endK [roI s1] [] (.p (.tup []))
abbrev o35 (ks:List Nat) (b:Bool) (RES:List Int) (sm:List Nat := []):Orc := .call 241 ks b (.p (.tup [])) [roI RES] [] sm

abbrev c39e1 (s1:(List Int)×Int) (p3:Int) (y4:Int):=(Az (Az (elI s1.1) (Int.toNat (w64 (p3+s1.2))) [vi (s1.1.getD (Int.toNat (w64 (p3+y4))) 0)]) (Int.toNat (w64 (p3+y4))) (setRange ((Az (elI s1.1) (Int.toNat (w64 (p3+s1.2))) [vi (s1.1.getD (Int.toNat (w64 (p3+y4))) 0)]) (Int.toNat (w64 (p3+y4)))) 0 [vi (s1.1.getD (Int.toNat (w64 (p3+s1.2))) 0)]))
abbrev c39e2 (s1:(List Int)×Int) (p3:Int) (y4:Int):=((s1.1.set (Int.toNat (w64 (p3+s1.2))) (s1.1.getD (Int.toNat (w64 (p3+y4))) 0)).set (Int.toNat (w64 (p3+y4))) (s1.1.getD (Int.toNat (w64 (p3+s1.2))) 0))
abbrev Ys (s1:(List Int)×Int):=(w64 ((w64 (2*s1.2))+1))
theorem Mn (p0:List Int) (p1:Int) (p2:Int) (p3:Int) (RES:List Int) (hm:Gj p0 p1 p2 p3=some RES):Spec Tryz.prog 296 [ow 0 p0.length,pI p1,pI p2,pI p3] [roI p0] (.p (.tup [])) [roI RES] []:=by
 unfold Gj at hm
 refine SO Tryz.func296 rfl rfl [(0,ow 0 p0.length),(1,pI p1),(2,pI p2),(3,pI p3)] [(0,ob0 (roI p0))] ?_
 intro cx hnt
 refine Sq (RD hnt (nn 2 []) [1] [(8,pI p1)] [] [] tv ?_)
 refine Bk ?_
 refine DW.whileO (fun (s1:(List Int)×Int)=>Af [(0,ow 0 s1.1.length),(2,pI p2),(3,pI p3),(8,pI s1.2)] [(0,ob0 (roI s1.1))]) hm Conv.eqK ?_
 intro s1 n1 hm
 unfold Nl at hm
 refine Bk ?_
 refine Sq (RD hnt (nn 4 []) [] [(9,pI (Ys s1))] [] [] tv ?_)
 refine Sq (Sq (RD hnt (nn 3 []) [] [(16,pB (decide ((Ys s1)≥p2)))] [] [] tv ?_))
 refine Ak hm ?_ ?_
 ·intro h23 hm
  refine DW.exit ?_
  refine Gh (by decide) ?_
  refine Ap ?_
  refine Ai ?_
  refine Ap ?_
  refine Ae ?_
  show DW _ _ _ _ _
  refine DW.done ?_
  obtain rfl:=sj hm
  exact endK [roI s1.1] [] (.p (.tup []))
 ·intro h23 hm
  refine Sk ?_
  refine Sq (Sq ?_)
  refine Jn (ι:=Bool) (fun (y3:Bool)=>Af [(0,ow 0 s1.1.length),(2,pI p2),(3,pI p3),(8,pI s1.2),(9,pI (Ys s1)),(36,pB y3)] [(0,ob0 (roI s1.1))]) (fun y3=>(Fj p3 s1 n1) y3=some RES) ?_ ?_
  ·intro y3 hm
   unfold Fj at hm
   refine Jn (ι:=Int) (fun (y4:Int)=>Af [(0,ow 0 s1.1.length),(2,pI p2),(3,pI p3),(8,pI s1.2),(9,pI y4)] [(0,ob0 (roI s1.1))]) (fun y4=>(Fm p3 s1 n1) y4=some RES) ?_ ?_
   ·intro y4 hm
    unfold Fm at hm
    obtain ⟨g31,g32,g33,g34,hm⟩:=go4 hm
    obtain ⟨r35,hr35,hm⟩:=bo hm
    refine Sq (Sq (RD hnt (nn 12 (o36 [] true r35 :: .no :: [])) [] [(52,pB (!r35))] [] [] (an g31.1 (an g31.2 (an g32 (an g33.1 (an g33.2 (an g34 (an (Co (s1.1.getD (Int.toNat (w64 (p3+s1.2))) 0) (s1.1.getD (Int.toNat (w64 (p3+y4))) 0) r35 hr35) tv))))))) ?_))
    refine Ak hm ?_ ?_
    ·intro h36 hm
     obtain rfl:=sj hm
     exact DW.ret (Aj [roI s1.1] [] (.p (.tup [])))
    ·intro h36 hm
     refine Sk ?_
     obtain ⟨g37,g38,g39,g40,hm⟩:=go4 hm
     obtain ⟨g41,g42,g43,g44,hm⟩:=go4 hm
     refine Sq (RN hnt (nn 24 []) [(0,ow 0 (c39e2 s1 p3 y4).length),(2,pI p2),(3,pI p3),(9,pI y4)] [(0,ob0 (roI (c39e2 s1 p3 y4)))] [(0,ow 0 s1.1.length)] [(0,.row 1 s1.1.length (c39e1 s1 p3 y4))] (an g37.1 (an g37.2 (an g38 (an g39.1 (an g39.2 (an g40 (an g41.1 (an g41.2 (an g42 (an g43.1 (an g43.2 (an g44 tv)))))))))))) (by kernel_rfl) (.cons rfl (MLe.ownLen (enc:=Bm) (d:=0) (f:=(c39e1 s1 p3 y4)) (RowIs.updR (RowIs.upd RowIs.elems (s1.1.getD (Int.toNat (w64 (p3+y4))) 0) rfl) (by omega) (s1.1.getD (Int.toNat (w64 (p3+s1.2))) 0) rfl)) .nil) (.cons rfl (BLe.typed (RowIs.updR (RowIs.upd RowIs.elems (s1.1.getD (Int.toNat (w64 (p3+y4))) 0) rfl) (by omega) (s1.1.getD (Int.toNat (w64 (p3+s1.2))) 0) rfl)) .nil) ?_)
     refine RD hnt (nn 2 []) [9] [(8,pI y4)] [] [] tv ?_
     refine DW.done ?_
     show DW _ _ _ _ _
     exact jD ((c39e2 s1 p3 y4),y4) hm Conv.eqK
   ·refine Ak hm ?_ ?_
    ·intro h30 hm
     refine RD hnt (nn 3 []) [36] [(9,pI (w64 ((Ys s1)+1)))] [] [] tv ?_
     exact jD (w64 ((Ys s1)+1)) hm Conv.eqK
    ·intro h30 hm
     refine Sk ?_
     exact jD (Ys s1) hm Conv.t0
  ·rcases bt (decide ((w64 ((Ys s1)+1))<p2)) with h24|h24
   ·replace hm:=Bt h24 hm
    obtain ⟨g25,g26,g27,g28,hm⟩:=go4 hm
    obtain ⟨r29,hr29,hm⟩:=bo hm
    refine RD hnt (nn 18 (o36 [] true r29::pT :: [])) [16] [(36,pB r29)] [] [] (an5 h24 (an g25.1 (an g25.2 (an h24 (an g26 (an6 h24 (an g27.1 (an g27.2 (an h24 (an g28 (an h24 (an (Co (s1.1.getD (Int.toNat (w64 (p3+(Ys s1)))) 0) (s1.1.getD (Int.toNat (w64 ((w64 (p3+(Ys s1)))+1))) 0) r29 hr29) (an h24 tv))))))))))))) ?_
    exact jD r29 hm Conv.eqK
   ·replace hm:=Bs h24 hm
    refine RD hnt (nn 5 (sk 14 (pF :: []))) [16] [(36,pB false)] [] [] (an3 h24 (an6 h24 (an6 h24 tv))) ?_
    exact jD false hm Conv.eqK
abbrev o39 (ks:List Nat) (b:Bool) (RES:List Int) (sm:List Nat := []):Orc := .call 296 ks b (.p (.tup [])) [roI RES] [] sm

abbrev c38e1 (s3:(List Int)×Int) (p1:Int):=((s3.1.set (Int.toNat p1) (s3.1.getD (Int.toNat (w64 (p1+s3.2))) 0)).set (Int.toNat (w64 (p1+s3.2))) (s3.1.getD (Int.toNat p1) 0))
abbrev c38e2 (s3:(List Int)×Int) (p1:Int):=(Az (Az (elI s3.1) (Int.toNat p1) [vi (s3.1.getD (Int.toNat (w64 (p1+s3.2))) 0)]) (Int.toNat (w64 (p1+s3.2))) (setRange ((Az (elI s3.1) (Int.toNat p1) [vi (s3.1.getD (Int.toNat (w64 (p1+s3.2))) 0)]) (Int.toNat (w64 (p1+s3.2)))) 0 [vi (s3.1.getD (Int.toNat p1) 0)]))
theorem Vc (p0:List Int) (p1:Int) (p2:Int) (RES:List Int) (hm:Js p0 p1 p2=some RES):Spec Tryz.prog 242 [ow 0 p0.length,pI p1,pI p2] [roI p0] (.p (.tup [])) [roI RES] []:=by
 unfold Js at hm
 refine SO Tryz.func242 rfl rfl [(0,ow 0 p0.length),(1,pI p1),(2,pI p2)] [(0,ob0 (roI p0))] ?_
 intro cx hnt
 refine Sq (RD hnt (nn 2 []) [] [(6,pI p1)] [] [] tv ?_)
 refine Sq (RD hnt (.no :: []) [] [(7,pI 0)] [] [] tv ?_)
 refine Sq (RD hnt (nn 4 []) [1,2] [(8,pI (w64 (p2-p1)))] [] [] tv ?_)
 refine Sq (Sq (RD hnt (nn 4 []) [] [(9,pI (w64 (Int.tdiv (w64 ((w64 (p2-p1))-1)) 2)))] [] [] (an (by decide:(2:Int)≠0) tv) ?_))
 refine Bk ?_
 refine DW.whileO (fun (s1:(List Int)×Int)=>Af [(0,ow 0 s1.1.length),(6,pI p1),(7,pI 0),(8,pI (w64 (p2-p1))),(9,pI s1.2)] [(0,ob0 (roI s1.1))]) hm Conv.eqK ?_
 intro s1 n1 hm
 unfold Nv at hm
 refine Sq (Sq (RD hnt (nn 2 []) [] [(19,pB (decide (s1.2≥0)))] [] [] tv ?_))
 refine Ak hm ?_ ?_
 ·intro h26 hm
  refine Sk ?_
  refine Sq (Bk ?_)
  obtain ⟨r27,hr27,hm⟩:=bo hm
  obtain ⟨g28,hm⟩:=go1 hm
  refine RN hnt (nn 4 (o39 [0] true r27 :: [])) [(0,ow 0 r27.length),(6,pI p1),(7,pI 0),(8,pI (w64 (p2-p1))),(9,pI s1.2)] [(0,ob0 (roI r27))] [(0,ow 0 s1.1.length)] [] (an (Mn s1.1 s1.2 (w64 (p2-p1)) p1 r27 hr27) (an (⟨rfl,g28⟩:Body.same (roI s1.1) (roI r27)) tv)) (by kernel_rfl) (.cons rfl (MLe.of_eq (congrArg (MV.own 0 0 0) g28)) .nil) .nil ?_
  refine DW.done ?_
  show DW _ _ _ _ _
  refine RD hnt (nn 3 []) [] [(9,pI (w64 (s1.2-1)))] [] [] tv ?_
  exact jD (r27,(w64 (s1.2-1))) hm Conv.eqK
 ·intro h26 hm
  refine DW.exit ?_
  refine Ai ?_
  refine Ap ?_
  refine Ae ?_
  show DW _ _ _ _ _
  refine Sq (RD hnt (nn 3 []) [8,9,19] [(10,pI (w64 ((w64 (p2-p1))-1)))] [] [] tv ?_)
  refine Bk ?_
  refine DW.whileO (fun (s3:(List Int)×Int)=>Af [(0,ow 0 s3.1.length),(6,pI p1),(7,pI 0),(10,pI s3.2)] [(0,ob0 (roI s3.1))]) hm Conv.eqK ?_
  intro s3 n3 hm
  unfold Np at hm
  refine Sq (Sq (RD hnt (nn 2 []) [] [(30,pB (decide (s3.2≥0)))] [] [] tv ?_))
  refine Ak hm ?_ ?_
  ·intro h40 hm
   refine Sk ?_
   refine Sq (Bk ?_)
   obtain ⟨g41,g42,g43,g44,hm⟩:=go4 hm
   obtain ⟨g45,g46,g47,g48,hm⟩:=go4 hm
   refine Sq (RN hnt (nn 20 []) [(0,ow 0 (c38e1 s3 p1).length),(6,pI p1),(7,pI 0),(10,pI s3.2)] [(0,ob0 (roI (c38e1 s3 p1)))] [(0,ow 0 s3.1.length)] [(0,.row 1 s3.1.length (c38e2 s3 p1))] (an g41.1 (an g41.2 (an g42 (an g43.1 (an g43.2 (an g44 (an g45.1 (an g45.2 (an g46 (an g47.1 (an g47.2 (an g48 tv)))))))))))) (by kernel_rfl) (.cons rfl (MLe.ownLen (enc:=Bm) (d:=0) (f:=(c38e2 s3 p1)) (RowIs.updR (RowIs.upd RowIs.elems (s3.1.getD (Int.toNat (w64 (p1+s3.2))) 0) rfl) (by omega) (s3.1.getD (Int.toNat p1) 0) rfl)) .nil) (.cons rfl (BLe.typed (RowIs.updR (RowIs.upd RowIs.elems (s3.1.getD (Int.toNat (w64 (p1+s3.2))) 0) rfl) (by omega) (s3.1.getD (Int.toNat p1) 0) rfl)) .nil) ?_)
   obtain ⟨r49,hr49,hm⟩:=bo hm
   obtain ⟨g50,hm⟩:=go1 hm
   refine RN hnt (nn 4 (o39 [0] true r49 :: [])) [(0,ow 0 r49.length),(6,pI p1),(7,pI 0),(10,pI s3.2)] [(0,ob0 (roI r49))] [(0,ow 0 (c38e1 s3 p1).length)] [] (an (Mn (c38e1 s3 p1) 0 s3.2 p1 r49 hr49) (an (⟨rfl,g50⟩:Body.same (roI (c38e1 s3 p1)) (roI r49)) tv)) (by kernel_rfl) (.cons rfl (MLe.of_eq (congrArg (MV.own 0 0 0) g50)) .nil) .nil ?_
   refine DW.done ?_
   show DW _ _ _ _ _
   refine RD hnt (nn 3 []) [] [(10,pI (w64 (s3.2-1)))] [] [] tv ?_
   exact jD (r49,(w64 (s3.2-1))) hm Conv.eqK
  ·intro h40 hm
   refine DW.exit ?_
   refine Ai ?_
   refine Ap ?_
   refine Ae ?_
   show DW _ _ _ _ _
   refine DW.done ?_
   obtain rfl:=sj hm
   exact endK [roI s3.1] [] (.p (.tup []))
abbrev o38 (ks:List Nat) (b:Bool) (RES:List Int) (sm:List Nat := []):Orc := .call 242 ks b (.p (.tup [])) [roI RES] [] sm

theorem Ir (p0:List Int) (p1:Int) (p2:Int) (p3:Int) (RES:Int×Int×Int) (hm:Fe p0 p1 p2 p3=some RES):Spec Tryz.prog 344 [.p (slI p0),pI p1,pI p2,rr 0] [.box [pI p3]] (.p (.tup [vi RES.1,vi RES.2.1])) [.box [pI RES.2.2]] []:=by
 unfold Fe at hm
 refine SO Tryz.func344 rfl rfl [(0,.p (slI p0)),(1,pI p1),(2,pI p2),(3,rr 0)] [(0,bx [pI p3])] ?_
 intro cx hnt
 refine Sq (RD hnt (nn 2 []) [] [] [] [] tv ?_)
 obtain ⟨g1,g2,hm⟩:=go2 hm
 obtain ⟨r3,hr3,hm⟩:=bo hm
 refine Sq (Sq (RD hnt (nn 8 (o36 [] true r3 :: [])) [0] [(18,pB r3)] [] [] (an g1.1 (an g1.2 (an g2.1 (an g2.2 (an (Co (p0.getD (Int.toNat p2) 0) (p0.getD (Int.toNat p1) 0) r3 hr3) tv))))) ?_))
 refine Ak hm ?_ ?_
 ·intro h4 hm
  refine Sq (RD hnt (nn 6 []) [3,18] [] [] [(0,bx [pI (w64 (p3+1))])] tv ?_)
  refine Sq (RD hnt (nn 4 []) [1,2] [(8,pI p2),(9,pI p1)] [] [] tv ?_)
  obtain rfl:=sj hm
  exact DW.ret (Aj [.box [pI (w64 (p3+1))]] [] (.p (.tup [vi p2,vi p1])))
 ·intro h4 hm
  refine Sk ?_
  refine Sq (RK hnt (nn 4 []) [(8,pI p1),(9,pI p2)] [(0,bx [pI p3])] tv ?_)
  obtain rfl:=sj hm
  exact DW.ret (Aj [.box [pI p3]] [] (.p (.tup [vi p1,vi p2])))
abbrev o43 (ks:List Nat) (b:Bool) (RES:Int×Int×Int) (sm:List Nat := []):Orc := .call 344 ks b (.p (.tup [vi RES.1,vi RES.2.1])) [.box [pI RES.2.2]] [] sm

theorem Nh (p0:List Int) (p1:Int) (p2:Int) (p3:Int) (p4:Int) (RES:Int×Int) (hm:Hs p0 p1 p2 p3 p4=some RES):Spec Tryz.prog 300 [.p (slI p0),pI p1,pI p2,pI p3,rr 0] [.box [pI p4]] (pI RES.1) [.box [pI RES.2]] []:=by
 unfold Hs at hm
 refine SO Tryz.func300 rfl rfl [(0,.p (slI p0)),(1,pI p1),(2,pI p2),(3,pI p3),(4,rr 0)] [(0,bx [pI p4])] ?_
 intro cx hnt
 refine Sq (RD hnt (.no :: []) [] [] [] [] tv ?_)
 obtain ⟨r1,hr1,hm⟩:=bo hm
 refine Sq (RD hnt (nn 4 (o43 [0] true r1::nn 5 [])) [] [(1,pI r1.1),(2,pI r1.2.1)] [] [(0,bx [pI r1.2.2])] (an (Ir p0 p1 p2 p4 r1 hr1) (an tv tv)) ?_)
 obtain ⟨r2,hr2,hm⟩:=bo hm
 refine Sq (RD hnt (nn 4 (o43 [0] true r2::nn 5 [])) [3] [(2,pI r2.1)] [] [(0,bx [pI r2.2.2])] (an (Ir p0 r1.2.1 p3 r1.2.2 r2 hr2) (an tv tv)) ?_)
 obtain ⟨r3,hr3,hm⟩:=bo hm
 refine Sq (RK hnt (nn 4 (o43 [0] true r3::nn 5 [])) [(2,pI r3.2.1)] [(0,bx [pI r3.2.2])] (an (Ir p0 r1.1 r2.1 r2.2.2 r3 hr3) (an tv tv)) ?_)
 refine Sq (RD hnt (nn 2 []) [2] [(10,pI r3.2.1)] [] [] tv ?_)
 obtain rfl:=sj hm
 exact DW.ret (Aj [.box [pI r3.2.2]] [] (pI r3.2.1))
abbrev o42 (ks:List Nat) (b:Bool) (RES:Int×Int) (sm:List Nat := []):Orc := .call 300 ks b (pI RES.1) [.box [pI RES.2]] [] sm

theorem Ez (p0:List Int) (p1:Int) (p2:Int) (RES:Int×Int) (hm:Di p0 p1 p2=some RES):Spec Tryz.prog 299 [.p (slI p0),pI p1,rr 0] [.box [pI p2]] (pI RES.1) [.box [pI RES.2]] []:=by
 unfold Di at hm
 refine SO Tryz.func299 rfl rfl [(0,.p (slI p0)),(1,pI p1),(2,rr 0)] [(0,bx [pI p2])] ?_
 intro cx hnt
 refine Sq (RD hnt (.no :: []) [] [] [] [] tv ?_)
 obtain ⟨r1,hr1,hm⟩:=bo hm
 refine Sq (RK hnt (nn 7 (o42 [0] true r1 :: .no :: [])) [(6,pI r1.1)] [(0,bx [pI r1.2])] (an (Nh p0 (w64 (p1-1)) p1 (w64 (p1+1)) p2 r1 hr1) (an tv tv)) ?_)
 obtain rfl:=sj hm
 exact DW.ret (Aj [.box [pI r1.2]] [] (pI r1.1))
abbrev o41 (ks:List Nat) (b:Bool) (RES:Int×Int) (sm:List Nat := []):Orc := .call 299 ks b (pI RES.1) [.box [pI RES.2]] [] sm

abbrev AaM (p2:Int) (p1:Int):=(w64 (Int.tdiv (w64 (p2-p1)) 4))
abbrev c40e2 (p1:Int) (p2:Int):=(w64 (p1+(w64 ((AaM p2 p1)*2))))
theorem So (p0:List Int) (p1:Int) (p2:Int) (RES:Int×Int) (hm:Ie p0 p1 p2=some RES):Spec Tryz.prog 244 [.p (slI p0),pI p1,pI p2] [] (.p (.tup [vi RES.1,vi RES.2])) [] []:=by
 unfold Ie at hm
 refine SO Tryz.func244 rfl rfl [(0,.p (slI p0)),(1,pI p1),(2,pI p2)] [] ?_
 intro cx hnt
 refine Sq (RD hnt (nn 2 []) [] [] [] [] tv ?_)
 refine Sq (RD hnt (nn 4 []) [2] [(8,pI (w64 (p2-p1)))] [] [] tv ?_)
 refine Sq (RD hnt (.no :: []) [] [(9,rr 1072)] [] [(1072,bx [pI 0])] tv ?_)
 refine Sq (RD hnt (nn 6 []) [] [(10,pI (w64 (p1+(w64 ((AaM p2 p1)*1)))))] [] [] (an (by decide:(4:Int)≠0) tv) ?_)
 refine Sq (RD hnt (nn 6 []) [] [(11,pI (c40e2 p1 p2))] [] [] (an (by decide:(4:Int)≠0) tv) ?_)
 refine Sq (RD hnt (nn 6 []) [1] [(12,pI (w64 (p1+(w64 ((AaM p2 p1)*3)))))] [] [] (an (by decide:(4:Int)≠0) tv) ?_)
 refine Sq (Sq (RD hnt (nn 2 []) [] [(32,pB (decide ((w64 (p2-p1))≥8)))] [] [] tv ?_))
 refine Jn (ι:=Int×Int) (fun (y1:Int×Int)=>Af [(9,rr 1072),(11,pI y1.2)] [(1072,bx [pI y1.1])]) (fun y1=>Ec y1=some RES) ?_ ?_
 ·intro y1 hm
  unfold Ec at hm
  refine Sq (RK hnt (.no :: []) [(11,pI y1.2),(49,pI y1.1)] [] tv ?_)
  refine Bk ?_
  refine Sq (RD hnt (nn 2 []) [] [(51,pB (y1.1==0))] [] [] tv ?_)
  refine Ak hm ?_ ?_
  ·intro h7 hm
   refine Sq (RK hnt (nn 3 []) [(6,pI y1.2),(7,pI 1)] [] tv ?_)
   obtain rfl:=sj hm
   exact DW.ret (Aj [] [] (.p (.tup [vi y1.2,vi 1])))
  ·intro h7 hm
   refine Sq (RK hnt (nn 2 []) [(11,pI y1.2),(54,pB (y1.1==12))] [] tv ?_)
   refine Ak hm ?_ ?_
   ·intro h8 hm
    refine Sq (RK hnt (nn 3 []) [(6,pI y1.2),(7,pI 2)] [] tv ?_)
    obtain rfl:=sj hm
    exact DW.ret (Aj [] [] (.p (.tup [vi y1.2,vi 2])))
   ·intro h8 hm
    refine Sq (RK hnt (nn 3 []) [(6,pI y1.2),(7,pI 0)] [] tv ?_)
    obtain rfl:=sj hm
    exact DW.ret (Aj [] [] (.p (.tup [vi y1.2,vi 0])))
 ·refine Ak hm ?_ ?_
  ·intro h1 hm
   refine Sq (Sq (RD hnt (nn 2 []) [8,32] [(34,pB (decide ((w64 (p2-p1))≥50)))] [] [] tv ?_))
   refine Jn (ι:=Int×Int×Int×Int) (fun (y2:Int×Int×Int×Int)=>Af [(0,.p (slI p0)),(9,rr 1072),(10,pI y2.2.1),(11,pI y2.2.2.1),(12,pI y2.2.2.2)] [(1072,bx [pI y2.1])]) (fun y2=>(Ed p0) y2=some RES) ?_ ?_
   ·intro y2 hm
    unfold Ed at hm
    obtain ⟨r6,hr6,hm⟩:=bo hm
    refine RK hnt (nn 4 (o42 [1072] true r6 :: .no :: [])) [(9,rr 1072),(11,pI r6.1)] [(1072,bx [pI r6.2])] (an (Nh p0 y2.2.1 y2.2.2.1 y2.2.2.2 y2.1 r6 hr6) (an tv tv)) ?_
    exact jD (r6.2,r6.1) hm .refl
   ·refine Ak hm ?_ ?_
    ·intro h2 hm
     obtain ⟨r3,hr3,hm⟩:=bo hm
     refine Sq (RK hnt (nn 2 (o41 [1072] true r3 :: .no :: [])) [(0,.p (slI p0)),(9,rr 1072),(10,pI r3.1),(11,pI (c40e2 p1 p2)),(12,pI (w64 (p1+(w64 ((AaM p2 p1)*3)))))] [(1072,bx [pI r3.2])] (an (Ez p0 (w64 (p1+(w64 ((AaM p2 p1)*1)))) 0 r3 hr3) (an tv tv)) ?_)
     obtain ⟨r4,hr4,hm⟩:=bo hm
     refine Sq (RD hnt (nn 2 (o41 [1072] true r4 :: .no :: [])) [] [(11,pI r4.1)] [] [(1072,bx [pI r4.2])] (an (Ez p0 (c40e2 p1 p2) r3.2 r4 hr4) (an tv tv)) ?_)
     obtain ⟨r5,hr5,hm⟩:=bo hm
     refine RD hnt (nn 2 (o41 [1072] true r5 :: .no :: [])) [] [(12,pI r5.1)] [] [(1072,bx [pI r5.2])] (an (Ez p0 (w64 (p1+(w64 ((AaM p2 p1)*3)))) r4.2 r5 hr5) (an tv tv)) ?_
     exact jD (r5.2,r3.1,r4.1,r5.1) hm Conv.eqK
    ·intro h2 hm
     refine Sk ?_
     exact jD (0,(w64 (p1+(w64 ((AaM p2 p1)*1)))),(c40e2 p1 p2),(w64 (p1+(w64 ((AaM p2 p1)*3))))) hm Conv.t0
  ·intro h1 hm
   refine Sk ?_
   exact jD (0,(c40e2 p1 p2)) hm Conv.t0
abbrev o40 (ks:List Nat) (b:Bool) (RES:Int×Int) (sm:List Nat := []):Orc := .call 244 ks b (.p (.tup [vi RES.1,vi RES.2])) [] [] sm

abbrev c44e1 (s1:(List Int)×Int×Int):=(Az (Az (elI s1.1) (Int.toNat s1.2.1) [vi (s1.1.getD (Int.toNat s1.2.2) 0)]) (Int.toNat s1.2.2) (setRange ((Az (elI s1.1) (Int.toNat s1.2.1) [vi (s1.1.getD (Int.toNat s1.2.2) 0)]) (Int.toNat s1.2.2)) 0 [vi (s1.1.getD (Int.toNat s1.2.1) 0)]))
abbrev c44e2 (s1:(List Int)×Int×Int):=((s1.1.set (Int.toNat s1.2.1) (s1.1.getD (Int.toNat s1.2.2) 0)).set (Int.toNat s1.2.2) (s1.1.getD (Int.toNat s1.2.1) 0))
theorem Sg (p0:List Int) (p1:Int) (p2:Int) (RES:List Int) (hm:Hl p0 p1 p2=some RES):Spec Tryz.prog 245 [ow 0 p0.length,pI p1,pI p2] [roI p0] (.p (.tup [])) [roI RES] []:=by
 unfold Hl at hm
 refine SO Tryz.func245 rfl rfl [(0,ow 0 p0.length),(1,pI p1),(2,pI p2)] [(0,ob0 (roI p0))] ?_
 intro cx hnt
 refine Sq (RD hnt (nn 2 []) [1] [(6,pI p1)] [] [] tv ?_)
 refine Sq (RD hnt (nn 3 []) [2] [(7,pI (w64 (p2-1)))] [] [] tv ?_)
 refine Bk ?_
 refine DW.whileO (fun (s1:(List Int)×Int×Int)=>Af [(0,ow 0 s1.1.length),(6,pI s1.2.1),(7,pI s1.2.2)] [(0,ob0 (roI s1.1))]) hm Conv.eqK ?_
 intro s1 n1 hm
 unfold Ld at hm
 refine Sq (Sq (RD hnt (nn 3 []) [] [(13,pB (decide (s1.2.1<s1.2.2)))] [] [] tv ?_))
 refine Ak hm ?_ ?_
 ·intro h10 hm
  refine Sk ?_
  refine Bk ?_
  obtain ⟨g11,g12,g13,g14,hm⟩:=go4 hm
  obtain ⟨g15,g16,g17,g18,hm⟩:=go4 hm
  refine Sq (RN hnt (nn 16 []) [(0,ow 0 (c44e2 s1).length),(6,pI s1.2.1),(7,pI s1.2.2)] [(0,ob0 (roI (c44e2 s1)))] [(0,ow 0 s1.1.length)] [(0,.row 1 s1.1.length (c44e1 s1))] (an g11.1 (an g11.2 (an g12 (an g13.1 (an g13.2 (an g14 (an g15.1 (an g15.2 (an g16 (an g17.1 (an g17.2 (an g18 tv)))))))))))) (by kernel_rfl) (.cons rfl (MLe.ownLen (enc:=Bm) (d:=0) (f:=(c44e1 s1)) (RowIs.updR (RowIs.upd RowIs.elems (s1.1.getD (Int.toNat s1.2.2) 0) rfl) (by omega) (s1.1.getD (Int.toNat s1.2.1) 0) rfl)) .nil) (.cons rfl (BLe.typed (RowIs.updR (RowIs.upd RowIs.elems (s1.1.getD (Int.toNat s1.2.2) 0) rfl) (by omega) (s1.1.getD (Int.toNat s1.2.1) 0) rfl)) .nil) ?_)
  refine Sq (RD hnt (nn 3 []) [] [(6,pI (w64 (s1.2.1+1)))] [] [] tv ?_)
  refine RD hnt (nn 3 []) [] [(7,pI (w64 (s1.2.2-1)))] [] [] tv ?_
  refine DW.done ?_
  show DW _ _ _ _ _
  exact jD ((c44e2 s1),(w64 (s1.2.1+1)),(w64 (s1.2.2-1))) hm Conv.eqK
 ·intro h10 hm
  refine DW.exit ?_
  refine Ai ?_
  refine Ap ?_
  refine Ae ?_
  show DW _ _ _ _ _
  refine DW.done ?_
  obtain rfl:=sj hm
  exact endK [roI s1.1] [] (.p (.tup []))
abbrev o44 (ks:List Nat) (b:Bool) (RES:List Int) (sm:List Nat := []):Orc := .call 245 ks b (.p (.tup [])) [roI RES] [] sm

abbrev Ael (s15:(List Int)×Int):=(s15.1.getD (Int.toNat (w64 (s15.2-1))) 0)
abbrev c45e2 (s1:(List Int)×Int) (s12:Int):=(Az (Az (elI s1.1) (Int.toNat s12) [vi (s1.1.getD (Int.toNat (w64 (s12-1))) 0)]) (Int.toNat (w64 (s12-1))) (setRange ((Az (elI s1.1) (Int.toNat s12) [vi (s1.1.getD (Int.toNat (w64 (s12-1))) 0)]) (Int.toNat (w64 (s12-1)))) 0 [vi (s1.1.getD (Int.toNat s12) 0)]))
abbrev c45e3 (s16:List Int) (k16:Int):=(Az (Az (elI s16) (Int.toNat k16) [vi (s16.getD (Int.toNat (w64 (k16-1))) 0)]) (Int.toNat (w64 (k16-1))) (setRange ((Az (elI s16) (Int.toNat k16) [vi (s16.getD (Int.toNat (w64 (k16-1))) 0)]) (Int.toNat (w64 (k16-1)))) 0 [vi (s16.getD (Int.toNat k16) 0)]))
abbrev c45e4 (s1:(List Int)×Int) (s12:Int):=((s1.1.set (Int.toNat s12) (s1.1.getD (Int.toNat (w64 (s12-1))) 0)).set (Int.toNat (w64 (s12-1))) (s1.1.getD (Int.toNat s12) 0))
abbrev c45e5 (s16:List Int) (k16:Int):=((s16.set (Int.toNat k16) (s16.getD (Int.toNat (w64 (k16-1))) 0)).set (Int.toNat (w64 (k16-1))) (s16.getD (Int.toNat k16) 0))
abbrev c45e6 (s15:(List Int)×Int):=(Az (Az (elI s15.1) (Int.toNat s15.2) [vi (Ael s15)]) (Int.toNat (w64 (s15.2-1))) (setRange ((Az (elI s15.1) (Int.toNat s15.2) [vi (Ael s15)]) (Int.toNat (w64 (s15.2-1)))) 0 [vi (s15.1.getD (Int.toNat s15.2) 0)]))
abbrev c45e7 (s15:(List Int)×Int):=((s15.1.set (Int.toNat s15.2) (Ael s15)).set (Int.toNat (w64 (s15.2-1))) (s15.1.getD (Int.toNat s15.2) 0))
theorem Nw (p0:List Int) (p1:Int) (p2:Int) (RES:Bool×(List Int)) (hm:Ej p0 p1 p2=some RES):Spec Tryz.prog 246 [ow 0 p0.length,pI p1,pI p2] [roI p0] (pB RES.1) [roI RES.2] []:=by
 unfold Ej at hm
 refine SO Tryz.func246 rfl rfl [(0,ow 0 p0.length),(1,pI p1),(2,pI p2)] [(0,ob0 (roI p0))] ?_
 intro cx hnt
 refine Sq (RD hnt (.no :: []) [] [] [] [] tv ?_)
 refine Sq (RD hnt (nn 3 []) [] [(7,pI (w64 (p1+1)))] [] [] tv ?_)
 refine Sq (Sq (RD hnt (.no :: []) [] [(8,pI 0)] [] [] tv ?_))
 refine Bk ?_
 refine DW.forO (fun (k1:Int) (s1:(List Int)×Int)=>Af [(0,ow 0 s1.1.length),(1,pI p1),(2,pI p2),(7,pI s1.2),(8,pI k1)] [(0,ob0 (roI s1.1))]) (lo:=0) (hi:=5) hm Conv.eqK ?_
 intro k1 s1 n1 hk1 hs1 he1
 refine Sq (Sq (RD hnt (nn 2 []) [] [(14,pB (decide (k1<5)))] [] [] tv ?_))
 refine Bu (decide (k1<5)) ?_ ?_
 ·intro h391
  have hlt1:k1<5:=by have:=of_decide_eq_true h391; omega
  have hm:=hs1 hlt1
  unfold Hu at hm
  refine Sk ?_
  refine Sq ?_
  refine Jn (ι:=(List Int)×Int) (fun (y11:(List Int)×Int)=>Af [(0,ow 0 y11.1.length),(1,pI p1),(2,pI p2),(7,pI y11.2),(8,pI k1)] [(0,ob0 (roI y11.1))]) (fun y11=>(Cm n1) y11=some RES) ?_ ?_
  ·intro y11 hm
   unfold Cm at hm
   refine RD hnt (nn 3 []) [] [(8,pI (w64 (k1+1)))] [] [] tv ?_
   exact jD (y11.1,y11.2) ⟨hlt1,hm⟩ (Conv.tp [(8,pI (w64 (k1+1)))] [] (by kernel_rfl) (.cons rfl (.of_eq (congrArg pI (Pr (lo:=0) (hi:=5) (by omega) hk1 hlt1 (by omega)))) .nil) .nil)
  ·refine Bk ?_
   refine Sq (Bk ?_)
   refine DW.whileO (fun (s12:Int)=>Af [(0,ow 0 s1.1.length),(1,pI p1),(2,pI p2),(7,pI s12),(8,pI k1)] [(0,ob0 (roI s1.1))]) hm Conv.t0 ?_
   intro s12 n12 hm
   unfold Hc at hm
   refine Sq (Sq ?_)
   refine Jn (ι:=Bool) (fun (y14:Bool)=>Af [(0,ow 0 s1.1.length),(1,pI p1),(2,pI p2),(7,pI s12),(8,pI k1),(32,pB y14)] [(0,ob0 (roI s1.1))]) (fun y14=>(Dd p1 p2 s1 n1 s12 n12) y14=some RES) ?_ ?_
   ·intro y14 hm
    unfold Dd at hm
    refine Ak hm ?_ ?_
    ·intro h492 hm
     refine Sk ?_
     refine Bk ?_
     refine RD hnt (nn 3 []) [32] [(7,pI (w64 (s12+1)))] [] [] tv ?_
     refine DW.done ?_
     show DW _ _ _ _ _
     exact jD (w64 (s12+1)) hm Conv.eqK
    ·intro h492 hm
     refine DW.exit ?_
     refine Ai ?_
     refine Ap ?_
     refine Ae ?_
     show DW _ _ _ _ _
     refine Sq (Sq (RD hnt (nn 3 []) [32] [(37,pB (s12==p2))] [] [] tv ?_))
     refine Ak hm ?_ ?_
     ·intro h493 hm
      refine Sq (RK hnt (.no :: []) [(6,pB true)] [(0,ob0 (roI s1.1))] tv ?_)
      obtain rfl:=sj hm
      exact DW.ret (Aj [roI s1.1] [] (pB true))
     ·intro h493 hm
      refine Sk ?_
      refine Sq (Sq (RD hnt (nn 4 []) [37] [(41,pB (decide ((w64 (p2-p1))<50)))] [] [] tv ?_))
      refine Ak hm ?_ ?_
      ·intro h494 hm
       refine Sq (RK hnt (.no :: []) [(6,pB false)] [(0,ob0 (roI s1.1))] tv ?_)
       obtain rfl:=sj hm
       exact DW.ret (Aj [roI s1.1] [] (pB false))
      ·intro h494 hm
       refine Sk ?_
       obtain ⟨g495,g496,g497,g498,hm⟩:=go4 hm
       obtain ⟨g499,g500,g501,g502,hm⟩:=go4 hm
       refine Sq (RN hnt (nn 18 []) [(0,ow 0 (c45e4 s1 s12).length),(1,pI p1),(2,pI p2),(7,pI s12),(8,pI k1)] [(0,ob0 (roI (c45e4 s1 s12)))] [(0,ow 0 s1.1.length)] [(0,.row 1 s1.1.length (c45e2 s1 s12))] (an g495.1 (an g495.2 (an g496 (an g497.1 (an g497.2 (an g498 (an g499.1 (an g499.2 (an g500 (an g501.1 (an g501.2 (an g502 tv)))))))))))) (by kernel_rfl) (.cons rfl (MLe.ownLen (enc:=Bm) (d:=0) (f:=(c45e2 s1 s12)) (RowIs.updR (RowIs.upd RowIs.elems (s1.1.getD (Int.toNat (w64 (s12-1))) 0) rfl) (by omega) (s1.1.getD (Int.toNat s12) 0) rfl)) .nil) (.cons rfl (BLe.typed (RowIs.updR (RowIs.upd RowIs.elems (s1.1.getD (Int.toNat (w64 (s12-1))) 0) rfl) (by omega) (s1.1.getD (Int.toNat s12) 0) rfl)) .nil) ?_)
       refine Sq (Sq (RD hnt (nn 4 []) [] [(61,pB (decide ((w64 (s12-p1))≥2)))] [] [] tv ?_))
       refine Jn (ι:=List Int) (fun (y15:List Int)=>Af [(0,ow 0 y15.length),(1,pI p1),(2,pI p2),(7,pI s12),(8,pI k1)] [(0,ob0 (roI y15))]) (fun y15=>(Cl p2 n1 s12) y15=some RES) ?_ ?_
       ·intro y15 hm
        unfold Cl at hm
        refine Sq (RD hnt (nn 4 []) [] [(98,pB (decide ((w64 (p2-s12))≥2)))] [] [] tv ?_)
        refine Ak hm ?_ ?_
        ·intro h534 hm
         refine Sq (RD hnt (nn 3 []) [98] [(10,pI (w64 (s12+1)))] [] [] tv ?_)
         refine Bk ?_
         obtain ⟨hc16,hm⟩:=go1 hm
         refine DW.forO (fun (k16:Int) (s16:List Int)=>Af [(0,ow 0 s16.length),(1,pI p1),(2,pI p2),(7,pI s12),(8,pI k1),(10,pI k16)] [(0,ob0 (roI s16))]) (lo:=(w64 (s12+1))) (hi:=p2) hm Conv.eqK ?_
         intro k16 s16 n16 hk16 hs16 he16
         refine Sq (Sq (RD hnt (nn 3 []) [] [(103,pB (decide (k16<p2)))] [] [] tv ?_))
         refine Bu (decide (k16<p2)) ?_ ?_
         ·intro h565
          have hlt16:k16<p2:=by have:=of_decide_eq_true h565; omega
          have hm:=hs16 hlt16
          unfold Hf at hm
          refine Sk ?_
          refine Sq (Bk ?_)
          obtain ⟨g566,g567,g568,g569,hm⟩:=go4 hm
          obtain ⟨r570,hr570,hm⟩:=bo hm
          refine Sq (Sq (RD hnt (nn 9 (o36 [] true r570 :: .no :: [])) [103] [(116,pB (!r570))] [] [] (an g566.1 (an g566.2 (an g567 (an g568.1 (an g568.2 (an g569 (an (Co (s16.getD (Int.toNat k16) 0) (s16.getD (Int.toNat (w64 (k16-1))) 0) r570 hr570) tv))))))) ?_))
          refine Ak hm ?_ ?_
          ·intro h571 hm
           refine DW.exit ?_
           refine Gh (by decide) ?_
           refine Ap ?_
           refine Ai ?_
           refine Ap ?_
           refine Ae ?_
           show DW _ _ _ _ _
           exact bD (s16,s12) hm Conv.t0
          ·intro h571 hm
           refine Sk ?_
           obtain ⟨g572,g573,g574,g575,hm⟩:=go4 hm
           obtain ⟨g576,g577,g578,g579,hm⟩:=go4 hm
           refine RN hnt (nn 18 []) [(0,ow 0 (c45e5 s16 k16).length),(1,pI p1),(2,pI p2),(7,pI s12),(8,pI k1),(10,pI k16)] [(0,ob0 (roI (c45e5 s16 k16)))] [(0,ow 0 s16.length)] [(0,.row 1 s16.length (c45e3 s16 k16))] (an g572.1 (an g572.2 (an g573 (an g574.1 (an g574.2 (an g575 (an g576.1 (an g576.2 (an g577 (an g578.1 (an g578.2 (an g579 tv)))))))))))) (by kernel_rfl) (.cons rfl (MLe.ownLen (enc:=Bm) (d:=0) (f:=(c45e3 s16 k16)) (RowIs.updR (RowIs.upd RowIs.elems (s16.getD (Int.toNat (w64 (k16-1))) 0) rfl) (by omega) (s16.getD (Int.toNat k16) 0) rfl)) .nil) (.cons rfl (BLe.typed (RowIs.updR (RowIs.upd RowIs.elems (s16.getD (Int.toNat (w64 (k16-1))) 0) rfl) (by omega) (s16.getD (Int.toNat k16) 0) rfl)) .nil) ?_
           refine DW.done ?_
           show DW _ _ _ _ _
           refine RD hnt (nn 3 []) [] [(10,pI (w64 (k16+1)))] [] [] tv ?_
           exact jD (c45e5 s16 k16) ⟨hlt16,hm⟩ (Conv.tp [(10,pI (w64 (k16+1)))] [] (by kernel_rfl) (.cons rfl (.of_eq (congrArg pI (Pr (lo:=(w64 (s12+1))) (hi:=p2) (by omega) hk16 hlt16 (by omega)))) .nil) .nil)
         ·intro h565
          have hge16:¬ k16<p2:=by have:=of_decide_eq_false h565; omega
          have hm:=he16 hge16
          unfold Hd at hm
          refine DW.exit ?_
          refine Ai ?_
          refine Ap ?_
          refine Ae ?_
          show DW _ _ _ _ _
          exact bD (s16,s12) hm Conv.t0
        ·intro h534 hm
         refine Sk ?_
         exact bD (y15,s12) hm Conv.t0
       ·refine Ak hm ?_ ?_
        ·intro h503 hm
         refine Sq (RD hnt (nn 3 []) [61] [(9,pI (w64 (s12-1)))] [] [] tv ?_)
         refine Bk ?_
         refine DW.whileO (fun (s15:(List Int)×Int)=>Af [(0,ow 0 s15.1.length),(1,pI p1),(2,pI p2),(7,pI s12),(8,pI k1),(9,pI s15.2)] [(0,ob0 (roI s15.1))]) hm Conv.eqK ?_
         intro s15 n15 hm
         unfold He at hm
         refine Sq (Sq (RD hnt (nn 2 []) [] [(65,pB (decide (s15.2≥1)))] [] [] tv ?_))
         refine Ak hm ?_ ?_
         ·intro h519 hm
          refine Sk ?_
          refine Sq (Bk ?_)
          obtain ⟨g520,g521,g522,g523,hm⟩:=go4 hm
          obtain ⟨r524,hr524,hm⟩:=bo hm
          refine Sq (Sq (RD hnt (nn 9 (o36 [] true r524 :: .no :: [])) [65] [(78,pB (!r524))] [] [] (an g520.1 (an g520.2 (an g521 (an g522.1 (an g522.2 (an g523 (an (Co (s15.1.getD (Int.toNat s15.2) 0) (Ael s15) r524 hr524) tv))))))) ?_))
          refine Ak hm ?_ ?_
          ·intro h525 hm
           refine DW.exit ?_
           refine Gh (by decide) ?_
           refine Ap ?_
           refine Ai ?_
           refine Ap ?_
           refine Ae ?_
           show DW _ _ _ _ _
           exact jD s15.1 hm Conv.t0
          ·intro h525 hm
           refine Sk ?_
           obtain ⟨g526,g527,g528,g529,hm⟩:=go4 hm
           obtain ⟨g530,g531,g532,g533,hm⟩:=go4 hm
           refine RN hnt (nn 18 []) [(0,ow 0 (c45e7 s15).length),(1,pI p1),(2,pI p2),(7,pI s12),(8,pI k1),(9,pI s15.2)] [(0,ob0 (roI (c45e7 s15)))] [(0,ow 0 s15.1.length)] [(0,.row 1 s15.1.length (c45e6 s15))] (an g526.1 (an g526.2 (an g527 (an g528.1 (an g528.2 (an g529 (an g530.1 (an g530.2 (an g531 (an g532.1 (an g532.2 (an g533 tv)))))))))))) (by kernel_rfl) (.cons rfl (MLe.ownLen (enc:=Bm) (d:=0) (f:=(c45e6 s15)) (RowIs.updR (RowIs.upd RowIs.elems (Ael s15) rfl) (by omega) (s15.1.getD (Int.toNat s15.2) 0) rfl)) .nil) (.cons rfl (BLe.typed (RowIs.updR (RowIs.upd RowIs.elems (Ael s15) rfl) (by omega) (s15.1.getD (Int.toNat s15.2) 0) rfl)) .nil) ?_
           refine DW.done ?_
           show DW _ _ _ _ _
           refine RD hnt (nn 3 []) [] [(9,pI (w64 (s15.2-1)))] [] [] tv ?_
           exact jD ((c45e7 s15),(w64 (s15.2-1))) hm Conv.eqK
         ·intro h519 hm
          refine DW.exit ?_
          refine Ai ?_
          refine Ap ?_
          refine Ae ?_
          show DW _ _ _ _ _
          exact jD s15.1 hm Conv.t0
        ·intro h503 hm
         refine Sk ?_
         exact jD (c45e4 s1 s12) hm Conv.t0
   ·rcases bt (decide (s12<p2)) with h486|h486
    ·replace hm:=Bt h486 hm
     obtain ⟨g487,g488,g489,g490,hm⟩:=go4 hm
     obtain ⟨r491,hr491,hm⟩:=bo hm
     refine RD hnt (nn 13 (o36 [] true r491 :: .no::pT :: [])) [] [(32,pB (!r491))] [] [] (an3 h486 (an g487.1 (an g487.2 (an h486 (an g488 (an4 h486 (an g489.1 (an g489.2 (an h486 (an g490 (an h486 (an (Co (s1.1.getD (Int.toNat s12) 0) (s1.1.getD (Int.toNat (w64 (s12-1))) 0) r491 hr491) (an2 h486 tv))))))))))))) ?_
     exact jD (!r491) hm Conv.eqK
    ·replace hm:=Bs h486 hm
     refine RD hnt (nn 4 (sk 11 (pF :: []))) [] [(32,pB false)] [] [] (an6 h486 (an6 h486 tv)) ?_
     exact jD false hm Conv.eqK
 ·intro h391
  have hge1:¬ k1<5:=by have:=of_decide_eq_false h391; omega
  have hm:=he1 hge1
  unfold Hr at hm
  refine DW.exit ?_
  refine Ai ?_
  refine Ap ?_
  refine Ae ?_
  show DW _ _ _ _ _
  refine Sq (RK hnt (.no :: []) [(6,pB false)] [(0,ob0 (roI s1.1))] tv ?_)
  obtain rfl:=sj hm
  exact DW.ret (Aj [roI s1.1] [] (pB false))
abbrev o45 (ks:List Nat) (b:Bool) (RES:Bool×(List Int)) (sm:List Nat := []):Orc := .call 246 ks b (pB RES.1) [roI RES.2] [] sm

abbrev c46e1 (p0:List Int) (p1:Int) (p3:Int):=(Az (Az (elI p0) (Int.toNat p1) [vi (p0.getD (Int.toNat p3) 0)]) (Int.toNat p3) (setRange ((Az (elI p0) (Int.toNat p1) [vi (p0.getD (Int.toNat p3) 0)]) (Int.toNat p3)) 0 [vi (p0.getD (Int.toNat p1) 0)]))
abbrev c46e2 (s1:(List Int)×Int×Int) (s5:Int) (s7:Int):=(Az (Az (elI s1.1) (Int.toNat s5) [vi (s1.1.getD (Int.toNat s7) 0)]) (Int.toNat s7) (setRange ((Az (elI s1.1) (Int.toNat s5) [vi (s1.1.getD (Int.toNat s7) 0)]) (Int.toNat s7)) 0 [vi (s1.1.getD (Int.toNat s5) 0)]))
abbrev c46e3 (s1:(List Int)×Int×Int) (s5:Int) (s7:Int):=((s1.1.set (Int.toNat s5) (s1.1.getD (Int.toNat s7) 0)).set (Int.toNat s7) (s1.1.getD (Int.toNat s5) 0))
theorem Qs (p0:List Int) (p1:Int) (p2:Int) (p3:Int) (RES:Int×(List Int)) (hm:Gl p0 p1 p2 p3=some RES):Spec Tryz.prog 248 [ow 0 p0.length,pI p1,pI p2,pI p3] [roI p0] (pI RES.1) [roI RES.2] []:=by
 unfold Gl at hm
 refine SO Tryz.func248 rfl rfl [(0,ow 0 p0.length),(1,pI p1),(2,pI p2),(3,pI p3)] [(0,ob0 (roI p0))] ?_
 intro cx hnt
 refine Sq (RD hnt (.no :: []) [] [] [] [] tv ?_)
 obtain ⟨g1,g2,g3,g4,hm⟩:=go4 hm
 obtain ⟨g5,g6,g7,g8,hm⟩:=go4 hm
 refine Sq (RN hnt (nn 16 []) [(0,ow 0 ((p0.set (Int.toNat p1) (p0.getD (Int.toNat p3) 0)).set (Int.toNat p3) (p0.getD (Int.toNat p1) 0)).length),(1,pI p1),(2,pI p2)] [(0,ob0 (roI ((p0.set (Int.toNat p1) (p0.getD (Int.toNat p3) 0)).set (Int.toNat p3) (p0.getD (Int.toNat p1) 0))))] [(0,ow 0 p0.length)] [(0,.row 1 p0.length (c46e1 p0 p1 p3))] (an g1.1 (an g1.2 (an g2 (an g3.1 (an g3.2 (an g4 (an g5.1 (an g5.2 (an g6 (an g7.1 (an g7.2 (an g8 tv)))))))))))) (by kernel_rfl) (.cons rfl (MLe.ownLen (enc:=Bm) (d:=0) (f:=(c46e1 p0 p1 p3)) (RowIs.updR (RowIs.upd RowIs.elems (p0.getD (Int.toNat p3) 0) rfl) (by omega) (p0.getD (Int.toNat p1) 0) rfl)) .nil) (.cons rfl (BLe.typed (RowIs.updR (RowIs.upd RowIs.elems (p0.getD (Int.toNat p3) 0) rfl) (by omega) (p0.getD (Int.toNat p1) 0) rfl)) .nil) ?_)
 refine Sq (RD hnt (nn 6 []) [2] [(9,pI (w64 (p1+1))),(10,pI (w64 (p2-1)))] [] [] tv ?_)
 refine Sq (Bk ?_)
 refine DW.whileO (fun (s1:(List Int)×Int×Int)=>Af [(0,ow 0 s1.1.length),(1,pI p1),(9,pI s1.2.2),(10,pI s1.2.1)] [(0,ob0 (roI s1.1))]) hm Conv.eqK ?_
 intro s1 n1 hm
 unfold Jy at hm
 refine Bk ?_
 refine Sq (Bk ?_)
 refine DW.whileO (fun (s5:Int)=>Af [(0,ow 0 s1.1.length),(1,pI p1),(9,pI s5),(10,pI s1.2.1)] [(0,ob0 (roI s1.1))]) hm .refl ?_
 intro s5 n5 hm
 unfold Kc at hm
 refine Sq (Sq ?_)
 refine Jn (ι:=Bool) (fun (y10:Bool)=>Af [(0,ow 0 s1.1.length),(1,pI p1),(9,pI s5),(10,pI s1.2.1),(43,pB y10)] [(0,ob0 (roI s1.1))]) (fun y10=>(Dr p1 s1 n1 s5 n5) y10=some RES) ?_ ?_
 ·intro y10 hm
  unfold Dr at hm
  refine Ak hm ?_ ?_
  ·intro h156 hm
   refine Sk ?_
   refine Bk ?_
   refine RD hnt (nn 3 []) [43] [(9,pI (w64 (s5+1)))] [] [] tv ?_
   refine DW.done ?_
   show DW _ _ _ _ _
   exact jD (w64 (s5+1)) hm Conv.eqK
  ·intro h156 hm
   refine DW.exit ?_
   refine Ai ?_
   refine Ap ?_
   refine Ae ?_
   show DW _ _ _ _ _
   refine Sq (Bk ?_)
   refine DW.whileO (fun (s7:Int)=>Af [(0,ow 0 s1.1.length),(1,pI p1),(9,pI s5),(10,pI s7)] [(0,ob0 (roI s1.1))]) hm Conv.t0 ?_
   intro s7 n7 hm
   unfold Jx at hm
   refine Sq (Sq ?_)
   refine Jn (ι:=Bool) (fun (y12:Bool)=>Af [(0,ow 0 s1.1.length),(1,pI p1),(9,pI s5),(10,pI s7),(59,pB y12)] [(0,ob0 (roI s1.1))]) (fun y12=>(Dq s1 n1 s5 s7 n7) y12=some RES) ?_ ?_
   ·intro y12 hm
    unfold Dq at hm
    refine Ak hm ?_ ?_
    ·intro h179 hm
     refine Sk ?_
     refine Bk ?_
     refine RD hnt (nn 3 []) [59] [(10,pI (w64 (s7-1)))] [] [] tv ?_
     refine DW.done ?_
     show DW _ _ _ _ _
     exact jD (w64 (s7-1)) hm Conv.eqK
    ·intro h179 hm
     refine DW.exit ?_
     refine Ai ?_
     refine Ap ?_
     refine Ae ?_
     show DW _ _ _ _ _
     refine Sq (Sq (RD hnt (nn 3 []) [59] [(64,pB (decide (s5>s7)))] [] [] tv ?_))
     refine Ak hm ?_ ?_
     ·intro h180 hm
      refine DW.exit ?_
      refine Gh (by decide) ?_
      refine Ap ?_
      refine Ai ?_
      refine Ap ?_
      refine Ae ?_
      show DW _ _ _ _ _
      refine Sq (RK hnt (nn 2 []) [(8,pI s5)] [(0,ob0 (roI s1.1))] tv ?_)
      obtain rfl:=sj hm
      exact DW.ret (Aj [roI s1.1] [] (pI s5))
     ·intro h180 hm
      refine Sk ?_
      obtain ⟨g181,g182,g183,g184,hm⟩:=go4 hm
      obtain ⟨g185,g186,g187,g188,hm⟩:=go4 hm
      refine Sq (RN hnt (nn 16 []) [(0,ow 0 (c46e3 s1 s5 s7).length),(1,pI p1),(9,pI s5),(10,pI s7)] [(0,ob0 (roI (c46e3 s1 s5 s7)))] [(0,ow 0 s1.1.length)] [(0,.row 1 s1.1.length (c46e2 s1 s5 s7))] (an g181.1 (an g181.2 (an g182 (an g183.1 (an g183.2 (an g184 (an g185.1 (an g185.2 (an g186 (an g187.1 (an g187.2 (an g188 tv)))))))))))) (by kernel_rfl) (.cons rfl (MLe.ownLen (enc:=Bm) (d:=0) (f:=(c46e2 s1 s5 s7)) (RowIs.updR (RowIs.upd RowIs.elems (s1.1.getD (Int.toNat s7) 0) rfl) (by omega) (s1.1.getD (Int.toNat s5) 0) rfl)) .nil) (.cons rfl (BLe.typed (RowIs.updR (RowIs.upd RowIs.elems (s1.1.getD (Int.toNat s7) 0) rfl) (by omega) (s1.1.getD (Int.toNat s5) 0) rfl)) .nil) ?_)
      refine Sq (RD hnt (nn 3 []) [] [(9,pI (w64 (s5+1)))] [] [] tv ?_)
      refine RD hnt (nn 3 []) [] [(10,pI (w64 (s7-1)))] [] [] tv ?_
      refine DW.done ?_
      show DW _ _ _ _ _
      exact jD ((c46e3 s1 s5 s7),(w64 (s7-1)),(w64 (s5+1))) hm Conv.eqK
   ·rcases bt (decide (s5≤s7)) with h173|h173
    ·replace hm:=Bt h173 hm
     obtain ⟨g174,g175,g176,g177,hm⟩:=go4 hm
     obtain ⟨r178,hr178,hm⟩:=bo hm
     refine RD hnt (nn 12 (o36 [] true r178::pT :: [])) [] [(59,pB r178)] [] [] (an3 h173 (an g174.1 (an g174.2 (an h173 (an g175 (an3 h173 (an g176.1 (an g176.2 (an h173 (an g177 (an h173 (an (Co (s1.1.getD (Int.toNat p1) 0) (s1.1.getD (Int.toNat s7) 0) r178 hr178) (an h173 tv))))))))))))) ?_
     exact jD r178 hm Conv.eqK
    ·replace hm:=Bs h173 hm
     refine RD hnt (nn 4 (sk 9 (pF :: []))) [] [(59,pB false)] [] [] (an4 h173 (an6 h173 tv)) ?_
     exact jD false hm Conv.eqK
 ·rcases bt (decide (s5≤s1.2.1)) with h150|h150
  ·replace hm:=Bt h150 hm
   obtain ⟨g151,g152,g153,g154,hm⟩:=go4 hm
   obtain ⟨r155,hr155,hm⟩:=bo hm
   refine RD hnt (nn 12 (o36 [] true r155 :: .no::pT :: [])) [] [(43,pB (!r155))] [] [] (an3 h150 (an g151.1 (an g151.2 (an h150 (an g152 (an3 h150 (an g153.1 (an g153.2 (an h150 (an g154 (an h150 (an (Co (s1.1.getD (Int.toNat p1) 0) (s1.1.getD (Int.toNat s5) 0) r155 hr155) (an2 h150 tv))))))))))))) ?_
   exact jD (!r155) hm Conv.eqK
  ·replace hm:=Bs h150 hm
   refine RD hnt (nn 4 (sk 10 (pF :: []))) [] [(43,pB false)] [] [] (an5 h150 (an6 h150 tv)) ?_
   exact jD false hm Conv.eqK
abbrev o46 (ks:List Nat) (b:Bool) (RES:Int×(List Int)) (sm:List Nat := []):Orc := .call 248 ks b (pI RES.1) [roI RES.2] [] sm
end Go.Dm


/- Go functions compute their models, printed by a program. -/
namespace Go.Dm
open Go.Proofs
set_option linter.unusedVariables false
abbrev Cw (p0:List Int) (p1:Int) (p3:Int):=((p0.set (Int.toNat p1) (p0.getD (Int.toNat p3) 0)).set (Int.toNat p3) (p0.getD (Int.toNat p1) 0))
abbrev c47e2 (p0:List Int) (p1:Int) (p3:Int) (s1:Int) (s17:Int):=(Az (Az (elI (Cw p0 p1 p3)) (Int.toNat s1) [vi ((Cw p0 p1 p3).getD (Int.toNat s17) 0)]) (Int.toNat s17) (setRange ((Az (elI (Cw p0 p1 p3)) (Int.toNat s1) [vi ((Cw p0 p1 p3).getD (Int.toNat s17) 0)]) (Int.toNat s17)) 0 [vi ((Cw p0 p1 p3).getD (Int.toNat s1) 0)]))
abbrev c47e3 (p0:List Int) (p1:Int) (p3:Int):=(Az (Az (elI p0) (Int.toNat p1) [vi (p0.getD (Int.toNat p3) 0)]) (Int.toNat p3) (setRange ((Az (elI p0) (Int.toNat p1) [vi (p0.getD (Int.toNat p3) 0)]) (Int.toNat p3)) 0 [vi (p0.getD (Int.toNat p1) 0)]))
abbrev c47e4 (s25:(List Int)×Int×Int) (s29:Int) (s31:Int):=(Az (Az (elI s25.1) (Int.toNat s29) [vi (s25.1.getD (Int.toNat s31) 0)]) (Int.toNat s31) (setRange ((Az (elI s25.1) (Int.toNat s29) [vi (s25.1.getD (Int.toNat s31) 0)]) (Int.toNat s31)) 0 [vi (s25.1.getD (Int.toNat s29) 0)]))
abbrev c47e5 (s25:(List Int)×Int×Int) (s29:Int) (s31:Int):=((s25.1.set (Int.toNat s29) (s25.1.getD (Int.toNat s31) 0)).set (Int.toNat s31) (s25.1.getD (Int.toNat s29) 0))
theorem Tv (p0:List Int) (p1:Int) (p2:Int) (p3:Int) (RES:Int×Bool×(List Int)) (hm:Jb p0 p1 p2 p3=some RES):Spec Tryz.prog 249 [ow 0 p0.length,pI p1,pI p2,pI p3] [roI p0] (.p (.tup [vi RES.1,vb RES.2.1])) [roI RES.2.2] []:=by
 unfold Jb at hm
 refine SO Tryz.func249 rfl rfl [(0,ow 0 p0.length),(1,pI p1),(2,pI p2),(3,pI p3)] [(0,ob0 (roI p0))] ?_
 intro cx hnt
 refine Sq (RD hnt (nn 2 []) [] [] [] [] tv ?_)
 obtain ⟨g1,g2,g3,g4,hm⟩:=go4 hm
 obtain ⟨g5,g6,g7,g8,hm⟩:=go4 hm
 refine Sq (RN hnt (nn 16 []) [(0,ow 0 (Cw p0 p1 p3).length),(1,pI p1),(2,pI p2)] [(0,ob0 (roI (Cw p0 p1 p3)))] [(0,ow 0 p0.length)] [(0,.row 1 p0.length (c47e3 p0 p1 p3))] (an g1.1 (an g1.2 (an g2 (an g3.1 (an g3.2 (an g4 (an g5.1 (an g5.2 (an g6 (an g7.1 (an g7.2 (an g8 tv)))))))))))) (by kernel_rfl) (.cons rfl (MLe.ownLen (enc:=Bm) (d:=0) (f:=(c47e3 p0 p1 p3)) (RowIs.updR (RowIs.upd RowIs.elems (p0.getD (Int.toNat p3) 0) rfl) (by omega) (p0.getD (Int.toNat p1) 0) rfl)) .nil) (.cons rfl (BLe.typed (RowIs.updR (RowIs.upd RowIs.elems (p0.getD (Int.toNat p3) 0) rfl) (by omega) (p0.getD (Int.toNat p1) 0) rfl)) .nil) ?_)
 refine Sq (RD hnt (nn 6 []) [2] [(10,pI (w64 (p1+1))),(11,pI (w64 (p2-1)))] [] [] tv ?_)
 refine Sq (Bk ?_)
 refine DW.whileO (fun (s1:Int)=>Af [(0,ow 0 (Cw p0 p1 p3).length),(1,pI p1),(10,pI s1),(11,pI (w64 (p2-1)))] [(0,ob0 (roI (Cw p0 p1 p3)))]) hm Conv.eqK ?_
 intro s1 n1 hm
 unfold Na at hm
 refine Sq (Sq ?_)
 refine Jn (ι:=Bool) (fun (y28:Bool)=>Af [(0,ow 0 (Cw p0 p1 p3).length),(1,pI p1),(10,pI s1),(11,pI (w64 (p2-1))),(43,pB y28)] [(0,ob0 (roI (Cw p0 p1 p3)))]) (fun y28=>(Er p0 p1 p2 p3 s1 n1) y28=some RES) ?_ ?_
 ·intro y28 hm
  unfold Er at hm
  refine Ak hm ?_ ?_
  ·intro h588 hm
   refine Sk ?_
   refine Bk ?_
   refine RD hnt (nn 3 []) [43] [(10,pI (w64 (s1+1)))] [] [] tv ?_
   refine DW.done ?_
   show DW _ _ _ _ _
   exact jD (w64 (s1+1)) hm Conv.eqK
  ·intro h588 hm
   refine DW.exit ?_
   refine Ai ?_
   refine Ap ?_
   refine Ae ?_
   show DW _ _ _ _ _
   refine Sq (Bk ?_)
   refine DW.whileO (fun (s17:Int)=>Af [(0,ow 0 (Cw p0 p1 p3).length),(1,pI p1),(10,pI s1),(11,pI s17)] [(0,ob0 (roI (Cw p0 p1 p3)))]) hm Conv.t0 ?_
   intro s17 n17 hm
   unfold Md at hm
   refine Sq (Sq ?_)
   refine Jn (ι:=Bool) (fun (y42:Bool)=>Af [(0,ow 0 (Cw p0 p1 p3).length),(1,pI p1),(10,pI s1),(11,pI s17),(60,pB y42)] [(0,ob0 (roI (Cw p0 p1 p3)))]) (fun y42=>(En p0 p1 p3 s1 s17 n17) y42=some RES) ?_ ?_
   ·intro y42 hm
    unfold En at hm
    refine Ak hm ?_ ?_
    ·intro h875 hm
     refine Sk ?_
     refine Bk ?_
     refine RD hnt (nn 3 []) [60] [(11,pI (w64 (s17-1)))] [] [] tv ?_
     refine DW.done ?_
     show DW _ _ _ _ _
     exact jD (w64 (s17-1)) hm Conv.eqK
    ·intro h875 hm
     refine DW.exit ?_
     refine Ai ?_
     refine Ap ?_
     refine Ae ?_
     show DW _ _ _ _ _
     refine Sq (Sq (RD hnt (nn 3 []) [60] [(65,pB (decide (s1>s17)))] [] [] tv ?_))
     refine Ak hm ?_ ?_
     ·intro h876 hm
      obtain ⟨g877,g878,g879,g880,hm⟩:=go4 hm
      obtain ⟨g881,g882,g883,g884,hm⟩:=go4 hm
      refine Sq (RN hnt (nn 16 []) [(11,pI s17)] [(0,ob0 (roI (((Cw p0 p1 p3).set (Int.toNat s17) ((Cw p0 p1 p3).getD (Int.toNat p1) 0)).set (Int.toNat p1) ((Cw p0 p1 p3).getD (Int.toNat s17) 0))))] [] [(0,.row 1 (Cw p0 p1 p3).length (Az (Az (elI (Cw p0 p1 p3)) (Int.toNat s17) [vi ((Cw p0 p1 p3).getD (Int.toNat p1) 0)]) (Int.toNat p1) (setRange ((Az (elI (Cw p0 p1 p3)) (Int.toNat s17) [vi ((Cw p0 p1 p3).getD (Int.toNat p1) 0)]) (Int.toNat p1)) 0 [vi ((Cw p0 p1 p3).getD (Int.toNat s17) 0)])))] (an g877.1 (an g877.2 (an g878 (an g879.1 (an g879.2 (an g880 (an g881.1 (an g881.2 (an g882 (an g883.1 (an g883.2 (an g884 tv)))))))))))) (by kernel_rfl) .nil (.cons rfl (BLe.typed (RowIs.updR (RowIs.upd RowIs.elems ((Cw p0 p1 p3).getD (Int.toNat p1) 0) rfl) (by omega) ((Cw p0 p1 p3).getD (Int.toNat s17) 0) rfl)) .nil) ?_)
      refine Sq (RD hnt (nn 3 []) [11] [(8,pI s17),(9,pB true)] [] [] tv ?_)
      obtain rfl:=sj hm
      exact DW.ret (Aj [roI (((Cw p0 p1 p3).set (Int.toNat s17) ((Cw p0 p1 p3).getD (Int.toNat p1) 0)).set (Int.toNat p1) ((Cw p0 p1 p3).getD (Int.toNat s17) 0))] [] (.p (.tup [vi s17,vb true])))
     ·intro h876 hm
      refine Sk ?_
      obtain ⟨g885,g886,g887,g888,hm⟩:=go4 hm
      obtain ⟨g889,g890,g891,g892,hm⟩:=go4 hm
      refine Sq (RN hnt (nn 16 []) [(0,ow 0 (((Cw p0 p1 p3).set (Int.toNat s1) ((Cw p0 p1 p3).getD (Int.toNat s17) 0)).set (Int.toNat s17) ((Cw p0 p1 p3).getD (Int.toNat s1) 0)).length),(1,pI p1),(10,pI s1),(11,pI s17)] [(0,ob0 (roI (((Cw p0 p1 p3).set (Int.toNat s1) ((Cw p0 p1 p3).getD (Int.toNat s17) 0)).set (Int.toNat s17) ((Cw p0 p1 p3).getD (Int.toNat s1) 0))))] [(0,ow 0 (Cw p0 p1 p3).length)] [(0,.row 1 (Cw p0 p1 p3).length (c47e2 p0 p1 p3 s1 s17))] (an g885.1 (an g885.2 (an g886 (an g887.1 (an g887.2 (an g888 (an g889.1 (an g889.2 (an g890 (an g891.1 (an g891.2 (an g892 tv)))))))))))) (by kernel_rfl) (.cons rfl (MLe.ownLen (enc:=Bm) (d:=0) (f:=(c47e2 p0 p1 p3 s1 s17)) (RowIs.updR (RowIs.upd RowIs.elems ((Cw p0 p1 p3).getD (Int.toNat s17) 0) rfl) (by omega) ((Cw p0 p1 p3).getD (Int.toNat s1) 0) rfl)) .nil) (.cons rfl (BLe.typed (RowIs.updR (RowIs.upd RowIs.elems ((Cw p0 p1 p3).getD (Int.toNat s17) 0) rfl) (by omega) ((Cw p0 p1 p3).getD (Int.toNat s1) 0) rfl)) .nil) ?_)
      refine Sq (RD hnt (nn 3 []) [] [(10,pI (w64 (s1+1)))] [] [] tv ?_)
      refine Sq (RD hnt (nn 3 []) [] [(11,pI (w64 (s17-1)))] [] [] tv ?_)
      refine Sq (Bk ?_)
      refine DW.whileO (fun (s25:(List Int)×Int×Int)=>Af [(0,ow 0 s25.1.length),(1,pI p1),(10,pI s25.2.1),(11,pI s25.2.2)] [(0,ob0 (roI s25.1))]) hm Conv.eqK ?_
      intro s25 n25 hm
      unfold Mc at hm
      refine Bk ?_
      refine Sq (Bk ?_)
      refine DW.whileO (fun (s29:Int)=>Af [(0,ow 0 s25.1.length),(1,pI p1),(10,pI s29),(11,pI s25.2.2)] [(0,ob0 (roI s25.1))]) hm .refl ?_
      intro s29 n29 hm
      unfold Lw at hm
      refine Sq (Sq ?_)
      refine Jn (ι:=Bool) (fun (y52:Bool)=>Af [(0,ow 0 s25.1.length),(1,pI p1),(10,pI s29),(11,pI s25.2.2),(112,pB y52)] [(0,ob0 (roI s25.1))]) (fun y52=>(Em p1 s25 n25 s29 n29) y52=some RES) ?_ ?_
      ·intro y52 hm
       unfold Em at hm
       refine Ak hm ?_ ?_
       ·intro h1088 hm
        refine Sk ?_
        refine Bk ?_
        refine RD hnt (nn 3 []) [112] [(10,pI (w64 (s29+1)))] [] [] tv ?_
        refine DW.done ?_
        show DW _ _ _ _ _
        exact jD (w64 (s29+1)) hm Conv.eqK
       ·intro h1088 hm
        refine DW.exit ?_
        refine Ai ?_
        refine Ap ?_
        refine Ae ?_
        show DW _ _ _ _ _
        refine Sq (Bk ?_)
        refine DW.whileO (fun (s31:Int)=>Af [(0,ow 0 s25.1.length),(1,pI p1),(10,pI s29),(11,pI s31)] [(0,ob0 (roI s25.1))]) hm Conv.t0 ?_
        intro s31 n31 hm
        unfold Ly at hm
        refine Sq (Sq ?_)
        refine Jn (ι:=Bool) (fun (y54:Bool)=>Af [(0,ow 0 s25.1.length),(1,pI p1),(10,pI s29),(11,pI s31),(129,pB y54)] [(0,ob0 (roI s25.1))]) (fun y54=>(Eo p1 s25 n25 s29 s31 n31) y54=some RES) ?_ ?_
        ·intro y54 hm
         unfold Eo at hm
         refine Ak hm ?_ ?_
         ·intro h1119 hm
          refine Sk ?_
          refine Bk ?_
          refine RD hnt (nn 3 []) [129] [(11,pI (w64 (s31-1)))] [] [] tv ?_
          refine DW.done ?_
          show DW _ _ _ _ _
          exact jD (w64 (s31-1)) hm Conv.eqK
         ·intro h1119 hm
          refine DW.exit ?_
          refine Ai ?_
          refine Ap ?_
          refine Ae ?_
          show DW _ _ _ _ _
          refine Sq (Sq (RD hnt (nn 3 []) [129] [(134,pB (decide (s29>s31)))] [] [] tv ?_))
          refine Ak hm ?_ ?_
          ·intro h1120 hm
           refine DW.exit ?_
           refine Gh (by decide) ?_
           refine Ap ?_
           refine Ai ?_
           refine Ap ?_
           refine Ae ?_
           show DW _ _ _ _ _
           obtain ⟨g1121,g1122,g1123,g1124,hm⟩:=go4 hm
           obtain ⟨g1125,g1126,g1127,g1128,hm⟩:=go4 hm
           refine Sq (RN hnt (nn 16 []) [(11,pI s31)] [(0,ob0 (roI ((s25.1.set (Int.toNat s31) (s25.1.getD (Int.toNat p1) 0)).set (Int.toNat p1) (s25.1.getD (Int.toNat s31) 0))))] [] [(0,.row 1 s25.1.length (Az (Az (elI s25.1) (Int.toNat s31) [vi (s25.1.getD (Int.toNat p1) 0)]) (Int.toNat p1) (setRange ((Az (elI s25.1) (Int.toNat s31) [vi (s25.1.getD (Int.toNat p1) 0)]) (Int.toNat p1)) 0 [vi (s25.1.getD (Int.toNat s31) 0)])))] (an g1121.1 (an g1121.2 (an g1122 (an g1123.1 (an g1123.2 (an g1124 (an g1125.1 (an g1125.2 (an g1126 (an g1127.1 (an g1127.2 (an g1128 tv)))))))))))) (by kernel_rfl) .nil (.cons rfl (BLe.typed (RowIs.updR (RowIs.upd RowIs.elems (s25.1.getD (Int.toNat p1) 0) rfl) (by omega) (s25.1.getD (Int.toNat s31) 0) rfl)) .nil) ?_)
           refine Sq (RD hnt (nn 3 []) [11] [(8,pI s31),(9,pB false)] [] [] tv ?_)
           obtain rfl:=sj hm
           exact DW.ret (Aj [roI ((s25.1.set (Int.toNat s31) (s25.1.getD (Int.toNat p1) 0)).set (Int.toNat p1) (s25.1.getD (Int.toNat s31) 0))] [] (.p (.tup [vi s31,vb false])))
          ·intro h1120 hm
           refine Sk ?_
           obtain ⟨g1129,g1130,g1131,g1132,hm⟩:=go4 hm
           obtain ⟨g1133,g1134,g1135,g1136,hm⟩:=go4 hm
           refine Sq (RN hnt (nn 16 []) [(0,ow 0 (c47e5 s25 s29 s31).length),(1,pI p1),(10,pI s29),(11,pI s31)] [(0,ob0 (roI (c47e5 s25 s29 s31)))] [(0,ow 0 s25.1.length)] [(0,.row 1 s25.1.length (c47e4 s25 s29 s31))] (an g1129.1 (an g1129.2 (an g1130 (an g1131.1 (an g1131.2 (an g1132 (an g1133.1 (an g1133.2 (an g1134 (an g1135.1 (an g1135.2 (an g1136 tv)))))))))))) (by kernel_rfl) (.cons rfl (MLe.ownLen (enc:=Bm) (d:=0) (f:=(c47e4 s25 s29 s31)) (RowIs.updR (RowIs.upd RowIs.elems (s25.1.getD (Int.toNat s31) 0) rfl) (by omega) (s25.1.getD (Int.toNat s29) 0) rfl)) .nil) (.cons rfl (BLe.typed (RowIs.updR (RowIs.upd RowIs.elems (s25.1.getD (Int.toNat s31) 0) rfl) (by omega) (s25.1.getD (Int.toNat s29) 0) rfl)) .nil) ?_)
           refine Sq (RD hnt (nn 3 []) [] [(10,pI (w64 (s29+1)))] [] [] tv ?_)
           refine RD hnt (nn 3 []) [] [(11,pI (w64 (s31-1)))] [] [] tv ?_
           refine DW.done ?_
           show DW _ _ _ _ _
           exact jD ((c47e5 s25 s29 s31),(w64 (s29+1)),(w64 (s31-1))) hm Conv.eqK
        ·rcases bt (decide (s29≤s31)) with h1113|h1113
         ·replace hm:=Bt h1113 hm
          obtain ⟨g1114,g1115,g1116,g1117,hm⟩:=go4 hm
          obtain ⟨r1118,hr1118,hm⟩:=bo hm
          refine RD hnt (nn 12 (o36 [] true r1118 :: .no::pT :: [])) [] [(129,pB (!r1118))] [] [] (an3 h1113 (an g1114.1 (an g1114.2 (an h1113 (an g1115 (an3 h1113 (an g1116.1 (an g1116.2 (an h1113 (an g1117 (an h1113 (an (Co (s25.1.getD (Int.toNat s31) 0) (s25.1.getD (Int.toNat p1) 0) r1118 hr1118) (an2 h1113 tv))))))))))))) ?_
          exact jD (!r1118) hm Conv.eqK
         ·replace hm:=Bs h1113 hm
          refine RD hnt (nn 4 (sk 10 (pF :: []))) [] [(129,pB false)] [] [] (an5 h1113 (an6 h1113 tv)) ?_
          exact jD false hm Conv.eqK
      ·rcases bt (decide (s29≤s25.2.2)) with h1082|h1082
       ·replace hm:=Bt h1082 hm
        obtain ⟨g1083,g1084,g1085,g1086,hm⟩:=go4 hm
        obtain ⟨r1087,hr1087,hm⟩:=bo hm
        refine RD hnt (nn 12 (o36 [] true r1087::pT :: [])) [] [(112,pB r1087)] [] [] (an3 h1082 (an g1083.1 (an g1083.2 (an h1082 (an g1084 (an3 h1082 (an g1085.1 (an g1085.2 (an h1082 (an g1086 (an h1082 (an (Co (s25.1.getD (Int.toNat s29) 0) (s25.1.getD (Int.toNat p1) 0) r1087 hr1087) (an h1082 tv))))))))))))) ?_
        exact jD r1087 hm Conv.eqK
       ·replace hm:=Bs h1082 hm
        refine RD hnt (nn 4 (sk 9 (pF :: []))) [] [(112,pB false)] [] [] (an4 h1082 (an6 h1082 tv)) ?_
        exact jD false hm Conv.eqK
   ·rcases bt (decide (s1≤s17)) with h869|h869
    ·replace hm:=Bt h869 hm
     obtain ⟨g870,g871,g872,g873,hm⟩:=go4 hm
     obtain ⟨r874,hr874,hm⟩:=bo hm
     refine RD hnt (nn 12 (o36 [] true r874 :: .no::pT :: [])) [] [(60,pB (!r874))] [] [] (an3 h869 (an g870.1 (an g870.2 (an h869 (an g871 (an3 h869 (an g872.1 (an g872.2 (an h869 (an g873 (an h869 (an (Co ((Cw p0 p1 p3).getD (Int.toNat s17) 0) ((Cw p0 p1 p3).getD (Int.toNat p1) 0) r874 hr874) (an2 h869 tv))))))))))))) ?_
     exact jD (!r874) hm Conv.eqK
    ·replace hm:=Bs h869 hm
     refine RD hnt (nn 4 (sk 10 (pF :: []))) [] [(60,pB false)] [] [] (an5 h869 (an6 h869 tv)) ?_
     exact jD false hm Conv.eqK
 ·rcases bt (decide (s1≤(w64 (p2-1)))) with h582|h582
  ·replace hm:=Bt h582 hm
   obtain ⟨g583,g584,g585,g586,hm⟩:=go4 hm
   obtain ⟨r587,hr587,hm⟩:=bo hm
   refine RD hnt (nn 12 (o36 [] true r587::pT :: [])) [] [(43,pB r587)] [] [] (an3 h582 (an g583.1 (an g583.2 (an h582 (an g584 (an3 h582 (an g585.1 (an g585.2 (an h582 (an g586 (an h582 (an (Co ((Cw p0 p1 p3).getD (Int.toNat s1) 0) ((Cw p0 p1 p3).getD (Int.toNat p1) 0) r587 hr587) (an h582 tv))))))))))))) ?_
   exact jD r587 hm Conv.eqK
  ·replace hm:=Bs h582 hm
   refine RD hnt (nn 4 (sk 9 (pF :: []))) [] [(43,pB false)] [] [] (an4 h582 (an6 h582 tv)) ?_
   exact jD false hm Conv.eqK
abbrev o47 (ks:List Nat) (b:Bool) (RES:Int×Bool×(List Int)) (sm:List Nat := []):Orc := .call 249 ks b (.p (.tup [vi RES.1,vb RES.2.1])) [roI RES.2.2] [] sm

theorem Yx (p0:Int) (RES:Int) (hm:Ny p0=some RES):Spec Tryz.prog 297 [pI p0] [] (.p (vk .u64 RES)) [] []:=by
 unfold Ny at hm
 refine SO Tryz.func297 rfl rfl [(0,pI p0)] [] ?_
 intro cx hnt
 refine Sq (RK hnt (.no :: []) [(0,pI p0)] [] tv ?_)
 obtain ⟨r1,hr1,hm⟩:=bo hm
 obtain ⟨g2,hm⟩:=go1 hm
 refine Sq (RK hnt (nn 2 (o32 [] true r1::nn 2 [])) [(2,.p (vk .u64 (kshl .u64 1 r1)))] [] (an (AdM (IntKind.u64.wrap p0) r1 hr1) (an g2 tv)) ?_)
 obtain rfl:=sj hm
 exact DW.ret (Aj [] [] (.p (vk .u64 (kshl .u64 1 r1))))
abbrev o49 (ks:List Nat) (b:Bool) (RES:Int) (sm:List Nat := []):Orc := .call 297 ks b (.p (vk .u64 RES)) [] [] sm

theorem Zr (p0:Int) (RES:Int×Int) (hm:Ov p0=some RES):Spec Tryz.prog 298 [rr 0] [.box [.p (vk .u64 p0)]] (.p (vk .u64 RES.1)) [.box [.p (vk .u64 RES.2)]] []:=by
 unfold Ov at hm
 refine SO Tryz.func298 rfl rfl [(0,rr 0)] [(0,bx [.p (vk .u64 p0)])] ?_
 intro cx hnt
 refine Sq (RD hnt (.no :: []) [] [] [] [] tv ?_)
 refine Sq (RK hnt (nn 10 []) [(0,rr 0)] [(0,bx [.p (vk .u64 (kxor .u64 p0 (kshl .u64 p0 13)))])] (an (by decide:(0:Int)≤13) tv) ?_)
 refine Sq (RK hnt (nn 10 []) [(0,rr 0)] [(0,bx [.p (vk .u64 (kxor .u64 (kxor .u64 p0 (kshl .u64 p0 13)) (kshr .u64 (kxor .u64 p0 (kshl .u64 p0 13)) 7)))])] (an (by decide:(0:Int)≤7) tv) ?_)
 refine Sq (RK hnt (nn 10 []) [(0,rr 0)] [(0,bx [.p (vk .u64 (kxor .u64 (kxor .u64 (kxor .u64 p0 (kshl .u64 p0 13)) (kshr .u64 (kxor .u64 p0 (kshl .u64 p0 13)) 7)) (kshl .u64 (kxor .u64 (kxor .u64 p0 (kshl .u64 p0 13)) (kshr .u64 (kxor .u64 p0 (kshl .u64 p0 13)) 7)) 17)))])] (an (by decide:(0:Int)≤17) tv) ?_)
 refine Sq (RD hnt (nn 4 []) [0] [(2,.p (vk .u64 (kxor .u64 (kxor .u64 (kxor .u64 p0 (kshl .u64 p0 13)) (kshr .u64 (kxor .u64 p0 (kshl .u64 p0 13)) 7)) (kshl .u64 (kxor .u64 (kxor .u64 p0 (kshl .u64 p0 13)) (kshr .u64 (kxor .u64 p0 (kshl .u64 p0 13)) 7)) 17))))] [] [] tv ?_)
 obtain rfl:=sj hm
 exact DW.ret (Aj [.box [.p (vk .u64 (kxor .u64 (kxor .u64 (kxor .u64 p0 (kshl .u64 p0 13)) (kshr .u64 (kxor .u64 p0 (kshl .u64 p0 13)) 7)) (kshl .u64 (kxor .u64 (kxor .u64 p0 (kshl .u64 p0 13)) (kshr .u64 (kxor .u64 p0 (kshl .u64 p0 13)) 7)) 17)))]] [] (.p (vk .u64 (kxor .u64 (kxor .u64 (kxor .u64 p0 (kshl .u64 p0 13)) (kshr .u64 (kxor .u64 p0 (kshl .u64 p0 13)) 7)) (kshl .u64 (kxor .u64 (kxor .u64 p0 (kshl .u64 p0 13)) (kshr .u64 (kxor .u64 p0 (kshl .u64 p0 13)) 7)) 17)))))
abbrev o50 (ks:List Nat) (b:Bool) (RES:Int×Int) (sm:List Nat := []):Orc := .call 298 ks b (.p (vk .u64 RES.1)) [.box [.p (vk .u64 RES.2)]] [] sm

abbrev c48e1 (s1:(List Int)×Int×Int) (p1:Int) (y2:Int):=(Az (Az (elI s1.1) (Int.toNat s1.2.2) [vi (s1.1.getD (Int.toNat (w64 (p1+y2))) 0)]) (Int.toNat (w64 (p1+y2))) (setRange ((Az (elI s1.1) (Int.toNat s1.2.2) [vi (s1.1.getD (Int.toNat (w64 (p1+y2))) 0)]) (Int.toNat (w64 (p1+y2)))) 0 [vi (s1.1.getD (Int.toNat s1.2.2) 0)]))
abbrev c48e2 (s1:(List Int)×Int×Int) (p1:Int) (y2:Int):=((s1.1.set (Int.toNat s1.2.2) (s1.1.getD (Int.toNat (w64 (p1+y2))) 0)).set (Int.toNat (w64 (p1+y2))) (s1.1.getD (Int.toNat s1.2.2) 0))
abbrev c48e3 (r15:Int×Int) (r2:Int):=(w64 (kand .u64 r15.1 (IntKind.u64.wrap (r2-1))))
theorem Ri (p0:List Int) (p1:Int) (p2:Int) (RES:List Int) (hm:Gz p0 p1 p2=some RES):Spec Tryz.prog 243 [ow 0 p0.length,pI p1,pI p2] [roI p0] (.p (.tup [])) [roI RES] []:=by
 unfold Gz at hm
 refine SO Tryz.func243 rfl rfl [(0,ow 0 p0.length),(1,pI p1),(2,pI p2)] [(0,ob0 (roI p0))] ?_
 intro cx hnt
 refine Sq (RD hnt (nn 4 []) [2] [(6,pI (w64 (p2-p1)))] [] [] tv ?_)
 refine Sq (RD hnt (nn 2 []) [] [(15,pB (decide ((w64 (p2-p1))≥8)))] [] [] tv ?_)
 refine Ak hm ?_ ?_
 ·intro h1 hm
  refine Sq (RD hnt (nn 4 []) [15] [(7,rr 1056)] [] [(1056,bx [.p (vk .u64 (IntKind.u64.wrap (w64 (p2-p1))))])] tv ?_)
  obtain ⟨r2,hr2,hm⟩:=bo hm
  refine Sq (RD hnt (.no::o49 [] true r2 :: .no :: []) [] [(8,.p (vk .u64 r2))] [] [] (an (Yx (w64 (p2-p1)) r2 hr2) tv) ?_)
  refine Sq (RD hnt (nn 7 []) [] [(9,pI (w64 ((w64 (p1+(w64 ((w64 (Int.tdiv (w64 (p2-p1)) 4))*2))))-1)))] [] [] (an (by decide:(4:Int)≠0) tv) ?_)
  refine Bk ?_
  refine DW.whileO (fun (s1:(List Int)×Int×Int)=>Af [(0,ow 0 s1.1.length),(1,pI p1),(6,pI (w64 (p2-p1))),(7,rr 1056),(8,.p (vk .u64 r2)),(9,pI s1.2.2)] [(0,ob0 (roI s1.1)),(1056,bx [.p (vk .u64 s1.2.1)])]) hm Conv.eqK ?_
  intro s1 n1 hm
  unfold Kw at hm
  refine Sq (Sq (RD hnt (nn 8 []) [] [(33,pB (decide (s1.2.2≤(w64 ((w64 (p1+(w64 ((w64 (Int.tdiv (w64 (p2-p1)) 4))*2))))+1)))))] [] [] (an (by decide:(4:Int)≠0) tv) ?_))
  refine Ak hm ?_ ?_
  ·intro h14 hm
   refine Sk ?_
   refine Sq (Bk ?_)
   obtain ⟨r15,hr15,hm⟩:=bo hm
   refine Sq (RD hnt (o50 [1056] true r15::nn 5 []) [33] [(10,pI (c48e3 r15 r2))] [] [(1056,bx [.p (vk .u64 r15.2)])] (an (Zr s1.2.1 r15 hr15) (an tv tv)) ?_)
   refine Sq (Sq (RD hnt (nn 3 []) [] [(43,pB (decide ((c48e3 r15 r2)≥(w64 (p2-p1)))))] [] [] tv ?_))
   refine Jn (ι:=Int) (fun (y2:Int)=>Af [(0,ow 0 s1.1.length),(1,pI p1),(6,pI (w64 (p2-p1))),(7,rr 1056),(8,.p (vk .u64 r2)),(9,pI s1.2.2),(10,pI y2)] [(0,ob0 (roI s1.1)),(1056,bx [.p (vk .u64 r15.2)])]) (fun y2=>(Dy p1 s1 n1 r15) y2=some RES) ?_ ?_
   ·intro y2 hm
    unfold Dy at hm
    obtain ⟨g17,g18,g19,g20,hm⟩:=go4 hm
    obtain ⟨g21,g22,g23,g24,hm⟩:=go4 hm
    refine RN hnt (nn 20 []) [(0,ow 0 (c48e2 s1 p1 y2).length),(1,pI p1),(6,pI (w64 (p2-p1))),(7,rr 1056),(8,.p (vk .u64 r2)),(9,pI s1.2.2)] [(0,ob0 (roI (c48e2 s1 p1 y2))),(1056,bx [.p (vk .u64 r15.2)])] [(0,ow 0 s1.1.length)] [(0,.row 1 s1.1.length (c48e1 s1 p1 y2))] (an g17.1 (an g17.2 (an g18 (an g19.1 (an g19.2 (an g20 (an g21.1 (an g21.2 (an g22 (an g23.1 (an g23.2 (an g24 tv)))))))))))) (by kernel_rfl) (.cons rfl (MLe.ownLen (enc:=Bm) (d:=0) (f:=(c48e1 s1 p1 y2)) (RowIs.updR (RowIs.upd RowIs.elems (s1.1.getD (Int.toNat (w64 (p1+y2))) 0) rfl) (by omega) (s1.1.getD (Int.toNat s1.2.2) 0) rfl)) .nil) (.cons rfl (BLe.typed (RowIs.updR (RowIs.upd RowIs.elems (s1.1.getD (Int.toNat (w64 (p1+y2))) 0) rfl) (by omega) (s1.1.getD (Int.toNat s1.2.2) 0) rfl)) .nil) ?_
    refine DW.done ?_
    show DW _ _ _ _ _
    refine RD hnt (nn 3 []) [] [(9,pI (w64 (s1.2.2+1)))] [] [] tv ?_
    exact jD ((c48e2 s1 p1 y2),r15.2,(w64 (s1.2.2+1))) hm Conv.eqK
   ·refine Ak hm ?_ ?_
    ·intro h16 hm
     refine RD hnt (nn 4 []) [43] [(10,pI (w64 ((c48e3 r15 r2)-(w64 (p2-p1)))))] [] [] tv ?_
     exact jD (w64 ((c48e3 r15 r2)-(w64 (p2-p1)))) hm Conv.eqK
    ·intro h16 hm
     refine Sk ?_
     exact jD (c48e3 r15 r2) hm Conv.t0
  ·intro h14 hm
   refine DW.exit ?_
   refine Ai ?_
   refine Ap ?_
   refine Ae ?_
   show DW _ _ _ _ _
   refine DW.done ?_
   obtain rfl:=sj hm
   exact endK [roI s1.1] [] (.p (.tup []))
 ·intro h1 hm
  refine Sk ?_
  refine DW.done ?_
  obtain rfl:=sj hm
  exact endK [roI p0] [] (.p (.tup []))
abbrev o48 (ks:List Nat) (b:Bool) (RES:List Int) (sm:List Nat := []):Orc := .call 243 ks b (.p (.tup [])) [roI RES] [] sm

abbrev Wp (s1:(List Int)×Int×Int×Int×Bool×Bool):Nat×MV:=(10,pI (w64 (s1.2.2.1-s1.2.1)))
abbrev AbZ (s1:(List Int)×Int×Int×Int×Bool×Bool):=(w64 (Int.tdiv (w64 (s1.2.2.1-s1.2.1)) 8))
theorem Ur (rec:(List Int)→Int→Int→Int→Option (List Int)) (ih:∀ (p0:List Int) (p1:Int) (p2:Int) (p3:Int) (RES:List Int),rec p0 p1 p2 p3=some RES→Spec Tryz.prog 173 [ow 0 p0.length,pI p1,pI p2,pI p3] [roI p0] (.p (.tup [])) [roI RES] []) (p0:List Int) (p1:Int) (p2:Int) (p3:Int) (RES:List Int) (hm:Jq rec p0 p1 p2 p3=some RES):Spec Tryz.prog 173 [ow 0 p0.length,pI p1,pI p2,pI p3] [roI p0] (.p (.tup [])) [roI RES] []:=by
 unfold Jq at hm
 refine SO Tryz.func173 rfl rfl [(0,ow 0 p0.length),(1,pI p1),(2,pI p2),(3,pI p3)] [(0,ob0 (roI p0))] ?_
 intro cx hnt
 refine Sq (RD hnt (.no :: []) [] [(8,pB true)] [] [] tv ?_)
 refine Sq (RD hnt (.no :: []) [] [(9,pB true)] [] [] tv ?_)
 refine Bk ?_
 refine DW.whileO (fun (s1:(List Int)×Int×Int×Int×Bool×Bool)=>Af [(0,ow 0 s1.1.length),(1,pI s1.2.1),(2,pI s1.2.2.1),(3,pI s1.2.2.2.1),(8,pB s1.2.2.2.2.1),(9,pB s1.2.2.2.2.2)] [(0,ob0 (roI s1.1))]) hm Conv.eqK ?_
 intro s1 n1 hm
 unfold Oe at hm
 refine Bk ?_
 refine Sq (RD hnt (nn 4 []) [] [(Wp s1)] [] [] tv ?_)
 refine Sq (Sq (RD hnt (nn 2 []) [] [(23,pB (decide ((w64 (s1.2.2.1-s1.2.1))≤12)))] [] [] tv ?_))
 refine Ak hm ?_ ?_
 ·intro h66 hm
  obtain ⟨r67,hr67,hm⟩:=bo hm
  obtain ⟨g68,hm⟩:=go1 hm
  refine Sq (RK hnt (nn 3 (o35 [0] true r67 :: [])) [] [(0,ob0 (roI r67))] (an (Ru s1.1 s1.2.1 s1.2.2.1 r67 hr67) (an (⟨rfl,g68⟩:Body.same (roI s1.1) (roI r67)) tv)) ?_)
  obtain rfl:=sj hm
  exact DW.ret (Aj [roI r67] [] (.p (.tup [])))
 ·intro h66 hm
  refine Sk ?_
  refine Sq (Sq (RD hnt (nn 2 []) [23] [(29,pB (s1.2.2.2.1==0))] [] [] tv ?_))
  refine Ak hm ?_ ?_
  ·intro h69 hm
   obtain ⟨r70,hr70,hm⟩:=bo hm
   obtain ⟨g71,hm⟩:=go1 hm
   refine Sq (RK hnt (nn 3 (o38 [0] true r70 :: [])) [] [(0,ob0 (roI r70))] (an (Vc s1.1 s1.2.1 s1.2.2.1 r70 hr70) (an (⟨rfl,g71⟩:Body.same (roI s1.1) (roI r70)) tv)) ?_)
   obtain rfl:=sj hm
   exact DW.ret (Aj [roI r70] [] (.p (.tup [])))
  ·intro h69 hm
   refine Sk ?_
   refine Sq (Sq (RD hnt (nn 2 []) [29] [(35,pB (!s1.2.2.2.2.1))] [] [] tv ?_))
   refine Jn (ι:=(List Int)×Int) (fun (y8:(List Int)×Int)=>Af [(0,ow 0 y8.1.length),(1,pI s1.2.1),(2,pI s1.2.2.1),(3,pI y8.2),(8,pB s1.2.2.2.2.1),(9,pB s1.2.2.2.2.2),(Wp s1)] [(0,ob0 (roI y8.1))]) (fun y8=>(Gb rec s1 n1) y8=some RES) ?_ ?_
   ·intro y8 hm
    unfold Gb at hm
    obtain ⟨r75,hr75,hm⟩:=bo hm
    refine Sq (RD hnt (nn 3 (o40 [] true r75::nn 5 [])) [] [(11,pI r75.1),(12,pI r75.2)] [] [] (an (So y8.1 s1.2.1 s1.2.2.1 r75 hr75) tv) ?_)
    refine Sq (Sq (RD hnt (nn 2 []) [] [(50,pB (r75.2==2))] [] [] tv ?_))
    refine Jn (ι:=(List Int)×Int×Int) (fun (y9:(List Int)×Int×Int)=>Af [(0,ow 0 y9.1.length),(1,pI s1.2.1),(2,pI s1.2.2.1),(3,pI y8.2),(8,pB s1.2.2.2.2.1),(9,pB s1.2.2.2.2.2),(Wp s1),(11,pI y9.2.1),(12,pI y9.2.2)] [(0,ob0 (roI y9.1))]) (fun y9=>(Fz rec s1 n1 y8) y9=some RES) ?_ ?_
    ·intro y9 hm
     unfold Fz at hm
     refine Sq (Sq (DW.regJ (sl2 := [(0,ow 0 y9.1.length),(1,pI s1.2.1),(2,pI s1.2.2.1),(3,pI y8.2),(8,pB s1.2.2.2.2.1),(9,pB s1.2.2.2.2.2),(Wp s1),(11,pI y9.2.1),(68,pB ((s1.2.2.2.2.1&&s1.2.2.2.2.2)&&(y9.2.2==1)))]) (ob2 := [(0,ob0 (roI y9.1))]) ?_ ?_))
     ·rcases bt s1.2.2.2.2.1 with h79|h79
      ·rcases bt s1.2.2.2.2.2 with h80|h80
       ·exact RT hnt (nn 3 (pT::nn 3 (pT :: []))) [(68,pB (y9.2.2==1))] (an2 h79 (an3 h80 tv)) (by kernel_rfl) (.cons rfl (.of_eq (by rw [h79,h80]; try rfl)) .nil)
       ·exact RT hnt (nn 3 (pT :: .no::sk 2 (pF :: []))) [(68,pB false)] (an2 h79 (an3 h80 tv)) (by kernel_rfl) (.cons rfl (.of_eq (by rw [h79,h80]; try rfl)) .nil)
      ·exact RT hnt (nn 2 (.skip::pF :: .no::sk 2 (pF :: []))) [(68,pB false)] (an2 h79 (an3 ff tv)) (by kernel_rfl) (.cons rfl (.of_eq (by rw [h79]; try rfl)) .nil)
     ·refine Jn (ι:=List Int) (fun (y10:List Int)=>Af [(0,ow 0 y10.length),(1,pI s1.2.1),(2,pI s1.2.2.1),(3,pI y8.2),(8,pB s1.2.2.2.2.1),(9,pB s1.2.2.2.2.2),(Wp s1),(11,pI y9.2.1)] [(0,ob0 (roI y10))]) (fun y10=>(Fo rec s1 n1 y8 y9) y10=some RES) ?_ ?_
      ·intro y10 hm
       unfold Fo at hm
       refine Sq (Sq ?_)
       refine Jn (ι:=Bool) (fun (y11:Bool)=>Af [(0,ow 0 y10.length),(1,pI s1.2.1),(2,pI s1.2.2.1),(3,pI y8.2),(8,pB s1.2.2.2.2.1),(9,pB s1.2.2.2.2.2),(Wp s1),(11,pI y9.2.1),(87,pB y11)] [(0,ob0 (roI y10))]) (fun y11=>(Fg rec s1 n1 y8 y9 y10) y11=some RES) ?_ ?_
       ·intro y11 hm
        unfold Fg at hm
        refine Ak hm ?_ ?_
        ·intro h91 hm
         obtain ⟨r92,hr92,hm⟩:=bo hm
         obtain ⟨g93,hm⟩:=go1 hm
         refine Sq (RN hnt (nn 4 (o46 [0] true r92 :: .no :: [])) [(0,ow 0 r92.2.length),(2,pI s1.2.2.1),(3,pI y8.2),(8,pB s1.2.2.2.2.1),(9,pB s1.2.2.2.2.2),(13,pI r92.1)] [(0,ob0 (roI r92.2))] [(0,ow 0 y10.length)] [] (an (Qs y10 s1.2.1 s1.2.2.1 y9.2.1 r92 hr92) (an (⟨rfl,g93⟩:Body.same (roI y10) (roI r92.2)) tv)) (by kernel_rfl) (.cons rfl (MLe.of_eq (congrArg (MV.own 0 0 0) g93)) .nil) .nil ?_)
         refine Sq (RD hnt (nn 2 []) [13] [(1,pI r92.1)] [] [] tv ?_)
         refine DW.exit ?_
         refine Ae ?_
         show DW _ _ _ _ _
         exact jD (r92.2,r92.1,s1.2.2.1,y8.2,s1.2.2.2.2.1,s1.2.2.2.2.2) hm Conv.eqK
        ·intro h91 hm
         refine Sk ?_
         obtain ⟨r94,hr94,hm⟩:=bo hm
         obtain ⟨g95,hm⟩:=go1 hm
         refine Sq (RN hnt (nn 4 (o47 [0] true r94::nn 5 [])) [(0,ow 0 r94.2.2.length),(1,pI s1.2.1),(2,pI s1.2.2.1),(3,pI y8.2),(Wp s1),(14,pI r94.1),(15,pB r94.2.1)] [(0,ob0 (roI r94.2.2))] [(0,ow 0 y10.length)] [] (an (Tv y10 s1.2.1 s1.2.2.1 y9.2.1 r94 hr94) (an (⟨rfl,g95⟩:Body.same (roI y10) (roI r94.2.2)) tv)) (by kernel_rfl) (.cons rfl (MLe.of_eq (congrArg (MV.own 0 0 0) g95)) .nil) .nil ?_)
         refine Sq (RD hnt (nn 2 []) [15] [(9,pB r94.2.1)] [] [] tv ?_)
         refine Sq (RD hnt (nn 8 []) [] [(16,pI (w64 (r94.1-s1.2.1))),(17,pI (w64 (s1.2.2.1-r94.1)))] [] [] tv ?_)
         refine Sq (RD hnt (nn 3 []) [10] [(18,pI (AbZ s1))] [] [] (an (by decide:(8:Int)≠0) tv) ?_)
         refine Sq (RD hnt (nn 3 []) [] [(113,pB (decide ((w64 (r94.1-s1.2.1))<(w64 (s1.2.2.1-r94.1)))))] [] [] tv ?_)
         refine Ak hm ?_ ?_
         ·intro h96 hm
          refine Sq (RD hnt (nn 4 []) [16,17,18,113] [(8,pB (decide ((w64 (r94.1-s1.2.1))≥(AbZ s1))))] [] [] tv ?_)
          obtain ⟨r97,hr97,hm⟩:=bo hm
          obtain ⟨g98,hm⟩:=go1 hm
          refine Sq (RN hnt (nn 4 (.call 173 [0] true (.p (.tup [])) [roI r97] [] [] :: [])) [(0,ow 0 r97.length),(2,pI s1.2.2.1),(3,pI y8.2),(8,pB (decide ((w64 (r94.1-s1.2.1))≥(AbZ s1)))),(9,pB r94.2.1),(14,pI r94.1)] [(0,ob0 (roI r97))] [(0,ow 0 r94.2.2.length)] [] (an (ih r94.2.2 s1.2.1 r94.1 y8.2 r97 hr97) (an (⟨rfl,g98⟩:Body.same (roI r94.2.2) (roI r97)) tv)) (by kernel_rfl) (.cons rfl (MLe.of_eq (congrArg (MV.own 0 0 0) g98)) .nil) .nil ?_)
          refine RD hnt (nn 3 []) [14] [(1,pI (w64 (r94.1+1)))] [] [] tv ?_
          refine DW.done ?_
          show DW _ _ _ _ _
          exact jD (r97,(w64 (r94.1+1)),s1.2.2.1,y8.2,(decide ((w64 (r94.1-s1.2.1))≥(AbZ s1))),r94.2.1) hm Conv.eqK
         ·intro h96 hm
          refine Sq (RD hnt (nn 4 []) [16,17,18,113] [(8,pB (decide ((w64 (s1.2.2.1-r94.1))≥(AbZ s1))))] [] [] tv ?_)
          obtain ⟨r99,hr99,hm⟩:=bo hm
          obtain ⟨g100,hm⟩:=go1 hm
          refine Sq (RN hnt (nn 5 (.call 173 [0] true (.p (.tup [])) [roI r99] [] [] :: [])) [(0,ow 0 r99.length),(1,pI s1.2.1),(3,pI y8.2),(8,pB (decide ((w64 (s1.2.2.1-r94.1))≥(AbZ s1)))),(9,pB r94.2.1),(14,pI r94.1)] [(0,ob0 (roI r99))] [(0,ow 0 r94.2.2.length)] [] (an (ih r94.2.2 (w64 (r94.1+1)) s1.2.2.1 y8.2 r99 hr99) (an (⟨rfl,g100⟩:Body.same (roI r94.2.2) (roI r99)) tv)) (by kernel_rfl) (.cons rfl (MLe.of_eq (congrArg (MV.own 0 0 0) g100)) .nil) .nil ?_)
          refine RD hnt (nn 2 []) [14] [(2,pI r94.1)] [] [] tv ?_
          refine DW.done ?_
          show DW _ _ _ _ _
          exact jD (r99,s1.2.1,r94.1,y8.2,(decide ((w64 (s1.2.2.1-r94.1))≥(AbZ s1))),r94.2.1) hm Conv.eqK
       ·rcases bt (decide (s1.2.1>0)) with h85|h85
        ·replace hm:=Bt h85 hm
         obtain ⟨g86,g87,g88,g89,hm⟩:=go4 hm
         obtain ⟨r90,hr90,hm⟩:=bo hm
         refine RD hnt (nn 12 (o36 [] true r90 :: .no::pT :: [])) [] [(87,pB (!r90))] [] [] (an4 h85 (an g86.1 (an g86.2 (an h85 (an g87 (an3 h85 (an g88.1 (an g88.2 (an h85 (an g89 (an h85 (an (Co (y10.getD (Int.toNat (w64 (s1.2.1-1))) 0) (y10.getD (Int.toNat y9.2.1) 0) r90 hr90) (an2 h85 tv))))))))))))) ?_
         exact jD (!r90) hm Conv.eqK
        ·replace hm:=Bs h85 hm
         refine RD hnt (nn 3 (sk 11 (pF :: []))) [] [(87,pB false)] [] [] (an6 h85 (an6 h85 tv)) ?_
         exact jD false hm Conv.eqK
      ·refine Ak hm ?_ ?_
       ·intro h81 hm
        obtain ⟨r82,hr82,hm⟩:=bo hm
        obtain ⟨g83,hm⟩:=go1 hm
        refine Sq (RN hnt (nn 3 (o45 [0] true r82 :: [])) [(0,ow 0 r82.2.length),(1,pI s1.2.1),(2,pI s1.2.2.1),(3,pI y8.2),(8,pB s1.2.2.2.2.1),(9,pB s1.2.2.2.2.2),(Wp s1),(11,pI y9.2.1),(72,pB r82.1)] [(0,ob0 (roI r82.2))] [(0,ow 0 y9.1.length)] [] (an (Nw y9.1 s1.2.1 s1.2.2.1 r82 hr82) (an (⟨rfl,g83⟩:Body.same (roI y9.1) (roI r82.2)) tv)) (by kernel_rfl) (.cons rfl (MLe.of_eq (congrArg (MV.own 0 0 0) g83)) .nil) .nil ?_)
        refine Ak hm ?_ ?_
        ·intro h84 hm
         obtain rfl:=sj hm
         exact DW.ret (Aj [roI r82.2] [] (.p (.tup [])))
        ·intro h84 hm
         refine Sk ?_
         exact jD r82.2 hm Conv.t0
       ·intro h81 hm
        refine Sk ?_
        exact jD y9.1 hm Conv.t0
    ·refine Ak hm ?_ ?_
     ·intro h76 hm
      obtain ⟨r77,hr77,hm⟩:=bo hm
      obtain ⟨g78,hm⟩:=go1 hm
      refine Sq (RN hnt (nn 3 (o44 [0] true r77 :: [])) [(0,ow 0 r77.length),(1,pI s1.2.1),(2,pI s1.2.2.1),(3,pI y8.2),(8,pB s1.2.2.2.2.1),(9,pB s1.2.2.2.2.2),(Wp s1),(11,pI r75.1)] [(0,ob0 (roI r77))] [(0,ow 0 y8.1.length)] [] (an (Sg y8.1 s1.2.1 s1.2.2.1 r77 hr77) (an (⟨rfl,g78⟩:Body.same (roI y8.1) (roI r77)) tv)) (by kernel_rfl) (.cons rfl (MLe.of_eq (congrArg (MV.own 0 0 0) g78)) .nil) .nil ?_)
      refine Sq (RD hnt (nn 7 []) [] [(11,pI (w64 ((w64 (s1.2.2.1-1))-(w64 (r75.1-s1.2.1)))))] [] [] tv ?_)
      refine RD hnt (.no :: []) [] [(12,pI 1)] [] [] tv ?_
      exact jD (r77,(w64 ((w64 (s1.2.2.1-1))-(w64 (r75.1-s1.2.1)))),1) hm Conv.eqK
     ·intro h76 hm
      refine Sk ?_
      exact jD (y8.1,r75.1,r75.2) hm Conv.t0
   ·refine Ak hm ?_ ?_
    ·intro h72 hm
     obtain ⟨r73,hr73,hm⟩:=bo hm
     obtain ⟨g74,hm⟩:=go1 hm
     refine Sq (RN hnt (nn 3 (o48 [0] true r73 :: [])) [(0,ow 0 r73.length),(1,pI s1.2.1),(2,pI s1.2.2.1),(3,pI s1.2.2.2.1),(8,pB s1.2.2.2.2.1),(9,pB s1.2.2.2.2.2),(Wp s1)] [(0,ob0 (roI r73))] [(0,ow 0 s1.1.length)] [] (an (Ri s1.1 s1.2.1 s1.2.2.1 r73 hr73) (an (⟨rfl,g74⟩:Body.same (roI s1.1) (roI r73)) tv)) (by kernel_rfl) (.cons rfl (MLe.of_eq (congrArg (MV.own 0 0 0) g74)) .nil) .nil ?_)
     refine RD hnt (nn 3 []) [] [(3,pI (w64 (s1.2.2.2.1-1)))] [] [] tv ?_
     exact jD (r73,(w64 (s1.2.2.2.1-1))) hm Conv.eqK
    ·intro h72 hm
     refine Sk ?_
     exact jD (s1.1,s1.2.2.2.1) hm Conv.t0
theorem Mr : ∀ (n:Nat) (p0:List Int) (p1:Int) (p2:Int) (p3:Int) (RES:List Int),Eb n p0 p1 p2 p3=some RES→Spec Tryz.prog 173 [ow 0 p0.length,pI p1,pI p2,pI p3] [roI p0] (.p (.tup [])) [roI RES] []
  | 0,p0,p1,p2,p3,RES,hm=>by simp [Eb] at hm
  | n+1,p0,p1,p2,p3,RES,hm=>Ur (Eb n) (Mr n) p0 p1 p2 p3 RES hm
theorem Ve (p0:List Int) (p1:Int) (p2:Int) (p3:Int) (RES:List Int) (hm:Qb p0 p1 p2 p3=some RES):Spec Tryz.prog 173 [ow 0 p0.length,pI p1,pI p2,pI p3] [roI p0] (.p (.tup [])) [roI RES] []:=Mr Hq p0 p1 p2 p3 RES hm
abbrev o34 (ks:List Nat) (b:Bool) (RES:List Int) (sm:List Nat := []):Orc := .call 173 ks b (.p (.tup [])) [roI RES] [] sm

theorem Vg (p0:List Int) (RES:List Int) (hm:Qg p0=some RES):Spec Tryz.prog 95 [ow 0 p0.length] [roI p0] (.p (.tup [])) [roI RES] []:=by
 unfold Qg at hm
 refine SO Tryz.func95 rfl rfl [(0,ow 0 p0.length)] [(0,ob0 (roI p0))] ?_
 intro cx hnt
 refine Sq (RD hnt (nn 3 []) [] [(2,pI ((p0.length:Nat):Int))] [] [] tv ?_)
 obtain ⟨r1,hr1,hm⟩:=bo hm
 obtain ⟨r2,hr2,hm⟩:=bo hm
 obtain ⟨g3,hm⟩:=go1 hm
 refine RK hnt (nn 4 (o32 [] true r1::o34 [0] true r2 :: [])) [] [(0,ob0 (roI r2))] (an (AdM (IntKind.u64.wrap ((p0.length:Nat):Int)) r1 hr1) (an (Ve p0 0 ((p0.length:Nat):Int) r1 r2 hr2) (an (⟨rfl,g3⟩:Body.same (roI p0) (roI r2)) tv))) ?_
 refine DW.done ?_
 obtain rfl:=sj hm
 exact endK [roI r2] [] (.p (.tup []))
abbrev o31 (ks:List Nat) (b:Bool) (RES:List Int) (sm:List Nat := []):Orc := .call 95 ks b (.p (.tup [])) [roI RES] [] sm

abbrev AaS (s4:(List Int)×Int) (k1:Int) (k4:Int):=(s4.1.getD (Un (Int.toNat k1) (Int.toNat k4)) 0)
abbrev c51e2 (s4:(List Int)×Int):=(Uz s4.1 (Int.toNat s4.2) (Fh s4.1.length (Int.toNat s4.2)) 0)
theorem Abq (p0:List Int) (RES:Nat×(List Int)) (hm:Qr p0=some RES):Spec Tryz.prog 240 [ow 0 p0.length] [roI p0] (ow 0 RES.1) [roI RES.2] []:=by
 unfold Qr at hm
 refine SO Tryz.func240 rfl rfl [(0,ow 0 p0.length)] [(0,ob0 (roI p0))] ?_
 intro cx hnt
 refine Sq (RD hnt (.no :: []) [] [] [] [] tv ?_)
 refine Sq (Sq (RD hnt (nn 3 []) [] [(8,pB (decide (((p0.length:Nat):Int)<2)))] [] [] tv ?_))
 refine Ak hm ?_ ?_
 ·intro h1 hm
  refine Sq (RK hnt (nn 2 []) [(2,ow 0 p0.length)] [(0,ob0 (roI p0))] tv ?_)
  obtain rfl:=sj hm
  exact DW.ret (Aj [roI p0] [] (ow 0 p0.length))
 ·intro h1 hm
  refine Sk ?_
  refine Sq (Sq (RD hnt (.no :: []) [8] [(3,pI 1)] [] [] tv ?_))
  refine Bk ?_
  obtain ⟨hc1,hm⟩:=go1 hm
  refine DW.forO (fun (k1:Int) (s1:Unit)=>Af [(0,ow 0 p0.length),(3,pI k1)] [(0,ob0 (roI p0))]) (lo:=1) (hi:=((p0.length:Nat):Int)) hm Conv.eqK ?_
  intro k1 s1 n1 hk1 hs1 he1
  refine Sq (Sq (RD hnt (nn 4 []) [] [(13,pB (decide (k1<((p0.length:Nat):Int))))] [] [] tv ?_))
  refine Bu (decide (k1<((p0.length:Nat):Int))) ?_ ?_
  ·intro h94
   have hlt1:k1<((p0.length:Nat):Int):=by have:=of_decide_eq_true h94; omega
   have hm:=hs1 hlt1
   unfold Up at hm
   refine Sk ?_
   refine Sq (Bk ?_)
   obtain ⟨g95,g96,g97,g98,hm⟩:=go4 hm
   refine Sq (RD hnt (nn 10 []) [13] [(25,pB ((p0.getD (Int.toNat k1) 0)==(p0.getD (Int.toNat (w64 (k1-1))) 0)))] [] [] (an g95.1 (an g95.2 (an g96 (an g97.1 (an g97.2 (an g98 tv)))))) ?_)
   refine Ak hm ?_ ?_
   ·intro h99 hm
    obtain ⟨g100,hm⟩:=go1 hm
    refine Sq (RD hnt (nn 4 []) [25] [(4,.own 0 0 (Int.toNat k1) (Fh p0.length (Int.toNat k1)))] [] [] (an (by omega:(0:Int)≤k1) (an (by omega:k1≤((p0.length:Nat):Int)) (an (by omega:((p0.length:Nat):Int)≤((p0.length:Nat):Int)) tv))) ?_)
    refine Sq (Sq (RD hnt (.no :: []) [] [(5,pI 1)] [] [] tv ?_))
    refine Bk ?_
    obtain ⟨hc4,hm⟩:=go1 hm
    refine DW.forO (fun (k4:Int) (s4:(List Int)×Int)=>Af [(0,ow 0 s4.1.length),(3,pI s4.2),(4,.own 0 0 (Int.toNat k1) (Fh p0.length (Int.toNat k1))),(5,pI k4)] [(0,ob0 (roI s4.1))]) (lo:=1) (hi:=(((Fh p0.length (Int.toNat k1)):Nat):Int)) hm Conv.eqK ?_
    intro k4 s4 n4 hk4 hs4 he4
    refine Sq (Sq (RD hnt (nn 4 []) [] [(32,pB (decide (k4<(((Fh p0.length (Int.toNat k1)):Nat):Int))))] [] [] tv ?_))
    refine Bu (decide (k4<(((Fh p0.length (Int.toNat k1)):Nat):Int))) ?_ ?_
    ·intro h127
     have hlt4:k4<(((Fh p0.length (Int.toNat k1)):Nat):Int):=by have:=of_decide_eq_true h127; omega
     have hm:=hs4 hlt4
     unfold Us at hm
     refine Sk ?_
     refine Sq ?_
     refine Jn (ι:=(List Int)×Int) (fun (y9:(List Int)×Int)=>Af [(0,ow 0 y9.1.length),(3,pI y9.2),(4,.own 0 0 (Int.toNat k1) (Fh p0.length (Int.toNat k1))),(5,pI k4)] [(0,ob0 (roI y9.1))]) (fun y9=>(Kj n4) y9=some RES) ?_ ?_
     ·intro y9 hm
      unfold Kj at hm
      refine RD hnt (nn 3 []) [] [(5,pI (w64 (k4+1)))] [] [] tv ?_
      exact jD (y9.1,y9.2) ⟨hlt4,hm⟩ (Conv.tp [(5,pI (w64 (k4+1)))] [] (by kernel_rfl) (.cons rfl (.of_eq (congrArg pI (Pr (lo:=1) (hi:=(((Fh p0.length (Int.toNat k1)):Nat):Int)) (by omega) hk4 hlt4 (by omega)))) .nil) .nil)
     ·refine Bk ?_
      obtain ⟨g128,g129,g130,g131,hm⟩:=go4 hm
      refine Sq (RD hnt (nn 10 []) [32] [(44,pB ((AaS s4 k1 k4) != (s4.1.getD (Un (Int.toNat k1) (Int.toNat (w64 (k4-1)))) 0)))] [] [] (an g128.1 (an g128.2 (an g129 (an g130.1 (an g130.2 (an g131 tv)))))) ?_)
      refine Ak hm ?_ ?_
      ·intro h132 hm
       obtain ⟨g133,g134,g135,g136,hm⟩:=go4 hm
       refine Sq (RN hnt (nn 8 []) [(0,ow 0 (s4.1.set (Int.toNat s4.2) (AaS s4 k1 k4)).length),(3,pI s4.2),(4,.own 0 0 (Int.toNat k1) (Fh p0.length (Int.toNat k1))),(5,pI k4)] [(0,ob0 (roI (s4.1.set (Int.toNat s4.2) (AaS s4 k1 k4))))] [(0,ow 0 s4.1.length)] [(0,.row 1 s4.1.length (Az (elI s4.1) (Int.toNat s4.2) [vi (AaS s4 k1 k4)]))] (an g133.1 (an g133.2 (an g134 (an g135.1 (an g135.2 (an g136 tv)))))) (by kernel_rfl) (.cons rfl (MLe.ownLen (enc:=Bm) (d:=0) (f:=(Az (elI s4.1) (Int.toNat s4.2) [vi (AaS s4 k1 k4)])) (RowIs.upd RowIs.elems (AaS s4 k1 k4) rfl)) .nil) (.cons rfl (BLe.typed (RowIs.upd RowIs.elems (AaS s4 k1 k4) rfl)) .nil) ?_)
       refine RD hnt (nn 3 []) [] [(3,pI (w64 (s4.2+1)))] [] [] tv ?_
       exact bD ((s4.1.set (Int.toNat s4.2) (AaS s4 k1 k4)),(w64 (s4.2+1))) hm Conv.eqK
      ·intro h132 hm
       refine Sk ?_
       exact bD (s4.1,s4.2) hm Conv.t0
    ·intro h127
     have hge4:¬ k4<(((Fh p0.length (Int.toNat k1)):Nat):Int):=by have:=of_decide_eq_false h127; omega
     have hm:=he4 hge4
     unfold Tw at hm
     refine DW.exit ?_
     refine Ai ?_
     refine Ap ?_
     refine Ae ?_
     show DW _ _ _ _ _
     obtain ⟨g137,g138,hm⟩:=go2 hm
     refine Sq (RN hnt (nn 4 []) [(0,ow 0 (c51e2 s4).length),(3,pI s4.2)] [(0,ob0 (roI (c51e2 s4)))] [(0,ow 0 s4.1.length)] [(0,.row 1 s4.1.length (Ma (elI s4.1) (Int.toNat s4.2) (Fh s4.1.length (Int.toNat s4.2)) (fun _ => [vi 0])))] (an (by omega:(0:Int)≤s4.2) (an (by omega:s4.2≤((s4.1.length:Nat):Int)) (an (by omega:((s4.1.length:Nat):Int)≤((s4.1.length:Nat):Int)) (an g138 tv)))) (by kernel_rfl) (.cons rfl (MLe.ownLen (enc:=Bm) (d:=0) (f:=(Ma (elI s4.1) (Int.toNat s4.2) (Fh s4.1.length (Int.toNat s4.2)) (fun _ => [vi 0]))) (RowIs.fill RowIs.elems 0 rfl (by first|exact g138|omega))) .nil) (.cons rfl (BLe.typed (RowIs.fill RowIs.elems 0 rfl (by first|exact g138|omega))) .nil) ?_)
     obtain ⟨g139,hm⟩:=go1 hm
     refine Sq (RD hnt (nn 4 []) [0,3] [(2,ow 0 (Int.toNat s4.2))] [] [] (an (by omega:(0:Int)≤0) (an (by omega:(0:Int)≤s4.2) (an (by omega:s4.2≤(((Uz s4.1 (Int.toNat s4.2) (Fh s4.1.length (Int.toNat s4.2)) 0).length:Nat):Int)) tv))) ?_)
     obtain rfl:=sj hm
     exact DW.ret (Aj [roI (c51e2 s4)] [] (ow 0 (Int.toNat s4.2)))
   ·intro h99 hm
    refine Sk ?_
    refine DW.done ?_
    show DW _ _ _ _ _
    refine RD hnt (nn 3 []) [25] [(3,pI (w64 (k1+1)))] [] [] tv ?_
    exact jD () ⟨hlt1,hm⟩ (Conv.tp [(3,pI (w64 (k1+1)))] [] (by kernel_rfl) (.cons rfl (.of_eq (congrArg pI (Pr (lo:=1) (hi:=((p0.length:Nat):Int)) (by omega) hk1 hlt1 (by omega)))) .nil) .nil)
  ·intro h94
   have hge1:¬ k1<((p0.length:Nat):Int):=by have:=of_decide_eq_false h94; omega
   have hm:=he1 hge1
   unfold Va at hm
   refine DW.exit ?_
   refine Ai ?_
   refine Ap ?_
   refine Ae ?_
   show DW _ _ _ _ _
   refine Sq (RK hnt (nn 2 []) [(2,ow 0 p0.length)] [(0,ob0 (roI p0))] tv ?_)
   obtain rfl:=sj hm
   exact DW.ret (Aj [roI p0] [] (ow 0 p0.length))
abbrev o51 (ks:List Nat) (b:Bool) (RES:Nat×(List Int)) (sm:List Nat := []):Orc := .call 240 ks b (ow 0 RES.1) [roI RES.2] [] sm

theorem Ry (p0:Ac) (p1c0:Int) (RES:List Int) (hm:Hb p0 p1c0=some RES):Spec Tryz.prog 170 [.p (.agg (Ab p0)),.fn 171 [rr 0],.p (.fn 172 [])] [.box [pI p1c0]] (.p (slI RES)) [.box [pI p1c0]] []:=by
 unfold Hb at hm
 refine SO Tryz.func170 rfl rfl [(0,.p (.agg (Ab p0))),(1,.fn 171 [rr 0]),(2,.p (.fn 172 []))] [(0,bx [pI p1c0])] ?_
 intro cx hnt
 refine Sq (RD hnt (nn 2 []) [0] [(3,rr 1024)] [] [(1024,bx (pm (Ab p0)))] tv ?_)
 refine Sq (RD hnt (.no :: []) [] [(7,.p (.sl .nil 0 0 (fun _ => [])))] [] [] tv ?_)
 refine Sq (Sq (RD hnt (nn 4 []) [3] [(11,.p (Dn p0.tasks)),(12,pI ((p0.tasks.length:Nat):Int)),(13,pI 0)] [1024] [] tv ?_))
 refine Bk ?_
 obtain ⟨hc1,hm⟩:=go1 hm
 refine DW.rangeO (fun (k1:Nat) (s1:List Int)=>Af [(1,.fn 171 [rr 0]),(2,.p (.fn 172 [])),(7,ow 1200 s1.length),(11,.p (Dn p0.tasks)),(12,pI ((p0.tasks.length:Nat):Int)),(13,pI ((k1:Nat):Int))] [(0,bx [pI p1c0]),(1200,ob0 (roI s1))]) Bo hm (Conv.ads [(.s 7,1200,1,elems Bm 0 [])]) ?_
 intro k1 s1 n1 hk1 hs1 he1
 refine Sq (RD hnt (.no :: []) [] [(14,pB (decide (((k1:Nat):Int)<((p0.tasks.length:Nat):Int))))] [] [] tv ?_)
 refine Sq (Bu (decide (((k1:Nat):Int)<((p0.tasks.length:Nat):Int))) ?_ ?_)
 ·intro h22
  have hlt1:k1<p0.tasks.length:=by have:=of_decide_eq_true h22; omega
  have hm:=hs1 hlt1
  unfold Ks at hm
  refine Sk ?_
  refine Sq ?_
  refine Jn (ι:=List Int) (fun (y3:List Int)=>Af [(1,.fn 171 [rr 0]),(2,.p (.fn 172 [])),(7,ow 1200 y3.length),(11,.p (Dn p0.tasks)),(12,pI ((p0.tasks.length:Nat):Int)),(13,pI ((k1:Nat):Int))] [(0,bx [pI p1c0]),(1200,ob0 (roI y3))]) (fun y3=>(Dw n1) y3=some RES) ?_ ?_
  ·intro y3 hm
   unfold Dw at hm
   refine RD hnt (nn 2 []) [] [(13,pI (w64 (((k1:Nat):Int)+1)))] [] [] tv ?_
   exact jD y3 ⟨hlt1,hm⟩ (Conv.tp [(13,pI (w64 (((k1:Nat):Int)+1)))] [] (by kernel_rfl) (.cons rfl (.of_eq (congrArg pI (Bb hlt1 hc1))) .nil) .nil)
  ·refine Bk ?_
   refine Sq (RD hnt (nn 4 []) [14] [(9,rr 1072)] [] [(1072,bx (pm (Bd (p0.tasks.getD k1 Bo))))] (an (nn0 k1) (an (ltc hlt1) tv)) ?_)
   obtain ⟨r23,hr23,hm⟩:=bo hm
   refine Sq (RD hnt (nn 2 (.call 171 [0] true (pB r23) [.box [pI p1c0]] [] [] :: [])) [] [(19,pB r23)] [] [] (an (Afb (p0.tasks.getD k1 Bo) p1c0 r23 hr23) (an tv tv)) ?_)
   refine Ak hm ?_ ?_
   ·intro h24 hm
    obtain ⟨r25,hr25,hm⟩:=bo hm
    obtain ⟨g26,hm⟩:=go1 hm
    refine RN hnt (nn 3 (o30 [] true r25::nn 3 [])) [(1,.fn 171 [rr 0]),(2,.p (.fn 172 [])),(7,ow 1200 (s1 ++ [r25]).length),(11,.p (Dn p0.tasks)),(12,pI ((p0.tasks.length:Nat):Int)),(13,pI ((k1:Nat):Int))] [(0,bx [pI p1c0]),(1200,ob0 (roI (s1 ++ [r25])))] [(7,ow 1200 (s1.length+1))] [(1200,.row 1 (s1.length+1) (Ck s1.length (elI s1) (cut 1 [vi r25])))] (an (AhY (p0.tasks.getD k1 Bo) r25 hr25) (an (by omega:(s1.length+1)*8≤140737488355328) tv)) (by kernel_rfl) (.cons rfl (MLe.ownLen (enc:=Bm) (d:=0) (f:=(Ck s1.length (elI s1) (cut 1 [vi r25]))) (RowIs.cat RowIs.elems (RowIs.lit (enc:=Bm) (d:=0) (n:=1) (f:=(cut 1 [vi r25])) [r25] rfl (fun|0,_=>rfl|n+1,h=>absurd h (by omega))))) .nil) (.cons rfl (BLe.typed (RowIs.cat RowIs.elems (RowIs.lit (enc:=Bm) (d:=0) (n:=1) (f:=(cut 1 [vi r25])) [r25] rfl (fun|0,_=>rfl|n+1,h=>absurd h (by omega))))) .nil) ?_
    exact bD (s1 ++ [r25]) hm .refl
   ·intro h24 hm
    refine Sk ?_
    exact bD s1 hm Conv.t0
 ·intro h22
  have hge1:¬ k1<p0.tasks.length:=by have:=of_decide_eq_false h22; omega
  have hm:=he1 hge1
  unfold Kv at hm
  refine DW.exit ?_
  refine Ai ?_
  refine Ap ?_
  refine Ae ?_
  show DW _ _ _ _ _
  obtain ⟨r27,hr27,hm⟩:=bo hm
  obtain ⟨g28,hm⟩:=go1 hm
  refine Sq (RN hnt (.no::o31 [1200] true r27 :: []) [(7,ow 1200 r27.length)] [(0,bx [pI p1c0]),(1200,ob0 (roI r27))] [(7,ow 1200 s1.length)] [] (an (Vg s1 r27 hr27) (an (⟨rfl,g28⟩:Body.same (roI s1) (roI r27)) tv)) (by kernel_rfl) (.cons rfl (MLe.of_eq (congrArg (MV.own 1200 0 0) g28)) .nil) .nil ?_)
  obtain ⟨r29,hr29,hm⟩:=bo hm
  obtain ⟨g30,g31,hm⟩:=go2 hm
  refine Sq (RD hnt (.no::o51 [1200] true r29 :: .no :: []) [7] [(6,ow 1200 r29.1)] [] [(1200,ob0 (roI r29.2))] (an (Abq r27 r29 hr29) (an (⟨rfl,g30⟩:Body.same (roI r27) (roI r29.2)) tv)) ?_)
  refine DW.conv (τ:=Af [(6,.p (slI (r29.2.take r29.1)))] [(0,bx [pI p1c0])]) (Conv.trans (τ:=Af [(6,.p (.sl .unk 1 r29.1 (elI r29.2)))] [(0,bx [pI p1c0])]) (Conv.frz [1200]) (Conv.tp [(6,.p (.sl .unk 1 r29.1 (elI r29.2)))] [] (by kernel_rfl) (.cons rfl (MLe.typed (RowIs.take RowIs.elems (by first|omega|(simp only [Aby,Zc] at *; omega)))) .nil) .nil)) ?_
  obtain rfl:=sj hm
  exact DW.ret (Aj [.box [pI p1c0]] [] (.p (slI (r29.2.take r29.1))))

theorem Vy (p0:Ac) (p1:Int) (RES:List Int) (hm:Vb p0 p1=some RES):Spec Tryz.prog 94 [.p (.agg (Ab p0)),pI p1] [] (.p (slI RES)) [] []:=by
 unfold Vb at hm
 refine SO Tryz.func94 rfl rfl [(0,.p (.agg (Ab p0))),(1,pI p1)] [] ?_
 intro cx hnt
 refine Sq (RK hnt (nn 3 []) [(2,rr 1016),(3,rr 1024)] [(1016,bx (pm (Ab p0))),(1024,bx [pI p1])] tv ?_)
 obtain ⟨r1,hr1,hm⟩:=bo hm
 refine Sq (RK hnt (nn 2 (.call 170 [1024] true (.p (slI r1)) [.box [pI p1]] [] [] :: .no :: [])) [(4,.p (slI r1))] [] (an (Ry p0 p1 r1 hr1) (an tv tv)) ?_)
 obtain rfl:=sj hm
 exact DW.ret (Aj [] [] (.p (slI r1)))
abbrev o27 (ks:List Nat) (b:Bool) (RES:List Int) (sm:List Nat := []):Orc := .call 94 ks b (.p (slI RES)) [] [] sm

theorem AeB (p0:Ac) (RES:Bool) (hm:Xt p0=some RES):Spec Tryz.prog 67 [.p (.agg (Ab p0))] [] (pB RES) [] []:=by
 unfold Xt at hm
 refine SO Tryz.func67 rfl rfl [(0,.p (.agg (Ab p0)))] [] ?_
 intro cx hnt
 refine Sq (RK hnt (nn 2 []) [(1,rr 1008)] [(1008,bx (pm (Ab p0)))] tv ?_)
 obtain ⟨r1,hr1,hm⟩:=bo hm
 refine Sq (Sq (RD hnt (.no::o11 [] true r1 :: .no :: []) [] [(7,pB (!r1))] [] [] (an (Dp p0 r1 hr1) tv) ?_))
 refine Ak hm ?_ ?_
 ·intro h2 hm
  refine Sq (RK hnt (.no :: []) [(2,pB false)] [] tv ?_)
  obtain rfl:=sj hm
  exact DW.ret (Aj [] [] (pB false))
 ·intro h2 hm
  refine Sk ?_
  refine Sq (Sq (RD hnt (nn 5 []) [7] [(10,.p (Cr p0.tree.nodes)),(11,pI ((p0.tree.nodes.length:Nat):Int)),(12,pI 0)] [] [] tv ?_))
  refine Bk ?_
  obtain ⟨hc1,hm⟩:=go1 hm
  refine DW.rangeO (fun (k1:Nat) (s1:Unit)=>Af [(1,rr 1008),(10,.p (Cr p0.tree.nodes)),(11,pI ((p0.tree.nodes.length:Nat):Int)),(12,pI ((k1:Nat):Int))] [(1008,bx (pm (Ab p0)))]) Ay hm Conv.eqK ?_
  intro k1 s1 n1 hk1 hs1 he1
  refine Sq (RD hnt (.no :: []) [] [(13,pB (decide (((k1:Nat):Int)<((p0.tree.nodes.length:Nat):Int))))] [] [] tv ?_)
  refine Sq (Bu (decide (((k1:Nat):Int)<((p0.tree.nodes.length:Nat):Int))) ?_ ?_)
  ·intro h19
   have hlt1:k1<p0.tree.nodes.length:=by have:=of_decide_eq_true h19; omega
   have hm:=hs1 hlt1
   unfold AaA at hm
   refine Sk ?_
   refine Sq (Bk ?_)
   refine Sq (RD hnt (nn 4 []) [13] [(4,rr 1032)] [] [(1032,bx (pm (Ax (p0.tree.nodes.getD k1 Ay))))] (an (nn0 k1) (an (ltc hlt1) tv)) ?_)
   obtain ⟨r20,hr20,hm⟩:=bo hm
   refine Sq (Sq (RD hnt (nn 5 (o25 [] true r20::nn 2 [])) [] [(23,pB ((Vn .i64 (p0.tree.nodes.getD k1 Ay).control r20) != 0))] [] [] (an (Afa p0.tree (p0.tree.nodes.getD k1 Ay) r20 hr20) tv) ?_))
   refine Ak hm ?_ ?_
   ·intro h21 hm
    refine Sq (RK hnt (.no :: []) [(2,pB false)] [] tv ?_)
    obtain rfl:=sj hm
    exact DW.ret (Aj [] [] (pB false))
   ·intro h21 hm
    refine Sk ?_
    refine Sq ?_
    refine Jn (ι:=Bool) (fun (y3:Bool)=>Af [(1,rr 1008),(10,.p (Cr p0.tree.nodes)),(11,pI ((p0.tree.nodes.length:Nat):Int)),(12,pI ((k1:Nat):Int)),(40,pB y3)] [(1008,bx (pm (Ab p0)))]) (fun y3=>(Mq n1) y3=some RES) ?_ ?_
    ·intro y3 hm
     unfold Mq at hm
     refine Ak hm ?_ ?_
     ·intro h25 hm
      refine Sq (RK hnt (.no :: []) [(2,pB false)] [] tv ?_)
      obtain rfl:=sj hm
      exact DW.ret (Aj [] [] (pB false))
     ·intro h25 hm
      refine Sk ?_
      refine DW.done ?_
      show DW _ _ _ _ _
      refine RD hnt (nn 2 []) [40] [(12,pI (w64 (((k1:Nat):Int)+1)))] [] [] tv ?_
      exact jD () ⟨hlt1,hm⟩ (Conv.tp [(12,pI (w64 (((k1:Nat):Int)+1)))] [] (by kernel_rfl) (.cons rfl (.of_eq (congrArg pI (Bb hlt1 hc1))) .nil) .nil)
    ·rcases bt ((p0.tree.nodes.getD k1 Ay).id != 1) with h22|h22
     ·replace hm:=Bt h22 hm
      rcases bt ((kand .i64 (p0.tree.nodes.getD k1 Ay).control 6) != 0) with h23|h23
      ·replace hm:=Bt h23 hm
       obtain ⟨r24,hr24,hm⟩:=bo hm
       refine RD hnt (nn 8 (pT::nn 4 (o27 [] true r24::nn 2 (pT :: [])))) [4,23] [(40,pB (decide (((r24.length:Nat):Int)>0)))] [1032] [] (an5 h22 (an4 h23 (an (Vy p0 (p0.tree.nodes.getD k1 Ay).id r24 hr24) (an3 h23 tv)))) ?_
       exact jD (decide (((r24.length:Nat):Int)>0)) hm Conv.eqK
      ·replace hm:=Bs h23 hm
       refine RD hnt (nn 8 (pT :: .no::sk 6 (pF :: []))) [4,23] [(40,pB false)] [1032] [] (an5 h22 (an h23 (an6 h23 tv))) ?_
       exact jD false hm Conv.eqK
     ·replace hm:=Bs h22 hm
      refine RD hnt (nn 4 (sk 4 (pF :: .no::sk 6 (pF :: [])))) [4,23] [(40,pB false)] [1032] [] (an5 h22 (an ff (an6 ff tv))) ?_
      exact jD false hm Conv.eqK
  ·intro h19
   have hge1:¬ k1<p0.tree.nodes.length:=by have:=of_decide_eq_false h19; omega
   have hm:=he1 hge1
   unfold AaQ at hm
   refine DW.exit ?_
   refine Ai ?_
   refine Ap ?_
   refine Ae ?_
   show DW _ _ _ _ _
   refine Sq (RK hnt (.no :: []) [(2,pB true)] [] tv ?_)
   obtain rfl:=sj hm
   exact DW.ret (Aj [] [] (pB true))
abbrev o10 (ks:List Nat) (b:Bool) (RES:Bool) (sm:List Nat := []):Orc := .call 67 ks b (pB RES) [] [] sm

theorem Hi (p0:Cd) (p1:Int) (RES:List Int) (hm:Gn p0 p1=some RES):Spec Tryz.prog 116 [.p (.agg (Bl p0)),pI p1] [] (ow 0 RES.length) [] [roI RES]:=by
 unfold Gn at hm
 refine SO Tryz.func116 rfl rfl [(0,.p (.agg (Bl p0))),(1,pI p1)] [] ?_
 intro cx hnt
 refine Sq (RK hnt (nn 2 []) [(1,pI p1),(2,rr 1016)] [(1016,bx (pm (Bl p0)))] tv ?_)
 refine Sq (RD hnt (.no :: []) [] [(5,.p (.sl .nil 0 0 (fun _ => [])))] [] [] tv ?_)
 refine Sq (Sq (RD hnt (nn 4 []) [] [(10,pI ((p0.nodes.length:Nat):Int)),(11,pI 0)] [] [] tv ?_))
 refine Jn (ι:=List Int) (fun (y1:List Int)=>Af [(5,ow 1192 y1.length)] [(1192,ob0 (roI y1))]) (fun y1=>Mg y1=some RES) ?_ ?_
 ·intro y1 hm
  unfold Mg at hm
  refine Sq (RD hnt (nn 2 []) [5] [(4,ow 1192 y1.length)] [] [] tv ?_)
  obtain rfl:=sj hm
  exact DW.ret (Aj [roI y1] [1192] (ow 0 y1.length))
 ·refine Bk ?_
  obtain ⟨hc1,hm⟩:=go1 hm
  refine DW.rangeO (fun (k1:Nat) (s1:(List Int)×Int)=>Af [(1,pI s1.2),(2,rr 1016),(5,ow 1192 s1.1.length),(10,pI ((p0.nodes.length:Nat):Int)),(11,pI ((k1:Nat):Int))] [(1016,bx (pm (Bl p0))),(1192,ob0 (roI s1.1))]) Ay hm (Conv.ads [(.s 5,1192,1,elems Bm 0 [])]) ?_
  intro k1 s1 n1 hk1 hs1 he1
  refine Sq (RD hnt (.no :: []) [] [(12,pB (decide (((k1:Nat):Int)<((p0.nodes.length:Nat):Int))))] [] [] tv ?_)
  refine Sq (Bu (decide (((k1:Nat):Int)<((p0.nodes.length:Nat):Int))) ?_ ?_)
  ·intro h8
   have hlt1:k1<p0.nodes.length:=by have:=of_decide_eq_true h8; omega
   have hm:=hs1 hlt1
   unfold Xh at hm
   refine Sk ?_
   refine Sq (Bk ?_)
   obtain ⟨r9,hr9,hm⟩:=bo hm
   refine Sq (RD hnt (nn 2 (o26 [] true r9::nn 6 [])) [12] [(6,rr 1048),(7,pB r9.2)] [] [(1048,bx (pm (Ax r9.1)))] (an (Mp p0 s1.2 r9 hr9) tv) ?_)
   refine Sq (Sq (RD hnt (nn 2 []) [7] [(20,pB (!r9.2))] [] [] tv ?_))
   refine Ak hm ?_ ?_
   ·intro h10 hm
    refine DW.exit ?_
    refine Gh (by decide) ?_
    refine Ap ?_
    refine Ai ?_
    refine Ap ?_
    exact Ae (Tz s1.1 hm Conv.t0)
   ·intro h10 hm
    refine Sk ?_
    obtain ⟨g11,hm⟩:=go1 hm
    refine Sq (RN hnt (nn 5 []) [(2,rr 1016),(5,ow 1192 (s1.1 ++ [s1.2]).length),(6,rr 1048),(10,pI ((p0.nodes.length:Nat):Int)),(11,pI ((k1:Nat):Int))] [(1016,bx (pm (Bl p0))),(1048,bx (pm (Ax r9.1))),(1192,ob0 (roI (s1.1 ++ [s1.2])))] [(5,ow 1192 (s1.1.length+1))] [(1192,.row 1 (s1.1.length+1) (Ck s1.1.length (elI s1.1) (cut 1 [vi s1.2])))] (an (by omega:(s1.1.length+1)*8≤140737488355328) tv) (by kernel_rfl) (.cons rfl (MLe.ownLen (enc:=Bm) (d:=0) (f:=(Ck s1.1.length (elI s1.1) (cut 1 [vi s1.2]))) (RowIs.cat RowIs.elems (RowIs.lit (enc:=Bm) (d:=0) (n:=1) (f:=(cut 1 [vi s1.2])) [s1.2] rfl (fun|0,_=>rfl|n+1,h=>absurd h (by omega))))) .nil) (.cons rfl (BLe.typed (RowIs.cat RowIs.elems (RowIs.lit (enc:=Bm) (d:=0) (n:=1) (f:=(cut 1 [vi s1.2])) [s1.2] rfl (fun|0,_=>rfl|n+1,h=>absurd h (by omega))))) .nil) ?_)
    refine RD hnt (nn 3 []) [6] [(1,pI r9.1.parent)] [1048] [] tv ?_
    refine DW.done ?_
    show DW _ _ _ _ _
    refine RD hnt (nn 2 []) [] [(11,pI (w64 (((k1:Nat):Int)+1)))] [] [] tv ?_
    exact jD ((s1.1 ++ [s1.2]),r9.1.parent) ⟨hlt1,hm⟩ (Conv.tp [(11,pI (w64 (((k1:Nat):Int)+1)))] [] (by kernel_rfl) (.cons rfl (.of_eq (congrArg pI (Bb hlt1 hc1))) .nil) .nil)
  ·intro h8
   have hge1:¬ k1<p0.nodes.length:=by have:=of_decide_eq_false h8; omega
   have hm:=he1 hge1
   unfold Wx at hm
   refine DW.exit ?_
   refine Ai ?_
   refine Ap ?_
   exact Ae (Tz s1.1 hm Conv.t0)
abbrev o53 (ks:List Nat) (b:Bool) (RES:List Int) (sm:List Nat := []):Orc := .call 116 ks b (ow 0 RES.length) [] [roI RES] sm

theorem Vf (p0:Cd) (p1:Int) (RES:Int) (hm:Py p0 p1=some RES):Spec Tryz.prog 68 [.p (.agg (Bl p0)),pI p1] [] (pI RES) [] []:=by
 unfold Py at hm
 refine SO Tryz.func68 rfl rfl [(0,.p (.agg (Bl p0))),(1,pI p1)] [] ?_
 intro cx hnt
 refine Sq (RK hnt (nn 2 []) [(1,pI p1),(2,rr 1016)] [(1016,bx (pm (Bl p0)))] tv ?_)
 obtain ⟨r1,hr1,hm⟩:=bo hm
 refine Sq (Sq (RD hnt (nn 2 (o53 [] true r1::nn 2 [])) [1] [(11,ow 1088 r1.length),(12,pI ((r1.length:Nat):Int)),(13,pI 0)] [] [(1088,ob0 (roI r1))] (an (Hi p0 p1 r1 hr1) tv) ?_))
 refine Bk ?_
 obtain ⟨hc1,hm⟩:=go1 hm
 refine DW.rangeO (fun (k1:Nat) (s1:Unit)=>Af [(2,rr 1016),(11,ow 1088 r1.length),(12,pI ((r1.length:Nat):Int)),(13,pI ((k1:Nat):Int))] [(1016,bx (pm (Bl p0))),(1088,ob0 (roI r1))]) 0 hm Conv.eqK ?_
 intro k1 s1 n1 hk1 hs1 he1
 refine Sq (RD hnt (.no :: []) [] [(14,pB (decide (((k1:Nat):Int)<((r1.length:Nat):Int))))] [] [] tv ?_)
 refine Sq (Bu (decide (((k1:Nat):Int)<((r1.length:Nat):Int))) ?_ ?_)
 ·intro h12
  have hlt1:k1<r1.length:=by have:=of_decide_eq_true h12; omega
  have hm:=hs1 hlt1
  unfold Yh at hm
  refine Sk ?_
  refine Sq (Bk ?_)
  refine Sq (RD hnt (nn 3 []) [14] [(6,pI (r1.getD k1 0))] [] [] (an (nn0 k1) (an (ltc hlt1) (an (by omega:k1<r1.length) tv))) ?_)
  obtain ⟨r13,hr13,hm⟩:=bo hm
  refine Sq (RD hnt (nn 2 (o26 [] true r13::nn 6 [])) [] [(7,rr 1056)] [] [(1056,bx (pm (Ax r13.1)))] (an (Mp p0 (r1.getD k1 0) r13 hr13) tv) ?_)
  refine Sq (RD hnt (nn 3 []) [7] [(25,pB (r13.1.kind != 1))] [1056] [] tv ?_)
  refine Ak hm ?_ ?_
  ·intro h14 hm
   refine Sq (RK hnt (nn 2 []) [(4,pI (r1.getD k1 0))] [] tv ?_)
   obtain rfl:=sj hm
   exact DW.ret (Aj [] [] (pI (r1.getD k1 0)))
  ·intro h14 hm
   refine Sk ?_
   refine DW.done ?_
   show DW _ _ _ _ _
   refine RD hnt (nn 2 []) [6,25] [(13,pI (w64 (((k1:Nat):Int)+1)))] [] [] tv ?_
   exact jD () ⟨hlt1,hm⟩ (Conv.tp [(13,pI (w64 (((k1:Nat):Int)+1)))] [] (by kernel_rfl) (.cons rfl (.of_eq (congrArg pI (Bb hlt1 hc1))) .nil) .nil)
 ·intro h12
  have hge1:¬ k1<r1.length:=by have:=of_decide_eq_false h12; omega
  have hm:=he1 hge1
  unfold Yg at hm
  refine DW.exit ?_
  refine Ai ?_
  refine Ap ?_
  refine Ae ?_
  show DW _ _ _ _ _
  refine Sq (RK hnt (.no :: []) [(4,pI 0)] [] tv ?_)
  obtain rfl:=sj hm
  exact DW.ret (Aj [] [] (pI 0))
abbrev o52 (ks:List Nat) (b:Bool) (RES:Int) (sm:List Nat := []):Orc := .call 68 ks b (pI RES) [] [] sm

theorem Ke (p0:Cd) (p1:Int) (RES:Bool) (hm:Oz p0 p1=some RES):Spec Tryz.prog 156 [.p (.agg (Bl p0)),pI p1] [] (pB RES) [] []:=by
 unfold Oz at hm
 refine SO Tryz.func156 rfl rfl [(0,.p (.agg (Bl p0))),(1,pI p1)] [] ?_
 intro cx hnt
 refine Sq (RK hnt (nn 2 []) [(1,pI p1),(2,rr 1016)] [(1016,bx (pm (Bl p0)))] tv ?_)
 obtain ⟨r1,hr1,hm⟩:=bo hm
 refine Sq (Sq (RD hnt (nn 2 (o53 [] true r1::nn 2 [])) [] [(11,ow 1088 r1.length),(12,pI ((r1.length:Nat):Int)),(13,pI 0)] [] [(1088,ob0 (roI r1))] (an (Hi p0 p1 r1 hr1) tv) ?_))
 refine Bk ?_
 obtain ⟨hc1,hm⟩:=go1 hm
 refine DW.rangeO (fun (k1:Nat) (s1:Unit)=>Af [(1,pI p1),(2,rr 1016),(11,ow 1088 r1.length),(12,pI ((r1.length:Nat):Int)),(13,pI ((k1:Nat):Int))] [(1016,bx (pm (Bl p0))),(1088,ob0 (roI r1))]) 0 hm Conv.eqK ?_
 intro k1 s1 n1 hk1 hs1 he1
 refine Sq (RD hnt (.no :: []) [] [(14,pB (decide (((k1:Nat):Int)<((r1.length:Nat):Int))))] [] [] tv ?_)
 refine Sq (Bu (decide (((k1:Nat):Int)<((r1.length:Nat):Int))) ?_ ?_)
 ·intro h12
  have hlt1:k1<r1.length:=by have:=of_decide_eq_true h12; omega
  have hm:=hs1 hlt1
  unfold Xf at hm
  refine Sk ?_
  refine Sq (Bk ?_)
  refine Sq (RD hnt (nn 3 []) [14] [(6,pI (r1.getD k1 0))] [] [] (an (nn0 k1) (an (ltc hlt1) (an (by omega:k1<r1.length) tv))) ?_)
  obtain ⟨r13,hr13,hm⟩:=bo hm
  refine Sq (RD hnt (nn 2 (o26 [] true r13::nn 6 [])) [] [(7,rr 1056)] [] [(1056,bx (pm (Ax r13.1)))] (an (Mp p0 (r1.getD k1 0) r13 hr13) tv) ?_)
  refine Sq (RD hnt (nn 3 []) [7] [(25,pB (r13.1.kind==1))] [1056] [] tv ?_)
  refine Ak hm ?_ ?_
  ·intro h14 hm
   refine Sq (RK hnt (nn 4 []) [(4,pB ((r1.getD k1 0) != p1))] [] tv ?_)
   obtain rfl:=sj hm
   exact DW.ret (Aj [] [] (pB ((r1.getD k1 0) != p1)))
  ·intro h14 hm
   refine Sk ?_
   refine DW.done ?_
   show DW _ _ _ _ _
   refine RD hnt (nn 2 []) [6,25] [(13,pI (w64 (((k1:Nat):Int)+1)))] [] [] tv ?_
   exact jD () ⟨hlt1,hm⟩ (Conv.tp [(13,pI (w64 (((k1:Nat):Int)+1)))] [] (by kernel_rfl) (.cons rfl (.of_eq (congrArg pI (Bb hlt1 hc1))) .nil) .nil)
 ·intro h12
  have hge1:¬ k1<r1.length:=by have:=of_decide_eq_false h12; omega
  have hm:=he1 hge1
  unfold Xl at hm
  refine DW.exit ?_
  refine Ai ?_
  refine Ap ?_
  refine Ae ?_
  show DW _ _ _ _ _
  refine Sq (RK hnt (.no :: []) [(4,pB false)] [] tv ?_)
  obtain rfl:=sj hm
  exact DW.ret (Aj [] [] (pB false))
abbrev o55 (ks:List Nat) (b:Bool) (RES:Bool) (sm:List Nat := []):Orc := .call 156 ks b (pB RES) [] [] sm

theorem Aey (p0:Ac) (p1:Bz) (RES:Bool) (hm:Xy p0 p1=some RES):Spec Tryz.prog 69 [.p (.agg (Ab p0)),.p (.agg (Ax p1))] [] (pB RES) [] []:=by
 unfold Xy at hm
 refine SO Tryz.func69 rfl rfl [(0,.p (.agg (Ab p0))),(1,.p (.agg (Ax p1)))] [] ?_
 intro cx hnt
 refine Sq (RK hnt (nn 3 []) [(2,rr 1016),(3,rr 1024)] [(1016,bx (pm (Ab p0))),(1024,bx (pm (Ax p1)))] tv ?_)
 refine Sq (Sq (RD hnt (nn 3 []) [] [(9,pB (p1.kind != 1))] [] [] tv ?_))
 refine Ak hm ?_ ?_
 ·intro h1 hm
  obtain ⟨r2,hr2,hm⟩:=bo hm
  refine Sq ?_
  refine Jn (ι:=Bool) (fun (y1:Bool)=>Af [(4,pB y1)] []) (fun y1=>Mf y1=some RES) ?_ ?_
  ·intro y1 hm
   unfold Mf at hm
   obtain rfl:=sj hm
   exact DW.ret (Aj [] [] (pB y1))
  ·rcases bt (!r2) with h3|h3
   ·replace hm:=Bt h3 hm
    refine RK hnt (nn 4 (o55 [] true r2::nn 2 (sk 11 (pT :: .no :: [])))) [(4,pB true)] [] (an (Ke p0.tree p1.id r2 hr2) (an6 h3 tv)) ?_
    exact jD true hm .refl
   ·replace hm:=Bs h3 hm
    rcases bt (p1.control==0) with h4|h4
    ·replace hm:=Bt h4 hm
     obtain ⟨r5,hr5,hm⟩:=bo hm
     refine RK hnt (nn 4 (o55 [] true r2::nn 9 (o27 [] true r5::nn 2 (pT::pF :: .no :: [])))) [(4,pB (((r5.length:Nat):Int)==0))] [] (an (Ke p0.tree p1.id r2 hr2) (an4 h3 (an4 h4 (an (Vy p0 p1.id r5 hr5) (an2 h4 (an h3 (an h4 (an h3 tv)))))))) ?_
     exact jD (((r5.length:Nat):Int)==0) hm .refl
    ·replace hm:=Bs h4 hm
     refine RK hnt (nn 4 (o55 [] true r2::nn 6 (sk 6 (pF::pF :: .no :: [])))) [(4,pB false)] [] (an (Ke p0.tree p1.id r2 hr2) (an4 h3 (an6 h4 (an h3 (an h4 (an h3 tv)))))) ?_
     exact jD false hm .refl
 ·intro h1 hm
  refine Sk ?_
  obtain ⟨r6,hr6,hm⟩:=bo hm
  refine Sq (RD hnt (nn 4 (o26 [] true r6::nn 6 [])) [9] [(5,rr 1040)] [] [(1040,bx (pm (Ax r6.1)))] (an (Mp p0.tree p1.parent r6 hr6) tv) ?_)
  refine Sq (Sq ?_)
  refine Jn (ι:=Bool) (fun (y2:Bool)=>Af [(3,rr 1024),(5,rr 1040),(46,pB y2)] [(1024,bx (pm (Ax p1))),(1040,bx (pm (Ax r6.1)))]) (fun y2=>(Qf p1 r6) y2=some RES) ?_ ?_
  ·intro y2 hm
   unfold Qf at hm
   refine Ak hm ?_ ?_
   ·intro h9 hm
    refine Sq (RK hnt (.no :: []) [(4,pB false)] [] tv ?_)
    obtain rfl:=sj hm
    exact DW.ret (Aj [] [] (pB false))
   ·intro h9 hm
    refine Sk ?_
    refine Sq (DW.regJ (sl2 := [(4,pB ((p1.parent==1)||((kand .i64 r6.1.control 6)==0)))]) (ob2 := []) ?_ ?_)
    ·rcases bt (p1.parent==1) with h10|h10
     ·exact RT hnt (nn 4 (sk 4 (pT :: .no :: []))) [(4,pB true)] (an5 h10 tv) (by kernel_rfl) (.cons rfl (.of_eq (by rw [h10]; try rfl)) .nil)
     ·exact RT hnt (nn 8 (pF :: .no :: [])) [(4,pB ((kand .i64 r6.1.control 6)==0))] (an5 h10 tv) (by kernel_rfl) (.cons rfl (.of_eq (by rw [h10]; try rfl)) .nil)
    ·refine DW.ret ?_
     obtain rfl:=sj hm
     exact Aj [] [] (pB ((p1.parent==1)||((kand .i64 r6.1.control 6)==0)))
  ·rcases bt (r6.1.kind != 1) with h7|h7
   ·replace hm:=Bt h7 hm
    obtain ⟨r8,hr8,hm⟩:=bo hm
    refine RD hnt (nn 8 (o55 [] true r8::pT :: [])) [2] [(46,pB r8)] [1016] [] (an5 h7 (an (Ke p0.tree p1.parent r8 hr8) (an h7 tv))) ?_
    exact jD r8 hm Conv.eqK
   ·replace hm:=Bs h7 hm
    refine RD hnt (nn 4 (sk 5 (pF :: []))) [2] [(46,pB false)] [1016] [] (an6 h7 tv) ?_
    exact jD false hm Conv.eqK
abbrev o54 (ks:List Nat) (b:Bool) (RES:Bool) (sm:List Nat := []):Orc := .call 69 ks b (pB RES) [] [] sm

abbrev c9e1 (p0:Ac):Nat×Obj:=(1008,bx (pm (Ab p0)))
theorem AeA (p0:Ac) (RES:Bool) (hm:Xv p0=some RES):Spec Tryz.prog 25 [.p (.agg (Ab p0))] [] (pB RES) [] []:=by
 unfold Xv at hm
 refine SO Tryz.func25 rfl rfl [(0,.p (.agg (Ab p0)))] [] ?_
 intro cx hnt
 refine Sq (RK hnt (nn 2 []) [(1,rr 1008)] [(c9e1 p0)] tv ?_)
 obtain ⟨r1,hr1,hm⟩:=bo hm
 refine Sq (Sq (RD hnt (.no::o10 [] true r1 :: .no :: []) [] [(12,pB (!r1))] [] [] (an (AeB p0 r1 hr1) tv) ?_))
 refine Ak hm ?_ ?_
 ·intro h2 hm
  refine Sq (RK hnt (.no :: []) [(2,pB false)] [] tv ?_)
  obtain rfl:=sj hm
  exact DW.ret (Aj [] [] (pB false))
 ·intro h2 hm
  refine Sk ?_
  refine Sq (RD hnt (nn 2 []) [12] [(3,.mref 1104 0)] [] [(1104,ob0 (Nd vi (vi 0) (IMap.empty 0)))] tv ?_)
  refine Sq (Sq (RD hnt (nn 4 []) [] [(15,.p (Dn p0.tasks)),(16,pI ((p0.tasks.length:Nat):Int)),(17,pI 0)] [] [] tv ?_))
  refine Bk ?_
  obtain ⟨hc1,hm⟩:=go1 hm
  refine DW.rangeO (fun (k1:Nat) (s1:IMap Int)=>Af [(1,rr 1008),(3,.mref 1104 0),(15,.p (Dn p0.tasks)),(16,pI ((p0.tasks.length:Nat):Int)),(17,pI ((k1:Nat):Int))] [(c9e1 p0),(1104,ob0 (Nd vi (vi 0) s1))]) Bo hm Conv.eqK ?_
  intro k1 s1 n1 hk1 hs1 he1
  refine Sq (RD hnt (.no :: []) [] [(18,pB (decide (((k1:Nat):Int)<((p0.tasks.length:Nat):Int))))] [] [] tv ?_)
  refine Sq (Bu (decide (((k1:Nat):Int)<((p0.tasks.length:Nat):Int))) ?_ ?_)
  ·intro h66
   have hlt1:k1<p0.tasks.length:=by have:=of_decide_eq_true h66; omega
   have hm:=hs1 hlt1
   unfold AaO at hm
   refine Sk ?_
   refine Sq ?_
   refine Jn (ι:=IMap Int) (fun (y3:IMap Int)=>Af [(1,rr 1008),(3,.mref 1104 0),(15,.p (Dn p0.tasks)),(16,pI ((p0.tasks.length:Nat):Int)),(17,pI ((k1:Nat):Int))] [(c9e1 p0),(1104,ob0 (Nd vi (vi 0) y3))]) (fun y3=>(Qd n1) y3=some RES) ?_ ?_
   ·intro y3 hm
    unfold Qd at hm
    refine RD hnt (nn 2 []) [] [(17,pI (w64 (((k1:Nat):Int)+1)))] [] [] tv ?_
    exact jD y3 ⟨hlt1,hm⟩ (Conv.tp [(17,pI (w64 (((k1:Nat):Int)+1)))] [] (by kernel_rfl) (.cons rfl (.of_eq (congrArg pI (Bb hlt1 hc1))) .nil) .nil)
   ·refine Bk ?_
    refine Sq (RD hnt (nn 4 []) [18] [(5,rr 1040)] [] [(1040,bx (pm (Bd (p0.tasks.getD k1 Bo))))] (an (nn0 k1) (an (ltc hlt1) tv)) ?_)
    refine Sq (RD hnt (nn 5 []) [] [(25,pB ((p0.tasks.getD k1 Bo).id==(p0.tasks.getD k1 Bo).process))] [] [] tv ?_)
    refine Ak hm ?_ ?_
    ·intro h67 hm
     obtain ⟨r68,hr68,hm⟩:=bo hm
     refine RD hnt (nn 7 (o52 [] true r68 :: .asM (vi 0) (s1.set (p0.tasks.getD k1 Bo).id r68).has (fun j=>vi ((s1.set (p0.tasks.getD k1 Bo).id r68).get j)) :: [])) [5,25] [] [1040] [(1104,ob0 (Nd vi (vi 0) (s1.set (p0.tasks.getD k1 Bo).id r68)))] (an (Vf p0.tree (p0.tasks.getD k1 Bo).group r68 hr68) (an (AgI vi (vi 0) s1 (p0.tasks.getD k1 Bo).id r68 PLe.rfl) tv)) ?_
     exact bD (s1.set (p0.tasks.getD k1 Bo).id r68) hm Conv.eqK
    ·intro h67 hm
     refine Sk ?_
     exact bD s1 hm Conv.t0
  ·intro h66
   have hge1:¬ k1<p0.tasks.length:=by have:=of_decide_eq_false h66; omega
   have hm:=he1 hge1
   unfold AaR at hm
   refine DW.exit ?_
   refine Ai ?_
   refine Ap ?_
   refine Ae ?_
   show DW _ _ _ _ _
   refine Sq (Sq (RD hnt (nn 4 []) [15,16,17,18] [(36,.p (Dn p0.tasks)),(37,pI ((p0.tasks.length:Nat):Int)),(38,pI 0)] [] [] tv ?_))
   refine Bk ?_
   obtain ⟨hc8,hm⟩:=go1 hm
   refine DW.rangeO (fun (k8:Nat) (s8:Unit)=>Af [(1,rr 1008),(3,.mref 1104 0),(36,.p (Dn p0.tasks)),(37,pI ((p0.tasks.length:Nat):Int)),(38,pI ((k8:Nat):Int))] [(c9e1 p0),(1104,ob0 (Nd vi (vi 0) s1))]) Bo hm Conv.eqK ?_
   intro k8 s8 n8 hk8 hs8 he8
   refine Sq (RD hnt (.no :: []) [] [(39,pB (decide (((k8:Nat):Int)<((p0.tasks.length:Nat):Int))))] [] [] tv ?_)
   refine Sq (Bu (decide (((k8:Nat):Int)<((p0.tasks.length:Nat):Int))) ?_ ?_)
   ·intro h99
    have hlt8:k8<p0.tasks.length:=by have:=of_decide_eq_true h99; omega
    have hm:=hs8 hlt8
    unfold AaE at hm
    refine Sk ?_
    refine Sq (Bk ?_)
    refine Sq (RD hnt (nn 4 []) [39] [(7,rr 1056)] [] [(1056,bx (pm (Bd (p0.tasks.getD k8 Bo))))] (an (nn0 k8) (an (ltc hlt8) tv)) ?_)
    obtain ⟨r100,hr100,hm⟩:=bo hm
    refine Sq (RD hnt (nn 4 (o52 [] true r100::nn 5 [])) [7] [(51,pB (r100 != (s1.get (p0.tasks.getD k8 Bo).process)))] [1056] [] (an (Vf p0.tree (p0.tasks.getD k8 Bo).group r100 hr100) (an (PLe.rfl:PLe (vi 0) (vi 0)) tv)) ?_)
    refine Ak hm ?_ ?_
    ·intro h101 hm
     refine Sq (RK hnt (.no :: []) [(2,pB false)] [] tv ?_)
     obtain rfl:=sj hm
     exact DW.ret (Aj [] [] (pB false))
    ·intro h101 hm
     refine Sk ?_
     refine DW.done ?_
     show DW _ _ _ _ _
     refine RD hnt (nn 2 []) [51] [(38,pI (w64 (((k8:Nat):Int)+1)))] [] [] tv ?_
     exact jD () ⟨hlt8,hm⟩ (Conv.tp [(38,pI (w64 (((k8:Nat):Int)+1)))] [] (by kernel_rfl) (.cons rfl (.of_eq (congrArg pI (Bb hlt8 hc8))) .nil) .nil)
   ·intro h99
    have hge8:¬ k8<p0.tasks.length:=by have:=of_decide_eq_false h99; omega
    have hm:=he8 hge8
    unfold AaG at hm
    refine DW.exit ?_
    refine Ai ?_
    refine Ap ?_
    refine Ae ?_
    show DW _ _ _ _ _
    refine Sq (Sq (RD hnt (nn 5 []) [3,36,37,38,39] [(55,.p (Cr p0.tree.nodes)),(56,pI ((p0.tree.nodes.length:Nat):Int)),(57,pI 0)] [1104] [] tv ?_))
    refine Bk ?_
    obtain ⟨hc11,hm⟩:=go1 hm
    refine DW.rangeO (fun (k11:Nat) (s11:Unit)=>Af [(1,rr 1008),(55,.p (Cr p0.tree.nodes)),(56,pI ((p0.tree.nodes.length:Nat):Int)),(57,pI ((k11:Nat):Int))] [(c9e1 p0)]) Ay hm Conv.eqK ?_
    intro k11 s11 n11 hk11 hs11 he11
    refine Sq (RD hnt (.no :: []) [] [(58,pB (decide (((k11:Nat):Int)<((p0.tree.nodes.length:Nat):Int))))] [] [] tv ?_)
    refine Sq (Bu (decide (((k11:Nat):Int)<((p0.tree.nodes.length:Nat):Int))) ?_ ?_)
    ·intro h110
     have hlt11:k11<p0.tree.nodes.length:=by have:=of_decide_eq_true h110; omega
     have hm:=hs11 hlt11
     unfold Aah at hm
     refine Sk ?_
     refine Sq (Bk ?_)
     refine Sq (RD hnt (nn 4 []) [58] [(9,rr 1072)] [] [(1072,bx (pm (Ax (p0.tree.nodes.getD k11 Ay))))] (an (nn0 k11) (an (ltc hlt11) tv)) ?_)
     obtain ⟨r111,hr111,hm⟩:=bo hm
     refine Sq (RD hnt (nn 2 (o54 [] true r111 :: .no :: [])) [9] [(64,pB (!r111))] [1072] [] (an (Aey p0 (p0.tree.nodes.getD k11 Ay) r111 hr111) tv) ?_)
     refine Ak hm ?_ ?_
     ·intro h112 hm
      refine Sq (RK hnt (.no :: []) [(2,pB false)] [] tv ?_)
      obtain rfl:=sj hm
      exact DW.ret (Aj [] [] (pB false))
     ·intro h112 hm
      refine Sk ?_
      refine DW.done ?_
      show DW _ _ _ _ _
      refine RD hnt (nn 2 []) [64] [(57,pI (w64 (((k11:Nat):Int)+1)))] [] [] tv ?_
      exact jD () ⟨hlt11,hm⟩ (Conv.tp [(57,pI (w64 (((k11:Nat):Int)+1)))] [] (by kernel_rfl) (.cons rfl (.of_eq (congrArg pI (Bb hlt11 hc11))) .nil) .nil)
    ·intro h110
     have hge11:¬ k11<p0.tree.nodes.length:=by have:=of_decide_eq_false h110; omega
     have hm:=he11 hge11
     unfold Zz at hm
     refine DW.exit ?_
     refine Ai ?_
     refine Ap ?_
     refine Ae ?_
     show DW _ _ _ _ _
     refine Sq (RK hnt (.no :: []) [(2,pB true)] [] tv ?_)
     obtain rfl:=sj hm
     exact DW.ret (Aj [] [] (pB true))
abbrev o9 (ks:List Nat) (b:Bool) (RES:Bool) (sm:List Nat := []):Orc := .call 25 ks b (pB RES) [] [] sm

theorem Rs (p0:Int) (RES:Cd×Int×Int) (hm:Sc p0=some RES):Spec Tryz.prog 70 [pI p0] [] (.tup [.agg [ow 0 RES.1.nodes.length,pI RES.1.next],pI RES.2.1,pI RES.2.2]) [] [Ba RES.1.nodes]:=by
 unfold Sc at hm
 refine SO Tryz.func70 rfl rfl [(0,pI p0)] [] ?_
 intro cx hnt
 refine Sq (RK hnt (nn 3 []) [(0,pI p0),(2,rr 1016)] [(1016,bx [.p (.sl .nil 0 0 (fun _ => [])),pI 0])] tv ?_)
 refine Sq (RD hnt (nn 5 []) [0] [(3,pI 0),(4,pI p0)] [] [] tv ?_)
 refine DW.cv [] [] [] [(1016,bx [ow 100000 0,pI 0]),(100000,ob0 (Ba []))] (Conv.ads [(.o 1016 0,100000,6,elems Ax Ay [])]) ?_
 obtain rfl:=sj hm
 exact DW.ret (Aj [Ba []] [100000] (.tup [.agg [ow 0 0,pI 0],pI 0,pI p0]))
abbrev o57 (ks:List Nat) (b:Bool) (RES:Cd×Int×Int) (sm:List Nat := []):Orc := .call 70 ks b (.tup [.agg [ow 0 RES.1.nodes.length,pI RES.1.next],pI RES.2.1,pI RES.2.2]) [] [Ba RES.1.nodes] sm

theorem AgE (p0:Cd) (p1:Int) (p2:ByteArray) (RES:Int) (hm:AbT p0 p1 p2=some RES):Spec Tryz.prog 72 [.p (.agg (Bl p0)),pI p1,pS p2] [] (pI RES) [] []:=by
 unfold AbT at hm
 refine SO Tryz.func72 rfl rfl [(0,.p (.agg (Bl p0))),(1,pI p1),(2,pS p2)] [] ?_
 intro cx hnt
 refine Sq (RD hnt (nn 2 []) [0] [(3,rr 1024)] [] [(1024,bx (pm (Bl p0)))] tv ?_)
 refine Sq (Sq (RD hnt (nn 4 []) [3] [(10,.p (Cr p0.nodes)),(11,pI ((p0.nodes.length:Nat):Int)),(12,pI 0)] [1024] [] tv ?_))
 refine Bk ?_
 obtain ⟨hc1,hm⟩:=go1 hm
 refine DW.rangeO (fun (k1:Nat) (s1:Unit)=>Af [(1,pI p1),(2,pS p2),(10,.p (Cr p0.nodes)),(11,pI ((p0.nodes.length:Nat):Int)),(12,pI ((k1:Nat):Int))] []) Ay hm Conv.eqK ?_
 intro k1 s1 n1 hk1 hs1 he1
 refine Sq (RD hnt (.no :: []) [] [(13,pB (decide (((k1:Nat):Int)<((p0.nodes.length:Nat):Int))))] [] [] tv ?_)
 refine Sq (Bu (decide (((k1:Nat):Int)<((p0.nodes.length:Nat):Int))) ?_ ?_)
 ·intro h9
  have hlt1:k1<p0.nodes.length:=by have:=of_decide_eq_true h9; omega
  have hm:=hs1 hlt1
  unfold Aea at hm
  refine Sk ?_
  refine Sq (Bk ?_)
  refine Sq (RD hnt (nn 4 []) [13] [(8,rr 1064)] [] [(1064,bx (pm (Ax (p0.nodes.getD k1 Ay))))] (an (nn0 k1) (an (ltc hlt1) tv)) ?_)
  refine Sq (DW.regJ (sl2 := [(1,pI p1),(2,pS p2),(8,rr 1064),(10,.p (Cr p0.nodes)),(11,pI ((p0.nodes.length:Nat):Int)),(12,pI ((k1:Nat):Int)),(25,pB (((p0.nodes.getD k1 Ay).parent==p1)&&(Xq (p0.nodes.getD k1 Ay).name p2)))]) (ob2 := [(1064,bx (pm (Ax (p0.nodes.getD k1 Ay))))]) ?_ ?_)
  ·rcases bt ((p0.nodes.getD k1 Ay).parent==p1) with h10|h10
   ·exact RT hnt (nn 9 (pT :: [])) [(25,pB (Xq (p0.nodes.getD k1 Ay).name p2))] (an5 h10 tv) (by kernel_rfl) (.cons rfl (.of_eq (by rw [h10]; try rfl)) .nil)
   ·exact RT hnt (nn 5 (sk 4 (pF :: []))) [(25,pB false)] (an5 h10 tv) (by kernel_rfl) (.cons rfl (.of_eq (by rw [h10]; try rfl)) .nil)
  ·refine Ak hm ?_ ?_
   ·intro h11 hm
    refine Sq (RK hnt (nn 3 []) [(6,pI (p0.nodes.getD k1 Ay).id)] [] tv ?_)
    obtain rfl:=sj hm
    exact DW.ret (Aj [] [] (pI (p0.nodes.getD k1 Ay).id))
   ·intro h11 hm
    refine Sk ?_
    refine DW.done ?_
    show DW _ _ _ _ _
    refine RD hnt (nn 2 []) [8,25] [(12,pI (w64 (((k1:Nat):Int)+1)))] [1064] [] tv ?_
    exact jD () ⟨hlt1,hm⟩ (Conv.tp [(12,pI (w64 (((k1:Nat):Int)+1)))] [] (by kernel_rfl) (.cons rfl (.of_eq (congrArg pI (Bb hlt1 hc1))) .nil) .nil)
 ·intro h9
  have hge1:¬ k1<p0.nodes.length:=by have:=of_decide_eq_false h9; omega
  have hm:=he1 hge1
  unfold Ade at hm
  refine DW.exit ?_
  refine Ai ?_
  refine Ap ?_
  refine Ae ?_
  show DW _ _ _ _ _
  refine Sq (RK hnt (.no :: []) [(6,pI 0)] [] tv ?_)
  obtain rfl:=sj hm
  exact DW.ret (Aj [] [] (pI 0))
abbrev o58 (ks:List Nat) (b:Bool) (RES:Int) (sm:List Nat := []):Orc := .call 72 ks b (pI RES) [] [] sm

theorem Afl (p0:Cd) (RES:Cd) (hm:Zp p0=some RES):Spec Tryz.prog 235 [.p (.agg (Bl p0))] [] (.p (.agg (Bl RES))) [] []:=by
 unfold Zp at hm
 refine SO Tryz.func235 rfl rfl [(0,.p (.agg (Bl p0)))] [] ?_
 intro cx hnt
 refine Sq (RK hnt (nn 2 []) [(1,rr 1008),(2,rr 1016)] [(1008,bx (pm (Bl p0))),(1016,bx [.p (.sl .nil 0 0 (fun _ => [])),pI 0])] tv ?_)
 obtain ⟨r1,hr1,hm⟩:=bo hm
 refine Sq (Sq (RD hnt (.no::o12 [] true r1 :: .no :: []) [] [(5,pB (!r1))] [] [] (an (Rk p0 r1 hr1) tv) ?_))
 refine Ak hm ?_ ?_
 ·intro h2 hm
  refine Sq (RD hnt (nn 2 []) [1,5] [] [1008] [] tv ?_)
  refine DW.conv (τ:=Af [(2,rr 1016)] [(1016,bx [.p (Cr []),pI 0])]) (Conv.tp [] [(1016,.box [.p (.sl .nil 0 0 (fun _ => [])),pI 0])] (by kernel_rfl) .nil (.cons rfl (.box (.cons MLe.nilL (.cons .rfl .nil))) .nil)) ?_
  obtain rfl:=sj hm
  exact DW.ret (Aj [] [] (.p (.agg [Cr [],vi 0])))
 ·intro h2 hm
  refine Sk ?_
  refine Sq (RK hnt (nn 2 []) [(2,rr 1016)] [(1016,bx (pm (Bl p0)))] tv ?_)
  obtain rfl:=sj hm
  exact DW.ret (Aj [] [] (.p (.agg (Bl p0))))
abbrev o61 (ks:List Nat) (b:Bool) (RES:Cd) (sm:List Nat := []):Orc := .call 235 ks b (.p (.agg (Bl RES))) [] [] sm

theorem Ada (p0:Cd) (p1:Int) (RES:List Int) (hm:Wl p0 p1=some RES):Spec Tryz.prog 158 [.p (.agg (Bl p0)),pI p1] [] (ow 0 RES.length) [] [roI RES]:=by
 unfold Wl at hm
 refine SO Tryz.func158 rfl rfl [(0,.p (.agg (Bl p0))),(1,pI p1)] [] ?_
 intro cx hnt
 refine Sq (RK hnt (nn 2 []) [(1,pI p1),(2,rr 1016)] [(1016,bx (pm (Bl p0)))] tv ?_)
 obtain ⟨r1,hr1,hm⟩:=bo hm
 obtain ⟨r2,hr2,hm⟩:=bo hm
 refine Sq (RK hnt (.no::o61 [] true r1 :: .no::o53 [] true r2 :: .no :: []) [(4,ow 1064 r2.length)] [(1064,ob0 (roI r2))] (an (Afl p0 r1 hr1) (an (Hi r1 p1 r2 hr2) tv)) ?_)
 obtain rfl:=sj hm
 exact DW.ret (Aj [roI r2] [1064] (ow 0 r2.length))
abbrev o60 (ks:List Nat) (b:Bool) (RES:List Int) (sm:List Nat := []):Orc := .call 158 ks b (ow 0 RES.length) [] [roI RES] sm

theorem Vr (p0:Cd) (p1:Int) (RES:Int) (hm:Acp p0 p1=some RES):Spec Tryz.prog 73 [.p (.agg (Bl p0)),pI p1] [] (pI RES) [] []:=by
 unfold Acp at hm
 refine SO Tryz.func73 rfl rfl [(0,.p (.agg (Bl p0))),(1,pI p1)] [] ?_
 intro cx hnt
 refine Sq (RK hnt (nn 2 []) [(1,pI p1),(2,rr 1016)] [(1016,bx (pm (Bl p0)))] tv ?_)
 obtain ⟨r1,hr1,hm⟩:=bo hm
 refine Sq (RK hnt (nn 2 (o60 [] true r1::nn 3 [])) [(4,pI (w64 (((r1.length:Nat):Int)-1)))] [] (an (Ada p0 p1 r1 hr1) tv) ?_)
 obtain rfl:=sj hm
 exact DW.ret (Aj [] [] (pI (w64 (((r1.length:Nat):Int)-1))))
abbrev o59 (ks:List Nat) (b:Bool) (RES:Int) (sm:List Nat := []):Orc := .call 73 ks b (pI RES) [] [] sm

theorem Aan (p0:List Bz) (RES:List Bz) (hm:Hv p0=some RES):Spec Tryz.prog 53 [.p (.sl .nn 6 p0.length (elems Ax (default:Bz) p0))] [] (ow 0 RES.length) [] [Ba RES]:=by
 unfold Hv at hm
 refine SO Tryz.func53 rfl rfl [(0,.p (.sl .nn 6 p0.length (elems Ax (default:Bz) p0)))] [] ?_
 intro cx hnt
 refine Sq (RD hnt (.no :: []) [] [] [] [] tv ?_)
 refine Sq (Sq (RD hnt (nn 2 []) [] [(4,pB false)] [] [] tv ?_))
 refine Aeq ff ?_
 refine Sk ?_
 obtain ⟨g1,hm⟩:=go1 hm
 refine Sq (RN hnt (nn 4 []) [(2,ow 1040 p0.length)] [(1040,ob0 (Ba p0))] [(2,ow 1040 (0+p0.length))] [(1040,.row 6 (0+p0.length) (Ck 0 (cut 6 []) (Adr p0)))] (an (by omega:(0+p0.length)*56≤140737488355328) tv) (by kernel_rfl) (.cons rfl (MLe.ownLen (enc:=Ax) (d:=Ay) (f:=(Ck 0 (cut 6 []) (Adr p0))) (RowIs.cat RowIs.nil RowIs.elems)) .nil) (.cons rfl (BLe.typed (RowIs.cat RowIs.nil RowIs.elems)) .nil) ?_)
 obtain rfl:=sj hm
 exact DW.ret (Aj [Ba p0] [1040] (ow 0 p0.length))

theorem Aad (p0:List Bz) (RES:List Bz) (hm:Ow p0=some RES):Spec Tryz.prog 53 [.p (.sl .nil 6 0 (elems Ax (default:Bz) p0))] [] (ow 0 RES.length) [] [Ba RES]:=by
 unfold Ow at hm
 refine SO Tryz.func53 rfl rfl [(0,.p (.sl .nil 6 0 (elems Ax (default:Bz) p0)))] [] ?_
 intro cx hnt
 refine Sq (RD hnt (.no :: []) [] [] [] [] tv ?_)
 refine Sq (Sq (RD hnt (nn 2 []) [] [(4,pB true)] [] [] tv ?_))
 refine Aei tt ?_
 refine Sq (RK hnt (.no :: []) [(2,.p (.sl .nil 0 0 (fun _ => [])))] [] tv ?_)
 refine DW.cv [] [(2,ow 100000 0)] [] [(100000,ob0 (Ba []))] (Conv.ads [(.s 2,100000,6,elems Ax Ay [])]) ?_
 obtain rfl:=sj hm
 exact DW.ret (Aj [Ba []] [100000] (ow 0 0))

theorem Tl (p0:List Bz) (RES:List Bz) (hm:Hv p0=some RES):Spec Tryz.prog 53 [.p (Cr p0)] [] (ow 0 RES.length) [] [Ba RES] :=
  Spec.unk (fun h=>Aad p0 RES (by have e:p0 = []:=List.eq_nil_of_length_eq_zero h; subst e; simpa [Hv,Ow] using hm)) (Aan p0 RES hm)
abbrev o63 (ks:List Nat) (b:Bool) (RES:List Bz) (sm:List Nat := []):Orc := .call 53 ks b (ow 0 RES.length) [] [Ba RES] sm

theorem Afr (p0:Cd) (RES:Cd) (hm:Aba p0=some RES):Spec Tryz.prog 74 [.p (.agg (Bl p0))] [] (.agg [ow 0 RES.nodes.length,pI RES.next]) [] [Ba RES.nodes]:=by
 unfold Aba at hm
 refine SO Tryz.func74 rfl rfl [(0,.p (.agg (Bl p0)))] [] ?_
 intro cx hnt
 refine Sq (RK hnt (nn 2 []) [(1,rr 1008),(2,rr 1016)] [(1008,bx (pm (Bl p0))),(1016,bx [.p (.sl .nil 0 0 (fun _ => [])),pI 0])] tv ?_)
 obtain ⟨r1,hr1,hm⟩:=bo hm
 refine Sq (RK hnt (nn 2 (o63 [] true r1::nn 4 [])) [(2,rr 1016)] [(1016,bx [ow 1040 r1.length,pI p0.next]),(1040,ob0 (Ba r1))] (an (Tl p0.nodes r1 hr1) tv) ?_)
 obtain rfl:=sj hm
 exact DW.ret (Aj [Ba r1] [1040] (.agg [ow 0 r1.length,pI p0.next]))
abbrev o62 (ks:List Nat) (b:Bool) (RES:Cd) (sm:List Nat := []):Orc := .call 74 ks b (.agg [ow 0 RES.nodes.length,pI RES.next]) [] [Ba RES.nodes] sm

abbrev AaW (p0:Cd) (p1:Int) (p2:ByteArray):=({ id:=p0.next,parent:=p1,name:=p2,control:=0,kind:=0,owner:=0 } : Bz)
abbrev c56e2 : Nat×Obj:=(1048,bx [.p (.sl .nil 0 0 (fun _ => [])),pI 0])
theorem AhN (p0:Cd) (p1:Int) (p2:ByteArray) (RES:Cd×Int×Int) (hm:Afh p0 p1 p2=some RES):Spec Tryz.prog 26 [.p (.agg (Bl p0)),pI p1,pS p2] [] (.tup [.agg [ow 0 RES.1.nodes.length,pI RES.1.next],pI RES.2.1,pI RES.2.2]) [] [Ba RES.1.nodes]:=by
 unfold Afh at hm
 refine SO Tryz.func26 rfl rfl [(0,.p (.agg (Bl p0))),(1,pI p1),(2,pS p2)] [] ?_
 intro cx hnt
 refine Sq (RD hnt (nn 4 []) [0] [(3,rr 1024),(6,rr 1048)] [] [(1024,bx (pm (Bl p0))),(c56e2)] tv ?_)
 refine Sq (RD hnt (.no :: []) [] [(9,.p (.fn 70 []))] [] [] tv ?_)
 refine Sq (Bk ?_)
 obtain ⟨r1,hr1,hm⟩:=bo hm
 refine Sq ?_
 refine Jn (ι:=Bool) (fun (y1:Bool)=>Af [(1,pI p1),(2,pS p2),(3,rr 1024),(6,rr 1048),(9,.p (.fn 70 [])),(11,pB y1)] [(1024,bx (pm (Bl p0))),(c56e2)]) (fun y1=>(Yk p0 p1 p2) y1=some RES) ?_ ?_
 ·intro y1 hm
  unfold Yk at hm
  refine Ak hm ?_ ?_
  ·intro h4 hm
   obtain ⟨r5,hr5,hm⟩:=bo hm
   refine Sq (RK hnt (.no::o57 [] true r5::nn 6 []) [(6,rr 1048),(7,pI r5.2.1),(8,pI r5.2.2)] [(1048,bx [ow 1168 r5.1.nodes.length,pI r5.1.next]),(1168,ob0 (Ba r5.1.nodes))] (an (Rs 1 r5 hr5) tv) ?_)
   obtain rfl:=sj hm
   exact DW.ret (Aj [Ba r5.1.nodes] [1168] (.tup [.agg [ow 0 r5.1.nodes.length,pI r5.1.next],pI r5.2.1,pI r5.2.2]))
  ·intro h4 hm
   obtain ⟨r6,hr6,hm⟩:=bo hm
   refine Sq (RD hnt (nn 2 (o22 [] true r6::nn 2 [])) [11] [(25,pB (decide (r6<0)))] [] [] (an (Tb p0 p1 r6 hr6) tv) ?_)
   refine Ak hm ?_ ?_
   ·intro h7 hm
    obtain ⟨r8,hr8,hm⟩:=bo hm
    refine Sq (RK hnt (.no::o57 [] true r8::nn 6 []) [(6,rr 1048),(7,pI r8.2.1),(8,pI r8.2.2)] [(1048,bx [ow 1248 r8.1.nodes.length,pI r8.1.next]),(1248,ob0 (Ba r8.1.nodes))] (an (Rs 4 r8 hr8) tv) ?_)
    obtain rfl:=sj hm
    exact DW.ret (Aj [Ba r8.1.nodes] [1248] (.tup [.agg [ow 0 r8.1.nodes.length,pI r8.1.next],pI r8.2.1,pI r8.2.2]))
   ·intro h7 hm
    obtain ⟨r9,hr9,hm⟩:=bo hm
    refine Sq (RD hnt (nn 3 (o58 [] true r9::nn 2 [])) [25] [(35,pB (r9 != 0))] [] [] (an (AgE p0 p1 p2 r9 hr9) tv) ?_)
    refine Ak hm ?_ ?_
    ·intro h10 hm
     obtain ⟨r11,hr11,hm⟩:=bo hm
     refine Sq (RK hnt (.no::o57 [] true r11::nn 6 []) [(6,rr 1048),(7,pI r11.2.1),(8,pI r11.2.2)] [(1048,bx [ow 1336 r11.1.nodes.length,pI r11.1.next]),(1336,ob0 (Ba r11.1.nodes))] (an (Rs 5 r11 hr11) tv) ?_)
     obtain rfl:=sj hm
     exact DW.ret (Aj [Ba r11.1.nodes] [1336] (.tup [.agg [ow 0 r11.1.nodes.length,pI r11.1.next],pI r11.2.1,pI r11.2.2]))
    ·intro h10 hm
     obtain ⟨r12,hr12,hm⟩:=bo hm
     refine Sq ?_
     refine Jn (ι:=Bool) (fun (y2:Bool)=>Af [(1,pI p1),(2,pS p2),(3,rr 1024),(6,rr 1048),(9,.p (.fn 70 [])),(46,pB y2)] [(1024,bx (pm (Bl p0))),(c56e2)]) (fun y2=>(Ut p0 p1 p2) y2=some RES) ?_ ?_
     ·intro y2 hm
      unfold Ut at hm
      refine Ak hm ?_ ?_
      ·intro h15 hm
       obtain ⟨r16,hr16,hm⟩:=bo hm
       refine Sq (RK hnt (.no::o57 [] true r16::nn 6 []) [(6,rr 1048),(7,pI r16.2.1),(8,pI r16.2.2)] [(1048,bx [ow 1504 r16.1.nodes.length,pI r16.1.next]),(1504,ob0 (Ba r16.1.nodes))] (an (Rs 7 r16 hr16) tv) ?_)
       obtain rfl:=sj hm
       exact DW.ret (Aj [Ba r16.1.nodes] [1504] (.tup [.agg [ow 0 r16.1.nodes.length,pI r16.1.next],pI r16.2.1,pI r16.2.2]))
      ·intro h15 hm
       refine Sk ?_
       refine DW.done ?_
       show DW _ _ _ _ _
       obtain ⟨r17,hr17,hm⟩:=bo hm
       refine Sq (RD hnt (.no::o62 [] true r17::nn 2 []) [9,46] [(10,rr 1080)] [] [(1080,bx [ow 1544 r17.nodes.length,pI r17.next]),(1544,ob0 (Ba r17.nodes))] (an (Afr p0 r17 hr17) tv) ?_)
       obtain ⟨g18,hm⟩:=go1 hm
       refine Sq (RN hnt (nn 11 []) [(3,rr 1024),(6,rr 1048),(10,rr 1080)] [(1024,bx (pm (Bl p0))),(c56e2),(1080,bx [ow 1544 (r17.nodes ++ [(AaW p0 p1 p2)]).length,pI r17.next]),(1544,ob0 (Ba (r17.nodes ++ [(AaW p0 p1 p2)])))] [] [(1080,.box [ow 1544 (r17.nodes.length+1),pI r17.next]),(1544,.row 6 (r17.nodes.length+1) (Ck r17.nodes.length (Adr r17.nodes) (cut 6 [vi p0.next,vi p1,vs p2,vi 0,vi 0,vi 0])))] (an (by omega:(r17.nodes.length+1)*56≤140737488355328) tv) (by kernel_rfl) .nil (.cons rfl (.box (.cons (MLe.ownLen (enc:=Ax) (d:=Ay) (f:=(Ck r17.nodes.length (Adr r17.nodes) (cut 6 [vi p0.next,vi p1,vs p2,vi 0,vi 0,vi 0]))) (RowIs.cat RowIs.elems (RowIs.lit (enc:=Ax) (d:=Ay) (n:=1) (f:=(cut 6 [vi p0.next,vi p1,vs p2,vi 0,vi 0,vi 0])) [(AaW p0 p1 p2)] rfl (fun|0,_=>rfl|n+1,h=>absurd h (by omega))))) (.cons .rfl .nil))) (.cons rfl (BLe.typed (RowIs.cat RowIs.elems (RowIs.lit (enc:=Ax) (d:=Ay) (n:=1) (f:=(cut 6 [vi p0.next,vi p1,vs p2,vi 0,vi 0,vi 0])) [(AaW p0 p1 p2)] rfl (fun|0,_=>rfl|n+1,h=>absurd h (by omega))))) .nil)) ?_)
       refine Sq (RD hnt (nn 5 []) [] [] [] [(1080,bx [ow 1544 (r17.nodes ++ [(AaW p0 p1 p2)]).length,pI (w64 (r17.next+1))])] tv ?_)
       refine Sq (RD hnt (nn 6 []) [3,10] [(7,pI p0.next),(8,pI 0)] [1024,1080] [(1048,bx [ow 1544 (r17.nodes ++ [(AaW p0 p1 p2)]).length,pI (w64 (r17.next+1))])] tv ?_)
       obtain rfl:=sj hm
       exact DW.ret (Aj [Ba (r17.nodes ++ [(AaW p0 p1 p2)])] [1544] (.tup [.agg [ow 0 (r17.nodes ++ [(AaW p0 p1 p2)]).length,pI (w64 (r17.next+1))],pI p0.next,pI 0]))
     ·rcases bt (decide (r12≥8)) with h13|h13
      ·replace hm:=Bt h13 hm
       refine RD hnt (nn 2 (o59 [] true r12::nn 2 (sk 4 (pT :: .no::sk 3 (pT :: .no :: []))))) [35] [(46,pB true)] [] [] (an (Vr p0 p1 r12 hr12) (an5 h13 (an4 tt tv))) ?_
       exact jD true hm Conv.eqK
      ·replace hm:=Bs h13 hm
       rcases bt (decide (((p0.nodes.length:Nat):Int)≥64)) with h14|h14
       ·replace hm:=Bt h14 hm
        refine RD hnt (nn 2 (o59 [] true r12::nn 6 (pF :: .no::sk 3 (pT :: .no :: [])))) [35] [(46,pB true)] [] [] (an (Vr p0 p1 r12 hr12) (an5 h13 (an4 h14 tv))) ?_
        exact jD true hm Conv.eqK
       ·replace hm:=Bs h14 hm
        refine RD hnt (nn 2 (o59 [] true r12::nn 6 (pF::nn 4 (pF :: .no :: [])))) [35] [(46,pB (decide (p0.next>2147483647)))] [] [] (an (Vr p0 p1 r12 hr12) (an5 h13 (an4 h14 tv))) ?_
        exact jD (decide (p0.next>2147483647)) hm Conv.eqK
 ·rcases bt (!r1) with h2|h2
  ·replace hm:=Bt h2 hm
   refine RD hnt (.no::o12 [] true r1::nn 2 (sk 3 (pT :: .no :: []))) [] [(11,pB true)] [] [] (an (Rk p0 r1 hr1) (an4 h2 tv)) ?_
   exact jD true hm Conv.eqK
  ·replace hm:=Bs h2 hm
   obtain ⟨r3,hr3,hm⟩:=bo hm
   refine RD hnt (.no::o12 [] true r1::nn 3 (o15 [] true r3 :: .no::pF :: .no :: [])) [] [(11,pB (!r3))] [] [] (an (Rk p0 r1 hr1) (an2 h2 (an (Sd p2 r3 hr3) (an2 h2 tv)))) ?_
   exact jD (!r3) hm Conv.eqK
abbrev o56 (ks:List Nat) (b:Bool) (RES:Cd×Int×Int) (sm:List Nat := []):Orc := .call 26 ks b (.tup [.agg [ow 0 RES.1.nodes.length,pI RES.1.next],pI RES.2.1,pI RES.2.2]) [] [Ba RES.1.nodes] sm

theorem Aaq (p0:List Cf) (RES:List Cf) (hm:Kb p0=some RES):Spec Tryz.prog 75 [.p (.sl .nn 4 p0.length (elems Bd (default:Cf) p0))] [] (ow 0 RES.length) [] [Ce RES]:=by
 unfold Kb at hm
 refine SO Tryz.func75 rfl rfl [(0,.p (.sl .nn 4 p0.length (elems Bd (default:Cf) p0)))] [] ?_
 intro cx hnt
 refine Sq (RD hnt (.no :: []) [] [] [] [] tv ?_)
 refine Sq (Sq (RD hnt (nn 2 []) [] [(4,pB false)] [] [] tv ?_))
 refine Aeq ff ?_
 refine Sk ?_
 obtain ⟨g1,hm⟩:=go1 hm
 refine Sq (RN hnt (nn 4 []) [(2,ow 1040 p0.length)] [(1040,ob0 (Ce p0))] [(2,ow 1040 (0+p0.length))] [(1040,.row 4 (0+p0.length) (Ck 0 (cut 4 []) (Afw p0)))] (an (by omega:(0+p0.length)*32≤140737488355328) tv) (by kernel_rfl) (.cons rfl (MLe.ownLen (enc:=Bd) (d:=Bo) (f:=(Ck 0 (cut 4 []) (Afw p0))) (RowIs.cat RowIs.nil RowIs.elems)) .nil) (.cons rfl (BLe.typed (RowIs.cat RowIs.nil RowIs.elems)) .nil) ?_)
 obtain rfl:=sj hm
 exact DW.ret (Aj [Ce p0] [1040] (ow 0 p0.length))

theorem Aaf (p0:List Cf) (RES:List Cf) (hm:Om p0=some RES):Spec Tryz.prog 75 [.p (.sl .nil 4 0 (elems Bd (default:Cf) p0))] [] (ow 0 RES.length) [] [Ce RES]:=by
 unfold Om at hm
 refine SO Tryz.func75 rfl rfl [(0,.p (.sl .nil 4 0 (elems Bd (default:Cf) p0)))] [] ?_
 intro cx hnt
 refine Sq (RD hnt (.no :: []) [] [] [] [] tv ?_)
 refine Sq (Sq (RD hnt (nn 2 []) [] [(4,pB true)] [] [] tv ?_))
 refine Aei tt ?_
 refine Sq (RK hnt (.no :: []) [(2,.p (.sl .nil 0 0 (fun _ => [])))] [] tv ?_)
 refine DW.cv [] [(2,ow 100000 0)] [] [(100000,ob0 (Ce []))] (Conv.ads [(.s 2,100000,4,elems Bd Bo [])]) ?_
 obtain rfl:=sj hm
 exact DW.ret (Aj [Ce []] [100000] (ow 0 0))

theorem AbQ (p0:List Cf) (RES:List Cf) (hm:Kb p0=some RES):Spec Tryz.prog 75 [.p (Dn p0)] [] (ow 0 RES.length) [] [Ce RES] :=
  Spec.unk (fun h=>Aaf p0 RES (by have e:p0 = []:=List.eq_nil_of_length_eq_zero h; subst e; simpa [Kb,Om] using hm)) (Aaq p0 RES hm)
abbrev o65 (ks:List Nat) (b:Bool) (RES:List Cf) (sm:List Nat := []):Orc := .call 75 ks b (ow 0 RES.length) [] [Ce RES] sm

theorem AcG (p0:Ac) (RES:Ac) (hm:AaJ p0=some RES):Spec Tryz.prog 27 [.p (.agg (Ab p0))] [] (.agg [ow 0 RES.tree.nodes.length,pI RES.tree.next,ow 1 RES.tasks.length,pI RES.next]) [] [Ba RES.tree.nodes,Ce RES.tasks]:=by
 unfold AaJ at hm
 refine SO Tryz.func27 rfl rfl [(0,.p (.agg (Ab p0)))] [] ?_
 intro cx hnt
 refine Sq (RK hnt (nn 2 []) [(1,rr 1008),(2,rr 1016)] [(1008,bx (pm (Ab p0))),(1016,bx [.p (.sl .nil 0 0 (fun _ => [])),pI 0,.p (.sl .nil 0 0 (fun _ => [])),pI 0])] tv ?_)
 obtain ⟨r1,hr1,hm⟩:=bo hm
 obtain ⟨r2,hr2,hm⟩:=bo hm
 refine Sq (RK hnt (nn 3 (o63 [] true r1::nn 6 (o65 [] true r2::nn 4 []))) [(2,rr 1016)] [(1016,bx [ow 1048 r1.length,pI p0.tree.next,ow 1104 r2.length,pI p0.next]),(1048,ob0 (Ba r1)),(1104,ob0 (Ce r2))] (an (Tl p0.tree.nodes r1 hr1) (an (AbQ p0.tasks r2 hr2) tv)) ?_)
 obtain rfl:=sj hm
 exact DW.ret (Aj [Ba r1,Ce r2] [1048,1104] (.agg [ow 0 r1.length,pI p0.tree.next,ow 1 r2.length,pI p0.next]))
abbrev o64 (ks:List Nat) (b:Bool) (RES:Ac) (sm:List Nat := []):Orc := .call 27 ks b (.agg [ow 0 RES.tree.nodes.length,pI RES.tree.next,ow 1 RES.tasks.length,pI RES.next]) [] [Ba RES.tree.nodes,Ce RES.tasks] sm

theorem AcQ (p0:Ac) (p1:Int) (p2:ByteArray) (RES:Ac×Int×Int) (hm:Pw p0 p1 p2=some RES):Spec Tryz.prog 9 [.p (.agg (Ab p0)),pI p1,pS p2] [] (.tup [.agg [ow 0 RES.1.tree.nodes.length,pI RES.1.tree.next,ow 1 RES.1.tasks.length,pI RES.1.next],pI RES.2.1,pI RES.2.2]) [] [Ba RES.1.tree.nodes,Ce RES.1.tasks]:=by
 unfold Pw at hm
 refine SO Tryz.func9 rfl rfl [(0,.p (.agg (Ab p0))),(1,pI p1),(2,pS p2)] [] ?_
 intro cx hnt
 refine Sq (RD hnt (nn 4 []) [0] [(3,rr 1024),(6,rr 1048)] [] [(1024,bx (pm (Ab p0))),(1048,bx [.p (.sl .nil 0 0 (fun _ => [])),pI 0,.p (.sl .nil 0 0 (fun _ => [])),pI 0])] tv ?_)
 obtain ⟨r1,hr1,hm⟩:=bo hm
 refine Sq (Sq (RD hnt (.no::o9 [] true r1 :: .no :: []) [] [(15,pB (!r1))] [] [] (an (AeA p0 r1 hr1) tv) ?_))
 refine Ak hm ?_ ?_
 ·intro h2 hm
  refine Sq (RD hnt (nn 4 []) [1,2,3,15] [(7,pI 0),(8,pI 1)] [1024] [] tv ?_)
  refine DW.cv [] [] [] [(1048,bx [ow 100000 0,pI 0,ow 100001 0,pI 0]),(100000,ob0 (Ba [])),(100001,ob0 (Ce []))] (Conv.ads [(.o 1048 0,100000,6,elems Ax Ay []),(.o 1048 2,100001,4,elems Bd Bo [])]) ?_
  obtain rfl:=sj hm
  exact DW.ret (Aj [Ba [],Ce []] [100000,100001] (.tup [.agg [ow 0 0,pI 0,ow 1 0,pI 0],pI 0,pI 1]))
 ·intro h2 hm
  refine Sk ?_
  obtain ⟨r3,hr3,hm⟩:=bo hm
  refine Sq (RD hnt (nn 4 (o56 [] true r3::nn 8 [])) [1,2,15] [(9,rr 1072),(10,pI r3.2.1),(11,pI r3.2.2)] [] [(1072,bx [ow 1176 r3.1.nodes.length,pI r3.1.next]),(1176,ob0 (Ba r3.1.nodes))] (an (AhN p0.tree p1 p2 r3 hr3) tv) ?_)
  refine Sq (Sq (RD hnt (nn 2 []) [] [(27,pB (r3.2.2 != 0))] [] [] tv ?_))
  refine Ak hm ?_ ?_
  ·intro h4 hm
   refine Sq (RD hnt (nn 5 []) [3,9,10,11,27] [(7,pI 0),(8,pI r3.2.2)] [1024,1072,1176] [] tv ?_)
   refine DW.cv [] [] [] [(1048,bx [ow 100000 0,pI 0,ow 100001 0,pI 0]),(100000,ob0 (Ba [])),(100001,ob0 (Ce []))] (Conv.ads [(.o 1048 0,100000,6,elems Ax Ay []),(.o 1048 2,100001,4,elems Bd Bo [])]) ?_
   obtain rfl:=sj hm
   exact DW.ret (Aj [Ba [],Ce []] [100000,100001] (.tup [.agg [ow 0 0,pI 0,ow 1 0,pI 0],pI 0,pI r3.2.2]))
  ·intro h4 hm
   refine Sk ?_
   obtain ⟨r5,hr5,hm⟩:=bo hm
   refine Sq (RD hnt (.no::o64 [] true r5::nn 2 []) [3,11,27] [(12,rr 1096)] [1024] [(1096,bx [ow 1248 r5.tree.nodes.length,pI r5.tree.next,ow 1249 r5.tasks.length,pI r5.next]),(1248,ob0 (Ba r5.tree.nodes)),(1249,ob0 (Ce r5.tasks))] (an (AcG p0 r5 hr5) tv) ?_)
   refine Sq (RD hnt (nn 3 []) [9] [] [1072,1248] [(1096,bx [ow 1176 r3.1.nodes.length,pI r3.1.next,ow 1249 r5.tasks.length,pI r5.next])] tv ?_)
   refine Sq (RD hnt (nn 5 []) [10,12] [(7,pI r3.2.1),(8,pI 0)] [1096] [(1048,bx [ow 1176 r3.1.nodes.length,pI r3.1.next,ow 1249 r5.tasks.length,pI r5.next])] tv ?_)
   obtain rfl:=sj hm
   exact DW.ret (Aj [Ba r3.1.nodes,Ce r5.tasks] [1176,1249] (.tup [.agg [ow 0 r3.1.nodes.length,pI r3.1.next,ow 1 r5.tasks.length,pI r5.next],pI r3.2.1,pI 0]))
abbrev o8 (ks:List Nat) (b:Bool) (RES:Ac×Int×Int) (sm:List Nat := []):Orc := .call 9 ks b (.tup [.agg [ow 0 RES.1.tree.nodes.length,pI RES.1.tree.next,ow 1 RES.1.tasks.length,pI RES.1.next],pI RES.2.1,pI RES.2.2]) [] [Ba RES.1.tree.nodes,Ce RES.1.tasks] sm

abbrev c67e1 : Nat×Obj:=(1032,bx [.p (.sl .nil 0 0 (fun _ => [])),pI 0,.p (.sl .nil 0 0 (fun _ => [])),pI 0])
theorem Agz (p0:Ac) (p1:Cf) (RES:Ac×Int×Int) (hm:Acj p0 p1=some RES):Spec Tryz.prog 30 [.p (.agg (Ab p0)),.p (.agg (Bd p1))] [] (.tup [.agg [ow 0 RES.1.tree.nodes.length,pI RES.1.tree.next,ow 1 RES.1.tasks.length,pI RES.1.next],pI RES.2.1,pI RES.2.2]) [] [Ba RES.1.tree.nodes,Ce RES.1.tasks]:=by
 unfold Acj at hm
 refine SO Tryz.func30 rfl rfl [(0,.p (.agg (Ab p0))),(1,.p (.agg (Bd p1)))] [] ?_
 intro cx hnt
 refine Sq (RK hnt (nn 5 []) [(2,rr 1016),(3,rr 1024),(4,rr 1032)] [(1016,bx (pm (Ab p0))),(1024,bx (pm (Bd p1))),(c67e1)] tv ?_)
 refine Sq (Sq (DW.regJ (sl2 := [(2,rr 1016),(3,rr 1024),(4,rr 1032),(16,pB ((decide (((p0.tasks.length:Nat):Int)≥128))||(decide (p0.next>2147483647))))]) (ob2 := [(1016,bx (pm (Ab p0))),(1024,bx (pm (Bd p1))),(c67e1)]) ?_ ?_))
 ·rcases bt (decide (((p0.tasks.length:Nat):Int)≥128)) with h1|h1
  ·exact RT hnt (nn 5 (sk 3 (pT :: []))) [(16,pB true)] (an4 h1 tv) (by kernel_rfl) (.cons rfl (.of_eq (by rw [h1]; try rfl)) .nil)
  ·exact RT hnt (nn 8 (pF :: [])) [(16,pB (decide (p0.next>2147483647)))] (an4 h1 tv) (by kernel_rfl) (.cons rfl (.of_eq (by rw [h1]; try rfl)) .nil)
 ·refine Ak hm ?_ ?_
  ·intro h2 hm
   refine Sq (RD hnt (nn 4 []) [2,3,16] [(5,pI 0),(6,pI 7)] [1016,1024] [] tv ?_)
   refine DW.cv [] [] [] [(1032,bx [ow 100000 0,pI 0,ow 100001 0,pI 0]),(100000,ob0 (Ba [])),(100001,ob0 (Ce []))] (Conv.ads [(.o 1032 0,100000,6,elems Ax Ay []),(.o 1032 2,100001,4,elems Bd Bo [])]) ?_
   obtain rfl:=sj hm
   exact DW.ret (Aj [Ba [],Ce []] [100000,100001] (.tup [.agg [ow 0 0,pI 0,ow 1 0,pI 0],pI 0,pI 7]))
  ·intro h2 hm
   refine Sk ?_
   obtain ⟨r3,hr3,hm⟩:=bo hm
   refine Sq (RD hnt (.no::o64 [] true r3::nn 2 []) [16] [(7,rr 1056)] [] [(1056,bx [ow 1152 r3.tree.nodes.length,pI r3.tree.next,ow 1153 r3.tasks.length,pI r3.next]),(1152,ob0 (Ba r3.tree.nodes)),(1153,ob0 (Ce r3.tasks))] (an (AcG p0 r3 hr3) tv) ?_)
   refine Sq (RD hnt (nn 4 []) [2] [] [1016] [(1024,bx [pI p0.next,pI p1.process,pI p1.group,pI p1.user])] tv ?_)
   refine Sq (Sq (RD hnt (nn 3 []) [] [(25,pB (p1.process==0))] [] [] tv ?_))
   refine Jn (ι:=Cf) (fun (y1:Cf)=>Af [(3,rr 1024),(4,rr 1032),(7,rr 1056)] [(1024,bx (pm (Bd y1))),(c67e1),(1056,bx [ow 1152 r3.tree.nodes.length,pI r3.tree.next,ow 1153 r3.tasks.length,pI r3.next]),(1152,ob0 (Ba r3.tree.nodes)),(1153,ob0 (Ce r3.tasks))]) (fun y1=>(Ui r3) y1=some RES) ?_ ?_
   ·intro y1 hm
    unfold Ui at hm
    obtain ⟨g5,hm⟩:=go1 hm
    refine Sq (RN hnt (nn 7 []) [(3,rr 1024),(4,rr 1032),(7,rr 1056)] [(1024,bx (pm (Bd y1))),(c67e1),(1056,bx [ow 1152 r3.tree.nodes.length,pI r3.tree.next,ow 1153 (r3.tasks ++ [y1]).length,pI r3.next]),(1152,ob0 (Ba r3.tree.nodes)),(1153,ob0 (Ce (r3.tasks ++ [y1])))] [] [(1056,.box [ow 1152 r3.tree.nodes.length,pI r3.tree.next,ow 1153 (r3.tasks.length+1),pI r3.next]),(1153,.row 4 (r3.tasks.length+1) (Ck r3.tasks.length (Afw r3.tasks) (cut 4 [vi y1.id,vi y1.process,vi y1.group,vi y1.user])))] (an (by omega:(r3.tasks.length+1)*32≤140737488355328) tv) (by kernel_rfl) .nil (.cons rfl (.box (.cons .rfl (.cons .rfl (.cons (MLe.ownLen (enc:=Bd) (d:=Bo) (f:=(Ck r3.tasks.length (Afw r3.tasks) (cut 4 [vi y1.id,vi y1.process,vi y1.group,vi y1.user]))) (RowIs.cat RowIs.elems (RowIs.lit (enc:=Bd) (d:=Bo) (n:=1) (f:=(cut 4 [vi y1.id,vi y1.process,vi y1.group,vi y1.user])) [y1] rfl (fun|0,_=>rfl|n+1,h=>absurd h (by omega))))) (.cons .rfl .nil))))) (.cons rfl (BLe.typed (RowIs.cat RowIs.elems (RowIs.lit (enc:=Bd) (d:=Bo) (n:=1) (f:=(cut 4 [vi y1.id,vi y1.process,vi y1.group,vi y1.user])) [y1] rfl (fun|0,_=>rfl|n+1,h=>absurd h (by omega))))) .nil)) ?_)
    refine Sq (RD hnt (nn 5 []) [] [] [] [(1056,bx [ow 1152 r3.tree.nodes.length,pI r3.tree.next,ow 1153 (r3.tasks ++ [y1]).length,pI (w64 (r3.next+1))])] tv ?_)
    refine Sq (RD hnt (nn 6 []) [3,7] [(5,pI y1.id),(6,pI 0)] [1024,1056] [(1032,bx [ow 1152 r3.tree.nodes.length,pI r3.tree.next,ow 1153 (r3.tasks ++ [y1]).length,pI (w64 (r3.next+1))])] tv ?_)
    obtain rfl:=sj hm
    exact DW.ret (Aj [Ba r3.tree.nodes,Ce (r3.tasks ++ [y1])] [1152,1153] (.tup [.agg [ow 0 r3.tree.nodes.length,pI r3.tree.next,ow 1 (r3.tasks ++ [y1]).length,pI (w64 (r3.next+1))],pI y1.id,pI 0]))
   ·refine Ak hm ?_ ?_
    ·intro h4 hm
     refine RD hnt (nn 4 []) [25] [] [] [(1024,bx [pI p0.next,pI p0.next,pI p1.group,pI p1.user])] tv ?_
     exact jD ({ id:=p0.next,process:=p0.next,group:=p1.group,user:=p1.user } : Cf) hm Conv.eqK
    ·intro h4 hm
     refine Sk ?_
     exact jD ({ id:=p0.next,process:=p1.process,group:=p1.group,user:=p1.user } : Cf) hm Conv.t0
abbrev o67 (ks:List Nat) (b:Bool) (RES:Ac×Int×Int) (sm:List Nat := []):Orc := .call 30 ks b (.tup [.agg [ow 0 RES.1.tree.nodes.length,pI RES.1.tree.next,ow 1 RES.1.tasks.length,pI RES.1.next],pI RES.2.1,pI RES.2.2]) [] [Ba RES.1.tree.nodes,Ce RES.1.tasks] sm

abbrev c66e1 : Nat×Obj:=(1048,bx [.p (.sl .nil 0 0 (fun _ => [])),pI 0,.p (.sl .nil 0 0 (fun _ => [])),pI 0])
theorem Afg (p0:Ac) (p1:Int) (p2:Int) (RES:Ac×Int×Int) (hm:Uf p0 p1 p2=some RES):Spec Tryz.prog 10 [.p (.agg (Ab p0)),pI p1,pI p2] [] (.tup [.agg [ow 0 RES.1.tree.nodes.length,pI RES.1.tree.next,ow 1 RES.1.tasks.length,pI RES.1.next],pI RES.2.1,pI RES.2.2]) [] [Ba RES.1.tree.nodes,Ce RES.1.tasks]:=by
 unfold Uf at hm
 refine SO Tryz.func10 rfl rfl [(0,.p (.agg (Ab p0))),(1,pI p1),(2,pI p2)] [] ?_
 intro cx hnt
 refine Sq (RD hnt (nn 4 []) [0] [(3,rr 1024),(6,rr 1048)] [] [(1024,bx (pm (Ab p0))),(c66e1)] tv ?_)
 obtain ⟨r1,hr1,hm⟩:=bo hm
 refine Sq (Sq ?_)
 refine Jn (ι:=Bool) (fun (y1:Bool)=>Af [(1,pI p1),(2,pI p2),(3,rr 1024),(6,rr 1048),(19,pB y1)] [(1024,bx (pm (Ab p0))),(c66e1)]) (fun y1=>(Nm p0 p1 p2) y1=some RES) ?_ ?_
 ·intro y1 hm
  unfold Nm at hm
  refine Ak hm ?_ ?_
  ·intro h4 hm
   refine Sq (RD hnt (nn 4 []) [1,2,3,19] [(7,pI 0),(8,pI 1)] [1024] [] tv ?_)
   refine DW.cv [] [] [] [(1048,bx [ow 100000 0,pI 0,ow 100001 0,pI 0]),(100000,ob0 (Ba [])),(100001,ob0 (Ce []))] (Conv.ads [(.o 1048 0,100000,6,elems Ax Ay []),(.o 1048 2,100001,4,elems Bd Bo [])]) ?_
   obtain rfl:=sj hm
   exact DW.ret (Aj [Ba [],Ce []] [100000,100001] (.tup [.agg [ow 0 0,pI 0,ow 1 0,pI 0],pI 0,pI 1]))
  ·intro h4 hm
   refine Sk ?_
   obtain ⟨r5,hr5,hm⟩:=bo hm
   refine Sq (Sq (RD hnt (nn 3 (o22 [] true r5 :: .no :: [])) [19] [(25,pB (decide (r5<0)))] [] [] (an (Tb p0.tree p1 r5 hr5) tv) ?_))
   refine Ak hm ?_ ?_
   ·intro h6 hm
    refine Sq (RD hnt (nn 4 []) [1,2,3,25] [(7,pI 0),(8,pI 4)] [1024] [] tv ?_)
    refine DW.cv [] [] [] [(1048,bx [ow 100000 0,pI 0,ow 100001 0,pI 0]),(100000,ob0 (Ba [])),(100001,ob0 (Ce []))] (Conv.ads [(.o 1048 0,100000,6,elems Ax Ay []),(.o 1048 2,100001,4,elems Bd Bo [])]) ?_
    obtain rfl:=sj hm
    exact DW.ret (Aj [Ba [],Ce []] [100000,100001] (.tup [.agg [ow 0 0,pI 0,ow 1 0,pI 0],pI 0,pI 4]))
   ·intro h6 hm
    refine Sk ?_
    obtain ⟨r7,hr7,hm⟩:=bo hm
    refine Sq (RK hnt (nn 4 (o67 [] true r7::nn 6 [])) [(6,rr 1048),(7,pI r7.2.1),(8,pI r7.2.2)] [(1048,bx [ow 1248 r7.1.tree.nodes.length,pI r7.1.tree.next,ow 1249 r7.1.tasks.length,pI r7.1.next]),(1248,ob0 (Ba r7.1.tree.nodes)),(1249,ob0 (Ce r7.1.tasks))] (an (Agz p0 ({ id:=0,process:=0,group:=p1,user:=p2 } : Cf) r7 hr7) tv) ?_)
    obtain rfl:=sj hm
    exact DW.ret (Aj [Ba r7.1.tree.nodes,Ce r7.1.tasks] [1248,1249] (.tup [.agg [ow 0 r7.1.tree.nodes.length,pI r7.1.tree.next,ow 1 r7.1.tasks.length,pI r7.1.next],pI r7.2.1,pI r7.2.2]))
 ·rcases bt (!r1) with h2|h2
  ·replace hm:=Bt h2 hm
   refine RD hnt (.no::o11 [] true r1::nn 2 (sk 2 (pT :: .no::sk 2 (pT :: [])))) [] [(19,pB true)] [] [] (an (Dp p0 r1 hr1) (an3 h2 (an3 tt tv))) ?_
   exact jD true hm Conv.eqK
  ·replace hm:=Bs h2 hm
   rcases bt (decide (p2<0)) with h3|h3
   ·replace hm:=Bt h3 hm
    refine RD hnt (.no::o11 [] true r1::nn 4 (pF :: .no::sk 2 (pT :: []))) [] [(19,pB true)] [] [] (an (Dp p0 r1 hr1) (an3 h2 (an3 h3 tv))) ?_
    exact jD true hm Conv.eqK
   ·replace hm:=Bs h3 hm
    refine RD hnt (.no::o11 [] true r1::nn 4 (pF::nn 3 (pF :: []))) [] [(19,pB (decide (p2>1048576)))] [] [] (an (Dp p0 r1 hr1) (an3 h2 (an3 h3 tv))) ?_
    exact jD (decide (p2>1048576)) hm Conv.eqK
abbrev o66 (ks:List Nat) (b:Bool) (RES:Ac×Int×Int) (sm:List Nat := []):Orc := .call 10 ks b (.tup [.agg [ow 0 RES.1.tree.nodes.length,pI RES.1.tree.next,ow 1 RES.1.tasks.length,pI RES.1.next],pI RES.2.1,pI RES.2.2]) [] [Ba RES.1.tree.nodes,Ce RES.1.tasks] sm

theorem Ip (p0:Int) (RES:Int) (hm:Cj p0=some RES):Spec Tryz.prog 81 [pI p0] [] (pI RES) [] []:=by
 unfold Cj at hm
 refine SO Tryz.func81 rfl rfl [(0,pI p0)] [] ?_
 intro cx hnt
 refine Sq (RK hnt (.no :: []) [(0,pI p0)] [] tv ?_)
 refine Sq (Sq (DW.regJ (sl2 := [(0,pI p0),(8,pB ((decide (p0<1))||(decide (p0>10000))))]) (ob2 := []) ?_ ?_))
 ·rcases bt (decide (p0<1)) with h1|h1
  ·exact RT hnt (nn 3 (sk 2 (pT :: []))) [(8,pB true)] (an3 h1 tv) (by kernel_rfl) (.cons rfl (.of_eq (by rw [h1]; try rfl)) .nil)
  ·exact RT hnt (nn 5 (pF :: [])) [(8,pB (decide (p0>10000)))] (an3 h1 tv) (by kernel_rfl) (.cons rfl (.of_eq (by rw [h1]; try rfl)) .nil)
 ·refine Ak hm ?_ ?_
  ·intro h2 hm
   refine Sq (RK hnt (.no :: []) [(2,pI 0)] [] tv ?_)
   obtain rfl:=sj hm
   exact DW.ret (Aj [] [] (pI 0))
  ·intro h2 hm
   refine Sk ?_
   obtain ⟨g3,hm⟩:=go1 hm
   refine Sq (RK hnt (nn 6 []) [(2,pI (w64 (Int.tdiv (w64 ((w64 (1073741824+p0))-1)) p0)))] [] (an g3 tv) ?_)
   obtain rfl:=sj hm
   exact DW.ret (Aj [] [] (pI (w64 (Int.tdiv (w64 ((w64 (1073741824+p0))-1)) p0))))
abbrev o73 (ks:List Nat) (b:Bool) (RES:Int) (sm:List Nat := []):Orc := .call 81 ks b (pI RES) [] [] sm

theorem AeE (p0:Int) (RES:Bool) (hm:Xz p0=some RES):Spec Tryz.prog 80 [pI p0] [] (pB RES) [] []:=by
 unfold Xz at hm
 refine SO Tryz.func80 rfl rfl [(0,pI p0)] [] ?_
 intro cx hnt
 refine Sq (RK hnt (.no :: []) [(0,pI p0)] [] tv ?_)
 obtain ⟨r1,hr1,hm⟩:=bo hm
 refine Sq (RK hnt (.no::o73 [] true r1::nn 2 []) [(2,pB (r1==0))] [] (an (Ip p0 r1 hr1) tv) ?_)
 obtain rfl:=sj hm
 exact DW.ret (Aj [] [] (pB (r1==0)))
abbrev o72 (ks:List Nat) (b:Bool) (RES:Bool) (sm:List Nat := []):Orc := .call 80 ks b (pB RES) [] [] sm

theorem Pu (p0:List Int) (RES:Int) (hm:Fx p0=some RES):Spec Tryz.prog 159 [.p (slI p0),.p (.fn 80 [])] [] (pI RES) [] []:=by
 unfold Fx at hm
 refine SO Tryz.func159 rfl rfl [(0,.p (slI p0)),(1,.p (.fn 80 []))] [] ?_
 intro cx hnt
 refine Sq (RD hnt (.no :: []) [] [] [] [] tv ?_)
 refine Sq (Sq (RD hnt (nn 3 []) [] [(7,pI ((p0.length:Nat):Int)),(8,pI 0)] [] [] tv ?_))
 refine Bk ?_
 obtain ⟨hc1,hm⟩:=go1 hm
 refine DW.rangeO (fun (k1:Nat) (s1:Unit)=>Af [(0,.p (slI p0)),(1,.p (.fn 80 [])),(7,pI ((p0.length:Nat):Int)),(8,pI ((k1:Nat):Int))] []) 0 hm Conv.eqK ?_
 intro k1 s1 n1 hk1 hs1 he1
 refine Sq (RD hnt (.no :: []) [] [(9,pB (decide (((k1:Nat):Int)<((p0.length:Nat):Int))))] [] [] tv ?_)
 refine Sq (Bu (decide (((k1:Nat):Int)<((p0.length:Nat):Int))) ?_ ?_)
 ·intro h9
  have hlt1:k1<p0.length:=by have:=of_decide_eq_true h9; omega
  have hm:=hs1 hlt1
  unfold Jc at hm
  refine Sk ?_
  refine Sq (Bk ?_)
  refine Sq (RD hnt (nn 2 []) [9] [(5,pI ((k1:Nat):Int))] [] [] tv ?_)
  obtain ⟨r10,hr10,hm⟩:=bo hm
  refine Sq (RD hnt (nn 5 (o72 [] true r10 :: [])) [] [(16,pB r10)] [] [] (an (nn0 k1) (an (ltc hlt1) (an (AeE (p0.getD k1 0) r10 hr10) tv))) ?_)
  refine Ak hm ?_ ?_
  ·intro h11 hm
   refine Sq (RK hnt (nn 2 []) [(4,pI ((k1:Nat):Int))] [] tv ?_)
   obtain rfl:=sj hm
   exact DW.ret (Aj [] [] (pI ((k1:Nat):Int)))
  ·intro h11 hm
   refine Sk ?_
   refine DW.done ?_
   show DW _ _ _ _ _
   refine RD hnt (nn 2 []) [5,16] [(8,pI (w64 (((k1:Nat):Int)+1)))] [] [] tv ?_
   exact jD () ⟨hlt1,hm⟩ (Conv.tp [(8,pI (w64 (((k1:Nat):Int)+1)))] [] (by kernel_rfl) (.cons rfl (.of_eq (congrArg pI (Bb hlt1 hc1))) .nil) .nil)
 ·intro h9
  have hge1:¬ k1<p0.length:=by have:=of_decide_eq_false h9; omega
  have hm:=he1 hge1
  unfold Je at hm
  refine DW.exit ?_
  refine Ai ?_
  refine Ap ?_
  refine Ae ?_
  show DW _ _ _ _ _
  refine Sq (RK hnt (.no :: []) [(4,pI (-1))] [] tv ?_)
  obtain rfl:=sj hm
  exact DW.ret (Aj [] [] (pI (-1)))
abbrev o71 (ks:List Nat) (b:Bool) (RES:Int) (sm:List Nat := []):Orc := .call 159 ks b (pI RES) [] [] sm

theorem Od (p0:List Int) (RES:Bool) (hm:Ev p0=some RES):Spec Tryz.prog 79 [.p (slI p0),.p (.fn 80 [])] [] (pB RES) [] []:=by
 unfold Ev at hm
 refine SO Tryz.func79 rfl rfl [(0,.p (slI p0)),(1,.p (.fn 80 []))] [] ?_
 intro cx hnt
 refine Sq (RD hnt (.no :: []) [] [] [] [] tv ?_)
 obtain ⟨r1,hr1,hm⟩:=bo hm
 refine Sq (RK hnt (nn 2 (o71 [] true r1::nn 2 [])) [(4,pB (decide (r1≥0)))] [] (an (Pu p0 r1 hr1) tv) ?_)
 obtain rfl:=sj hm
 exact DW.ret (Aj [] [] (pB (decide (r1≥0))))
abbrev o70 (ks:List Nat) (b:Bool) (RES:Bool) (sm:List Nat := []):Orc := .call 79 ks b (pB RES) [] [] sm

theorem AfU (p0:Ac) (p1:List Int) (RES:Bool) (hm:Abn p0 p1=some RES):Spec Tryz.prog 31 [.p (.agg (Ab p0)),.p (slI p1)] [] (pB RES) [] []:=by
 unfold Abn at hm
 refine SO Tryz.func31 rfl rfl [(0,.p (.agg (Ab p0))),(1,.p (slI p1))] [] ?_
 intro cx hnt
 refine Sq (RD hnt (nn 2 []) [0] [(2,rr 1016)] [] [(1016,bx (pm (Ab p0)))] tv ?_)
 obtain ⟨r1,hr1,hm⟩:=bo hm
 refine Sq ?_
 refine Jn (ι:=Bool) (fun (y1:Bool)=>Af [(4,pB y1)] []) (fun y1=>Ph y1=some RES) ?_ ?_
 ·intro y1 hm
  unfold Ph at hm
  obtain rfl:=sj hm
  exact DW.ret (Aj [] [] (pB y1))
 ·rcases bt r1 with h2|h2
  ·replace hm:=Bt h2 hm
   rcases bt (((p1.length:Nat):Int)==((p0.tree.nodes.length:Nat):Int)) with h3|h3
   ·replace hm:=Bt h3 hm
    obtain ⟨r4,hr4,hm⟩:=bo hm
    refine RK hnt (.no::o11 [] true r1::nn 8 (pT::nn 2 (o70 [] true r4 :: .no::pT :: .no :: []))) [(4,pB (!r4))] [] (an (Dp p0 r1 hr1) (an2 h2 (an6 h2 (an2 h3 (an (Od p1 r4 hr4) (an2 h3 tv)))))) ?_
    exact jD (!r4) hm .refl
   ·replace hm:=Bs h3 hm
    refine RK hnt (.no::o11 [] true r1::nn 8 (pT :: .no::sk 3 (pF :: .no :: []))) [(4,pB false)] [] (an (Dp p0 r1 hr1) (an2 h2 (an6 h2 (an4 h3 tv)))) ?_
    exact jD false hm .refl
  ·replace hm:=Bs h2 hm
   refine RK hnt (.no::o11 [] true r1 :: .no::sk 7 (pF :: .no::sk 3 (pF :: .no :: []))) [(4,pB false)] [] (an (Dp p0 r1 hr1) (an2 h2 (an6 h2 (an4 ff tv)))) ?_
   exact jD false hm .refl
abbrev o69 (ks:List Nat) (b:Bool) (RES:Bool) (sm:List Nat := []):Orc := .call 31 ks b (pB RES) [] [] sm
end Go.Dm

