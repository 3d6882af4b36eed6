/- Texts of the proof of TopFlat: the data machine, the models of the Go functions, their contracts. -/
import Derived.Test.YtipldakcagklgaaGreatDoorTopFlatA7
set_option linter.unusedVariables false
set_option linter.unusedSimpArgs false
/- Go functions compute their models, printed by a program. -/
namespace Go.Dm
open Go.Proofs
set_option linter.unusedVariables false
theorem AeY (p0:Ac) (p1:List Int) (RES:Ac×(List Int)) (hm:Zt p0 p1=some RES):Spec Tryz.prog 32 [.p (.agg (Ab p0)),.p (slI p1)] [] (.fn 82 [rr 0,rr 1]) [] [.box (pm (Ab RES.1)),.box [.p (slI RES.2)]]:=by
 unfold Zt at hm
 refine SO Tryz.func32 rfl rfl [(0,.p (.agg (Ab p0))),(1,.p (slI p1))] [] ?_
 intro cx hnt
 refine Sq (RK hnt (nn 3 []) [(2,rr 1016),(3,rr 1024)] [(1016,bx (pm (Ab p0))),(1024,bx [.p (slI p1)])] tv ?_)
 refine Sq (RD hnt (nn 2 []) [2,3] [(4,.fn 82 [rr 1016,rr 1024])] [] [] tv ?_)
 obtain rfl:=sj hm
 exact DW.ret (Aj [.box (pm (Ab p0)),.box [.p (slI p1)]] [1016,1024] (.fn 82 [rr 0,rr 1]))
abbrev o74 (ks:List Nat) (b:Bool) (RES:Ac×(List Int)) (sm:List Nat := []):Orc := .call 32 ks b (.fn 82 [rr 0,rr 1]) [] [.box (pm (Ab RES.1)),.box [.p (slI RES.2)]] sm

theorem AbR (p0:List Int) (p1:Int) (RES:Int) (hm:Tf p0 p1=some RES):Spec Tryz.prog 160 [.p (slI p0),pI p1] [] (pI RES) [] []:=by
 unfold Tf at hm
 refine SO Tryz.func160 rfl rfl [(0,.p (slI p0)),(1,pI p1)] [] ?_
 intro cx hnt
 refine Sq (RD hnt (.no :: []) [] [] [] [] tv ?_)
 refine Sq (Sq (RD hnt (nn 3 []) [] [(7,pI ((p0.length:Nat):Int)),(8,pI 0)] [] [] tv ?_))
 refine Bk ?_
 obtain ⟨hc1,hm⟩:=go1 hm
 refine DW.rangeO (fun (k1:Nat) (s1:Unit)=>Af [(0,.p (slI p0)),(1,pI p1),(7,pI ((p0.length:Nat):Int)),(8,pI ((k1:Nat):Int))] []) 0 hm Conv.eqK ?_
 intro k1 s1 n1 hk1 hs1 he1
 refine Sq (RD hnt (.no :: []) [] [(9,pB (decide (((k1:Nat):Int)<((p0.length:Nat):Int))))] [] [] tv ?_)
 refine Sq (Bu (decide (((k1:Nat):Int)<((p0.length:Nat):Int))) ?_ ?_)
 ·intro h7
  have hlt1:k1<p0.length:=by have:=of_decide_eq_true h7; omega
  have hm:=hs1 hlt1
  unfold Xa at hm
  refine Sk ?_
  refine Sq (Bk ?_)
  refine Sq (RD hnt (nn 2 []) [9] [(5,pI ((k1:Nat):Int))] [] [] tv ?_)
  refine Sq (RD hnt (nn 6 []) [] [(16,pB (p1==(p0.getD k1 0)))] [] [] (an (nn0 k1) (an (ltc hlt1) tv)) ?_)
  refine Ak hm ?_ ?_
  ·intro h8 hm
   refine Sq (RK hnt (nn 2 []) [(4,pI ((k1:Nat):Int))] [] tv ?_)
   obtain rfl:=sj hm
   exact DW.ret (Aj [] [] (pI ((k1:Nat):Int)))
  ·intro h8 hm
   refine Sk ?_
   refine DW.done ?_
   show DW _ _ _ _ _
   refine RD hnt (nn 2 []) [5,16] [(8,pI (w64 (((k1:Nat):Int)+1)))] [] [] tv ?_
   exact jD () ⟨hlt1,hm⟩ (Conv.tp [(8,pI (w64 (((k1:Nat):Int)+1)))] [] (by kernel_rfl) (.cons rfl (.of_eq (congrArg pI (Bb hlt1 hc1))) .nil) .nil)
 ·intro h7
  have hge1:¬ k1<p0.length:=by have:=of_decide_eq_false h7; omega
  have hm:=he1 hge1
  unfold Ws at hm
  refine DW.exit ?_
  refine Ai ?_
  refine Ap ?_
  refine Ae ?_
  show DW _ _ _ _ _
  refine Sq (RK hnt (.no :: []) [(4,pI (-1))] [] tv ?_)
  obtain rfl:=sj hm
  exact DW.ret (Aj [] [] (pI (-1)))
abbrev o78 (ks:List Nat) (b:Bool) (RES:Int) (sm:List Nat := []):Orc := .call 160 ks b (pI RES) [] [] sm

theorem Cu (p0:List Int) (p1:Int) (RES:Bool) (hm:Dk p0 p1=some RES):Spec Tryz.prog 85 [.p (slI p0),pI p1] [] (pB RES) [] []:=by
 unfold Dk at hm
 refine SO Tryz.func85 rfl rfl [(0,.p (slI p0)),(1,pI p1)] [] ?_
 intro cx hnt
 refine Sq (RD hnt (.no :: []) [] [] [] [] tv ?_)
 obtain ⟨r1,hr1,hm⟩:=bo hm
 refine Sq (RK hnt (nn 2 (o78 [] true r1::nn 2 [])) [(4,pB (decide (r1≥0)))] [] (an (AbR p0 p1 r1 hr1) tv) ?_)
 obtain rfl:=sj hm
 exact DW.ret (Aj [] [] (pB (decide (r1≥0))))
abbrev o77 (ks:List Nat) (b:Bool) (RES:Bool) (sm:List Nat := []):Orc := .call 85 ks b (pB RES) [] [] sm

theorem AfC (p0:Ac) (p1:List Int) (RES:IMap Bool) (hm:Abg p0 p1=some RES):Spec Tryz.prog 83 [.p (.agg (Ab p0)),.p (slI p1)] [] (.p (.mp (vb false) RES.has (fun n=>vb (RES.get n)))) [] []:=by
 unfold Abg at hm
 refine SO Tryz.func83 rfl rfl [(0,.p (.agg (Ab p0))),(1,.p (slI p1))] [] ?_
 intro cx hnt
 refine Sq (RD hnt (nn 2 []) [0] [(2,rr 1016)] [] [(1016,bx (pm (Ab p0)))] tv ?_)
 refine Sq (RD hnt (nn 2 []) [] [(5,.mref 1080 0)] [] [(1080,ob0 (Nd vb (vb false) (IMap.empty false)))] tv ?_)
 refine Sq (Sq (RD hnt (nn 4 []) [] [(12,.p (Dn p0.tasks)),(13,pI ((p0.tasks.length:Nat):Int)),(14,pI 0)] [] [] tv ?_))
 refine Bk ?_
 obtain ⟨hc1,hm⟩:=go1 hm
 refine DW.rangeO (fun (k1:Nat) (s1:IMap Bool)=>Af [(1,.p (slI p1)),(2,rr 1016),(5,.mref 1080 0),(12,.p (Dn p0.tasks)),(13,pI ((p0.tasks.length:Nat):Int)),(14,pI ((k1:Nat):Int))] [(1016,bx (pm (Ab p0))),(1080,ob0 (Nd vb (vb false) s1))]) Bo hm Conv.eqK ?_
 intro k1 s1 n1 hk1 hs1 he1
 refine Sq (RD hnt (.no :: []) [] [(15,pB (decide (((k1:Nat):Int)<((p0.tasks.length:Nat):Int))))] [] [] tv ?_)
 refine Sq (Bu (decide (((k1:Nat):Int)<((p0.tasks.length:Nat):Int))) ?_ ?_)
 ·intro h25
  have hlt1:k1<p0.tasks.length:=by have:=of_decide_eq_true h25; omega
  have hm:=hs1 hlt1
  unfold AcC at hm
  refine Sk ?_
  refine Sq ?_
  refine Jn (ι:=IMap Bool) (fun (y3:IMap Bool)=>Af [(1,.p (slI p1)),(2,rr 1016),(5,.mref 1080 0),(12,.p (Dn p0.tasks)),(13,pI ((p0.tasks.length:Nat):Int)),(14,pI ((k1:Nat):Int))] [(1016,bx (pm (Ab p0))),(1080,ob0 (Nd vb (vb false) y3))]) (fun y3=>(Su n1) y3=some RES) ?_ ?_
  ·intro y3 hm
   unfold Su at hm
   refine RD hnt (nn 2 []) [] [(14,pI (w64 (((k1:Nat):Int)+1)))] [] [] tv ?_
   exact jD y3 ⟨hlt1,hm⟩ (Conv.tp [(14,pI (w64 (((k1:Nat):Int)+1)))] [] (by kernel_rfl) (.cons rfl (.of_eq (congrArg pI (Bb hlt1 hc1))) .nil) .nil)
  ·refine Bk ?_
   refine Sq (RD hnt (nn 4 []) [15] [(7,rr 1056)] [] [(1056,bx (pm (Bd (p0.tasks.getD k1 Bo))))] (an (nn0 k1) (an (ltc hlt1) tv)) ?_)
   obtain ⟨r26,hr26,hm⟩:=bo hm
   refine Sq (RD hnt (nn 3 (o77 [] true r26 :: [])) [] [(21,pB r26)] [] [] (an (Cu p1 (p0.tasks.getD k1 Bo).id r26 hr26) tv) ?_)
   refine Ak hm ?_ ?_
   ·intro h27 hm
    obtain ⟨r28,hr28,hm⟩:=bo hm
    refine Sq (RD hnt (nn 4 (o53 [] true r28::nn 2 [])) [7,21] [(26,ow 1208 r28.length),(27,pI ((r28.length:Nat):Int)),(28,pI 0)] [1056] [(1208,ob0 (roI r28))] (an (Hi p0.tree (p0.tasks.getD k1 Bo).group r28 hr28) tv) ?_)
    refine Bk ?_
    obtain ⟨hc4,hm⟩:=go1 hm
    refine DW.rangeO (fun (k4:Nat) (s4:IMap Bool)=>Af [(1,.p (slI p1)),(2,rr 1016),(5,.mref 1080 0),(12,.p (Dn p0.tasks)),(13,pI ((p0.tasks.length:Nat):Int)),(14,pI ((k1:Nat):Int)),(26,ow 1208 r28.length),(27,pI ((r28.length:Nat):Int)),(28,pI ((k4:Nat):Int))] [(1016,bx (pm (Ab p0))),(1080,ob0 (Nd vb (vb false) s4)),(1208,ob0 (roI r28))]) 0 hm Conv.eqK ?_
    intro k4 s4 n4 hk4 hs4 he4
    refine Sq (RD hnt (.no :: []) [] [(29,pB (decide (((k4:Nat):Int)<((r28.length:Nat):Int))))] [] [] tv ?_)
    refine Sq (Bu (decide (((k4:Nat):Int)<((r28.length:Nat):Int))) ?_ ?_)
    ·intro h35
     have hlt4:k4<r28.length:=by have:=of_decide_eq_true h35; omega
     have hm:=hs4 hlt4
     unfold AcD at hm
     refine Sk ?_
     refine Sq (Bk ?_)
     refine Sq (RD hnt (nn 3 []) [29] [(9,pI (r28.getD k4 0))] [] [] (an (nn0 k4) (an (ltc hlt4) (an (by omega:k4<r28.length) tv))) ?_)
     refine RD hnt (nn 2 (.asM (vb false) (s4.set (r28.getD k4 0) true).has (fun j=>vb ((s4.set (r28.getD k4 0) true).get j)) :: [])) [9] [] [] [(1080,ob0 (Nd vb (vb false) (s4.set (r28.getD k4 0) true)))] (an (AgI vb (vb false) s4 (r28.getD k4 0) true PLe.rfl) tv) ?_
     refine DW.done ?_
     show DW _ _ _ _ _
     refine RD hnt (nn 2 []) [] [(28,pI (w64 (((k4:Nat):Int)+1)))] [] [] tv ?_
     exact jD (s4.set (r28.getD k4 0) true) ⟨hlt4,hm⟩ (Conv.tp [(28,pI (w64 (((k4:Nat):Int)+1)))] [] (by kernel_rfl) (.cons rfl (.of_eq (congrArg pI (Bb hlt4 hc4))) .nil) .nil)
    ·intro h35
     have hge4:¬ k4<r28.length:=by have:=of_decide_eq_false h35; omega
     have hm:=he4 hge4
     unfold AcE at hm
     refine DW.exit ?_
     refine Ai ?_
     refine Ap ?_
     refine Ae ?_
     show DW _ _ _ _ _
     exact bD s4 hm Conv.t0
   ·intro h27 hm
    refine Sk ?_
    exact bD s1 hm Conv.t0
 ·intro h25
  have hge1:¬ k1<p0.tasks.length:=by have:=of_decide_eq_false h25; omega
  have hm:=he1 hge1
  unfold AcF at hm
  refine DW.exit ?_
  refine Ai ?_
  refine Ap ?_
  refine Ae ?_
  show DW _ _ _ _ _
  refine Sq (RK hnt (nn 2 []) [(4,.mref 1080 0)] [(1080,ob0 (Nd vb (vb false) s1))] tv ?_)
  refine DW.cv [] [(4,.p (.mp (vb false) s1.has (fun n=>vb (s1.get n))))] [1080] [] (Conv.frz [1080]) ?_
  obtain rfl:=sj hm
  exact DW.ret (Aj [] [] (.p (.mp (vb false) s1.has (fun n=>vb (s1.get n)))))
abbrev o76 (ks:List Nat) (b:Bool) (RES:IMap Bool) (sm:List Nat := []):Orc := .call 83 ks b (.p (.mp (vb false) RES.has (fun n=>vb (RES.get n)))) [] [] sm

theorem Afx (p0:Ac) (p1:List Int) (RES:(List Int)×(IMap Bool)) (hm:Abh p0 p1=some RES):Spec Tryz.prog 33 [.p (.agg (Ab p0)),.p (slI p1)] [] (.fn 84 [rr 0,rr 1]) [] [.box [.p (slI RES.1)],.box [.p (.mp (vb false) RES.2.has (fun n=>vb (RES.2.get n)))]]:=by
 unfold Abh at hm
 refine SO Tryz.func33 rfl rfl [(0,.p (.agg (Ab p0))),(1,.p (slI p1))] [] ?_
 intro cx hnt
 refine Sq (RK hnt (nn 3 []) [(2,rr 1016),(3,rr 1024)] [(1016,bx (pm (Ab p0))),(1024,bx [.p (slI p1)])] tv ?_)
 obtain ⟨r1,hr1,hm⟩:=bo hm
 refine Sq (RD hnt (nn 2 (o76 [] true r1::nn 2 [])) [2] [(5,rr 1040)] [1016] [(1040,bx [.p (.mp (vb false) r1.has (fun n=>vb (r1.get n)))])] (an (AfC p0 p1 r1 hr1) tv) ?_)
 refine Sq (RD hnt (nn 2 []) [3,5] [(4,.fn 84 [rr 1024,rr 1040])] [] [] tv ?_)
 obtain rfl:=sj hm
 exact DW.ret (Aj [.box [.p (slI p1)],.box [.p (.mp (vb false) r1.has (fun n=>vb (r1.get n)))]] [1024,1040] (.fn 84 [rr 0,rr 1]))
abbrev o75 (ks:List Nat) (b:Bool) (RES:(List Int)×(IMap Bool)) (sm:List Nat := []):Orc := .call 33 ks b (.fn 84 [rr 0,rr 1]) [] [.box [.p (slI RES.1)],.box [.p (.mp (vb false) RES.2.has (fun n=>vb (RES.2.get n)))]] sm

theorem Hx (p0:Ah) (RES:Bool) (hm:Ff p0=some RES):Spec Tryz.prog 91 [.p (.agg (Al p0))] [] (pB RES) [] []:=by
 unfold Ff at hm
 refine SO Tryz.func91 rfl rfl [(0,.p (.agg (Al p0)))] [] ?_
 intro cx hnt
 refine Sq (RK hnt (nn 2 []) [(1,rr 1008)] [(1008,bx (pm (Al p0)))] tv ?_)
 refine Sq (Sq (DW.regJ (sl2 := [(1,rr 1008),(19,pB (((decide (p0.clock<0))||(decide (p0.clock>1152921504606846976)))||(decide (((p0.items.length:Nat):Int)>192))))]) (ob2 := [(1008,bx (pm (Al p0)))]) ?_ ?_))
 ·rcases bt (decide (p0.clock<0)) with h1|h1
  ·exact RT hnt (nn 4 (sk 3 (pT :: .no::sk 4 (pT :: [])))) [(19,pB true)] (an4 h1 (an5 tt tv)) (by kernel_rfl) (.cons rfl (.of_eq (by rw [h1]; try rfl)) .nil)
  ·rcases bt (decide (p0.clock>1152921504606846976)) with h2|h2
   ·exact RT hnt (nn 7 (pF :: .no::sk 4 (pT :: []))) [(19,pB true)] (an4 h1 (an5 h2 tv)) (by kernel_rfl) (.cons rfl (.of_eq (by rw [h1,h2]; try rfl)) .nil)
   ·exact RT hnt (nn 7 (pF::nn 5 (pF :: []))) [(19,pB (decide (((p0.items.length:Nat):Int)>192)))] (an4 h1 (an5 h2 tv)) (by kernel_rfl) (.cons rfl (.of_eq (by rw [h1,h2]; try rfl)) .nil)
 ·refine Ak hm ?_ ?_
  ·intro h3 hm
   refine Sq (RK hnt (.no :: []) [(2,pB false)] [] tv ?_)
   obtain rfl:=sj hm
   exact DW.ret (Aj [] [] (pB false))
  ·intro h3 hm
   refine Sk ?_
   refine Sq (Sq (RD hnt (nn 4 []) [19] [(21,.p (Bf p0.items)),(22,pI ((p0.items.length:Nat):Int)),(23,pI 0)] [] [] tv ?_))
   refine Bk ?_
   obtain ⟨hc1,hm⟩:=go1 hm
   refine DW.rangeO (fun (k1:Nat) (s1:Unit)=>Af [(1,rr 1008),(21,.p (Bf p0.items)),(22,pI ((p0.items.length:Nat):Int)),(23,pI ((k1:Nat):Int))] [(1008,bx (pm (Al p0)))]) An hm Conv.eqK ?_
   intro k1 s1 n1 hk1 hs1 he1
   refine Sq (RD hnt (.no :: []) [] [(24,pB (decide (((k1:Nat):Int)<((p0.items.length:Nat):Int))))] [] [] tv ?_)
   refine Sq (Bu (decide (((k1:Nat):Int)<((p0.items.length:Nat):Int))) ?_ ?_)
   ·intro h36
    have hlt1:k1<p0.items.length:=by have:=of_decide_eq_true h36; omega
    have hm:=hs1 hlt1
    unfold Uu at hm
    refine Sk ?_
    refine Sq (Bk ?_)
    refine Sq (RD hnt (nn 6 []) [24] [(3,pI ((k1:Nat):Int)),(4,rr 1032)] [] [(1032,bx (pm (Bc (p0.items.getD k1 An))))] (an (nn0 k1) (an (ltc hlt1) tv)) ?_)
    obtain ⟨r37,hr37,hm⟩:=bo hm
    refine Sq (RD hnt (nn 2 (o73 [] true r37 :: .no :: [])) [] [(5,pI r37)] [] [] (an (Ip (p0.items.getD k1 An).weight r37 hr37) tv) ?_)
    refine Sq ?_
    refine Jn (ι:=Bool) (fun (y3:Bool)=>Af [(1,rr 1008),(21,.p (Bf p0.items)),(22,pI ((p0.items.length:Nat):Int)),(23,pI ((k1:Nat):Int)),(79,pB y3)] [(1008,bx (pm (Al p0)))]) (fun y3=>(Bw n1) y3=some RES) ?_ ?_
    ·intro y3 hm
     unfold Bw at hm
     refine Ak hm ?_ ?_
     ·intro h50 hm
      refine Sq (RK hnt (.no :: []) [(2,pB false)] [] tv ?_)
      obtain rfl:=sj hm
      exact DW.ret (Aj [] [] (pB false))
     ·intro h50 hm
      refine Sk ?_
      refine DW.done ?_
      show DW _ _ _ _ _
      refine RD hnt (nn 2 []) [79] [(23,pI (w64 (((k1:Nat):Int)+1)))] [] [] tv ?_
      exact jD () ⟨hlt1,hm⟩ (Conv.tp [(23,pI (w64 (((k1:Nat):Int)+1)))] [] (by kernel_rfl) (.cons rfl (.of_eq (congrArg pI (Bb hlt1 hc1))) .nil) .nil)
    ·rcases bt ((p0.items.getD k1 An).id==0) with h38|h38
     ·replace hm:=Bt h38 hm
      refine RD hnt (nn 4 (sk 14 (pT :: .no::sk 2 (pT :: .no::sk 3 (pT :: .no::sk 8 (pT :: .no::sk 9 (pT :: []))))))) [3,4,5] [(79,pB true)] [1032] [] (an5 h38 (an3 tt (an6 tt (an6 tt (an6 tt tv))))) ?_
      exact jD true hm Conv.eqK
     ·replace hm:=Bs h38 hm
      rcases bt (decide (((k1:Nat):Int)>0)) with h39|h39
      ·replace hm:=Bt h39 hm
       obtain ⟨g40,hm⟩:=go1 hm
       rcases bt (decide ((p0.items.getD k1 An).id≤(p0.items.getD (Int.toNat (w64 (((k1:Nat):Int)-1))) An).id)) with h41|h41
       ·replace hm:=Bt h41 hm
        refine RD hnt (nn 17 (pT::pF :: .no::sk 2 (pT :: .no::sk 3 (pT :: .no::sk 8 (pT :: .no::sk 9 (pT :: [])))))) [3,4,5] [(79,pB true)] [1032] [] (an3 h38 (an h39 (an6 h39 (an g40.1 (an g40.2 (an3 h39 (an h38 (an h39 (an h38 (an3 h41 (an6 tt (an6 tt (an6 tt tv))))))))))))) ?_
        exact jD true hm Conv.eqK
       ·replace hm:=Bs h41 hm
        rcases bt (r37==0) with h42|h42
        ·replace hm:=Bt h42 hm
         refine RD hnt (nn 17 (pT::pF::nn 3 (pF :: .no::sk 3 (pT :: .no::sk 8 (pT :: .no::sk 9 (pT :: [])))))) [3,4,5] [(79,pB true)] [1032] [] (an3 h38 (an h39 (an6 h39 (an g40.1 (an g40.2 (an3 h39 (an h38 (an h39 (an h38 (an3 h41 (an4 h42 (an2 tt (an6 tt (an6 tt tv)))))))))))))) ?_
         exact jD true hm Conv.eqK
        ·replace hm:=Bs h42 hm
         rcases bt (decide ((p0.items.getD k1 An).v<0)) with h43|h43
         ·replace hm:=Bt h43 hm
          refine RD hnt (nn 17 (pT::pF::nn 3 (pF::nn 4 (pF :: .no::sk 8 (pT :: .no::sk 9 (pT :: [])))))) [3,4,5] [(79,pB true)] [1032] [] (an3 h38 (an h39 (an6 h39 (an g40.1 (an g40.2 (an3 h39 (an h38 (an h39 (an h38 (an3 h41 (an4 h42 (an3 h43 (an6 h43 (an5 tt tv)))))))))))))) ?_
          exact jD true hm Conv.eqK
         ·replace hm:=Bs h43 hm
          rcases bt (decide ((p0.items.getD k1 An).v>(Lj (w64 (p0.clock+r37)) 1152921504606846976))) with h44|h44
          ·replace hm:=Bt h44 hm
           refine RD hnt (nn 17 (pT::pF::nn 3 (pF::nn 4 (pF::nn 9 (pF :: .no::sk 9 (pT :: [])))))) [3,4,5] [(79,pB true)] [1032] [] (an3 h38 (an h39 (an6 h39 (an g40.1 (an g40.2 (an3 h39 (an h38 (an h39 (an h38 (an3 h41 (an4 h42 (an3 h43 (an6 h43 (an5 h44 tv)))))))))))))) ?_
           exact jD true hm Conv.eqK
          ·replace hm:=Bs h44 hm
           rcases bt (p0.items.getD k1 An).active with h45|h45
           ·replace hm:=Bt h45 hm
            refine RD hnt (nn 17 (pT::pF::nn 3 (pF::nn 4 (pF::nn 9 (pF::nn 9 (pT::pF :: [])))))) [3,4,5] [(79,pB (decide ((p0.items.getD k1 An).v<p0.clock)))] [1032] [] (an3 h38 (an h39 (an6 h39 (an g40.1 (an g40.2 (an3 h39 (an h38 (an h39 (an h38 (an3 h41 (an4 h42 (an3 h43 (an6 h43 (an3 h44 (an5 h45 (an h44 (an h45 (an h44 tv)))))))))))))))))) ?_
            exact jD (decide ((p0.items.getD k1 An).v<p0.clock)) hm Conv.eqK
           ·replace hm:=Bs h45 hm
            refine RD hnt (nn 17 (pT::pF::nn 3 (pF::nn 4 (pF::nn 9 (pF::nn 4 (sk 5 (pF::pF :: []))))))) [3,4,5] [(79,pB false)] [1032] [] (an3 h38 (an h39 (an6 h39 (an g40.1 (an g40.2 (an3 h39 (an h38 (an h39 (an h38 (an3 h41 (an4 h42 (an3 h43 (an6 h43 (an3 h44 (an5 h45 (an h44 (an h45 (an h44 tv)))))))))))))))))) ?_
            exact jD false hm Conv.eqK
      ·replace hm:=Bs h39 hm
       rcases bt (r37==0) with h46|h46
       ·replace hm:=Bt h46 hm
        refine RD hnt (nn 7 (sk 10 (pF::pF::nn 3 (pF :: .no::sk 3 (pT :: .no::sk 8 (pT :: .no::sk 9 (pT :: []))))))) [3,4,5] [(79,pB true)] [1032] [] (an3 h38 (an4 h39 (an6 h39 (an h38 (an h39 (an h38 (an3 ff (an4 h46 (an2 tt (an6 tt (an6 tt tv))))))))))) ?_
        exact jD true hm Conv.eqK
       ·replace hm:=Bs h46 hm
        rcases bt (decide ((p0.items.getD k1 An).v<0)) with h47|h47
        ·replace hm:=Bt h47 hm
         refine RD hnt (nn 7 (sk 10 (pF::pF::nn 3 (pF::nn 4 (pF :: .no::sk 8 (pT :: .no::sk 9 (pT :: []))))))) [3,4,5] [(79,pB true)] [1032] [] (an3 h38 (an4 h39 (an6 h39 (an h38 (an h39 (an h38 (an3 ff (an4 h46 (an3 h47 (an6 h47 (an5 tt tv))))))))))) ?_
         exact jD true hm Conv.eqK
        ·replace hm:=Bs h47 hm
         rcases bt (decide ((p0.items.getD k1 An).v>(Lj (w64 (p0.clock+r37)) 1152921504606846976))) with h48|h48
         ·replace hm:=Bt h48 hm
          refine RD hnt (nn 7 (sk 10 (pF::pF::nn 3 (pF::nn 4 (pF::nn 9 (pF :: .no::sk 9 (pT :: []))))))) [3,4,5] [(79,pB true)] [1032] [] (an3 h38 (an4 h39 (an6 h39 (an h38 (an h39 (an h38 (an3 ff (an4 h46 (an3 h47 (an6 h47 (an5 h48 tv))))))))))) ?_
          exact jD true hm Conv.eqK
         ·replace hm:=Bs h48 hm
          rcases bt (p0.items.getD k1 An).active with h49|h49
          ·replace hm:=Bt h49 hm
           refine RD hnt (nn 7 (sk 10 (pF::pF::nn 3 (pF::nn 4 (pF::nn 9 (pF::nn 9 (pT::pF :: []))))))) [3,4,5] [(79,pB (decide ((p0.items.getD k1 An).v<p0.clock)))] [1032] [] (an3 h38 (an4 h39 (an6 h39 (an h38 (an h39 (an h38 (an3 ff (an4 h46 (an3 h47 (an6 h47 (an3 h48 (an5 h49 (an h48 (an h49 (an h48 tv))))))))))))))) ?_
           exact jD (decide ((p0.items.getD k1 An).v<p0.clock)) hm Conv.eqK
          ·replace hm:=Bs h49 hm
           refine RD hnt (nn 7 (sk 10 (pF::pF::nn 3 (pF::nn 4 (pF::nn 9 (pF::nn 4 (sk 5 (pF::pF :: [])))))))) [3,4,5] [(79,pB false)] [1032] [] (an3 h38 (an4 h39 (an6 h39 (an h38 (an h39 (an h38 (an3 ff (an4 h46 (an3 h47 (an6 h47 (an3 h48 (an5 h49 (an h48 (an h49 (an h48 tv))))))))))))))) ?_
           exact jD false hm Conv.eqK
   ·intro h36
    have hge1:¬ k1<p0.items.length:=by have:=of_decide_eq_false h36; omega
    have hm:=he1 hge1
    unfold Aar at hm
    refine DW.exit ?_
    refine Ai ?_
    refine Ap ?_
    refine Ae ?_
    show DW _ _ _ _ _
    refine Sq (RK hnt (.no :: []) [(2,pB true)] [] tv ?_)
    obtain rfl:=sj hm
    exact DW.ret (Aj [] [] (pB true))
abbrev o80 (ks:List Nat) (b:Bool) (RES:Bool) (sm:List Nat := []):Orc := .call 91 ks b (pB RES) [] [] sm

theorem Aap (p0:List Aa) (RES:List Aa) (hm:Ca p0=some RES):Spec Tryz.prog 92 [.p (.sl .nn 4 p0.length (elems Bc (default:Aa) p0))] [] (ow 0 RES.length) [] [Ar RES]:=by
 unfold Ca at hm
 refine SO Tryz.func92 rfl rfl [(0,.p (.sl .nn 4 p0.length (elems Bc (default:Aa) p0)))] [] ?_
 intro cx hnt
 refine Sq (RD hnt (.no :: []) [] [] [] [] tv ?_)
 refine Sq (Sq (RD hnt (nn 2 []) [] [(4,pB false)] [] [] tv ?_))
 refine Aeq ff ?_
 refine Sk ?_
 obtain ⟨g1,hm⟩:=go1 hm
 refine Sq (RN hnt (nn 4 []) [(2,ow 1040 p0.length)] [(1040,ob0 (Ar p0))] [(2,ow 1040 (0+p0.length))] [(1040,.row 4 (0+p0.length) (Ck 0 (cut 4 []) (Hk p0)))] (an (by omega:(0+p0.length)*32≤140737488355328) tv) (by kernel_rfl) (.cons rfl (MLe.ownLen (enc:=Bc) (d:=An) (f:=(Ck 0 (cut 4 []) (Hk p0))) (RowIs.cat RowIs.nil RowIs.elems)) .nil) (.cons rfl (BLe.typed (RowIs.cat RowIs.nil RowIs.elems)) .nil) ?_)
 obtain rfl:=sj hm
 exact DW.ret (Aj [Ar p0] [1040] (ow 0 p0.length))

theorem Zv (p0:List Aa) (RES:List Aa) (hm:Fk p0=some RES):Spec Tryz.prog 92 [.p (.sl .nil 4 0 (elems Bc (default:Aa) p0))] [] (ow 0 RES.length) [] [Ar RES]:=by
 unfold Fk at hm
 refine SO Tryz.func92 rfl rfl [(0,.p (.sl .nil 4 0 (elems Bc (default:Aa) p0)))] [] ?_
 intro cx hnt
 refine Sq (RD hnt (.no :: []) [] [] [] [] tv ?_)
 refine Sq (Sq (RD hnt (nn 2 []) [] [(4,pB true)] [] [] tv ?_))
 refine Aei tt ?_
 refine Sq (RK hnt (.no :: []) [(2,.p (.sl .nil 0 0 (fun _ => [])))] [] tv ?_)
 refine DW.cv [] [(2,ow 100000 0)] [] [(100000,ob0 (Ar []))] (Conv.ads [(.s 2,100000,4,elems Bc An [])]) ?_
 obtain rfl:=sj hm
 exact DW.ret (Aj [Ar []] [100000] (ow 0 0))

theorem Gs (p0:List Aa) (RES:List Aa) (hm:Ca p0=some RES):Spec Tryz.prog 92 [.p (Bf p0)] [] (ow 0 RES.length) [] [Ar RES] :=
  Spec.unk (fun h=>Zv p0 RES (by have e:p0 = []:=List.eq_nil_of_length_eq_zero h; subst e; simpa [Ca,Fk] using hm)) (Aap p0 RES hm)
abbrev o81 (ks:List Nat) (b:Bool) (RES:List Aa) (sm:List Nat := []):Orc := .call 92 ks b (ow 0 RES.length) [] [Ar RES] sm

abbrev c79e1 : Nat×Obj:=(1032,bx [pI 0,.p (.sl .nil 0 0 (fun _ => []))])
theorem Agt (p0:List Ag) (p1:Int) (RES:Ah) (hm:Acm p0 p1=some RES):Spec Tryz.prog 35 [.p (Au p0),pI p1] [] (.agg [pI RES.clock,ow 0 RES.items.length]) [] [Ar RES.items]:=by
 unfold Acm at hm
 refine SO Tryz.func35 rfl rfl [(0,.p (Au p0)),(1,pI p1)] [] ?_
 intro cx hnt
 refine Sq (RD hnt (.no :: []) [] [(4,rr 1032)] [] [(c79e1)] tv ?_)
 refine Sq (Sq (RD hnt (nn 3 []) [0] [(7,.p (Au p0)),(8,pI ((p0.length:Nat):Int)),(9,pI 0)] [] [] tv ?_))
 refine Bk ?_
 obtain ⟨hc1,hm⟩:=go1 hm
 refine DW.rangeO (fun (k1:Nat) (s1:Unit)=>Af [(1,pI p1),(4,rr 1032),(7,.p (Au p0)),(8,pI ((p0.length:Nat):Int)),(9,pI ((k1:Nat):Int))] [(c79e1)]) Bq hm Conv.eqK ?_
 intro k1 s1 n1 hk1 hs1 he1
 refine Sq (RD hnt (.no :: []) [] [(10,pB (decide (((k1:Nat):Int)<((p0.length:Nat):Int))))] [] [] tv ?_)
 refine Sq (Bu (decide (((k1:Nat):Int)<((p0.length:Nat):Int))) ?_ ?_)
 ·intro h13
  have hlt1:k1<p0.length:=by have:=of_decide_eq_true h13; omega
  have hm:=hs1 hlt1
  unfold Adx at hm
  refine Sk ?_
  refine Sq (Bk ?_)
  refine Sq (RD hnt (nn 4 []) [10] [(6,rr 1048)] [] [(1048,bx (pm (Cs (p0.getD k1 Bq))))] (an (nn0 k1) (an (ltc hlt1) tv)) ?_)
  refine Sq ?_
  refine Jn (ι:=Bool) (fun (y3:Bool)=>Af [(1,pI p1),(4,rr 1032),(6,rr 1048),(7,.p (Au p0)),(8,pI ((p0.length:Nat):Int)),(9,pI ((k1:Nat):Int)),(21,pB y3)] [(c79e1),(1048,bx (pm (Cs (p0.getD k1 Bq))))]) (fun y3=>(Ux (p0.getD k1 Bq) n1) y3=some RES) ?_ ?_
  ·intro y3 hm
   unfold Ux at hm
   refine Ak hm ?_ ?_
   ·intro h16 hm
    obtain ⟨r17,hr17,hm⟩:=bo hm
    refine Sq (RK hnt (nn 6 (o81 [] true r17::nn 2 [])) [(4,rr 1032)] [(1032,bx [pI (p0.getD k1 Bq).queue.clock,ow 1224 r17.length]),(1224,ob0 (Ar r17))] (an (Gs (p0.getD k1 Bq).queue.items r17 hr17) tv) ?_)
    obtain rfl:=sj hm
    exact DW.ret (Aj [Ar r17] [1224] (.agg [pI (p0.getD k1 Bq).queue.clock,ow 0 r17.length]))
   ·intro h16 hm
    refine Sk ?_
    refine DW.done ?_
    show DW _ _ _ _ _
    refine RD hnt (nn 2 []) [6,21] [(9,pI (w64 (((k1:Nat):Int)+1)))] [1048] [] tv ?_
    exact jD () ⟨hlt1,hm⟩ (Conv.tp [(9,pI (w64 (((k1:Nat):Int)+1)))] [] (by kernel_rfl) (.cons rfl (.of_eq (congrArg pI (Bb hlt1 hc1))) .nil) .nil)
  ·rcases bt ((p0.getD k1 Bq).group==p1) with h14|h14
   ·replace hm:=Bt h14 hm
    obtain ⟨r15,hr15,hm⟩:=bo hm
    refine RD hnt (nn 7 (o80 [] true r15::pT :: [])) [] [(21,pB r15)] [] [] (an3 h14 (an (Hx (p0.getD k1 Bq).queue r15 hr15) (an h14 tv))) ?_
    exact jD r15 hm Conv.eqK
   ·replace hm:=Bs h14 hm
    refine RD hnt (nn 5 (sk 3 (pF :: []))) [] [(21,pB false)] [] [] (an4 h14 tv) ?_
    exact jD false hm Conv.eqK
 ·intro h13
  have hge1:¬ k1<p0.length:=by have:=of_decide_eq_false h13; omega
  have hm:=he1 hge1
  unfold AdG at hm
  refine DW.exit ?_
  refine Ai ?_
  refine Ap ?_
  refine Ae ?_
  show DW _ _ _ _ _
  refine Sq (RD hnt (nn 2 []) [1,7,8,9,10] [] [] [] tv ?_)
  refine DW.cv [] [] [] [(1032,bx [pI 0,ow 100000 0]),(100000,ob0 (Ar []))] (Conv.ads [(.o 1032 1,100000,4,elems Bc An [])]) ?_
  obtain rfl:=sj hm
  exact DW.ret (Aj [Ar []] [100000] (.agg [pI 0,ow 0 0]))
abbrev o79 (ks:List Nat) (b:Bool) (RES:Ah) (sm:List Nat := []):Orc := .call 35 ks b (.agg [pI RES.clock,ow 0 RES.items.length]) [] [Ar RES.items] sm

theorem AcP (p0:Cd) (p1:Int) (RES:List Int) (hm:Ua p0 p1=some RES):Spec Tryz.prog 93 [.p (.agg (Bl p0)),pI p1] [] (ow 0 RES.length) [] [roI RES]:=by
 unfold Ua at hm
 refine SO Tryz.func93 rfl rfl [(0,.p (.agg (Bl p0))),(1,pI p1)] [] ?_
 intro cx hnt
 refine Sq (RK hnt (nn 2 []) [(1,pI p1),(2,rr 1016)] [(1016,bx (pm (Bl p0)))] tv ?_)
 refine Sq (RD hnt (.no :: []) [] [(5,.p (.sl .nil 0 0 (fun _ => [])))] [] [] tv ?_)
 refine Sq (Sq (RD hnt (nn 4 []) [2] [(9,.p (Cr p0.nodes)),(10,pI ((p0.nodes.length:Nat):Int)),(11,pI 0)] [1016] [] tv ?_))
 refine Bk ?_
 obtain ⟨hc1,hm⟩:=go1 hm
 refine DW.rangeO (fun (k1:Nat) (s1:List Int)=>Af [(1,pI p1),(5,ow 1184 s1.length),(9,.p (Cr p0.nodes)),(10,pI ((p0.nodes.length:Nat):Int)),(11,pI ((k1:Nat):Int))] [(1184,ob0 (roI s1))]) Ay hm (Conv.ads [(.s 5,1184,1,elems Bm 0 [])]) ?_
 intro k1 s1 n1 hk1 hs1 he1
 refine Sq (RD hnt (.no :: []) [] [(12,pB (decide (((k1:Nat):Int)<((p0.nodes.length:Nat):Int))))] [] [] tv ?_)
 refine Sq (Bu (decide (((k1:Nat):Int)<((p0.nodes.length:Nat):Int))) ?_ ?_)
 ·intro h8
  have hlt1:k1<p0.nodes.length:=by have:=of_decide_eq_true h8; omega
  have hm:=hs1 hlt1
  unfold Ye at hm
  refine Sk ?_
  refine Sq ?_
  refine Jn (ι:=List Int) (fun (y3:List Int)=>Af [(1,pI p1),(5,ow 1184 y3.length),(9,.p (Cr p0.nodes)),(10,pI ((p0.nodes.length:Nat):Int)),(11,pI ((k1:Nat):Int))] [(1184,ob0 (roI y3))]) (fun y3=>(Nc n1) y3=some RES) ?_ ?_
  ·intro y3 hm
   unfold Nc at hm
   refine RD hnt (nn 2 []) [] [(11,pI (w64 (((k1:Nat):Int)+1)))] [] [] tv ?_
   exact jD y3 ⟨hlt1,hm⟩ (Conv.tp [(11,pI (w64 (((k1:Nat):Int)+1)))] [] (by kernel_rfl) (.cons rfl (.of_eq (congrArg pI (Bb hlt1 hc1))) .nil) .nil)
  ·refine Bk ?_
   refine Sq (RD hnt (nn 4 []) [12] [(7,rr 1056)] [] [(1056,bx (pm (Ax (p0.nodes.getD k1 Ay))))] (an (nn0 k1) (an (ltc hlt1) tv)) ?_)
   refine Sq (RD hnt (nn 4 []) [] [(18,pB ((p0.nodes.getD k1 Ay).parent==p1))] [] [] tv ?_)
   refine Ak hm ?_ ?_
   ·intro h9 hm
    obtain ⟨g10,hm⟩:=go1 hm
    refine RN hnt (nn 6 []) [(1,pI p1),(5,ow 1184 (s1 ++ [(p0.nodes.getD k1 Ay).id]).length),(9,.p (Cr p0.nodes)),(10,pI ((p0.nodes.length:Nat):Int)),(11,pI ((k1:Nat):Int))] [(1184,ob0 (roI (s1 ++ [(p0.nodes.getD k1 Ay).id])))] [(5,ow 1184 (s1.length+1))] [(1184,.row 1 (s1.length+1) (Ck s1.length (elI s1) (cut 1 [vi (p0.nodes.getD k1 Ay).id])))] (an (by omega:(s1.length+1)*8≤140737488355328) tv) (by kernel_rfl) (.cons rfl (MLe.ownLen (enc:=Bm) (d:=0) (f:=(Ck s1.length (elI s1) (cut 1 [vi (p0.nodes.getD k1 Ay).id]))) (RowIs.cat RowIs.elems (RowIs.lit (enc:=Bm) (d:=0) (n:=1) (f:=(cut 1 [vi (p0.nodes.getD k1 Ay).id])) [(p0.nodes.getD k1 Ay).id] rfl (fun|0,_=>rfl|n+1,h=>absurd h (by omega))))) .nil) (.cons rfl (BLe.typed (RowIs.cat RowIs.elems (RowIs.lit (enc:=Bm) (d:=0) (n:=1) (f:=(cut 1 [vi (p0.nodes.getD k1 Ay).id])) [(p0.nodes.getD k1 Ay).id] rfl (fun|0,_=>rfl|n+1,h=>absurd h (by omega))))) .nil) ?_
    exact bD (s1 ++ [(p0.nodes.getD k1 Ay).id]) hm .refl
   ·intro h9 hm
    refine Sk ?_
    exact bD s1 hm Conv.t0
 ·intro h8
  have hge1:¬ k1<p0.nodes.length:=by have:=of_decide_eq_false h8; omega
  have hm:=he1 hge1
  unfold Yf at hm
  refine DW.exit ?_
  refine Ai ?_
  refine Ap ?_
  refine Ae ?_
  show DW _ _ _ _ _
  refine Sq (RK hnt (nn 2 []) [(4,ow 1184 s1.length)] [(1184,ob0 (roI s1))] tv ?_)
  obtain rfl:=sj hm
  exact DW.ret (Aj [roI s1] [1184] (ow 0 s1.length))
abbrev o83 (ks:List Nat) (b:Bool) (RES:List Int) (sm:List Nat := []):Orc := .call 93 ks b (ow 0 RES.length) [] [roI RES] sm

abbrev Yl (r2:List Int) (k1:Nat):=(w64 (0-(r2.getD k1 0)))
theorem AcV (p0:Ac) (p1:Int) (RES:List Int) (hm:Acu p0 p1=some RES):Spec Tryz.prog 36 [.p (.agg (Ab p0)),pI p1] [] (ow 0 RES.length) [] [roI RES]:=by
 unfold Acu at hm
 refine SO Tryz.func36 rfl rfl [(0,.p (.agg (Ab p0))),(1,pI p1)] [] ?_
 intro cx hnt
 refine Sq (RK hnt (nn 2 []) [(1,pI p1),(2,rr 1016)] [(1016,bx (pm (Ab p0)))] tv ?_)
 obtain ⟨r1,hr1,hm⟩:=bo hm
 refine Sq (RD hnt (nn 3 (o83 [] true r1 :: .no :: [])) [] [(5,ow 1088 r1.length)] [] [(1088,ob0 (roI r1))] (an (AcP p0.tree p1 r1 hr1) tv) ?_)
 obtain ⟨r2,hr2,hm⟩:=bo hm
 refine Sq (Sq (RD hnt (nn 2 (o27 [] true r2::nn 2 [])) [1,2] [(14,.p (slI r2)),(15,pI ((r2.length:Nat):Int)),(16,pI 0)] [1016] [] (an (Vy p0 p1 r2 hr2) tv) ?_))
 refine Bk ?_
 obtain ⟨hc1,hm⟩:=go1 hm
 refine DW.rangeO (fun (k1:Nat) (s1:List Int)=>Af [(5,ow 1088 s1.length),(14,.p (slI r2)),(15,pI ((r2.length:Nat):Int)),(16,pI ((k1:Nat):Int))] [(1088,ob0 (roI s1))]) 0 hm Conv.eqK ?_
 intro k1 s1 n1 hk1 hs1 he1
 refine Sq (RD hnt (.no :: []) [] [(17,pB (decide (((k1:Nat):Int)<((r2.length:Nat):Int))))] [] [] tv ?_)
 refine Sq (Bu (decide (((k1:Nat):Int)<((r2.length:Nat):Int))) ?_ ?_)
 ·intro h13
  have hlt1:k1<r2.length:=by have:=of_decide_eq_true h13; omega
  have hm:=hs1 hlt1
  unfold Afv at hm
  refine Sk ?_
  refine Sq (Bk ?_)
  refine Sq (RD hnt (nn 3 []) [17] [(7,pI (r2.getD k1 0))] [] [] (an (nn0 k1) (an (ltc hlt1) tv)) ?_)
  obtain ⟨g14,hm⟩:=go1 hm
  refine RN hnt (nn 6 []) [(5,ow 1088 (s1 ++ [(Yl r2 k1)]).length),(14,.p (slI r2)),(15,pI ((r2.length:Nat):Int)),(16,pI ((k1:Nat):Int))] [(1088,ob0 (roI (s1 ++ [(Yl r2 k1)])))] [(5,ow 1088 (s1.length+1))] [(1088,.row 1 (s1.length+1) (Ck s1.length (elI s1) (cut 1 [vi (Yl r2 k1)])))] (an (by omega:(s1.length+1)*8≤140737488355328) tv) (by kernel_rfl) (.cons rfl (MLe.ownLen (enc:=Bm) (d:=0) (f:=(Ck s1.length (elI s1) (cut 1 [vi (Yl r2 k1)]))) (RowIs.cat RowIs.elems (RowIs.lit (enc:=Bm) (d:=0) (n:=1) (f:=(cut 1 [vi (Yl r2 k1)])) [(Yl r2 k1)] rfl (fun|0,_=>rfl|n+1,h=>absurd h (by omega))))) .nil) (.cons rfl (BLe.typed (RowIs.cat RowIs.elems (RowIs.lit (enc:=Bm) (d:=0) (n:=1) (f:=(cut 1 [vi (Yl r2 k1)])) [(Yl r2 k1)] rfl (fun|0,_=>rfl|n+1,h=>absurd h (by omega))))) .nil) ?_
  refine DW.done ?_
  show DW _ _ _ _ _
  refine RD hnt (nn 2 []) [] [(16,pI (w64 (((k1:Nat):Int)+1)))] [] [] tv ?_
  exact jD (s1 ++ [(Yl r2 k1)]) ⟨hlt1,hm⟩ (Conv.tp [(16,pI (w64 (((k1:Nat):Int)+1)))] [] (by kernel_rfl) (.cons rfl (.of_eq (congrArg pI (Bb hlt1 hc1))) .nil) .nil)
 ·intro h13
  have hge1:¬ k1<r2.length:=by have:=of_decide_eq_false h13; omega
  have hm:=he1 hge1
  unfold Agb at hm
  refine DW.exit ?_
  refine Ai ?_
  refine Ap ?_
  refine Ae ?_
  show DW _ _ _ _ _
  obtain ⟨r15,hr15,hm⟩:=bo hm
  obtain ⟨g16,hm⟩:=go1 hm
  refine Sq (RN hnt (.no::o31 [1088] true r15 :: []) [(5,ow 1088 r15.length)] [(1088,ob0 (roI r15))] [(5,ow 1088 s1.length)] [] (an (Vg s1 r15 hr15) (an (⟨rfl,g16⟩:Body.same (roI s1) (roI r15)) tv)) (by kernel_rfl) (.cons rfl (MLe.of_eq (congrArg (MV.own 1088 0 0) g16)) .nil) .nil ?_)
  refine Sq (RD hnt (nn 2 []) [5] [(4,ow 1088 r15.length)] [] [] tv ?_)
  obtain rfl:=sj hm
  exact DW.ret (Aj [roI r15] [1088] (ow 0 r15.length))
abbrev o82 (ks:List Nat) (b:Bool) (RES:List Int) (sm:List Nat := []):Orc := .call 36 ks b (ow 0 RES.length) [] [roI RES] sm

theorem Afd (p0:Aa) (p1:Int) (RES:Bool) (hm:Zm p0 p1=some RES):Spec Tryz.prog 236 [.p (.agg (Bc p0)),rr 0] [.box [pI p1]] (pB RES) [.box [pI p1]] []:=by
 unfold Zm at hm
 refine SO Tryz.func236 rfl rfl [(0,.p (.agg (Bc p0))),(1,rr 0)] [(0,bx [pI p1])] ?_
 intro cx hnt
 refine Sq (RD hnt (nn 2 []) [0] [(2,rr 1016)] [] [(1016,bx (pm (Bc p0)))] tv ?_)
 refine Sq (RK hnt (nn 5 []) [(3,pB (p0.id==p1))] [(0,bx [pI p1])] tv ?_)
 obtain rfl:=sj hm
 exact DW.ret (Aj [.box [pI p1]] [] (pB (p0.id==p1)))

theorem Pv (p0:List Aa) (p1c0:Int) (RES:Int) (hm:Fy p0 p1c0=some RES):Spec Tryz.prog 176 [.p (Bf p0),.fn 236 [rr 0]] [.box [pI p1c0]] (pI RES) [.box [pI p1c0]] []:=by
 unfold Fy at hm
 refine SO Tryz.func176 rfl rfl [(0,.p (Bf p0)),(1,.fn 236 [rr 0])] [(0,bx [pI p1c0])] ?_
 intro cx hnt
 refine Sq (RD hnt (.no :: []) [] [] [] [] tv ?_)
 refine Sq (Sq (RD hnt (nn 3 []) [] [(7,pI ((p0.length:Nat):Int)),(8,pI 0)] [] [] tv ?_))
 refine Bk ?_
 obtain ⟨hc1,hm⟩:=go1 hm
 refine DW.rangeO (fun (k1:Nat) (s1:Unit)=>Af [(0,.p (Bf p0)),(1,.fn 236 [rr 0]),(7,pI ((p0.length:Nat):Int)),(8,pI ((k1:Nat):Int))] [(0,bx [pI p1c0])]) An hm Conv.eqK ?_
 intro k1 s1 n1 hk1 hs1 he1
 refine Sq (RD hnt (.no :: []) [] [(9,pB (decide (((k1:Nat):Int)<((p0.length:Nat):Int))))] [] [] tv ?_)
 refine Sq (Bu (decide (((k1:Nat):Int)<((p0.length:Nat):Int))) ?_ ?_)
 ·intro h9
  have hlt1:k1<p0.length:=by have:=of_decide_eq_true h9; omega
  have hm:=hs1 hlt1
  unfold Ix at hm
  refine Sk ?_
  refine Sq (Bk ?_)
  refine Sq (RD hnt (nn 2 []) [9] [(5,pI ((k1:Nat):Int))] [] [] tv ?_)
  obtain ⟨r10,hr10,hm⟩:=bo hm
  refine Sq (RD hnt (nn 5 (.call 236 [0] true (pB r10) [.box [pI p1c0]] [] [] :: [])) [] [(16,pB r10)] [] [] (an (nn0 k1) (an (ltc hlt1) (an (Afd (p0.getD k1 An) p1c0 r10 hr10) (an tv tv)))) ?_)
  refine Ak hm ?_ ?_
  ·intro h11 hm
   refine Sq (RK hnt (nn 2 []) [(4,pI ((k1:Nat):Int))] [(0,bx [pI p1c0])] tv ?_)
   obtain rfl:=sj hm
   exact DW.ret (Aj [.box [pI p1c0]] [] (pI ((k1:Nat):Int)))
  ·intro h11 hm
   refine Sk ?_
   refine DW.done ?_
   show DW _ _ _ _ _
   refine RD hnt (nn 2 []) [5,16] [(8,pI (w64 (((k1:Nat):Int)+1)))] [] [] tv ?_
   exact jD () ⟨hlt1,hm⟩ (Conv.tp [(8,pI (w64 (((k1:Nat):Int)+1)))] [] (by kernel_rfl) (.cons rfl (.of_eq (congrArg pI (Bb hlt1 hc1))) .nil) .nil)
 ·intro h9
  have hge1:¬ k1<p0.length:=by have:=of_decide_eq_false h9; omega
  have hm:=he1 hge1
  unfold Jg at hm
  refine DW.exit ?_
  refine Ai ?_
  refine Ap ?_
  refine Ae ?_
  show DW _ _ _ _ _
  refine Sq (RK hnt (.no :: []) [(4,pI (-1))] [(0,bx [pI p1c0])] tv ?_)
  obtain rfl:=sj hm
  exact DW.ret (Aj [.box [pI p1c0]] [] (pI (-1)))

theorem Rt (p0:Ah) (p1:Int) (RES:Int) (hm:Mm p0 p1=some RES):Spec Tryz.prog 164 [.p (.agg (Al p0)),pI p1] [] (pI RES) [] []:=by
 unfold Mm at hm
 refine SO Tryz.func164 rfl rfl [(0,.p (.agg (Al p0))),(1,pI p1)] [] ?_
 intro cx hnt
 refine Sq (RK hnt (nn 3 []) [(2,rr 1016),(3,rr 1024)] [(1016,bx (pm (Al p0))),(1024,bx [pI p1])] tv ?_)
 obtain ⟨r1,hr1,hm⟩:=bo hm
 refine Sq (RK hnt (nn 3 (.call 176 [1024] true (pI r1) [.box [pI p1]] [] [] :: .no :: [])) [(4,pI r1)] [] (an (Pv p0.items p1 r1 hr1) (an tv tv)) ?_)
 obtain rfl:=sj hm
 exact DW.ret (Aj [] [] (pI r1))
abbrev o86 (ks:List Nat) (b:Bool) (RES:Int) (sm:List Nat := []):Orc := .call 164 ks b (pI RES) [] [] sm

theorem Td (p0:Ah) (p1:Int) (RES:Aa×Bool) (hm:Qo p0 p1=some RES):Spec Tryz.prog 88 [.p (.agg (Al p0)),pI p1] [] (.p (.tup [.agg (Bc RES.1),vb RES.2])) [] []:=by
 unfold Qo at hm
 refine SO Tryz.func88 rfl rfl [(0,.p (.agg (Al p0))),(1,pI p1)] [] ?_
 intro cx hnt
 refine Sq (RK hnt (nn 3 []) [(1,pI p1),(2,rr 1016),(4,rr 1032)] [(1016,bx (pm (Al p0))),(1032,bx [pI 0,pI 0,pI 0,pB false])] tv ?_)
 obtain ⟨r1,hr1,hm⟩:=bo hm
 refine Sq (RD hnt (nn 2 (o86 [] true r1 :: .no :: [])) [1] [(6,pI r1)] [] [] (an (Rt p0 p1 r1 hr1) tv) ?_)
 refine Sq (Sq (RD hnt (nn 2 []) [] [(11,pB (decide (r1<0)))] [] [] tv ?_))
 refine Ak hm ?_ ?_
 ·intro h2 hm
  refine Sq (RD hnt (nn 3 []) [2,6,11] [(5,pB false)] [1016] [] tv ?_)
  obtain rfl:=sj hm
  exact DW.ret (Aj [] [] (.p (.tup [.agg [vi 0,vi 0,vi 0,vb false],vb false])))
 ·intro h2 hm
  refine Sk ?_
  obtain ⟨g3,hm⟩:=go1 hm
  refine Sq (RK hnt (nn 7 []) [(4,rr 1032),(5,pB true)] [(1032,bx (pm (Bc (p0.items.getD (Int.toNat r1) An))))] (an g3.1 (an g3.2 tv)) ?_)
  obtain rfl:=sj hm
  exact DW.ret (Aj [] [] (.p (.tup [.agg (Bc (p0.items.getD (Int.toNat r1) An)),vb true])))
abbrev o85 (ks:List Nat) (b:Bool) (RES:Aa×Bool) (sm:List Nat := []):Orc := .call 88 ks b (.p (.tup [.agg (Bc RES.1),vb RES.2])) [] [] sm

theorem Wy (p0:Int) (p1:Ac) (p2:List Int) (RES:Int) (hm:Nz p0 p1 p2=some RES):Spec Tryz.prog 82 [pI p0,rr 0,rr 1] [.box (pm (Ab p1)),.box [.p (slI p2)]] (pI RES) [.box (pm (Ab p1)),.box [.p (slI p2)]] []:=by
 unfold Nz at hm
 refine SO Tryz.func82 rfl rfl [(0,pI p0),(1,rr 0),(2,rr 1)] [(0,bx (pm (Ab p1))),(1,bx [.p (slI p2)])] ?_
 intro cx hnt
 refine Sq (RD hnt (.no :: []) [] [] [] [] tv ?_)
 refine Sq (Sq (RD hnt (nn 5 []) [1] [(9,.p (Cr p1.tree.nodes)),(10,pI ((p1.tree.nodes.length:Nat):Int)),(11,pI 0)] [] [] tv ?_))
 refine Bk ?_
 obtain ⟨hc1,hm⟩:=go1 hm
 refine DW.rangeO (fun (k1:Nat) (s1:Unit)=>Af [(0,pI p0),(2,rr 1),(9,.p (Cr p1.tree.nodes)),(10,pI ((p1.tree.nodes.length:Nat):Int)),(11,pI ((k1:Nat):Int))] [(0,bx (pm (Ab p1))),(1,bx [.p (slI p2)])]) Ay hm Conv.eqK ?_
 intro k1 s1 n1 hk1 hs1 he1
 refine Sq (RD hnt (.no :: []) [] [(12,pB (decide (((k1:Nat):Int)<((p1.tree.nodes.length:Nat):Int))))] [] [] tv ?_)
 refine Sq (Bu (decide (((k1:Nat):Int)<((p1.tree.nodes.length:Nat):Int))) ?_ ?_)
 ·intro h9
  have hlt1:k1<p1.tree.nodes.length:=by have:=of_decide_eq_true h9; omega
  have hm:=hs1 hlt1
  unfold Zs at hm
  refine Sk ?_
  refine Sq (Bk ?_)
  refine Sq (RD hnt (nn 6 []) [12] [(5,pI ((k1:Nat):Int)),(6,rr 1048)] [] [(1048,bx (pm (Ax (p1.tree.nodes.getD k1 Ay))))] (an (nn0 k1) (an (ltc hlt1) tv)) ?_)
  refine Sq (RD hnt (nn 4 []) [6] [(19,pB ((p1.tree.nodes.getD k1 Ay).id==p0))] [1048] [] tv ?_)
  refine Ak hm ?_ ?_
  ·intro h10 hm
   obtain ⟨g11,hm⟩:=go1 hm
   refine Sq (RD hnt (nn 5 []) [0,2,5,9,10,11,19] [(4,pI (p2.getD k1 0))] [] [] (an (nn0 k1) (an (ltc g11) tv)) ?_)
   obtain rfl:=sj hm
   exact DW.ret (Aj [.box (pm (Ab p1)),.box [.p (slI p2)]] [] (pI (p2.getD k1 0)))
  ·intro h10 hm
   refine Sk ?_
   refine DW.done ?_
   show DW _ _ _ _ _
   refine RD hnt (nn 2 []) [5,19] [(11,pI (w64 (((k1:Nat):Int)+1)))] [] [] tv ?_
   exact jD () ⟨hlt1,hm⟩ (Conv.tp [(11,pI (w64 (((k1:Nat):Int)+1)))] [] (by kernel_rfl) (.cons rfl (.of_eq (congrArg pI (Bb hlt1 hc1))) .nil) .nil)
 ·intro h9
  have hge1:¬ k1<p1.tree.nodes.length:=by have:=of_decide_eq_false h9; omega
  have hm:=he1 hge1
  unfold Aab at hm
  refine DW.exit ?_
  refine Ai ?_
  refine Ap ?_
  refine Ae ?_
  show DW _ _ _ _ _
  refine Sq (RD hnt (.no :: []) [0,2,9,10,11,12] [(4,pI 100)] [] [] tv ?_)
  obtain rfl:=sj hm
  exact DW.ret (Aj [.box (pm (Ab p1)),.box [.p (slI p2)]] [] (pI 100))

theorem Vh (p0:Int) (p1:Int) (RES:Int) (hm:Qk p0 p1=some RES):Spec Tryz.prog 101 [pI p0,pI p1] [] (pI RES) [] []:=by
 unfold Qk at hm
 refine SO Tryz.func101 rfl rfl [(0,pI p0),(1,pI p1)] [] ?_
 intro cx hnt
 refine Sq (RD hnt (.no :: []) [] [] [] [] tv ?_)
 obtain ⟨r1,hr1,hm⟩:=bo hm
 refine Sq (RD hnt (.no::o37 [] true r1 :: .no :: []) [] [(5,pB r1)] [] [] (an (Fw p0 r1 hr1) tv) ?_)
 obtain ⟨r2,hr2,hm⟩:=bo hm
 refine Sq (RD hnt (.no::o37 [] true r2 :: .no :: []) [] [(6,pB r2)] [] [] (an (Fw p1 r2 hr2) tv) ?_)
 refine Sq (Sq (RD hnt (.no :: []) [5] [(11,pB r1)] [] [] tv ?_))
 refine Ak hm ?_ ?_
 ·intro h3 hm
  refine Sq (Sq (RK hnt (.no :: []) [(12,pB r2)] [] tv ?_))
  refine Ak hm ?_ ?_
  ·intro h4 hm
   refine Sq (RK hnt (.no :: []) [(4,pI 0)] [] tv ?_)
   obtain rfl:=sj hm
   exact DW.ret (Aj [] [] (pI 0))
  ·intro h4 hm
   refine Sk ?_
   refine Sq (RK hnt (.no :: []) [(4,pI (-1))] [] tv ?_)
   obtain rfl:=sj hm
   exact DW.ret (Aj [] [] (pI (-1)))
 ·intro h3 hm
  refine Sk ?_
  refine Sq (Sq (RD hnt (.no :: []) [6,11] [(13,pB r2)] [] [] tv ?_))
  refine Ak hm ?_ ?_
  ·intro h5 hm
   refine Sq (RK hnt (.no :: []) [(4,pI 1)] [] tv ?_)
   obtain rfl:=sj hm
   exact DW.ret (Aj [] [] (pI 1))
  ·intro h5 hm
   refine Sk ?_
   refine Sq (Sq (RD hnt (nn 3 []) [13] [(16,pB (decide (p0<p1)))] [] [] tv ?_))
   refine Ak hm ?_ ?_
   ·intro h6 hm
    refine Sq (RK hnt (.no :: []) [(4,pI (-1))] [] tv ?_)
    obtain rfl:=sj hm
    exact DW.ret (Aj [] [] (pI (-1)))
   ·intro h6 hm
    refine Sk ?_
    refine Sq (Sq (RK hnt (nn 3 []) [(19,pB (decide (p0>p1)))] [] tv ?_))
    refine Ak hm ?_ ?_
    ·intro h7 hm
     refine Sq (RK hnt (.no :: []) [(4,pI 1)] [] tv ?_)
     obtain rfl:=sj hm
     exact DW.ret (Aj [] [] (pI 1))
    ·intro h7 hm
     refine Sk ?_
     refine Sq (RK hnt (.no :: []) [(4,pI 0)] [] tv ?_)
     obtain rfl:=sj hm
     exact DW.ret (Aj [] [] (pI 0))
abbrev o93 (ks:List Nat) (b:Bool) (RES:Int) (sm:List Nat := []):Orc := .call 101 ks b (pI RES) [] [] sm

theorem Yd (p0:Aa) (p1:Int) (RES:Int) (hm:Sr p0 p1=some RES):Spec Tryz.prog 166 [.p (.agg (Bc p0)),pI p1] [] (pI RES) [] []:=by
 unfold Sr at hm
 refine SO Tryz.func166 rfl rfl [(0,.p (.agg (Bc p0))),(1,pI p1)] [] ?_
 intro cx hnt
 refine Sq (RK hnt (nn 2 []) [(1,pI p1),(2,rr 1016)] [(1016,bx (pm (Bc p0)))] tv ?_)
 obtain ⟨r1,hr1,hm⟩:=bo hm
 refine Sq (RK hnt (nn 3 (o93 [] true r1 :: .no :: [])) [(4,pI r1)] [] (an (Vh p0.id p1 r1 hr1) tv) ?_)
 obtain rfl:=sj hm
 exact DW.ret (Aj [] [] (pI r1))
abbrev o92 (ks:List Nat) (b:Bool) (RES:Int) (sm:List Nat := []):Orc := .call 166 ks b (pI RES) [] [] sm

abbrev Aev (s1:Int×Int):=(w64 (kshr .u64 (IntKind.u64.wrap (w64 (s1.2+s1.1))) 1))
theorem Lt (p0:List Aa) (p1:Int) (RES:Int×Bool) (hm:Ea p0 p1=some RES):Spec Tryz.prog 165 [.p (Bf p0),pI p1,.p (.fn 166 [])] [] (.p (.tup [vi RES.1,vb RES.2])) [] []:=by
 unfold Ea at hm
 refine SO Tryz.func165 rfl rfl [(0,.p (Bf p0)),(1,pI p1),(2,.p (.fn 166 []))] [] ?_
 intro cx hnt
 refine Sq (RD hnt (nn 2 []) [] [] [] [] tv ?_)
 refine Sq (RD hnt (nn 3 []) [] [(8,pI ((p0.length:Nat):Int))] [] [] tv ?_)
 refine Sq (RD hnt (nn 3 []) [] [(9,pI 0),(10,pI ((p0.length:Nat):Int))] [] [] tv ?_)
 refine Sq (Bk ?_)
 refine DW.whileO (fun (s1:Int×Int)=>Af [(0,.p (Bf p0)),(1,pI p1),(2,.p (.fn 166 [])),(8,pI ((p0.length:Nat):Int)),(9,pI s1.2),(10,pI s1.1)] []) hm Conv.eqK ?_
 intro s1 n1 hm
 unfold Gk at hm
 refine Sq (Sq (RD hnt (nn 3 []) [] [(17,pB (decide (s1.2<s1.1)))] [] [] tv ?_))
 refine Ak hm ?_ ?_
 ·intro h5 hm
  refine Sk ?_
  refine Bk ?_
  refine Sq (RD hnt (nn 7 []) [17] [(11,pI (Aev s1))] [] [] (an (by decide:(0:Int)≤1) tv) ?_)
  obtain ⟨g6,hm⟩:=go1 hm
  obtain ⟨r7,hr7,hm⟩:=bo hm
  refine Sq (RD hnt (nn 6 (o92 [] true r7 :: .no :: [])) [] [(31,pB (decide (r7<0)))] [] [] (an g6.1 (an g6.2 (an (Yd (p0.getD (Int.toNat (Aev s1)) An) p1 r7 hr7) tv))) ?_)
  refine Ak hm ?_ ?_
  ·intro h8 hm
   refine RD hnt (nn 3 []) [11,31] [(9,pI (w64 ((Aev s1)+1)))] [] [] tv ?_
   refine DW.done ?_
   show DW _ _ _ _ _
   exact jD (s1.1,(w64 ((Aev s1)+1))) hm Conv.eqK
  ·intro h8 hm
   refine RD hnt (nn 2 []) [11,31] [(10,pI (Aev s1))] [] [] tv ?_
   refine DW.done ?_
   show DW _ _ _ _ _
   exact jD ((Aev s1),s1.2) hm Conv.eqK
 ·intro h5 hm
  refine DW.exit ?_
  refine Ai ?_
  refine Ap ?_
  refine Ae ?_
  show DW _ _ _ _ _
  refine Sq ?_
  refine Jn (ι:=Bool) (fun (y1:Bool)=>Af [(6,pI s1.2),(7,pB y1)] []) (fun y1=>(Dc s1) y1=some RES) ?_ ?_
  ·intro y1 hm
   unfold Dc at hm
   obtain rfl:=sj hm
   exact DW.ret (Aj [] [] (.p (.tup [vi s1.2,vb y1])))
  ·rcases bt (decide (s1.2<((p0.length:Nat):Int))) with h9|h9
   ·replace hm:=Bt h9 hm
    obtain ⟨g10,hm⟩:=go1 hm
    obtain ⟨r11,hr11,hm⟩:=bo hm
    refine RK hnt (nn 11 (o92 [] true r11 :: .no::pT::nn 2 [])) [(6,pI s1.2),(7,pB (r11==0))] [] (an4 h9 (an g10.1 (an g10.2 (an3 h9 (an (Yd (p0.getD (Int.toNat s1.2) An) p1 r11 hr11) (an2 h9 tv)))))) ?_
    exact jD (r11==0) hm .refl
   ·replace hm:=Bs h9 hm
    refine RK hnt (nn 5 (sk 8 (pF::nn 2 []))) [(6,pI s1.2),(7,pB false)] [] (an3 h9 (an6 h9 tv)) ?_
    exact jD false hm .refl
abbrev o91 (ks:List Nat) (b:Bool) (RES:Int×Bool) (sm:List Nat := []):Orc := .call 165 ks b (.p (.tup [vi RES.1,vb RES.2])) [] [] sm

theorem Abp (p0:List Aa) (p1:Int) (p2:List Aa) (RES:List Aa) (hm:Qq p0 p1 p2=some RES):Spec Tryz.prog 168 [ow 0 p0.length,pI p1,.p (Bf p2)] [Ar p0] (.p (Bf RES)) [.dead] []:=by
 unfold Qq at hm
 refine SO Tryz.func168 rfl rfl [(0,ow 0 p0.length),(1,pI p1),(2,.p (Bf p2))] [(0,ob0 (Ar p0))] ?_
 intro cx hnt
 refine Sq (RD hnt (.no :: []) [] [] [] [] tv ?_)
 obtain ⟨g1,hm⟩:=go1 hm
 refine Sq (RD hnt (nn 3 []) [] [] [] [] (an (by omega:(0:Int)≤p1) (an (by omega:p1≤((p0.length:Nat):Int)) (an (by omega:((p0.length:Nat):Int)≤((p0.length:Nat):Int)) tv))) ?_)
 refine Sq (RD hnt (nn 3 []) [] [(7,pI ((p2.length:Nat):Int))] [] [] tv ?_)
 refine Sq (Sq (RD hnt (nn 2 []) [] [(16,pB (((p2.length:Nat):Int)==0))] [] [] tv ?_))
 refine Ak hm ?_ ?_
 ·intro h2 hm
  exact noK hm
 ·intro h2 hm
  refine Sk ?_
  refine Sq (RD hnt (nn 3 []) [16] [(8,pI ((p0.length:Nat):Int))] [] [] tv ?_)
  refine Sq (Sq (RD hnt (nn 3 []) [] [(22,pB (p1==((p0.length:Nat):Int)))] [] [] tv ?_))
  refine Ak hm ?_ ?_
  ·intro h3 hm
   obtain ⟨g4,hm⟩:=go1 hm
   refine Sq (RN hnt (nn 2 (.mv :: .no :: [])) [(6,ow 1200 (p0++p2).length)] [(1200,ob0 (Ar (p0++p2)))] [(6,ow 1200 (p0.length+p2.length))] [(1200,.row 4 (p0.length+p2.length) (Ck p0.length (Hk p0) (Hk p2)))] (an (by omega:(p0.length+p2.length)*32≤140737488355328) (an (rfl:p0.length+p2.length=p0.length+p2.length) tv)) (by kernel_rfl) (.cons rfl (MLe.ownLen (enc:=Bc) (d:=An) (f:=(Ck p0.length (Hk p0) (Hk p2))) (RowIs.cat RowIs.elems RowIs.elems)) .nil) (.cons rfl (BLe.typed (RowIs.cat RowIs.elems RowIs.elems)) .nil) ?_)
   obtain rfl:=sj hm
   exact DW.ret (Aj [.dead] [] (.p (Bf (p0++p2))))
  ·intro h3 hm
   exact noK hm

theorem Aez (p0:Ah) (RES:Int×Bool) (hm:Pg p0=some RES):Spec Tryz.prog 237 [.p (.agg (Al p0))] [] (.p (.tup [vi RES.1,vb RES.2])) [] []:=by
 unfold Pg at hm
 refine SO Tryz.func237 rfl rfl [(0,.p (.agg (Al p0)))] [] ?_
 intro cx hnt
 refine Sq (RK hnt (nn 3 []) [(1,rr 1008)] [(1008,bx (pm (Al p0)))] tv ?_)
 refine Sq (RD hnt (nn 2 []) [] [(4,pI 0),(5,pB false)] [] [] tv ?_)
 refine Sq (Sq (RD hnt (nn 4 []) [1] [(9,.p (Bf p0.items)),(10,pI ((p0.items.length:Nat):Int)),(11,pI 0)] [1008] [] tv ?_))
 refine Bk ?_
 obtain ⟨hc1,hm⟩:=go1 hm
 refine DW.rangeO (fun (k1:Nat) (s1:Int×Bool)=>Af [(4,pI s1.1),(5,pB s1.2),(9,.p (Bf p0.items)),(10,pI ((p0.items.length:Nat):Int)),(11,pI ((k1:Nat):Int))] []) An hm Conv.eqK ?_
 intro k1 s1 n1 hk1 hs1 he1
 refine Sq (RD hnt (.no :: []) [] [(12,pB (decide (((k1:Nat):Int)<((p0.items.length:Nat):Int))))] [] [] tv ?_)
 refine Sq (Bu (decide (((k1:Nat):Int)<((p0.items.length:Nat):Int))) ?_ ?_)
 ·intro h10
  have hlt1:k1<p0.items.length:=by have:=of_decide_eq_true h10; omega
  have hm:=hs1 hlt1
  unfold Uv at hm
  refine Sk ?_
  refine Sq ?_
  refine Jn (ι:=Int×Bool) (fun (y3:Int×Bool)=>Af [(4,pI y3.1),(5,pB y3.2),(9,.p (Bf p0.items)),(10,pI ((p0.items.length:Nat):Int)),(11,pI ((k1:Nat):Int))] []) (fun y3=>(Lz n1) y3=some RES) ?_ ?_
  ·intro y3 hm
   unfold Lz at hm
   refine RD hnt (nn 2 []) [] [(11,pI (w64 (((k1:Nat):Int)+1)))] [] [] tv ?_
   exact jD (y3.1,y3.2) ⟨hlt1,hm⟩ (Conv.tp [(11,pI (w64 (((k1:Nat):Int)+1)))] [] (by kernel_rfl) (.cons rfl (.of_eq (congrArg pI (Bb hlt1 hc1))) .nil) .nil)
  ·refine Bk ?_
   refine Sq (RD hnt (nn 4 []) [12] [(7,rr 1056)] [] [(1056,bx (pm (Bc (p0.items.getD k1 An))))] (an (nn0 k1) (an (ltc hlt1) tv)) ?_)
   refine Sq (DW.regJ (sl2 := [(4,pI s1.1),(5,pB s1.2),(7,rr 1056),(9,.p (Bf p0.items)),(10,pI ((p0.items.length:Nat):Int)),(11,pI ((k1:Nat):Int)),(26,pB ((p0.items.getD k1 An).active&&((!s1.2)||(decide ((p0.items.getD k1 An).v<s1.1)))))]) (ob2 := [(1056,bx (pm (Bc (p0.items.getD k1 An))))]) ?_ ?_)
   ·rcases bt (p0.items.getD k1 An).active with h11|h11
    ·rcases bt (!s1.2) with h12|h12
     ·exact RT hnt (nn 6 (sk 4 (pT::pT :: []))) [(26,pB true)] (an3 h11 (an4 h12 (an h11 (an h12 (an h11 tv))))) (by kernel_rfl) (.cons rfl (.of_eq (by rw [h11,h12]; try rfl)) .nil)
     ·exact RT hnt (nn 10 (pF::pT :: [])) [(26,pB (decide ((p0.items.getD k1 An).v<s1.1)))] (an3 h11 (an4 h12 (an h11 (an h12 (an h11 tv))))) (by kernel_rfl) (.cons rfl (.of_eq (by rw [h11,h12]; try rfl)) .nil)
    ·exact RT hnt (nn 3 (sk 8 (pF :: []))) [(26,pB false)] (an5 h11 tv) (by kernel_rfl) (.cons rfl (.of_eq (by rw [h11]; try rfl)) .nil)
   ·refine Ak hm ?_ ?_
    ·intro h13 hm
     refine RD hnt (nn 4 []) [7,26] [(4,pI (p0.items.getD k1 An).v),(5,pB true)] [1056] [] tv ?_
     exact bD ((p0.items.getD k1 An).v,true) hm Conv.eqK
    ·intro h13 hm
     refine Sk ?_
     exact bD (s1.1,s1.2) hm Conv.t0
 ·intro h10
  have hge1:¬ k1<p0.items.length:=by have:=of_decide_eq_false h10; omega
  have hm:=he1 hge1
  unfold AaX at hm
  refine DW.exit ?_
  refine Ai ?_
  refine Ap ?_
  refine Ae ?_
  show DW _ _ _ _ _
  refine Sq (RK hnt (nn 4 []) [(2,pI s1.1),(3,pB s1.2)] [] tv ?_)
  obtain rfl:=sj hm
  exact DW.ret (Aj [] [] (.p (.tup [vi s1.1,vb s1.2])))
abbrev o96 (ks:List Nat) (b:Bool) (RES:Int×Bool) (sm:List Nat := []):Orc := .call 237 ks b (.p (.tup [vi RES.1,vb RES.2])) [] [] sm

theorem Re (p0:Ah) (RES:Ah×Int) (hm:Iq p0=some RES):Spec Tryz.prog 167 [.p (.agg (Al p0))] [] (.p (.tup [.agg (Al RES.1),vi RES.2])) [] []:=by
 unfold Iq at hm
 refine SO Tryz.func167 rfl rfl [(0,.p (.agg (Al p0)))] [] ?_
 intro cx hnt
 refine Sq (RK hnt (nn 3 []) [(1,rr 1008),(2,rr 1016)] [(1008,bx (pm (Al p0))),(1016,bx [pI 0,.p (.sl .nil 0 0 (fun _ => []))])] tv ?_)
 obtain ⟨r1,hr1,hm⟩:=bo hm
 refine Sq (Sq (RD hnt (.no::o96 [] true r1::nn 5 []) [] [(4,pI r1.1),(5,pB r1.2)] [] [] (an (Aez p0 r1 hr1) tv) ?_))
 refine Sq (RD hnt (.no :: []) [5] [(11,pB r1.2)] [] [] tv ?_)
 refine Jn (ι:=Ah) (fun (y1:Ah)=>Af [(1,rr 1008),(2,rr 1016)] [(1008,bx (pm (Al y1))),(1016,bx [pI 0,.p (.sl .nil 0 0 (fun _ => []))])]) (fun y1=>Lb y1=some RES) ?_ ?_
 ·intro y1 hm
  unfold Lb at hm
  refine Sq (RK hnt (nn 3 []) [(2,rr 1016),(3,pI 0)] [(1016,bx (pm (Al y1)))] tv ?_)
  obtain rfl:=sj hm
  exact DW.ret (Aj [] [] (.p (.tup [.agg (Al y1),vi 0])))
 ·refine Ak hm ?_ ?_
  ·intro h2 hm
   refine RD hnt (nn 6 []) [4,11] [] [] [(1008,bx [pI (Fd p0.clock r1.1),.p (Bf p0.items)])] tv ?_
   exact jD ({ clock:=(Fd p0.clock r1.1),items:=p0.items } : Ah) hm Conv.eqK
  ·intro h2 hm
   refine Sk ?_
   exact jD p0 hm Conv.t0
abbrev o95 (ks:List Nat) (b:Bool) (RES:Ah×Int) (sm:List Nat := []):Orc := .call 167 ks b (.p (.tup [.agg (Al RES.1),vi RES.2])) [] [] sm

abbrev c90e1 : Nat×Body:=(1048,.box [pI 0,.p (.sl .nil 0 0 (fun _ => []))])
abbrev c90e2 : Nat×Obj:=(1048,bx [pI 0,.p (Bf [])])
theorem AfR (p0:Ah) (p1:Int) (p2:Int) (RES:Ah×Int) (hm:Abj p0 p1 p2=some RES):Spec Tryz.prog 89 [.p (.agg (Al p0)),pI p1,pI p2] [] (.p (.tup [.agg (Al RES.1),vi RES.2])) [] []:=by
 unfold Abj at hm
 refine SO Tryz.func89 rfl rfl [(0,.p (.agg (Al p0))),(1,pI p1),(2,pI p2)] [] ?_
 intro cx hnt
 refine Sq (RD hnt (nn 3 []) [0] [(3,rr 1024),(6,rr 1048)] [] [(1024,bx (pm (Al p0))),(1048,bx [pI 0,.p (.sl .nil 0 0 (fun _ => []))])] tv ?_)
 refine Sq (Bk ?_)
 obtain ⟨r1,hr1,hm⟩:=bo hm
 refine Sq (RD hnt (.no::o80 [] true r1::nn 2 []) [] [(10,pB (!r1))] [] [] (an (Hx p0 r1 hr1) tv) ?_)
 refine Ak hm ?_ ?_
 ·intro h2 hm
  refine Sq (RD hnt (nn 3 []) [1,2,3,10] [(7,pI 1)] [1024] [] tv ?_)
  refine DW.conv (τ:=Af [(6,rr 1048),(7,pI 1)] [(c90e2)]) (Conv.tp [] [(c90e1)] (by kernel_rfl) .nil (.cons rfl (.box (.cons .rfl (.cons MLe.nilL .nil))) .nil)) ?_
  obtain rfl:=sj hm
  exact DW.ret (Aj [] [] (.p (.tup [.agg [vi 0,Bf []],vi 1])))
 ·intro h2 hm
  obtain ⟨r3,hr3,hm⟩:=bo hm
  refine Sq ?_
  refine Jn (ι:=Bool) (fun (y1:Bool)=>Af [(1,pI p1),(2,pI p2),(3,rr 1024),(6,rr 1048),(15,pB y1)] [(1024,bx (pm (Al p0))),(1048,bx [pI 0,.p (.sl .nil 0 0 (fun _ => []))])]) (fun y1=>(Ss p0 p1 p2) y1=some RES) ?_ ?_
  ·intro y1 hm
   unfold Ss at hm
   refine Ak hm ?_ ?_
   ·intro h5 hm
    refine Sq (RD hnt (nn 3 []) [1,2,3,15] [(7,pI 3)] [1024] [] tv ?_)
    refine DW.conv (τ:=Af [(6,rr 1048),(7,pI 3)] [(c90e2)]) (Conv.tp [] [(c90e1)] (by kernel_rfl) .nil (.cons rfl (.box (.cons .rfl (.cons MLe.nilL .nil))) .nil)) ?_
    obtain rfl:=sj hm
    exact DW.ret (Aj [] [] (.p (.tup [.agg [vi 0,Bf []],vi 3])))
   ·intro h5 hm
    obtain ⟨r6,hr6,hm⟩:=bo hm
    refine Sq (RD hnt (nn 2 (o86 [] true r6::nn 2 [])) [15] [(24,pB (decide (r6≥0)))] [] [] (an (Rt p0 p1 r6 hr6) tv) ?_)
    refine Ak hm ?_ ?_
    ·intro h7 hm
     refine Sq (RD hnt (nn 3 []) [1,2,3,24] [(7,pI 5)] [1024] [] tv ?_)
     refine DW.conv (τ:=Af [(6,rr 1048),(7,pI 5)] [(c90e2)]) (Conv.tp [] [(c90e1)] (by kernel_rfl) .nil (.cons rfl (.box (.cons .rfl (.cons MLe.nilL .nil))) .nil)) ?_
     obtain rfl:=sj hm
     exact DW.ret (Aj [] [] (.p (.tup [.agg [vi 0,Bf []],vi 5])))
    ·intro h7 hm
     refine Sq (RD hnt (nn 5 []) [24] [(30,pB (decide (((p0.items.length:Nat):Int)≥192)))] [] [] tv ?_)
     refine Ak hm ?_ ?_
     ·intro h8 hm
      refine Sq (RD hnt (nn 3 []) [1,2,3,30] [(7,pI 7)] [1024] [] tv ?_)
      refine DW.conv (τ:=Af [(6,rr 1048),(7,pI 7)] [(c90e2)]) (Conv.tp [] [(c90e1)] (by kernel_rfl) .nil (.cons rfl (.box (.cons .rfl (.cons MLe.nilL .nil))) .nil)) ?_
      obtain rfl:=sj hm
      exact DW.ret (Aj [] [] (.p (.tup [.agg [vi 0,Bf []],vi 7])))
     ·intro h8 hm
      refine Sk ?_
      refine DW.done ?_
      show DW _ _ _ _ _
      obtain ⟨r9,hr9,hm⟩:=bo hm
      refine Sq (RD hnt (nn 3 (o91 [] true r9::nn 5 [])) [30] [(8,pI r9.1)] [] [] (an (Lt p0.items p1 r9 hr9) tv) ?_)
      obtain ⟨r10,hr10,hm⟩:=bo hm
      obtain ⟨r11,hr11,hm⟩:=bo hm
      obtain ⟨r12,hr12,hm⟩:=bo hm
      refine Sq (RK hnt (nn 4 (o81 [] true r10::nn 7 (.call 168 [1376] false (.p (Bf r11)) [.dead] [] [] :: .no::o95 [] true r12::nn 4 []))) [(6,rr 1048),(7,pI r12.2)] [(1048,bx (pm (Al r12.1)))] (an (Gs p0.items r10 hr10) (an (Spec.args (xs := [ow 0 r10.length,pI r9.1,.p (.sl .unk 4 1 (cut 4 [vi p1,vi p2,vi p0.clock,vb false]))]) (Abp r10 r9.1 [({ id:=p1,weight:=p2,v:=p0.clock,active:=false } : Aa)] r11 hr11) (.cons .rfl (.cons .rfl (.cons (.p (PLe.typed (RowIs.lit (enc:=Bc) (d:=An) (n:=1) (f:=(cut 4 [vi p1,vi p2,vi p0.clock,vb false])) [({ id:=p1,weight:=p2,v:=p0.clock,active:=false } : Aa)] rfl (fun|0,_=>rfl|n+1,h=>absurd h (by omega))))) .nil)))) (an tv (an (Re ({ clock:=p0.clock,items:=r11 } : Ah) r12 hr12) tv)))) ?_)
      obtain rfl:=sj hm
      exact DW.ret (Aj [] [] (.p (.tup [.agg (Al r12.1),vi r12.2])))
  ·rcases bt (r3==0) with h4|h4
   ·replace hm:=Bt h4 hm
    refine RD hnt (.no::o73 [] true r3::nn 2 (sk 2 (pT :: .no :: []))) [10] [(15,pB true)] [] [] (an (Ip p2 r3 hr3) (an3 h4 tv)) ?_
    exact jD true hm Conv.eqK
   ·replace hm:=Bs h4 hm
    refine RD hnt (.no::o73 [] true r3::nn 4 (pF :: .no :: [])) [10] [(15,pB (p1==0))] [] [] (an (Ip p2 r3 hr3) (an3 h4 tv)) ?_
    exact jD (p1==0) hm Conv.eqK
abbrev o90 (ks:List Nat) (b:Bool) (RES:Ah×Int) (sm:List Nat := []):Orc := .call 89 ks b (.p (.tup [.agg (Al RES.1),vi RES.2])) [] [] sm

theorem AcJ (p0:Ah) (p1:Int) (RES:Ah) (hm:AaC p0 p1=some RES):Spec Tryz.prog 86 [.p (.agg (Al p0)),pI p1] [] (.p (.agg (Al RES))) [] []:=by
 unfold AaC at hm
 refine SO Tryz.func86 rfl rfl [(0,.p (.agg (Al p0))),(1,pI p1)] [] ?_
 intro cx hnt
 refine Sq (RK hnt (nn 2 []) [(2,rr 1016),(4,rr 1032)] [(1016,bx (pm (Al p0))),(1032,bx [pI 0,.p (.sl .nil 0 0 (fun _ => []))])] tv ?_)
 refine Sq (RK hnt (nn 2 []) [(4,rr 1032)] [(1032,bx (pm (Al p0)))] tv ?_)
 obtain rfl:=sj hm
 exact DW.ret (Aj [] [] (.p (.agg (Al p0))))
abbrev o97 (ks:List Nat) (b:Bool) (RES:Ah) (sm:List Nat := []):Orc := .call 86 ks b (.p (.agg (Al RES))) [] [] sm

abbrev AbX : Nat×Obj:=(1048,bx [pI 0,.p (.sl .nil 0 0 (fun _ => []))])
abbrev AbY (p2c0:Ac):Nat×Obj:=(0,bx (pm (Ab p2c0)))
theorem Vv (p0:Ah) (p1:List Int) (p2c0:Ac) (p2c1:List Int) (RES:Ah) (hm:Lf p0 p1 p2c0 p2c1=some RES):Spec Tryz.prog 34 [.p (.agg (Al p0)),.p (slI p1),.fn 82 [rr 0,rr 1]] [.box (pm (Ab p2c0)),.box [.p (slI p2c1)]] (.p (.agg (Al RES))) [.box (pm (Ab p2c0)),.box [.p (slI p2c1)]] []:=by
 unfold Lf at hm
 refine SO Tryz.func34 rfl rfl [(0,.p (.agg (Al p0))),(1,.p (slI p1)),(2,.fn 82 [rr 0,rr 1])] [(AbY p2c0),(1,bx [.p (slI p2c1)])] ?_
 intro cx hnt
 refine Sq (RD hnt (nn 2 []) [0] [(3,rr 1024),(6,rr 1048)] [] [(1024,bx (pm (Al p0))),(AbX)] tv ?_)
 refine Sq (Sq (RD hnt (nn 4 []) [] [(18,.p (Bf p0.items)),(19,pI ((p0.items.length:Nat):Int)),(20,pI 0)] [] [] tv ?_))
 refine Bk ?_
 obtain ⟨hc1,hm⟩:=go1 hm
 refine DW.rangeO (fun (k1:Nat) (s1:Unit)=>Af [(1,.p (slI p1)),(2,.fn 82 [rr 0,rr 1]),(3,rr 1024),(6,rr 1048),(18,.p (Bf p0.items)),(19,pI ((p0.items.length:Nat):Int)),(20,pI ((k1:Nat):Int))] [(AbY p2c0),(1,bx [.p (slI p2c1)]),(1024,bx (pm (Al p0))),(AbX)]) An hm Conv.eqK ?_
 intro k1 s1 n1 hk1 hs1 he1
 refine Sq (RD hnt (.no :: []) [] [(21,pB (decide (((k1:Nat):Int)<((p0.items.length:Nat):Int))))] [] [] tv ?_)
 refine Sq (Bu (decide (((k1:Nat):Int)<((p0.items.length:Nat):Int))) ?_ ?_)
 ·intro h117
  have hlt1:k1<p0.items.length:=by have:=of_decide_eq_true h117; omega
  have hm:=hs1 hlt1
  unfold Pi at hm
  refine Sk ?_
  refine Sq ?_
  refine Jn (ι:=Unit) (fun (y21:Unit)=>Af [(1,.p (slI p1)),(2,.fn 82 [rr 0,rr 1]),(3,rr 1024),(6,rr 1048),(18,.p (Bf p0.items)),(19,pI ((p0.items.length:Nat):Int)),(20,pI ((k1:Nat):Int))] [(AbY p2c0),(1,bx [.p (slI p2c1)]),(1024,bx (pm (Al p0))),(AbX)]) (fun y21=>(Iy n1) y21=some RES) ?_ ?_
  ·intro y21 hm
   unfold Iy at hm
   refine RD hnt (nn 2 []) [] [(20,pI (w64 (((k1:Nat):Int)+1)))] [] [] tv ?_
   exact jD () ⟨hlt1,hm⟩ (Conv.tp [(20,pI (w64 (((k1:Nat):Int)+1)))] [] (by kernel_rfl) (.cons rfl (.of_eq (congrArg pI (Bb hlt1 hc1))) .nil) .nil)
  ·refine Bk ?_
   refine Sq (RD hnt (nn 4 []) [21] [(8,rr 1064)] [] [(1064,bx (pm (Bc (p0.items.getD k1 An))))] (an (nn0 k1) (an (ltc hlt1) tv)) ?_)
   obtain ⟨r118,hr118,hm⟩:=bo hm
   refine Sq (RD hnt (nn 3 (o77 [] true r118 :: .no :: [])) [] [(28,pB (!r118))] [] [] (an (Cu p1 (p0.items.getD k1 An).id r118 hr118) tv) ?_)
   refine Ak hm ?_ ?_
   ·intro h119 hm
    exact noK hm
   ·intro h119 hm
    refine Sk ?_
    exact bD () hm Conv.t0
 ·intro h117
  have hge1:¬ k1<p0.items.length:=by have:=of_decide_eq_false h117; omega
  have hm:=he1 hge1
  unfold Pm at hm
  refine DW.exit ?_
  refine Ai ?_
  refine Ap ?_
  refine Ae ?_
  show DW _ _ _ _ _
  refine Sq (Sq (RD hnt (nn 3 []) [18,19,20,21] [(37,.p (slI p1)),(38,pI ((p1.length:Nat):Int)),(39,pI 0)] [] [] tv ?_))
  refine Bk ?_
  obtain ⟨hc10,hm⟩:=go1 hm
  refine DW.rangeO (fun (k10:Nat) (s10:Ah)=>Af [(1,.p (slI p1)),(2,.fn 82 [rr 0,rr 1]),(3,rr 1024),(6,rr 1048),(37,.p (slI p1)),(38,pI ((p1.length:Nat):Int)),(39,pI ((k10:Nat):Int))] [(AbY p2c0),(1,bx [.p (slI p2c1)]),(1024,bx (pm (Al s10))),(AbX)]) 0 hm Conv.eqK ?_
  intro k10 s10 n10 hk10 hs10 he10
  refine Sq (RD hnt (.no :: []) [] [(40,pB (decide (((k10:Nat):Int)<((p1.length:Nat):Int))))] [] [] tv ?_)
  refine Sq (Bu (decide (((k10:Nat):Int)<((p1.length:Nat):Int))) ?_ ?_)
  ·intro h151
   have hlt10:k10<p1.length:=by have:=of_decide_eq_true h151; omega
   have hm:=hs10 hlt10
   unfold Og at hm
   refine Sk ?_
   refine Sq ?_
   refine Jn (ι:=Ah) (fun (y27:Ah)=>Af [(1,.p (slI p1)),(2,.fn 82 [rr 0,rr 1]),(3,rr 1024),(6,rr 1048),(37,.p (slI p1)),(38,pI ((p1.length:Nat):Int)),(39,pI ((k10:Nat):Int))] [(AbY p2c0),(1,bx [.p (slI p2c1)]),(1024,bx (pm (Al y27))),(AbX)]) (fun y27=>(Gd n10) y27=some RES) ?_ ?_
   ·intro y27 hm
    unfold Gd at hm
    refine RD hnt (nn 2 []) [] [(39,pI (w64 (((k10:Nat):Int)+1)))] [] [] tv ?_
    exact jD y27 ⟨hlt10,hm⟩ (Conv.tp [(39,pI (w64 (((k10:Nat):Int)+1)))] [] (by kernel_rfl) (.cons rfl (.of_eq (congrArg pI (Bb hlt10 hc10))) .nil) .nil)
   ·refine Bk ?_
    refine Sq (RD hnt (nn 3 []) [40] [(10,pI (p1.getD k10 0))] [] [] (an (nn0 k10) (an (ltc hlt10) tv)) ?_)
    obtain ⟨r152,hr152,hm⟩:=bo hm
    refine Sq (RD hnt (nn 2 (o85 [] true r152::nn 6 [])) [] [(12,pB r152.2)] [] [] (an (Td s10 (p1.getD k10 0) r152 hr152) tv) ?_)
    refine Sq (RD hnt (nn 2 []) [12] [(50,pB (!r152.2))] [] [] tv ?_)
    refine Ak hm ?_ ?_
    ·intro h153 hm
     obtain ⟨r154,hr154,hm⟩:=bo hm
     obtain ⟨r155,hr155,hm⟩:=bo hm
     obtain ⟨r156,hr156,hm⟩:=bo hm
     refine RD hnt (nn 4 (.call 82 [0,1] true (pI r154) [.box (pm (Ab p2c0)),.box [.p (slI p2c1)]] [] [0,1]::o90 [] true r155::nn 2 (o97 [] true r156 :: .no :: []))) [10,50] [] [] [(1024,bx (pm (Al r156)))] (an (Wy (p1.getD k10 0) p2c0 p2c1 r154 hr154) (an2 tv (an (Eq.refl (some (bx (pm (Ab p2c0)):Obj))) (an (Eq.refl (some (bx [.p (slI p2c1)]:Obj))) (an (AfR s10 (p1.getD k10 0) r154 r155 hr155) (an (AcJ r155.1 r155.2 r156 hr156) tv)))))) ?_
     exact bD r156 hm Conv.eqK
    ·intro h153 hm
     refine Sk ?_
     exact bD s10 hm Conv.t0
  ·intro h151
   have hge10:¬ k10<p1.length:=by have:=of_decide_eq_false h151; omega
   have hm:=he10 hge10
   unfold Oj at hm
   refine DW.exit ?_
   refine Ai ?_
   refine Ap ?_
   refine Ae ?_
   show DW _ _ _ _ _
   refine Sq (Sq (RD hnt (nn 3 []) [1,37,38,39,40] [(61,.p (slI p1)),(62,pI ((p1.length:Nat):Int)),(63,pI 0)] [] [] tv ?_))
   refine Bk ?_
   obtain ⟨hc13,hm⟩:=go1 hm
   refine DW.rangeO (fun (k13:Nat) (s13:Unit)=>Af [(2,.fn 82 [rr 0,rr 1]),(3,rr 1024),(6,rr 1048),(61,.p (slI p1)),(62,pI ((p1.length:Nat):Int)),(63,pI ((k13:Nat):Int))] [(AbY p2c0),(1,bx [.p (slI p2c1)]),(1024,bx (pm (Al s10))),(AbX)]) 0 hm Conv.eqK ?_
   intro k13 s13 n13 hk13 hs13 he13
   refine Sq (RD hnt (.no :: []) [] [(64,pB (decide (((k13:Nat):Int)<((p1.length:Nat):Int))))] [] [] tv ?_)
   refine Sq (Bu (decide (((k13:Nat):Int)<((p1.length:Nat):Int))) ?_ ?_)
   ·intro h169
    have hlt13:k13<p1.length:=by have:=of_decide_eq_true h169; omega
    have hm:=hs13 hlt13
    unfold Ol at hm
    refine Sk ?_
    refine Sq ?_
    refine Jn (ι:=Unit) (fun (y30:Unit)=>Af [(2,.fn 82 [rr 0,rr 1]),(3,rr 1024),(6,rr 1048),(61,.p (slI p1)),(62,pI ((p1.length:Nat):Int)),(63,pI ((k13:Nat):Int))] [(AbY p2c0),(1,bx [.p (slI p2c1)]),(1024,bx (pm (Al s10))),(AbX)]) (fun y30=>(Jf n13) y30=some RES) ?_ ?_
    ·intro y30 hm
     unfold Jf at hm
     refine RD hnt (nn 2 []) [] [(63,pI (w64 (((k13:Nat):Int)+1)))] [] [] tv ?_
     exact jD () ⟨hlt13,hm⟩ (Conv.tp [(63,pI (w64 (((k13:Nat):Int)+1)))] [] (by kernel_rfl) (.cons rfl (.of_eq (congrArg pI (Bb hlt13 hc13))) .nil) .nil)
    ·refine Bk ?_
     refine Sq (RD hnt (nn 3 []) [64] [(14,pI (p1.getD k13 0))] [] [] (an (nn0 k13) (an (ltc hlt13) tv)) ?_)
     obtain ⟨r170,hr170,hm⟩:=bo hm
     refine Sq (RD hnt (nn 2 (o85 [] true r170::nn 6 [])) [] [(15,rr 1120)] [] [(1120,bx (pm (Bc r170.1)))] (an (Td s10 (p1.getD k13 0) r170 hr170) tv) ?_)
     obtain ⟨r171,hr171,hm⟩:=bo hm
     refine Sq (RD hnt (nn 4 (.call 82 [0,1] true (pI r171) [.box (pm (Ab p2c0)),.box [.p (slI p2c1)]] [] [0,1] :: .no :: [])) [15] [(78,pB (r170.1.weight != r171))] [1120] [] (an (Wy (p1.getD k13 0) p2c0 p2c1 r171 hr171) (an2 tv (an (Eq.refl (some (bx (pm (Ab p2c0)):Obj))) (an (Eq.refl (some (bx [.p (slI p2c1)]:Obj))) tv)))) ?_)
     refine Ak hm ?_ ?_
     ·intro h172 hm
      obtain ⟨r173,hr173,hm⟩:=bo hm
      exact noK hm
     ·intro h172 hm
      refine Sk ?_
      exact bD () hm Conv.t0
   ·intro h169
    have hge13:¬ k13<p1.length:=by have:=of_decide_eq_false h169; omega
    have hm:=he13 hge13
    unfold Of at hm
    refine DW.exit ?_
    refine Ai ?_
    refine Ap ?_
    refine Ae ?_
    show DW _ _ _ _ _
    refine Sq (RD hnt (nn 2 []) [2,3,61,62,63,64] [] [1024] [(1048,bx (pm (Al s10)))] tv ?_)
    obtain rfl:=sj hm
    exact DW.ret (Aj [.box (pm (Ab p2c0)),.box [.p (slI p2c1)]] [] (.p (.agg (Al s10))))

theorem Yi (p0:Int) (p1:List Int) (p2:IMap Bool) (RES:Bool) (hm:Sz p0 p1 p2=some RES):Spec Tryz.prog 84 [pI p0,rr 0,rr 1] [.box [.p (slI p1)],.box [.p (.mp (vb false) p2.has (fun n=>vb (p2.get n)))]] (pB RES) [.box [.p (slI p1)],.box [.p (.mp (vb false) p2.has (fun n=>vb (p2.get n)))]] []:=by
 unfold Sz at hm
 refine SO Tryz.func84 rfl rfl [(0,pI p0),(1,rr 0),(2,rr 1)] [(0,bx [.p (slI p1)]),(1,bx [.p (.mp (vb false) p2.has (fun n=>vb (p2.get n)))])] ?_
 intro cx hnt
 refine Sq (RD hnt (.no :: []) [] [] [] [] tv ?_)
 refine Sq ?_
 refine Jn (ι:=Bool) (fun (y1:Bool)=>Af [(4,pB y1)] [(0,bx [.p (slI p1)]),(1,bx [.p (.mp (vb false) p2.has (fun n=>vb (p2.get n)))])]) (fun y1=>Hp y1=some RES) ?_ ?_
 ·intro y1 hm
  unfold Hp at hm
  obtain rfl:=sj hm
  exact DW.ret (Aj [.box [.p (slI p1)],.box [.p (.mp (vb false) p2.has (fun n=>vb (p2.get n)))]] [] (pB y1))
 ·rcases bt (decide (p0<0)) with h1|h1
  ·replace hm:=Bt h1 hm
   obtain ⟨r2,hr2,hm⟩:=bo hm
   rcases bt r2 with h3|h3
   ·replace hm:=Bt h3 hm
    refine RD hnt (nn 6 (o77 [] true r2::pT :: .no::sk 7 (pT :: .no :: []))) [0,1,2] [(4,pB true)] [] [] (an4 h1 (an (Cu p1 (w64 (0-p0)) r2 hr2) (an h1 (an5 h3 tv)))) ?_
    exact jD true hm Conv.eqK
   ·replace hm:=Bs h3 hm
    rcases bt (decide (p0>0)) with h4|h4
    ·replace hm:=Bt h4 hm
     refine RD hnt (nn 6 (o77 [] true r2::pT::nn 7 (pT::pF :: .no :: []))) [0,1,2] [(4,pB (p2.get p0))] [] [] (an4 h1 (an (Cu p1 (w64 (0-p0)) r2 hr2) (an h1 (an3 h3 (an3 h4 (an (PLe.rfl:PLe (vb false) (vb false)) (an h3 (an h4 (an h3 tv))))))))) ?_
     exact jD (p2.get p0) hm Conv.eqK
    ·replace hm:=Bs h4 hm
     refine RD hnt (nn 6 (o77 [] true r2::pT::nn 4 (sk 3 (pF::pF :: .no :: [])))) [0,1,2] [(4,pB false)] [] [] (an4 h1 (an (Cu p1 (w64 (0-p0)) r2 hr2) (an h1 (an3 h3 (an3 h4 (an h3 (an h4 (an h3 tv)))))))) ?_
     exact jD false hm Conv.eqK
  ·replace hm:=Bs h1 hm
   rcases bt (decide (p0>0)) with h5|h5
   ·replace hm:=Bt h5 hm
    refine RD hnt (nn 3 (sk 4 (pF::nn 7 (pT::pF :: .no :: [])))) [0,1,2] [(4,pB (p2.get p0))] [] [] (an5 h1 (an3 ff (an3 h5 (an (PLe.rfl:PLe (vb false) (vb false)) (an ff (an h5 (an ff tv))))))) ?_
    exact jD (p2.get p0) hm Conv.eqK
   ·replace hm:=Bs h5 hm
    refine RD hnt (nn 3 (sk 4 (pF::nn 4 (sk 3 (pF::pF :: .no :: []))))) [0,1,2] [(4,pB false)] [] [] (an5 h1 (an3 ff (an3 h5 (an ff (an h5 (an ff tv)))))) ?_
    exact jD false hm Conv.eqK

theorem Mz (p0:Aa) (p1c0:List Int) (p1c1:IMap Bool) (RES:Bool) (hm:Gv p0 p1c0 p1c1=some RES):Spec Tryz.prog 98 [.p (.agg (Bc p0)),rr 0] [.box [.fn 84 [rr 1,rr 2]],.box [.p (slI p1c0)],.box [.p (.mp (vb false) p1c1.has (fun n=>vb (p1c1.get n)))]] (pB RES) [.box [.fn 84 [rr 1,rr 2]],.box [.p (slI p1c0)],.box [.p (.mp (vb false) p1c1.has (fun n=>vb (p1c1.get n)))]] []:=by
 unfold Gv at hm
 refine SO Tryz.func98 rfl rfl [(0,.p (.agg (Bc p0))),(1,rr 0)] [(0,bx [.fn 84 [rr 1,rr 2]]),(1,bx [.p (slI p1c0)]),(2,bx [.p (.mp (vb false) p1c1.has (fun n=>vb (p1c1.get n)))])] ?_
 intro cx hnt
 refine Sq (RD hnt (nn 2 []) [0] [(2,rr 1016)] [] [(1016,bx (pm (Bc p0)))] tv ?_)
 refine Sq ?_
 refine Jn (ι:=Bool) (fun (y1:Bool)=>Af [(3,pB y1)] [(0,bx [.fn 84 [rr 1,rr 2]]),(1,bx [.p (slI p1c0)]),(2,bx [.p (.mp (vb false) p1c1.has (fun n=>vb (p1c1.get n)))])]) (fun y1=>Ga y1=some RES) ?_ ?_
 ·intro y1 hm
  unfold Ga at hm
  obtain rfl:=sj hm
  exact DW.ret (Aj [.box [.fn 84 [rr 1,rr 2]],.box [.p (slI p1c0)],.box [.p (.mp (vb false) p1c1.has (fun n=>vb (p1c1.get n)))]] [] (pB y1))
 ·rcases bt p0.active with h1|h1
  ·replace hm:=Bt h1 hm
   refine RD hnt (nn 3 (sk 5 (pT :: .no :: []))) [1,2] [(3,pB true)] [1016] [] (an6 h1 tv) ?_
   exact jD true hm Conv.eqK
  ·replace hm:=Bs h1 hm
   obtain ⟨r2,hr2,hm⟩:=bo hm
   refine RD hnt (nn 6 (.call 84 [1,2] true (pB r2) [.box [.p (slI p1c0)],.box [.p (.mp (vb false) p1c1.has (fun n=>vb (p1c1.get n)))]] [] [] :: .no::pF :: .no :: [])) [1,2] [(3,pB (!r2))] [1016] [] (an4 h1 (an (Yi p0.id p1c0 p1c1 r2 hr2) (an2 tv (an2 h1 tv)))) ?_
   exact jD (!r2) hm Conv.eqK

theorem Jw (p0:List Aa) (p1c0c0:List Int) (p1c0c1:IMap Bool) (RES:Int) (hm:Dj p0 p1c0c0 p1c0c1=some RES):Spec Tryz.prog 176 [ow 0 p0.length,.fn 98 [rr 1]] [Ar p0,.box [.fn 84 [rr 2,rr 3]],.box [.p (slI p1c0c0)],.box [.p (.mp (vb false) p1c0c1.has (fun n=>vb (p1c0c1.get n)))]] (pI RES) [Ar p0,.box [.fn 84 [rr 2,rr 3]],.box [.p (slI p1c0c0)],.box [.p (.mp (vb false) p1c0c1.has (fun n=>vb (p1c0c1.get n)))]] []:=by
 unfold Dj at hm
 refine SO Tryz.func176 rfl rfl [(0,ow 0 p0.length),(1,.fn 98 [rr 1])] [(0,ob0 (Ar p0)),(1,bx [.fn 84 [rr 2,rr 3]]),(2,bx [.p (slI p1c0c0)]),(3,bx [.p (.mp (vb false) p1c0c1.has (fun n=>vb (p1c0c1.get n)))])] ?_
 intro cx hnt
 refine Sq (RD hnt (.no :: []) [] [] [] [] tv ?_)
 refine Sq (Sq (RD hnt (nn 3 []) [] [(7,pI ((p0.length:Nat):Int)),(8,pI 0)] [] [] tv ?_))
 refine Bk ?_
 obtain ⟨hc1,hm⟩:=go1 hm
 refine DW.rangeO (fun (k1:Nat) (s1:Unit)=>Af [(0,ow 0 p0.length),(1,.fn 98 [rr 1]),(7,pI ((p0.length:Nat):Int)),(8,pI ((k1:Nat):Int))] [(0,ob0 (Ar p0)),(1,bx [.fn 84 [rr 2,rr 3]]),(2,bx [.p (slI p1c0c0)]),(3,bx [.p (.mp (vb false) p1c0c1.has (fun n=>vb (p1c0c1.get n)))])]) An hm Conv.eqK ?_
 intro k1 s1 n1 hk1 hs1 he1
 refine Sq (RD hnt (.no :: []) [] [(9,pB (decide (((k1:Nat):Int)<((p0.length:Nat):Int))))] [] [] tv ?_)
 refine Sq (Bu (decide (((k1:Nat):Int)<((p0.length:Nat):Int))) ?_ ?_)
 ·intro h11
  have hlt1:k1<p0.length:=by have:=of_decide_eq_true h11; omega
  have hm:=hs1 hlt1
  unfold Ek at hm
  refine Sk ?_
  refine Sq (Bk ?_)
  refine Sq (RD hnt (nn 2 []) [9] [(5,pI ((k1:Nat):Int))] [] [] tv ?_)
  obtain ⟨r12,hr12,hm⟩:=bo hm
  refine Sq (RD hnt (nn 5 (.call 98 [1,2,3] true (pB r12) [.box [.fn 84 [rr 1,rr 2]],.box [.p (slI p1c0c0)],.box [.p (.mp (vb false) p1c0c1.has (fun n=>vb (p1c0c1.get n)))]] [] [] :: [])) [] [(16,pB r12)] [] [] (an (nn0 k1) (an (ltc hlt1) (an (by omega:k1<p0.length) (an (Mz (p0.getD k1 An) p1c0c0 p1c0c1 r12 hr12) (an3 tv tv))))) ?_)
  refine Ak hm ?_ ?_
  ·intro h13 hm
   refine Sq (RD hnt (nn 2 []) [0,1,5,7,8,16] [(4,pI ((k1:Nat):Int))] [] [] tv ?_)
   obtain rfl:=sj hm
   exact DW.ret (Aj [Ar p0,.box [.fn 84 [rr 2,rr 3]],.box [.p (slI p1c0c0)],.box [.p (.mp (vb false) p1c0c1.has (fun n=>vb (p1c0c1.get n)))]] [] (pI ((k1:Nat):Int)))
  ·intro h13 hm
   refine Sk ?_
   refine DW.done ?_
   show DW _ _ _ _ _
   refine RD hnt (nn 2 []) [5,16] [(8,pI (w64 (((k1:Nat):Int)+1)))] [] [] tv ?_
   exact jD () ⟨hlt1,hm⟩ (Conv.tp [(8,pI (w64 (((k1:Nat):Int)+1)))] [] (by kernel_rfl) (.cons rfl (.of_eq (congrArg pI (Bb hlt1 hc1))) .nil) .nil)
 ·intro h11
  have hge1:¬ k1<p0.length:=by have:=of_decide_eq_false h11; omega
  have hm:=he1 hge1
  unfold Es at hm
  refine DW.exit ?_
  refine Ai ?_
  refine Ap ?_
  refine Ae ?_
  show DW _ _ _ _ _
  refine Sq (RD hnt (.no :: []) [0,1,7,8,9] [(4,pI (-1))] [] [] tv ?_)
  obtain rfl:=sj hm
  exact DW.ret (Aj [Ar p0,.box [.fn 84 [rr 2,rr 3]],.box [.p (slI p1c0c0)],.box [.p (.mp (vb false) p1c0c1.has (fun n=>vb (p1c0c1.get n)))]] [] (pI (-1)))

abbrev Rd (s1:(List Aa)×Int×Int):=(s1.1.getD (Int.toNat s1.2.2) An)
abbrev c100e2 := ({ id:=0,weight:=0,v:=0,active:=false } : Aa)
abbrev Adv (p1c0c1:IMap Bool):Nat×Obj:=(3,bx [.p (.mp (vb false) p1c0c1.has (fun n=>vb (p1c0c1.get n)))])
abbrev c100e4 (s1:(List Aa)×Int×Int):=(Uz s1.1 (Int.toNat s1.2.1) (Fh s1.1.length (Int.toNat s1.2.1)) (c100e2))
abbrev Adj : Nat×Obj:=(1,bx [.fn 84 [rr 2,rr 3]])
abbrev c100e6 (s1:(List Aa)×Int×Int):=(Az (Hk s1.1) (Int.toNat s1.2.1) [vi (Rd s1).id,vi (Rd s1).weight,vi (Rd s1).v,vb (Rd s1).active])
theorem Jh (p0:List Aa) (p1c0c0:List Int) (p1c0c1:IMap Bool) (RES:Nat×(List Aa)×(List Int)×(IMap Bool)) (hm:Dg p0 p1c0c0 p1c0c1=some RES):Spec Tryz.prog 97 [ow 0 p0.length,.fn 98 [rr 1]] [Ar p0,.box [.fn 84 [rr 2,rr 3]],.box [.p (slI p1c0c0)],.box [.p (.mp (vb false) p1c0c1.has (fun n=>vb (p1c0c1.get n)))]] (ow 0 RES.1) [Ar RES.2.1,.box [.fn 84 [rr 2,rr 3]],.box [.p (slI RES.2.2.1)],.box [.p (.mp (vb false) RES.2.2.2.has (fun n=>vb (RES.2.2.2.get n)))]] []:=by
 unfold Dg at hm
 refine SO Tryz.func97 rfl rfl [(0,ow 0 p0.length),(1,.fn 98 [rr 1])] [(0,ob0 (Ar p0)),(Adj),(2,bx [.p (slI p1c0c0)]),(Adv p1c0c1)] ?_
 intro cx hnt
 refine Sq (RD hnt (.no :: []) [] [] [] [] tv ?_)
 obtain ⟨r1,hr1,hm⟩:=bo hm
 refine Sq (RD hnt (nn 2 (.call 176 [0,1,2,3] true (pI r1) [Ar p0,.box [.fn 84 [rr 2,rr 3]],.box [.p (slI p1c0c0)],.box [.p (.mp (vb false) p1c0c1.has (fun n=>vb (p1c0c1.get n)))]] [] [] :: .no :: [])) [] [(5,pI r1)] [] [] (an (Jw p0 p1c0c0 p1c0c1 r1 hr1) (an (⟨rfl,rfl⟩:Body.same (Ar p0) (Ar p0)) (an3 tv tv))) ?_)
 refine Sq (Sq (RD hnt (nn 2 []) [] [(12,pB (r1==(-1)))] [] [] tv ?_))
 refine Ak hm ?_ ?_
 ·intro h2 hm
  refine Sq (RD hnt (nn 2 []) [0,1,5,12] [(4,ow 0 p0.length)] [] [] tv ?_)
  obtain rfl:=sj hm
  exact DW.ret (Aj [Ar p0,.box [.fn 84 [rr 2,rr 3]],.box [.p (slI p1c0c0)],.box [.p (.mp (vb false) p1c0c1.has (fun n=>vb (p1c0c1.get n)))]] [] (ow 0 p0.length))
 ·intro h2 hm
  refine Sk ?_
  refine Sq (Sq (RD hnt (nn 3 []) [12] [(6,pI (w64 (r1+1)))] [] [] tv ?_))
  refine Bk ?_
  refine DW.whileO (fun (s1:(List Aa)×Int×Int)=>Af [(0,ow 0 s1.1.length),(1,.fn 98 [rr 1]),(5,pI s1.2.1),(6,pI s1.2.2)] [(0,ob0 (Ar s1.1)),(Adj),(2,bx [.p (slI p1c0c0)]),(Adv p1c0c1)]) hm Conv.eqK ?_
  intro s1 n1 hm
  unfold Ef at hm
  refine Sq (Sq (RD hnt (nn 4 []) [] [(19,pB (decide (s1.2.2<((s1.1.length:Nat):Int))))] [] [] tv ?_))
  refine Ak hm ?_ ?_
  ·intro h13 hm
   refine Sk ?_
   refine Sq ?_
   refine Jn (ι:=(List Aa)×Int) (fun (y2:(List Aa)×Int)=>Af [(0,ow 0 y2.1.length),(1,.fn 98 [rr 1]),(5,pI y2.2),(6,pI s1.2.2)] [(0,ob0 (Ar y2.1)),(Adj),(2,bx [.p (slI p1c0c0)]),(Adv p1c0c1)]) (fun y2=>(Ci s1 n1) y2=some RES) ?_ ?_
   ·intro y2 hm
    unfold Ci at hm
    refine RD hnt (nn 3 []) [] [(6,pI (w64 (s1.2.2+1)))] [] [] tv ?_
    exact jD (y2.1,y2.2,(w64 (s1.2.2+1))) hm Conv.eqK
   ·refine Bk ?_
    obtain ⟨g14,g15,hm⟩:=go2 hm
    refine Sq (RD hnt (nn 6 []) [19] [(7,rr 1056)] [] [(1056,bx (pm (Bc (Rd s1))))] (an g14.1 (an g14.2 (an g15 tv))) ?_)
    obtain ⟨r16,hr16,hm⟩:=bo hm
    refine Sq (RD hnt (nn 2 (.call 98 [1,2,3] true (pB r16) [.box [.fn 84 [rr 1,rr 2]],.box [.p (slI p1c0c0)],.box [.p (.mp (vb false) p1c0c1.has (fun n=>vb (p1c0c1.get n)))]] [] [] :: .no :: [])) [] [(29,pB (!r16))] [] [] (an (Mz (Rd s1) p1c0c0 p1c0c1 r16 hr16) (an3 tv tv)) ?_)
    refine Ak hm ?_ ?_
    ·intro h17 hm
     obtain ⟨g18,g19,hm⟩:=go2 hm
     refine Sq (RN hnt (nn 5 []) [(0,ow 0 (s1.1.set (Int.toNat s1.2.1) (Rd s1)).length),(1,.fn 98 [rr 1]),(5,pI s1.2.1),(6,pI s1.2.2)] [(0,ob0 (Ar (s1.1.set (Int.toNat s1.2.1) (Rd s1)))),(Adj),(2,bx [.p (slI p1c0c0)]),(Adv p1c0c1)] [(0,ow 0 s1.1.length)] [(0,.row 4 s1.1.length (c100e6 s1))] (an g18.1 (an g18.2 (an g19 tv))) (by kernel_rfl) (.cons rfl (MLe.ownLen (enc:=Bc) (d:=An) (f:=(c100e6 s1)) (RowIs.upd RowIs.elems (Rd s1) rfl)) .nil) (.cons rfl (BLe.typed (RowIs.upd RowIs.elems (Rd s1) rfl)) .nil) ?_)
     refine RD hnt (nn 3 []) [] [(5,pI (w64 (s1.2.1+1)))] [] [] tv ?_
     exact bD ((s1.1.set (Int.toNat s1.2.1) (Rd s1)),(w64 (s1.2.1+1))) hm Conv.eqK
    ·intro h17 hm
     refine Sk ?_
     exact bD (s1.1,s1.2.1) hm Conv.t0
  ·intro h13 hm
   refine DW.exit ?_
   refine Ai ?_
   refine Ap ?_
   refine Ae ?_
   show DW _ _ _ _ _
   obtain ⟨g20,g21,hm⟩:=go2 hm
   refine Sq (RN hnt (nn 4 []) [(0,ow 0 (c100e4 s1).length),(5,pI s1.2.1)] [(0,ob0 (Ar (c100e4 s1))),(Adj),(2,bx [.p (slI p1c0c0)]),(Adv p1c0c1)] [(0,ow 0 s1.1.length)] [(0,.row 4 s1.1.length (Ma (Hk s1.1) (Int.toNat s1.2.1) (Fh s1.1.length (Int.toNat s1.2.1)) (fun _ => [vi 0,vi 0,vi 0,vb false])))] (an (by omega:(0:Int)≤s1.2.1) (an (by omega:s1.2.1≤((s1.1.length:Nat):Int)) (an (by omega:((s1.1.length:Nat):Int)≤((s1.1.length:Nat):Int)) (an g21 tv)))) (by kernel_rfl) (.cons rfl (MLe.ownLen (enc:=Bc) (d:=An) (f:=(Ma (Hk s1.1) (Int.toNat s1.2.1) (Fh s1.1.length (Int.toNat s1.2.1)) (fun _ => [vi 0,vi 0,vi 0,vb false]))) (RowIs.fill RowIs.elems (c100e2) rfl (by first|exact g21|omega))) .nil) (.cons rfl (BLe.typed (RowIs.fill RowIs.elems (c100e2) rfl (by first|exact g21|omega))) .nil) ?_)
   obtain ⟨g22,hm⟩:=go1 hm
   refine Sq (RD hnt (nn 4 []) [0,5] [(4,ow 0 (Int.toNat s1.2.1))] [] [] (an (by omega:(0:Int)≤0) (an (by omega:(0:Int)≤s1.2.1) (an (by omega:s1.2.1≤(((Uz s1.1 (Int.toNat s1.2.1) (Fh s1.1.length (Int.toNat s1.2.1)) ({ id:=0,weight:=0,v:=0,active:=false } : Aa)).length:Nat):Int)) tv))) ?_)
   obtain rfl:=sj hm
   exact DW.ret (Aj [Ar (c100e4 s1),.box [.fn 84 [rr 2,rr 3]],.box [.p (slI p1c0c0)],.box [.p (.mp (vb false) p1c0c1.has (fun n=>vb (p1c0c1.get n)))]] [] (ow 0 (Int.toNat s1.2.1)))
abbrev o100 (ks:List Nat) (b:Bool) (RES:Nat×(List Aa)×(List Int)×(IMap Bool)) (sm:List Nat := []):Orc := .call 97 ks b (ow 0 RES.1) [Ar RES.2.1,.box [.fn 84 [rr 2,rr 3]],.box [.p (slI RES.2.2.1)],.box [.p (.mp (vb false) RES.2.2.2.has (fun n=>vb (RES.2.2.2.get n)))]] [] sm

theorem AfB (p0:Aa) (p1:Aa) (RES:Int) (hm:AaZ p0 p1=some RES):Spec Tryz.prog 100 [.p (.agg (Bc p0)),.p (.agg (Bc p1))] [] (pI RES) [] []:=by
 unfold AaZ at hm
 refine SO Tryz.func100 rfl rfl [(0,.p (.agg (Bc p0))),(1,.p (.agg (Bc p1)))] [] ?_
 intro cx hnt
 refine Sq (RK hnt (nn 3 []) [(2,rr 1016),(3,rr 1024)] [(1016,bx (pm (Bc p0))),(1024,bx (pm (Bc p1)))] tv ?_)
 obtain ⟨r1,hr1,hm⟩:=bo hm
 refine Sq (RK hnt (nn 4 (o93 [] true r1 :: .no :: [])) [(4,pI r1)] [] (an (Vh p0.v p1.v r1 hr1) tv) ?_)
 obtain rfl:=sj hm
 exact DW.ret (Aj [] [] (pI r1))
abbrev o106 (ks:List Nat) (b:Bool) (RES:Int) (sm:List Nat := []):Orc := .call 100 ks b (pI RES) [] [] sm

abbrev c105e1 (s4:(List Aa)×Int):=(Az (Az (Hk s4.1) (Int.toNat s4.2) [vi (s4.1.getD (Int.toNat (w64 (s4.2-1))) An).id,vi (s4.1.getD (Int.toNat (w64 (s4.2-1))) An).weight,vi (s4.1.getD (Int.toNat (w64 (s4.2-1))) An).v,vb (s4.1.getD (Int.toNat (w64 (s4.2-1))) An).active]) (Int.toNat (w64 (s4.2-1))) (setRange ((Az (Hk s4.1) (Int.toNat s4.2) [vi (s4.1.getD (Int.toNat (w64 (s4.2-1))) An).id,vi (s4.1.getD (Int.toNat (w64 (s4.2-1))) An).weight,vi (s4.1.getD (Int.toNat (w64 (s4.2-1))) An).v,vb (s4.1.getD (Int.toNat (w64 (s4.2-1))) An).active]) (Int.toNat (w64 (s4.2-1)))) 0 [vi (s4.1.getD (Int.toNat s4.2) An).id,vi (s4.1.getD (Int.toNat s4.2) An).weight,vi (s4.1.getD (Int.toNat s4.2) An).v,vb (s4.1.getD (Int.toNat s4.2) An).active]))
abbrev c105e2 (s4:(List Aa)×Int):=((s4.1.set (Int.toNat s4.2) (s4.1.getD (Int.toNat (w64 (s4.2-1))) An)).set (Int.toNat (w64 (s4.2-1))) (s4.1.getD (Int.toNat s4.2) An))
theorem Ex (p0:List Aa) (p1:Int) (p2:Int) (RES:List Aa) (hm:Da p0 p1 p2=some RES):Spec Tryz.prog 252 [ow 0 p0.length,pI p1,pI p2,.p (.fn 100 [])] [Ar p0] (.p (.tup [])) [Ar RES] []:=by
 unfold Da at hm
 refine SO Tryz.func252 rfl rfl [(0,ow 0 p0.length),(1,pI p1),(2,pI p2),(3,.p (.fn 100 []))] [(0,ob0 (Ar p0))] ?_
 intro cx hnt
 refine Sq (RD hnt (nn 3 []) [] [(8,pI (w64 (p1+1)))] [] [] tv ?_)
 refine Bk ?_
 obtain ⟨hc1,hm⟩:=go1 hm
 refine DW.forO (fun (k1:Int) (s1:List Aa)=>Af [(0,ow 0 s1.length),(1,pI p1),(2,pI p2),(3,.p (.fn 100 [])),(8,pI k1)] [(0,ob0 (Ar s1))]) (lo:=(w64 (p1+1))) (hi:=p2) hm Conv.eqK ?_
 intro k1 s1 n1 hk1 hs1 he1
 refine Sq (Sq (RD hnt (nn 3 []) [] [(14,pB (decide (k1<p2)))] [] [] tv ?_))
 refine Bu (decide (k1<p2)) ?_ ?_
 ·intro h75
  have hlt1:k1<p2:=by have:=of_decide_eq_true h75; omega
  have hm:=hs1 hlt1
  unfold Ft at hm
  refine Sk ?_
  refine Sq (Bk ?_)
  refine Sq (RD hnt (nn 2 []) [14] [(9,pI k1)] [] [] tv ?_)
  refine Bk ?_
  refine DW.whileO (fun (s4:(List Aa)×Int)=>Af [(0,ow 0 s4.1.length),(1,pI p1),(2,pI p2),(3,.p (.fn 100 [])),(8,pI k1),(9,pI s4.2)] [(0,ob0 (Ar s4.1))]) hm Conv.eqK ?_
  intro s4 n4 hm
  unfold Fq at hm
  refine Sq (Sq ?_)
  refine Jn (ι:=Bool) (fun (y6:Bool)=>Af [(0,ow 0 s4.1.length),(1,pI p1),(2,pI p2),(3,.p (.fn 100 [])),(8,pI k1),(9,pI s4.2),(34,pB y6)] [(0,ob0 (Ar s4.1))]) (fun y6=>(Cv n1 s4 n4) y6=some RES) ?_ ?_
  ·intro y6 hm
   unfold Cv at hm
   refine Ak hm ?_ ?_
   ·intro h97 hm
    refine Sk ?_
    refine Sq (Bk ?_)
    obtain ⟨g98,g99,g100,g101,hm⟩:=go4 hm
    obtain ⟨g102,g103,g104,g105,hm⟩:=go4 hm
    refine RN hnt (nn 18 []) [(0,ow 0 (c105e2 s4).length),(1,pI p1),(2,pI p2),(3,.p (.fn 100 [])),(8,pI k1),(9,pI s4.2)] [(0,ob0 (Ar (c105e2 s4)))] [(0,ow 0 s4.1.length)] [(0,.row 4 s4.1.length (c105e1 s4))] (an g98.1 (an g98.2 (an g99 (an g100.1 (an g100.2 (an g101 (an g102.1 (an g102.2 (an g103 (an g104.1 (an g104.2 (an g105 tv)))))))))))) (by kernel_rfl) (.cons rfl (MLe.ownLen (enc:=Bc) (d:=An) (f:=(c105e1 s4)) (RowIs.updR (RowIs.upd RowIs.elems (s4.1.getD (Int.toNat (w64 (s4.2-1))) An) rfl) (by omega) (s4.1.getD (Int.toNat s4.2) An) rfl)) .nil) (.cons rfl (BLe.typed (RowIs.updR (RowIs.upd RowIs.elems (s4.1.getD (Int.toNat (w64 (s4.2-1))) An) rfl) (by omega) (s4.1.getD (Int.toNat s4.2) An) rfl)) .nil) ?_
    refine DW.done ?_
    show DW _ _ _ _ _
    refine RD hnt (nn 3 []) [] [(9,pI (w64 (s4.2-1)))] [] [] tv ?_
    exact jD ((c105e2 s4),(w64 (s4.2-1))) hm Conv.eqK
   ·intro h97 hm
    refine DW.exit ?_
    refine Ai ?_
    refine Ap ?_
    refine Ae ?_
    show DW _ _ _ _ _
    refine DW.done ?_
    show DW _ _ _ _ _
    refine RD hnt (nn 3 []) [9,34] [(8,pI (w64 (k1+1)))] [] [] tv ?_
    exact jD s4.1 ⟨hlt1,hm⟩ (Conv.tp [(8,pI (w64 (k1+1)))] [] (by kernel_rfl) (.cons rfl (.of_eq (congrArg pI (Pr (lo:=(w64 (p1+1))) (hi:=p2) (by omega) hk1 hlt1 (by omega)))) .nil) .nil)
  ·rcases bt (decide (s4.2>p1)) with h91|h91
   ·replace hm:=Bt h91 hm
    obtain ⟨g92,g93,g94,g95,hm⟩:=go4 hm
    obtain ⟨r96,hr96,hm⟩:=bo hm
    refine RD hnt (nn 14 (o106 [] true r96 :: .no::pT :: [])) [] [(34,pB (decide (r96<0)))] [] [] (an4 h91 (an g92.1 (an g92.2 (an h91 (an g93 (an4 h91 (an g94.1 (an g94.2 (an h91 (an g95 (an h91 (an (AfB (s4.1.getD (Int.toNat s4.2) An) (s4.1.getD (Int.toNat (w64 (s4.2-1))) An) r96 hr96) (an2 h91 tv))))))))))))) ?_
    exact jD (decide (r96<0)) hm Conv.eqK
   ·replace hm:=Bs h91 hm
    refine RD hnt (nn 4 (sk 12 (pF :: []))) [] [(34,pB false)] [] [] (an h91 (an6 h91 (an6 h91 tv))) ?_
    exact jD false hm Conv.eqK
 ·intro h75
  have hge1:¬ k1<p2:=by have:=of_decide_eq_false h75; omega
  have hm:=he1 hge1
  unfold Fu at hm
  refine DW.exit ?_
  refine Ai ?_
  refine Ap ?_
  refine Ae ?_
  show DW _ _ _ _ _
  refine DW.done ?_
  obtain rfl:=sj hm
  exact endK [Ar s1] [] (.p (.tup []))
abbrev o105 (ks:List Nat) (b:Bool) (RES:List Aa) (sm:List Nat := []):Orc := .call 252 ks b (.p (.tup [])) [Ar RES] [] sm

theorem Oc (p0:List Aa) (p1:Int) (RES:List Aa) (hm:Eu p0 p1=some RES):Spec Tryz.prog 177 [ow 0 p0.length,pI p1,.p (.fn 100 [])] [Ar p0] (.p (.tup [])) [Ar RES] []:=by
 unfold Eu at hm
 refine SO Tryz.func177 rfl rfl [(0,ow 0 p0.length),(1,pI p1),(2,.p (.fn 100 []))] [(0,ob0 (Ar p0))] ?_
 intro cx hnt
 refine Sq (RD hnt (.no :: []) [] [(6,pI 20)] [] [] tv ?_)
 refine Sq (RD hnt (nn 3 []) [] [(7,pI 0),(8,pI 20)] [] [] tv ?_)
 refine Sq (Bk ?_)
 refine DW.whileO (fun (s1:(List Aa)×Int×Int)=>Af [(0,ow 0 s1.1.length),(1,pI p1),(2,.p (.fn 100 [])),(6,pI 20),(7,pI s1.2.1),(8,pI s1.2.2)] [(0,ob0 (Ar s1.1))]) hm Conv.eqK ?_
 intro s1 n1 hm
 unfold Hy at hm
 refine Sq (Sq (RD hnt (nn 3 []) [] [(13,pB (decide (s1.2.2≤p1)))] [] [] tv ?_))
 refine Ak hm ?_ ?_
 ·intro h8 hm
  refine Sk ?_
  refine Bk ?_
  obtain ⟨r9,hr9,hm⟩:=bo hm
  obtain ⟨g10,hm⟩:=go1 hm
  refine Sq (RN hnt (nn 4 (o105 [0] true r9 :: [])) [(0,ow 0 r9.length),(1,pI p1),(2,.p (.fn 100 [])),(6,pI 20),(8,pI s1.2.2)] [(0,ob0 (Ar r9))] [(0,ow 0 s1.1.length)] [] (an (Ex s1.1 s1.2.1 s1.2.2 r9 hr9) (an (⟨rfl,g10⟩:Body.same (Ar s1.1) (Ar r9)) tv)) (by kernel_rfl) (.cons rfl (MLe.of_eq (congrArg (MV.own 0 0 0) g10)) .nil) .nil ?_)
  refine Sq (RD hnt (nn 2 []) [] [(7,pI s1.2.2)] [] [] tv ?_)
  refine RD hnt (nn 4 []) [] [(8,pI (w64 (s1.2.2+20)))] [] [] tv ?_
  refine DW.done ?_
  show DW _ _ _ _ _
  exact jD (r9,s1.2.2,(w64 (s1.2.2+20))) hm Conv.eqK
 ·intro h8 hm
  refine DW.exit ?_
  refine Ai ?_
  refine Ap ?_
  refine Ae ?_
  show DW _ _ _ _ _
  obtain ⟨r11,hr11,hm⟩:=bo hm
  obtain ⟨g12,hm⟩:=go1 hm
  refine Sq (RN hnt (nn 4 (o105 [0] true r11 :: [])) [(0,ow 0 r11.length),(1,pI p1),(2,.p (.fn 100 [])),(6,pI 20)] [(0,ob0 (Ar r11))] [(0,ow 0 s1.1.length)] [] (an (Ex s1.1 s1.2.1 p1 r11 hr11) (an (⟨rfl,g12⟩:Body.same (Ar s1.1) (Ar r11)) tv)) (by kernel_rfl) (.cons rfl (MLe.of_eq (congrArg (MV.own 0 0 0) g12)) .nil) .nil ?_)
  refine Bk ?_
  refine DW.whileO (fun (s4:Unit)=>Af [(0,ow 0 r11.length),(1,pI p1),(2,.p (.fn 100 [])),(6,pI 20)] [(0,ob0 (Ar r11))]) hm .refl ?_
  intro s4 n4 hm
  unfold Ib at hm
  refine Sq (Sq (RD hnt (nn 3 []) [] [(30,pB (decide (20<p1)))] [] [] tv ?_))
  refine Ak hm ?_ ?_
  ·intro h13 hm
   refine Sk ?_
   refine Bk ?_
   refine Sq (RD hnt (nn 4 []) [30] [(7,pI 0),(8,pI 40)] [] [] tv ?_)
   refine Sq (Bk ?_)
   refine DW.whileO (fun (s5:Unit)=>Af [(0,ow 0 r11.length),(1,pI p1),(2,.p (.fn 100 [])),(6,pI 20),(7,pI 0),(8,pI 40)] [(0,ob0 (Ar r11))]) hm Conv.eqK ?_
   intro s5 n5 hm
   unfold Ia at hm
   refine Sq (Sq (RD hnt (nn 3 []) [] [(35,pB (decide (40≤p1)))] [] [] tv ?_))
   refine Ak hm ?_ ?_
   ·intro h14 hm
    refine Sk ?_
    refine Bk ?_
    refine Sq ?_
    exact noK hm
   ·intro h14 hm
    refine DW.exit ?_
    refine Ai ?_
    refine Ap ?_
    refine Ae ?_
    show DW _ _ _ _ _
    refine Sq (Sq (RD hnt (nn 4 []) [8,35] [(9,pI 20)] [] [] tv ?_))
    refine Sq (RD hnt (nn 3 []) [] [(54,pB (decide (20<p1)))] [] [] tv ?_)
    refine Aei h13 ?_
    exact noK hm
  ·intro h13 hm
   refine DW.exit ?_
   refine Ai ?_
   refine Ap ?_
   refine Ae ?_
   show DW _ _ _ _ _
   refine DW.done ?_
   obtain rfl:=sj hm
   exact endK [Ar r11] [] (.p (.tup []))
abbrev o104 (ks:List Nat) (b:Bool) (RES:List Aa) (sm:List Nat := []):Orc := .call 177 ks b (.p (.tup [])) [Ar RES] [] sm

theorem Ob (p0:List Aa) (RES:List Aa) (hm:Eh p0=some RES):Spec Tryz.prog 99 [ow 0 p0.length,.p (.fn 100 [])] [Ar p0] (.p (.tup [])) [Ar RES] []:=by
 unfold Eh at hm
 refine SO Tryz.func99 rfl rfl [(0,ow 0 p0.length),(1,.p (.fn 100 []))] [(0,ob0 (Ar p0))] ?_
 intro cx hnt
 obtain ⟨r1,hr1,hm⟩:=bo hm
 obtain ⟨g2,hm⟩:=go1 hm
 refine RK hnt (nn 4 (o104 [0] true r1 :: [])) [] [(0,ob0 (Ar r1))] (an (Oc p0 ((p0.length:Nat):Int) r1 hr1) (an (⟨rfl,g2⟩:Body.same (Ar p0) (Ar r1)) tv)) ?_
 refine DW.done ?_
 obtain rfl:=sj hm
 exact endK [Ar r1] [] (.p (.tup []))
abbrev o103 (ks:List Nat) (b:Bool) (RES:List Aa) (sm:List Nat := []):Orc := .call 99 ks b (.p (.tup [])) [Ar RES] [] sm

abbrev c110e1 (p0:Ah) (p1:Int):=({ id:=((p0.items.set (Int.toNat p1) ({ id:=(p0.items.getD (Int.toNat p1) An).id,weight:=(p0.items.getD (Int.toNat p1) An).weight,v:=(p0.items.getD (Int.toNat p1) An).v,active:=true } : Aa)).getD (Int.toNat p1) An).id,weight:=((p0.items.set (Int.toNat p1) ({ id:=(p0.items.getD (Int.toNat p1) An).id,weight:=(p0.items.getD (Int.toNat p1) An).weight,v:=(p0.items.getD (Int.toNat p1) An).v,active:=true } : Aa)).getD (Int.toNat p1) An).weight,v:=(Fd (p0.items.getD (Int.toNat p1) An).v p0.clock),active:=((p0.items.set (Int.toNat p1) ({ id:=(p0.items.getD (Int.toNat p1) An).id,weight:=(p0.items.getD (Int.toNat p1) An).weight,v:=(p0.items.getD (Int.toNat p1) An).v,active:=true } : Aa)).getD (Int.toNat p1) An).active } : Aa)
abbrev c110e2 (p0:Ah) (p1:Int):=({ id:=(p0.items.getD (Int.toNat p1) An).id,weight:=(p0.items.getD (Int.toNat p1) An).weight,v:=(p0.items.getD (Int.toNat p1) An).v,active:=true } : Aa)
abbrev c110e3 (p0:Ah) (p1:Int):=(Az (Hk p0.items) (Int.toNat p1) [vi (p0.items.getD (Int.toNat p1) An).id,vi (p0.items.getD (Int.toNat p1) An).weight,vi (p0.items.getD (Int.toNat p1) An).v,vb true])
abbrev AfA (p0:Ah) (p1:Int):=((p0.items.set (Int.toNat p1) (c110e2 p0 p1)).set (Int.toNat p1) (c110e1 p0 p1))
abbrev c110e5 (p0:Ah) (p1:Int):=(Az (c110e3 p0 p1) (Int.toNat p1) (setRange ((c110e3 p0 p1) (Int.toNat p1)) 2 [vi (Fd (p0.items.getD (Int.toNat p1) An).v p0.clock)]))
theorem AcN (p0:Ah) (p1:Int) (RES:Int×Ah) (hm:Ub p0 p1=some RES):Spec Tryz.prog 179 [rr 0,pI p1] [.box [pI p0.clock,ow 1 p0.items.length],Ar p0.items] (pI RES.1) [.box [pI RES.2.clock,ow 1 RES.2.items.length],Ar RES.2.items] []:=by
 unfold Ub at hm
 refine SO Tryz.func179 rfl rfl [(0,rr 0),(1,pI p1)] [(0,bx [pI p0.clock,ow 1 p0.items.length]),(1,ob0 (Ar p0.items))] ?_
 intro cx hnt
 refine Sq (RD hnt (.no :: []) [] [] [] [] tv ?_)
 obtain ⟨g1,hm⟩:=go1 hm
 refine Sq (RD hnt (nn 7 []) [1] [(5,.eref 1 0 (Int.toNat p1) 0)] [] [] (an g1.1 (an g1.2 tv)) ?_)
 obtain ⟨g2,hm⟩:=go1 hm
 refine Sq (Sq (RD hnt (nn 4 []) [] [(15,pB (p0.items.getD (Int.toNat p1) An).active)] [] [] (an g2 tv) ?_))
 refine Ak hm ?_ ?_
 ·intro h3 hm
  refine Sq (RD hnt (.no :: []) [0,5,15] [(4,pI 9)] [] [] tv ?_)
  obtain rfl:=sj hm
  exact DW.ret (Aj [.box [pI p0.clock,ow 1 p0.items.length],Ar p0.items] [] (pI 9))
 ·intro h3 hm
  refine Sk ?_
  obtain ⟨g4,g5,g6,hm⟩:=go3 hm
  refine Sq (RN hnt (nn 17 []) [] [(0,bx [pI p0.clock,ow 1 (AfA p0 p1).length]),(1,ob0 (Ar (AfA p0 p1)))] [] [(0,.box [pI p0.clock,ow 1 p0.items.length]),(1,.row 4 p0.items.length (c110e5 p0 p1))] (an g4 (an g5 (an g6 tv))) (by kernel_rfl) .nil (.cons rfl (.box (.cons .rfl (.cons (MLe.ownLen (enc:=Bc) (d:=An) (f:=(c110e5 p0 p1)) (RowIs.updR (RowIs.upd RowIs.elems (c110e2 p0 p1) rfl) (by omega) (c110e1 p0 p1) rfl)) .nil))) (.cons rfl (BLe.typed (RowIs.updR (RowIs.upd RowIs.elems (c110e2 p0 p1) rfl) (by omega) (c110e1 p0 p1) rfl)) .nil)) ?_)
  refine Sq (RD hnt (.no :: []) [] [(4,pI 0)] [] [] tv ?_)
  obtain rfl:=sj hm
  exact DW.ret (Aj [.box [pI p0.clock,ow 1 (AfA p0 p1).length],Ar (AfA p0 p1)] [] (pI 0))
abbrev o110 (ks:List Nat) (b:Bool) (RES:Int×Ah) (sm:List Nat := []):Orc := .call 179 ks b (pI RES.1) [.box [pI RES.2.clock,ow 1 RES.2.items.length],Ar RES.2.items] [] sm

abbrev c108e1 : Nat×Body:=(1048,.box [pI 0,.p (.sl .nil 0 0 (fun _ => []))])
theorem Sl (p0:Ah) (p1:Int) (RES:Ah×Int) (hm:Ig p0 p1=some RES):Spec Tryz.prog 161 [.p (.agg (Al p0)),pI p1,.p (.fn 179 [])] [] (.p (.tup [.agg (Al RES.1),vi RES.2])) [] []:=by
 unfold Ig at hm
 refine SO Tryz.func161 rfl rfl [(0,.p (.agg (Al p0))),(1,pI p1),(2,.p (.fn 179 []))] [] ?_
 intro cx hnt
 refine Sq (RD hnt (nn 3 []) [0] [(3,rr 1024),(6,rr 1048)] [] [(1024,bx (pm (Al p0))),(1048,bx [pI 0,.p (.sl .nil 0 0 (fun _ => []))])] tv ?_)
 obtain ⟨r1,hr1,hm⟩:=bo hm
 refine Sq (Sq (RD hnt (.no::o80 [] true r1 :: .no :: []) [] [(13,pB (!r1))] [] [] (an (Hx p0 r1 hr1) tv) ?_))
 refine Ak hm ?_ ?_
 ·intro h2 hm
  refine Sq (RD hnt (nn 3 []) [1,2,3,13] [(7,pI 1)] [1024] [] tv ?_)
  refine DW.conv (τ:=Af [(6,rr 1048),(7,pI 1)] [(1048,bx [pI 0,.p (Bf [])])]) (Conv.tp [] [(c108e1)] (by kernel_rfl) .nil (.cons rfl (.box (.cons .rfl (.cons MLe.nilL .nil))) .nil)) ?_
  obtain rfl:=sj hm
  exact DW.ret (Aj [] [] (.p (.tup [.agg [vi 0,Bf []],vi 1])))
 ·intro h2 hm
  refine Sk ?_
  obtain ⟨r3,hr3,hm⟩:=bo hm
  refine Sq (RD hnt (nn 2 (o86 [] true r3 :: .no :: [])) [1,13] [(8,pI r3)] [] [] (an (Rt p0 p1 r3 hr3) tv) ?_)
  refine Sq (Sq (RD hnt (nn 2 []) [] [(19,pB (decide (r3<0)))] [] [] tv ?_))
  refine Ak hm ?_ ?_
  ·intro h4 hm
   refine Sq (RD hnt (nn 3 []) [2,3,8,19] [(7,pI 4)] [1024] [] tv ?_)
   refine DW.conv (τ:=Af [(6,rr 1048),(7,pI 4)] [(1048,bx [pI 0,.p (Bf [])])]) (Conv.tp [] [(c108e1)] (by kernel_rfl) .nil (.cons rfl (.box (.cons .rfl (.cons MLe.nilL .nil))) .nil)) ?_
   obtain rfl:=sj hm
   exact DW.ret (Aj [] [] (.p (.tup [.agg [vi 0,Bf []],vi 4])))
  ·intro h4 hm
   refine Sk ?_
   obtain ⟨r5,hr5,hm⟩:=bo hm
   refine Sq (RD hnt (nn 4 (o81 [] true r5::nn 3 [])) [3,19] [(9,rr 1072)] [1024] [(1072,bx [pI p0.clock,ow 1200 r5.length]),(1200,ob0 (Ar r5))] (an (Gs p0.items r5 hr5) tv) ?_)
   obtain ⟨r6,hr6,hm⟩:=bo hm
   obtain ⟨g7,hm⟩:=go1 hm
   refine Sq (Sq (RD hnt (nn 2 (o110 [1072,1200] true r6 :: .no :: [])) [2,8] [(10,pI r6.1)] [] [(1072,bx [pI r6.2.clock,ow 1200 r6.2.items.length]),(1200,ob0 (Ar r6.2.items))] (an (AcN ({ clock:=p0.clock,items:=r5 } : Ah) r3 r6 hr6) (an tv (an (⟨rfl,g7⟩:Body.same (Ar r5) (Ar r6.2.items)) tv))) ?_))
   refine Sq (RD hnt (nn 2 []) [] [(31,pB (r6.1 != 0))] [] [] tv ?_)
   refine Ak hm ?_ ?_
   ·intro h8 hm
    refine Sq (RD hnt (nn 4 []) [9,10,31] [(7,pI r6.1)] [1072,1200] [] tv ?_)
    refine DW.conv (τ:=Af [(6,rr 1048),(7,pI r6.1)] [(1048,bx [pI 0,.p (Bf [])])]) (Conv.tp [] [(c108e1)] (by kernel_rfl) .nil (.cons rfl (.box (.cons .rfl (.cons MLe.nilL .nil))) .nil)) ?_
    obtain rfl:=sj hm
    exact DW.ret (Aj [] [] (.p (.tup [.agg [vi 0,Bf []],vi r6.1])))
   ·intro h8 hm
    refine Sk ?_
    refine Sq (DW.cv [] [] [1200] [(1072,bx (pm (Al r6.2)))] (Conv.frz [1200]) ?_)
    obtain ⟨r10,hr10,hm⟩:=bo hm
    refine RK hnt (.no::o95 [] true r10::nn 4 []) [(6,rr 1048),(7,pI r10.2)] [(1048,bx (pm (Al r10.1)))] (an (Re r6.2 r10 hr10) tv) ?_
    obtain rfl:=sj hm
    exact DW.ret (Aj [] [] (.p (.tup [.agg (Al r10.1),vi r10.2])))
abbrev o108 (ks:List Nat) (b:Bool) (RES:Ah×Int) (sm:List Nat := []):Orc := .call 161 ks b (.p (.tup [.agg (Al RES.1),vi RES.2])) [] [] sm

theorem Afk (p0:Ah) (p1:Int) (RES:Ah×Int) (hm:Zk p0 p1=some RES):Spec Tryz.prog 102 [.p (.agg (Al p0)),pI p1] [] (.p (.tup [.agg (Al RES.1),vi RES.2])) [] []:=by
 unfold Zk at hm
 refine SO Tryz.func102 rfl rfl [(0,.p (.agg (Al p0))),(1,pI p1)] [] ?_
 intro cx hnt
 refine Sq (RK hnt (nn 3 []) [(1,pI p1),(2,rr 1016),(4,rr 1032)] [(1016,bx (pm (Al p0))),(1032,bx [pI 0,.p (.sl .nil 0 0 (fun _ => []))])] tv ?_)
 obtain ⟨r1,hr1,hm⟩:=bo hm
 refine Sq (RK hnt (nn 2 (o108 [] true r1::nn 4 [])) [(4,rr 1032),(5,pI r1.2)] [(1032,bx (pm (Al r1.1)))] (an (Sl p0 p1 r1 hr1) tv) ?_)
 obtain rfl:=sj hm
 exact DW.ret (Aj [] [] (.p (.tup [.agg (Al r1.1),vi r1.2])))
abbrev o107 (ks:List Nat) (b:Bool) (RES:Ah×Int) (sm:List Nat := []):Orc := .call 102 ks b (.p (.tup [.agg (Al RES.1),vi RES.2])) [] [] sm

abbrev AaV : Nat×Obj:=(1032,bx [pI 0,.p (.sl .nil 0 0 (fun _ => []))])
abbrev c98e2 (r54:Nat×(List Aa)×(List Int)×(IMap Bool)):Nat×Obj:=(1,bx [.p (.mp (vb false) r54.2.2.2.has (fun n=>vb (r54.2.2.2.get n)))])
abbrev c98e3 (p1c1:IMap Bool):Nat×Obj:=(1,bx [.p (.mp (vb false) p1c1.has (fun n=>vb (p1c1.get n)))])
abbrev Acf (p0:Ah):Nat×Obj:=(1016,bx (pm (Al p0)))
abbrev c98e5 : Nat×Obj:=(1024,bx [.fn 84 [rr 0,rr 1]])
theorem Xb (p0:Ah) (p1c0:List Int) (p1c1:IMap Bool) (RES:Ah×(List Int)×(IMap Bool)) (hm:Lk p0 p1c0 p1c1=some RES):Spec Tryz.prog 37 [.p (.agg (Al p0)),.fn 84 [rr 0,rr 1]] [.box [.p (slI p1c0)],.box [.p (.mp (vb false) p1c1.has (fun n=>vb (p1c1.get n)))]] (.p (.agg (Al RES.1))) [.box [.p (slI RES.2.1)],.box [.p (.mp (vb false) RES.2.2.has (fun n=>vb (RES.2.2.get n)))]] []:=by
 unfold Lk at hm
 refine SO Tryz.func37 rfl rfl [(0,.p (.agg (Al p0))),(1,.fn 84 [rr 0,rr 1])] [(0,bx [.p (slI p1c0)]),(c98e3 p1c1)] ?_
 intro cx hnt
 refine Sq (RD hnt (nn 3 []) [0,1] [(2,rr 1016),(3,rr 1024),(4,rr 1032)] [] [(Acf p0),(c98e5),(AaV)] tv ?_)
 refine Sq (Sq (RD hnt (nn 4 []) [] [(11,.p (Bf p0.items)),(12,pI ((p0.items.length:Nat):Int)),(13,pI 0)] [] [] tv ?_))
 refine Bk ?_
 obtain ⟨hc1,hm⟩:=go1 hm
 refine DW.rangeO (fun (k1:Nat) (s1:Unit)=>Af [(2,rr 1016),(3,rr 1024),(4,rr 1032),(11,.p (Bf p0.items)),(12,pI ((p0.items.length:Nat):Int)),(13,pI ((k1:Nat):Int))] [(0,bx [.p (slI p1c0)]),(c98e3 p1c1),(Acf p0),(c98e5),(AaV)]) An hm Conv.eqK ?_
 intro k1 s1 n1 hk1 hs1 he1
 refine Sq (RD hnt (.no :: []) [] [(14,pB (decide (((k1:Nat):Int)<((p0.items.length:Nat):Int))))] [] [] tv ?_)
 refine Sq (Bu (decide (((k1:Nat):Int)<((p0.items.length:Nat):Int))) ?_ ?_)
 ·intro h49
  have hlt1:k1<p0.items.length:=by have:=of_decide_eq_true h49; omega
  have hm:=hs1 hlt1
  unfold Qc at hm
  refine Sk ?_
  refine Sq ?_
  refine Jn (ι:=Unit) (fun (y5:Unit)=>Af [(2,rr 1016),(3,rr 1024),(4,rr 1032),(11,.p (Bf p0.items)),(12,pI ((p0.items.length:Nat):Int)),(13,pI ((k1:Nat):Int))] [(0,bx [.p (slI p1c0)]),(c98e3 p1c1),(Acf p0),(c98e5),(AaV)]) (fun y5=>(Ki n1) y5=some RES) ?_ ?_
  ·intro y5 hm
   unfold Ki at hm
   refine RD hnt (nn 2 []) [] [(13,pI (w64 (((k1:Nat):Int)+1)))] [] [] tv ?_
   exact jD () ⟨hlt1,hm⟩ (Conv.tp [(13,pI (w64 (((k1:Nat):Int)+1)))] [] (by kernel_rfl) (.cons rfl (.of_eq (congrArg pI (Bb hlt1 hc1))) .nil) .nil)
  ·refine Bk ?_
   refine Sq (RD hnt (nn 4 []) [14] [(6,rr 1048)] [] [(1048,bx (pm (Bc (p0.items.getD k1 An))))] (an (nn0 k1) (an (ltc hlt1) tv)) ?_)
   refine Sq ?_
   refine Jn (ι:=Bool) (fun (y6:Bool)=>Af [(2,rr 1016),(3,rr 1024),(4,rr 1032),(6,rr 1048),(11,.p (Bf p0.items)),(12,pI ((p0.items.length:Nat):Int)),(13,pI ((k1:Nat):Int)),(25,pB y6)] [(0,bx [.p (slI p1c0)]),(c98e3 p1c1),(Acf p0),(c98e5),(AaV),(1048,bx (pm (Bc (p0.items.getD k1 An))))]) (fun y6=>(Gx n1) y6=some RES) ?_ ?_
   ·intro y6 hm
    unfold Gx at hm
    refine Ak hm ?_ ?_
    ·intro h52 hm
     exact noK hm
    ·intro h52 hm
     refine Sk ?_
     exact bD () hm Conv.t0
   ·rcases bt (p0.items.getD k1 An).active with h50|h50
    ·replace hm:=Bt h50 hm
     obtain ⟨r51,hr51,hm⟩:=bo hm
     refine RD hnt (nn 6 (.call 84 [0,1] true (pB r51) [.box [.p (slI p1c0)],.box [.p (.mp (vb false) p1c1.has (fun n=>vb (p1c1.get n)))]] [] [] :: .no::pT :: [])) [] [(25,pB (!r51))] [] [] (an4 h50 (an (Yi (p0.items.getD k1 An).id p1c0 p1c1 r51 hr51) (an2 tv (an2 h50 tv)))) ?_
     exact jD (!r51) hm Conv.eqK
    ·replace hm:=Bs h50 hm
     refine RD hnt (nn 3 (sk 5 (pF :: []))) [] [(25,pB false)] [] [] (an6 h50 tv) ?_
     exact jD false hm Conv.eqK
 ·intro h49
  have hge1:¬ k1<p0.items.length:=by have:=of_decide_eq_false h49; omega
  have hm:=he1 hge1
  unfold Pz at hm
  refine DW.exit ?_
  refine Ai ?_
  refine Ap ?_
  refine Ae ?_
  show DW _ _ _ _ _
  obtain ⟨r53,hr53,hm⟩:=bo hm
  obtain ⟨r54,hr54,hm⟩:=bo hm
  obtain ⟨g55,g56,hm⟩:=go2 hm
  refine Sq (RD hnt (nn 2 (o81 [] true r53 :: .no::o100 [1288,1024,0,1] true r54 :: .no :: [])) [3,11,12,13,14] [(7,ow 1288 r54.1)] [1024] [(0,bx [.p (slI r54.2.2.1)]),(c98e2 r54),(1288,ob0 (Ar r54.2.1))] (an (Gs p0.items r53 hr53) (an (Jh r53 p1c0 p1c1 r54 hr54) (an (⟨rfl,g55⟩:Body.same (Ar r53) (Ar r54.2.1)) (an3 tv tv)))) ?_)
  refine Sq (DW.conv (τ:=Af [(2,rr 1016),(4,rr 1032),(7,ow 1288 (r54.2.1.take r54.1).length)] [(0,bx [.p (slI r54.2.2.1)]),(c98e2 r54),(Acf p0),(AaV),(1288,ob0 (Ar (r54.2.1.take r54.1)))]) (Conv.trans (τ:=Af [(2,rr 1016),(4,rr 1032),(7,ow 1288 r54.1)] [(0,bx [.p (slI r54.2.2.1)]),(c98e2 r54),(Acf p0),(AaV),(1288,ob0 (.row 4 r54.1 (Hk r54.2.1)))]) (Conv.cut 1288 r54.1 (And.intro (show r54.1≤r54.2.1.length by omega) (an (Nat.le_of_eq (Nat.zero_add r54.1)) tv))) (Conv.tp [(7,ow 1288 r54.1)] [(1288,.row 4 r54.1 (Hk r54.2.1))] (by kernel_rfl) (.cons rfl (MLe.ownLen (enc:=Bc) (d:=An) (f:=(Hk r54.2.1)) (RowIs.elems.take (by omega))) .nil) (.cons rfl (BLe.typed (RowIs.elems.take (by omega))) .nil))) ?_)
  obtain ⟨r57,hr57,hm⟩:=bo hm
  obtain ⟨g58,hm⟩:=go1 hm
  refine RN hnt (.no::o103 [1288] true r57 :: []) [(2,rr 1016),(4,rr 1032),(7,ow 1288 r57.length)] [(0,bx [.p (slI r54.2.2.1)]),(c98e2 r54),(Acf p0),(AaV),(1288,ob0 (Ar r57))] [(7,ow 1288 (r54.2.1.take r54.1).length)] [] (an (Ob (r54.2.1.take r54.1) r57 hr57) (an (⟨rfl,g58⟩:Body.same (Ar (r54.2.1.take r54.1)) (Ar r57)) tv)) (by kernel_rfl) (.cons rfl (MLe.of_eq (congrArg (MV.own 1288 0 0) g58)) .nil) .nil ?_
  refine Sq (Sq (RD hnt (nn 3 []) [7] [(41,ow 1288 r57.length),(42,pI ((r57.length:Nat):Int)),(43,pI 0)] [] [] tv ?_))
  refine Bk ?_
  obtain ⟨hc4,hm⟩:=go1 hm
  refine DW.rangeO (fun (k4:Nat) (s4:Ah)=>Af [(2,rr 1016),(4,rr 1032),(41,ow 1288 r57.length),(42,pI ((r57.length:Nat):Int)),(43,pI ((k4:Nat):Int))] [(0,bx [.p (slI r54.2.2.1)]),(c98e2 r54),(1016,bx (pm (Al s4))),(AaV),(1288,ob0 (Ar r57))]) An hm Conv.eqK ?_
  intro k4 s4 n4 hk4 hs4 he4
  refine Sq (RD hnt (.no :: []) [] [(44,pB (decide (((k4:Nat):Int)<((r57.length:Nat):Int))))] [] [] tv ?_)
  refine Sq (Bu (decide (((k4:Nat):Int)<((r57.length:Nat):Int))) ?_ ?_)
  ·intro h69
   have hlt4:k4<r57.length:=by have:=of_decide_eq_true h69; omega
   have hm:=hs4 hlt4
   unfold Px at hm
   refine Sk ?_
   refine Sq (Bk ?_)
   refine Sq (RD hnt (nn 4 []) [44] [(9,rr 1072)] [] [(1072,bx (pm (Bc (r57.getD k4 An))))] (an (nn0 k4) (an (ltc hlt4) (an (by omega:k4<r57.length) tv))) ?_)
   obtain ⟨r70,hr70,hm⟩:=bo hm
   obtain ⟨r71,hr71,hm⟩:=bo hm
   refine RD hnt (nn 3 (o107 [] true r70::nn 2 (o97 [] true r71 :: .no :: []))) [9] [] [1072] [(1016,bx (pm (Al r71)))] (an (Afk s4 (r57.getD k4 An).id r70 hr70) (an (AcJ r70.1 r70.2 r71 hr71) tv)) ?_
   refine DW.done ?_
   show DW _ _ _ _ _
   refine RD hnt (nn 2 []) [] [(43,pI (w64 (((k4:Nat):Int)+1)))] [] [] tv ?_
   exact jD r71 ⟨hlt4,hm⟩ (Conv.tp [(43,pI (w64 (((k4:Nat):Int)+1)))] [] (by kernel_rfl) (.cons rfl (.of_eq (congrArg pI (Bb hlt4 hc4))) .nil) .nil)
  ·intro h69
   have hge4:¬ k4<r57.length:=by have:=of_decide_eq_false h69; omega
   have hm:=he4 hge4
   unfold Qi at hm
   refine DW.exit ?_
   refine Ai ?_
   refine Ap ?_
   refine Ae ?_
   show DW _ _ _ _ _
   refine Sq (RD hnt (nn 2 []) [2,41,42,43,44] [] [1016,1288] [(1032,bx (pm (Al s4)))] tv ?_)
   obtain rfl:=sj hm
   exact DW.ret (Aj [.box [.p (slI r54.2.2.1)],.box [.p (.mp (vb false) r54.2.2.2.has (fun n=>vb (r54.2.2.2.get n)))]] [] (.p (.agg (Al s4))))
abbrev o98 (ks:List Nat) (b:Bool) (RES:Ah×(List Int)×(IMap Bool)) (sm:List Nat := []):Orc := .call 37 ks b (.p (.agg (Al RES.1))) [.box [.p (slI RES.2.1)],.box [.p (.mp (vb false) RES.2.2.has (fun n=>vb (RES.2.2.get n)))]] [] sm
end Go.Dm


/- Go functions compute their models, printed by a program. -/
namespace Go.Dm
open Go.Proofs
set_option linter.unusedVariables false
abbrev AaT (p0:Ac) (k1:Nat):=(p0.tree.nodes.getD k1 Ay)
abbrev c68e2 (p0:Ac) (k1:Nat) (r22:Ah×(List Int)×(IMap Bool)):=({ group:=(AaT p0 k1).id,queue:=r22.1 } : Ag)
theorem Ahf (p0:Ac) (p1:List Ag) (p2:List Int) (p3:List Int) (RES:List Ag) (hm:Lv p0 p1 p2 p3=some RES):Spec Tryz.prog 11 [.p (.agg (Ab p0)),.p (Au p1),.p (slI p2),.p (slI p3)] [] (ow 0 RES.length) [] [Bx RES]:=by
 unfold Lv at hm
 refine SO Tryz.func11 rfl rfl [(0,.p (.agg (Ab p0))),(1,.p (Au p1)),(2,.p (slI p2)),(3,.p (slI p3))] [] ?_
 intro cx hnt
 refine Sq (RD hnt (nn 2 []) [0] [(4,rr 1032)] [] [(1032,bx (pm (Ab p0)))] tv ?_)
 obtain ⟨r1,hr1,hm⟩:=bo hm
 refine Sq (Sq (RD hnt (nn 2 (o69 [] true r1 :: .no :: [])) [] [(18,pB (!r1))] [] [] (an (AfU p0 p2 r1 hr1) tv) ?_))
 refine Ak hm ?_ ?_
 ·intro h2 hm
  refine Sq (RK hnt (.no :: []) [(8,.p (.sl .nil 0 0 (fun _ => [])))] [] tv ?_)
  refine DW.cv [] [(8,ow 100000 0)] [] [(100000,ob0 (Bx []))] (Conv.ads [(.s 8,100000,3,elems Cs Bq [])]) ?_
  obtain rfl:=sj hm
  exact DW.ret (Aj [Bx []] [100000] (ow 0 0))
 ·intro h2 hm
  refine Sk ?_
  refine Sq (RD hnt (.no :: []) [18] [(9,.p (.sl .nil 0 0 (fun _ => [])))] [] [] tv ?_)
  obtain ⟨r3,hr3,hm⟩:=bo hm
  obtain ⟨r4,hr4,hm⟩:=bo hm
  refine Sq (RD hnt (nn 2 (o74 [] true r3::nn 2 (o75 [] true r4::nn 2 []))) [2,3] [(10,.fn 82 [rr 1168,rr 1169]),(11,.fn 84 [rr 1192,rr 1193])] [] [(1168,bx (pm (Ab r3.1))),(1169,bx [.p (slI r3.2)]),(1192,bx [.p (slI r4.1)]),(1193,bx [.p (.mp (vb false) r4.2.has (fun n=>vb (r4.2.get n)))])] (an (AeY p0 p2 r3 hr3) (an (Afx p0 p3 r4 hr4) tv)) ?_)
  refine Sq (Sq (RD hnt (nn 5 []) [] [(27,.p (Cr p0.tree.nodes)),(28,pI ((p0.tree.nodes.length:Nat):Int)),(29,pI 0)] [] [] tv ?_))
  refine Bk ?_
  obtain ⟨hc1,hm⟩:=go1 hm
  refine DW.rangeO (fun (k1:Nat) (s1:(List Int)×(IMap Bool)×(List Ag))=>Af [(1,.p (Au p1)),(4,rr 1032),(9,ow 1408 s1.2.2.length),(10,.fn 82 [rr 1168,rr 1169]),(11,.fn 84 [rr 1192,rr 1193]),(27,.p (Cr p0.tree.nodes)),(28,pI ((p0.tree.nodes.length:Nat):Int)),(29,pI ((k1:Nat):Int))] [(1032,bx (pm (Ab p0))),(1168,bx (pm (Ab r3.1))),(1169,bx [.p (slI r3.2)]),(1192,bx [.p (slI s1.1)]),(1193,bx [.p (.mp (vb false) s1.2.1.has (fun n=>vb (s1.2.1.get n)))]),(1408,ob0 (Bx s1.2.2))]) Ay hm (Conv.ads [(.s 9,1408,3,elems Cs Bq [])]) ?_
  intro k1 s1 n1 hk1 hs1 he1
  refine Sq (RD hnt (.no :: []) [] [(30,pB (decide (((k1:Nat):Int)<((p0.tree.nodes.length:Nat):Int))))] [] [] tv ?_)
  refine Sq (Bu (decide (((k1:Nat):Int)<((p0.tree.nodes.length:Nat):Int))) ?_ ?_)
  ·intro h18
   have hlt1:k1<p0.tree.nodes.length:=by have:=of_decide_eq_true h18; omega
   have hm:=hs1 hlt1
   unfold AeJ at hm
   refine Sk ?_
   refine Sq (Bk ?_)
   refine Sq (RD hnt (nn 4 []) [30] [(13,rr 1104)] [] [(1104,bx (pm (Ax (AaT p0 k1))))] (an (nn0 k1) (an (ltc hlt1) tv)) ?_)
   obtain ⟨r19,hr19,hm⟩:=bo hm
   obtain ⟨r20,hr20,hm⟩:=bo hm
   obtain ⟨r21,hr21,hm⟩:=bo hm
   refine Sq (RD hnt (nn 3 (o79 [] true r19::nn 3 (o82 [] true r20 :: .no :: .call 34 [1168,1169] false (.p (.agg (Al r21))) [.box (pm (Ab r3.1)),.box [.p (slI r3.2)]] [] [1168,1169]::nn 2 []))) [] [(14,rr 1112)] [] [(1112,bx (pm (Al r21)))] (an (Agt p1 (AaT p0 k1).id r19 hr19) (an (AcV p0 (AaT p0 k1).id r20 hr20) (an (Vv r19 r20 r3.1 r3.2 r21 hr21) (an2 tv (an (Eq.refl (some (bx (pm (Ab r3.1)):Obj))) (an (Eq.refl (some (bx [.p (slI r3.2)]:Obj))) tv)))))) ?_)
   obtain ⟨r22,hr22,hm⟩:=bo hm
   obtain ⟨g23,hm⟩:=go1 hm
   refine RN hnt (nn 5 (o98 [1192,1193] true r22::nn 4 [])) [(1,.p (Au p1)),(4,rr 1032),(9,ow 1408 (s1.2.2 ++ [(c68e2 p0 k1 r22)]).length),(10,.fn 82 [rr 1168,rr 1169]),(11,.fn 84 [rr 1192,rr 1193]),(27,.p (Cr p0.tree.nodes)),(28,pI ((p0.tree.nodes.length:Nat):Int)),(29,pI ((k1:Nat):Int))] [(1032,bx (pm (Ab p0))),(1168,bx (pm (Ab r3.1))),(1169,bx [.p (slI r3.2)]),(1192,bx [.p (slI r22.2.1)]),(1193,bx [.p (.mp (vb false) r22.2.2.has (fun n=>vb (r22.2.2.get n)))]),(1408,ob0 (Bx (s1.2.2 ++ [(c68e2 p0 k1 r22)])))] [(9,ow 1408 (s1.2.2.length+1))] [(1408,.row 3 (s1.2.2.length+1) (Ck s1.2.2.length (We s1.2.2) (cut 3 [vi (AaT p0 k1).id,vi r22.1.clock,Bf r22.1.items])))] (an (Xb r21 s1.1 s1.2.1 r22 hr22) (an2 tv (an (by omega:(s1.2.2.length+1)*40≤140737488355328) tv))) (by kernel_rfl) (.cons rfl (MLe.ownLen (enc:=Cs) (d:=Bq) (f:=(Ck s1.2.2.length (We s1.2.2) (cut 3 [vi (AaT p0 k1).id,vi r22.1.clock,Bf r22.1.items]))) (RowIs.cat RowIs.elems (RowIs.lit (enc:=Cs) (d:=Bq) (n:=1) (f:=(cut 3 [vi (AaT p0 k1).id,vi r22.1.clock,Bf r22.1.items])) [(c68e2 p0 k1 r22)] rfl (fun|0,_=>rfl|n+1,h=>absurd h (by omega))))) .nil) (.cons rfl (BLe.typed (RowIs.cat RowIs.elems (RowIs.lit (enc:=Cs) (d:=Bq) (n:=1) (f:=(cut 3 [vi (AaT p0 k1).id,vi r22.1.clock,Bf r22.1.items])) [(c68e2 p0 k1 r22)] rfl (fun|0,_=>rfl|n+1,h=>absurd h (by omega))))) .nil) ?_
   refine DW.done ?_
   show DW _ _ _ _ _
   refine RD hnt (nn 2 []) [] [(29,pI (w64 (((k1:Nat):Int)+1)))] [] [] tv ?_
   exact jD (r22.2.1,r22.2.2,(s1.2.2 ++ [(c68e2 p0 k1 r22)])) ⟨hlt1,hm⟩ (Conv.tp [(29,pI (w64 (((k1:Nat):Int)+1)))] [] (by kernel_rfl) (.cons rfl (.of_eq (congrArg pI (Bb hlt1 hc1))) .nil) .nil)
  ·intro h18
   have hge1:¬ k1<p0.tree.nodes.length:=by have:=of_decide_eq_false h18; omega
   have hm:=he1 hge1
   unfold AeR at hm
   refine DW.exit ?_
   refine Ai ?_
   refine Ap ?_
   refine Ae ?_
   show DW _ _ _ _ _
   refine Sq (RK hnt (nn 2 []) [(8,ow 1408 s1.2.2.length)] [(1408,ob0 (Bx s1.2.2))] tv ?_)
   obtain rfl:=sj hm
   exact DW.ret (Aj [Bx s1.2.2] [1408] (ow 0 s1.2.2.length))
abbrev o68 (ks:List Nat) (b:Bool) (RES:List Ag) (sm:List Nat := []):Orc := .call 11 ks b (ow 0 RES.length) [] [Bx RES] sm

theorem Acx (p0:List Int) (p1:List Int) (RES:Bool) (hm:Th p0 p1=some RES):Spec Tryz.prog 103 [.p (slI p0),.p (slI p1)] [] (pB RES) [] []:=by
 unfold Th at hm
 refine SO Tryz.func103 rfl rfl [(0,.p (slI p0)),(1,.p (slI p1))] [] ?_
 intro cx hnt
 refine Sq (RD hnt (.no :: []) [] [] [] [] tv ?_)
 refine Sq (Sq (RD hnt (nn 5 []) [] [(10,pB (((p0.length:Nat):Int) != ((p1.length:Nat):Int)))] [] [] tv ?_))
 refine Ak hm ?_ ?_
 ·intro h1 hm
  refine Sq (RK hnt (.no :: []) [(4,pB false)] [] tv ?_)
  obtain rfl:=sj hm
  exact DW.ret (Aj [] [] (pB false))
 ·intro h1 hm
  refine Sk ?_
  refine Sq (Sq (RD hnt (nn 3 []) [10] [(12,pI ((p0.length:Nat):Int)),(13,pI 0)] [] [] tv ?_))
  refine Bk ?_
  obtain ⟨hc1,hm⟩:=go1 hm
  refine DW.rangeO (fun (k1:Nat) (s1:Unit)=>Af [(0,.p (slI p0)),(1,.p (slI p1)),(12,pI ((p0.length:Nat):Int)),(13,pI ((k1:Nat):Int))] []) 0 hm Conv.eqK ?_
  intro k1 s1 n1 hk1 hs1 he1
  refine Sq (RD hnt (.no :: []) [] [(14,pB (decide (((k1:Nat):Int)<((p0.length:Nat):Int))))] [] [] tv ?_)
  refine Sq (Bu (decide (((k1:Nat):Int)<((p0.length:Nat):Int))) ?_ ?_)
  ·intro h10
   have hlt1:k1<p0.length:=by have:=of_decide_eq_true h10; omega
   have hm:=hs1 hlt1
   unfold Xp at hm
   refine Sk ?_
   refine Sq (Bk ?_)
   refine Sq (RD hnt (nn 2 []) [14] [(5,pI ((k1:Nat):Int))] [] [] tv ?_)
   obtain ⟨g11,hm⟩:=go1 hm
   refine Sq (RD hnt (nn 9 []) [5] [(24,pB ((p0.getD k1 0) != (p1.getD k1 0)))] [] [] (an (nn0 k1) (an (ltc hlt1) (an (nn0 k1) (an (ltc g11) tv)))) ?_)
   refine Ak hm ?_ ?_
   ·intro h12 hm
    refine Sq (RK hnt (.no :: []) [(4,pB false)] [] tv ?_)
    obtain rfl:=sj hm
    exact DW.ret (Aj [] [] (pB false))
   ·intro h12 hm
    refine Sk ?_
    refine DW.done ?_
    show DW _ _ _ _ _
    refine RD hnt (nn 2 []) [24] [(13,pI (w64 (((k1:Nat):Int)+1)))] [] [] tv ?_
    exact jD () ⟨hlt1,hm⟩ (Conv.tp [(13,pI (w64 (((k1:Nat):Int)+1)))] [] (by kernel_rfl) (.cons rfl (.of_eq (congrArg pI (Bb hlt1 hc1))) .nil) .nil)
  ·intro h10
   have hge1:¬ k1<p0.length:=by have:=of_decide_eq_false h10; omega
   have hm:=he1 hge1
   unfold Wt at hm
   refine DW.exit ?_
   refine Ai ?_
   refine Ap ?_
   refine Ae ?_
   show DW _ _ _ _ _
   refine Sq (RK hnt (.no :: []) [(4,pB true)] [] tv ?_)
   obtain rfl:=sj hm
   exact DW.ret (Aj [] [] (pB true))
abbrev o113 (ks:List Nat) (b:Bool) (RES:Bool) (sm:List Nat := []):Orc := .call 103 ks b (pB RES) [] [] sm

abbrev Lc (p1:List Ag) (k1:Nat) (k4:Nat):=((p1.getD k1 Bq).queue.items.getD k4 An)
abbrev AdZ (p0:Ac) (k1:Nat):Nat×Obj:=(1048,bx (pm (Ax (p0.tree.nodes.getD k1 Ay))))
abbrev Aam (p0:Ac):Nat×Obj:=(1016,bx (pm (Ab p0)))
abbrev AbI (p0:Ac):Nat×MV:=(24,.p (Cr p0.tree.nodes))
abbrev Agc (p1:List Ag) (k1:Nat):Nat×MV:=(53,.p (Bf (p1.getD k1 Bq).queue.items))
theorem Agg (p0:Ac) (p1:List Ag) (RES:Bool) (hm:Kg p0 p1=some RES):Spec Tryz.prog 38 [.p (.agg (Ab p0)),.p (Au p1)] [] (pB RES) [] []:=by
 unfold Kg at hm
 refine SO Tryz.func38 rfl rfl [(0,.p (.agg (Ab p0))),(1,.p (Au p1))] [] ?_
 intro cx hnt
 refine Sq (RD hnt (nn 2 []) [0] [(2,rr 1016)] [] [(Aam p0)] tv ?_)
 obtain ⟨r1,hr1,hm⟩:=bo hm
 refine Sq (Sq ?_)
 refine Jn (ι:=Bool) (fun (y1:Bool)=>Af [(1,.p (Au p1)),(2,rr 1016),(21,pB y1)] [(Aam p0)]) (fun y1=>(Uj p0 p1) y1=some RES) ?_ ?_
 ·intro y1 hm
  unfold Uj at hm
  refine Ak hm ?_ ?_
  ·intro h3 hm
   refine Sq (RK hnt (.no :: []) [(4,pB false)] [] tv ?_)
   obtain rfl:=sj hm
   exact DW.ret (Aj [] [] (pB false))
  ·intro h3 hm
   refine Sk ?_
   refine Sq (Sq (RD hnt (nn 5 []) [21] [(AbI p0),(25,pI ((p0.tree.nodes.length:Nat):Int)),(26,pI 0)] [] [] tv ?_))
   refine Bk ?_
   obtain ⟨hc1,hm⟩:=go1 hm
   refine DW.rangeO (fun (k1:Nat) (s1:Unit)=>Af [(1,.p (Au p1)),(2,rr 1016),(AbI p0),(25,pI ((p0.tree.nodes.length:Nat):Int)),(26,pI ((k1:Nat):Int))] [(Aam p0)]) Ay hm Conv.eqK ?_
   intro k1 s1 n1 hk1 hs1 he1
   refine Sq (RD hnt (.no :: []) [] [(27,pB (decide (((k1:Nat):Int)<((p0.tree.nodes.length:Nat):Int))))] [] [] tv ?_)
   refine Sq (Bu (decide (((k1:Nat):Int)<((p0.tree.nodes.length:Nat):Int))) ?_ ?_)
   ·intro h64
    have hlt1:k1<p0.tree.nodes.length:=by have:=of_decide_eq_true h64; omega
    have hm:=hs1 hlt1
    unfold Adn at hm
    refine Sk ?_
    refine Sq (Bk ?_)
    refine Sq (RD hnt (nn 6 []) [27] [(5,pI ((k1:Nat):Int)),(6,rr 1048)] [] [(AdZ p0 k1)] (an (nn0 k1) (an (ltc hlt1) tv)) ?_)
    obtain ⟨g65,hm⟩:=go1 hm
    refine Sq (Sq ?_)
    refine Jn (ι:=Bool) (fun (y4:Bool)=>Af [(1,.p (Au p1)),(2,rr 1016),(5,pI ((k1:Nat):Int)),(6,rr 1048),(AbI p0),(25,pI ((p0.tree.nodes.length:Nat):Int)),(26,pI ((k1:Nat):Int)),(47,pB y4)] [(Aam p0),(AdZ p0 k1)]) (fun y4=>(Uc p0 p1 k1 (p0.tree.nodes.getD k1 Ay) n1) y4=some RES) ?_ ?_
    ·intro y4 hm
     unfold Uc at hm
     refine Ak hm ?_ ?_
     ·intro h69 hm
      refine Sq (RK hnt (.no :: []) [(4,pB false)] [] tv ?_)
      obtain rfl:=sj hm
      exact DW.ret (Aj [] [] (pB false))
     ·intro h69 hm
      refine Sk ?_
      refine Sq (RD hnt (.no :: []) [47] [(7,.p (.sl .nil 0 0 (fun _ => [])))] [] [] tv ?_)
      obtain ⟨g70,hm⟩:=go1 hm
      refine Sq (Sq (RD hnt (nn 8 []) [5] [(Agc p1 k1),(54,pI (((p1.getD k1 Bq).queue.items.length:Nat):Int)),(55,pI 0)] [] [] (an (nn0 k1) (an (ltc g70) tv)) ?_))
      refine Bk ?_
      obtain ⟨hc4,hm⟩:=go1 hm
      refine DW.rangeO (fun (k4:Nat) (s4:List Int)=>Af [(1,.p (Au p1)),(2,rr 1016),(6,rr 1048),(7,ow 1568 s4.length),(AbI p0),(25,pI ((p0.tree.nodes.length:Nat):Int)),(26,pI ((k1:Nat):Int)),(Agc p1 k1),(54,pI (((p1.getD k1 Bq).queue.items.length:Nat):Int)),(55,pI ((k4:Nat):Int))] [(Aam p0),(AdZ p0 k1),(1568,ob0 (roI s4))]) An hm (Conv.ads [(.s 7,1568,1,elems Bm 0 [])]) ?_
      intro k4 s4 n4 hk4 hs4 he4
      refine Sq (RD hnt (.no :: []) [] [(56,pB (decide (((k4:Nat):Int)<(((p1.getD k1 Bq).queue.items.length:Nat):Int))))] [] [] tv ?_)
      refine Sq (Bu (decide (((k4:Nat):Int)<(((p1.getD k1 Bq).queue.items.length:Nat):Int))) ?_ ?_)
      ·intro h86
       have hlt4:k4<(p1.getD k1 Bq).queue.items.length:=by have:=of_decide_eq_true h86; omega
       have hm:=hs4 hlt4
       unfold Adk at hm
       refine Sk ?_
       refine Sq (Bk ?_)
       refine Sq (RD hnt (nn 4 []) [56] [(9,rr 1072)] [] [(1072,bx (pm (Bc (Lc p1 k1 k4))))] (an (nn0 k4) (an (ltc hlt4) tv)) ?_)
       refine Sq (Sq (DW.regJ (sl2 := [(1,.p (Au p1)),(2,rr 1016),(6,rr 1048),(7,ow 1568 s4.length),(9,rr 1072),(AbI p0),(25,pI ((p0.tree.nodes.length:Nat):Int)),(26,pI ((k1:Nat):Int)),(Agc p1 k1),(54,pI (((p1.getD k1 Bq).queue.items.length:Nat):Int)),(55,pI ((k4:Nat):Int)),(66,pB ((decide ((Lc p1 k1 k4).id<0))&&((Lc p1 k1 k4).weight != 100)))]) (ob2 := [(Aam p0),(AdZ p0 k1),(1072,bx (pm (Bc (Lc p1 k1 k4)))),(1568,ob0 (roI s4))]) ?_ ?_))
       ·rcases bt (decide ((Lc p1 k1 k4).id<0)) with h87|h87
        ·exact RT hnt (nn 7 (pT :: [])) [(66,pB ((Lc p1 k1 k4).weight != 100))] (an4 h87 tv) (by kernel_rfl) (.cons rfl (.of_eq (by rw [h87]; try rfl)) .nil)
        ·exact RT hnt (nn 4 (sk 3 (pF :: []))) [(66,pB false)] (an4 h87 tv) (by kernel_rfl) (.cons rfl (.of_eq (by rw [h87]; try rfl)) .nil)
       ·refine Ak hm ?_ ?_
        ·intro h88 hm
         refine Sq (RK hnt (.no :: []) [(4,pB false)] [] tv ?_)
         obtain rfl:=sj hm
         exact DW.ret (Aj [] [] (pB false))
        ·intro h88 hm
         refine Sk ?_
         obtain ⟨g89,hm⟩:=go1 hm
         refine RN hnt (nn 6 []) [(1,.p (Au p1)),(2,rr 1016),(6,rr 1048),(7,ow 1568 (s4 ++ [(Lc p1 k1 k4).id]).length),(AbI p0),(25,pI ((p0.tree.nodes.length:Nat):Int)),(26,pI ((k1:Nat):Int)),(Agc p1 k1),(54,pI (((p1.getD k1 Bq).queue.items.length:Nat):Int)),(55,pI ((k4:Nat):Int))] [(Aam p0),(AdZ p0 k1),(1568,ob0 (roI (s4 ++ [(Lc p1 k1 k4).id])))] [(7,ow 1568 (s4.length+1))] [(1568,.row 1 (s4.length+1) (Ck s4.length (elI s4) (cut 1 [vi (Lc p1 k1 k4).id])))] (an (by omega:(s4.length+1)*8≤140737488355328) tv) (by kernel_rfl) (.cons rfl (MLe.ownLen (enc:=Bm) (d:=0) (f:=(Ck s4.length (elI s4) (cut 1 [vi (Lc p1 k1 k4).id]))) (RowIs.cat RowIs.elems (RowIs.lit (enc:=Bm) (d:=0) (n:=1) (f:=(cut 1 [vi (Lc p1 k1 k4).id])) [(Lc p1 k1 k4).id] rfl (fun|0,_=>rfl|n+1,h=>absurd h (by omega))))) .nil) (.cons rfl (BLe.typed (RowIs.cat RowIs.elems (RowIs.lit (enc:=Bm) (d:=0) (n:=1) (f:=(cut 1 [vi (Lc p1 k1 k4).id])) [(Lc p1 k1 k4).id] rfl (fun|0,_=>rfl|n+1,h=>absurd h (by omega))))) .nil) ?_
         refine DW.done ?_
         show DW _ _ _ _ _
         refine RD hnt (nn 2 []) [] [(55,pI (w64 (((k4:Nat):Int)+1)))] [] [] tv ?_
         exact jD (s4 ++ [(Lc p1 k1 k4).id]) ⟨hlt4,hm⟩ (Conv.tp [(55,pI (w64 (((k4:Nat):Int)+1)))] [] (by kernel_rfl) (.cons rfl (.of_eq (congrArg pI (Bb hlt4 hc4))) .nil) .nil)
      ·intro h86
       have hge4:¬ k4<(p1.getD k1 Bq).queue.items.length:=by have:=of_decide_eq_false h86; omega
       have hm:=he4 hge4
       unfold Adc at hm
       refine DW.exit ?_
       refine Ai ?_
       refine Ap ?_
       refine Ae ?_
       show DW _ _ _ _ _
       obtain ⟨r90,hr90,hm⟩:=bo hm
       obtain ⟨r91,hr91,hm⟩:=bo hm
       refine Sq (RD hnt (nn 4 (o82 [] true r90::o113 [] true r91 :: .no :: [])) [6,7,53,54,55,56] [(79,pB (!r91))] [1048,1568] [] (an (AcV p0 (p0.tree.nodes.getD k1 Ay).id r90 hr90) (an (Acx s4 r90 r91 hr91) tv)) ?_)
       refine Ak hm ?_ ?_
       ·intro h92 hm
        refine Sq (RK hnt (.no :: []) [(4,pB false)] [] tv ?_)
        obtain rfl:=sj hm
        exact DW.ret (Aj [] [] (pB false))
       ·intro h92 hm
        refine Sk ?_
        refine DW.done ?_
        show DW _ _ _ _ _
        refine RD hnt (nn 2 []) [79] [(26,pI (w64 (((k1:Nat):Int)+1)))] [] [] tv ?_
        exact jD () ⟨hlt1,hm⟩ (Conv.tp [(26,pI (w64 (((k1:Nat):Int)+1)))] [] (by kernel_rfl) (.cons rfl (.of_eq (congrArg pI (Bb hlt1 hc1))) .nil) .nil)
    ·rcases bt ((p1.getD k1 Bq).group != (p0.tree.nodes.getD k1 Ay).id) with h66|h66
     ·replace hm:=Bt h66 hm
      refine RD hnt (nn 9 (sk 7 (pT :: []))) [] [(47,pB true)] [] [] (an (nn0 k1) (an (ltc g65) (an2 h66 (an6 h66 tv)))) ?_
      exact jD true hm Conv.eqK
     ·replace hm:=Bs h66 hm
      obtain ⟨g67,hm⟩:=go1 hm
      obtain ⟨r68,hr68,hm⟩:=bo hm
      refine RD hnt (nn 14 (o80 [] true r68 :: .no::pF :: [])) [] [(47,pB (!r68))] [] [] (an (nn0 k1) (an (ltc g65) (an3 h66 (an (nn0 k1) (an (ltc g67) (an3 h66 (an (Hx (p1.getD k1 Bq).queue r68 hr68) (an2 h66 tv)))))))) ?_
      exact jD (!r68) hm Conv.eqK
   ·intro h64
    have hge1:¬ k1<p0.tree.nodes.length:=by have:=of_decide_eq_false h64; omega
    have hm:=he1 hge1
    unfold Add at hm
    refine DW.exit ?_
    refine Ai ?_
    refine Ap ?_
    refine Ae ?_
    show DW _ _ _ _ _
    refine Sq (RK hnt (.no :: []) [(4,pB true)] [] tv ?_)
    obtain rfl:=sj hm
    exact DW.ret (Aj [] [] (pB true))
 ·rcases bt (!r1) with h2|h2
  ·replace hm:=Bt h2 hm
   refine RD hnt (.no::o11 [] true r1::nn 2 (sk 7 (pT :: []))) [] [(21,pB true)] [] [] (an (Dp p0 r1 hr1) (an2 h2 (an6 h2 tv))) ?_
   exact jD true hm Conv.eqK
  ·replace hm:=Bs h2 hm
   refine RD hnt (.no::o11 [] true r1::nn 9 (pF :: [])) [] [(21,pB (((p1.length:Nat):Int) != ((p0.tree.nodes.length:Nat):Int)))] [] [] (an (Dp p0 r1 hr1) (an2 h2 (an6 h2 tv))) ?_
   exact jD (((p1.length:Nat):Int) != ((p0.tree.nodes.length:Nat):Int)) hm Conv.eqK
abbrev o112 (ks:List Nat) (b:Bool) (RES:Bool) (sm:List Nat := []):Orc := .call 38 ks b (pB RES) [] [] sm

theorem Yq (p0:List Ag) (RES:List Ag) (hm:Gf p0=some RES):Spec Tryz.prog 104 [.p (.sl .nn 3 p0.length (elems Cs (default:Ag) p0))] [] (ow 0 RES.length) [] [Bx RES]:=by
 unfold Gf at hm
 refine SO Tryz.func104 rfl rfl [(0,.p (.sl .nn 3 p0.length (elems Cs (default:Ag) p0)))] [] ?_
 intro cx hnt
 refine Sq (RD hnt (.no :: []) [] [] [] [] tv ?_)
 refine Sq (Sq (RD hnt (nn 2 []) [] [(4,pB false)] [] [] tv ?_))
 refine Aeq ff ?_
 refine Sk ?_
 obtain ⟨g1,hm⟩:=go1 hm
 refine Sq (RN hnt (nn 4 []) [(2,ow 1040 p0.length)] [(1040,ob0 (Bx p0))] [(2,ow 1040 (0+p0.length))] [(1040,.row 3 (0+p0.length) (Ck 0 (cut 3 []) (We p0)))] (an (by omega:(0+p0.length)*40≤140737488355328) tv) (by kernel_rfl) (.cons rfl (MLe.ownLen (enc:=Cs) (d:=Bq) (f:=(Ck 0 (cut 3 []) (We p0))) (RowIs.cat RowIs.nil RowIs.elems)) .nil) (.cons rfl (BLe.typed (RowIs.cat RowIs.nil RowIs.elems)) .nil) ?_)
 obtain rfl:=sj hm
 exact DW.ret (Aj [Bx p0] [1040] (ow 0 p0.length))

theorem Xx (p0:List Ag) (RES:List Ag) (hm:Mu p0=some RES):Spec Tryz.prog 104 [.p (.sl .nil 3 0 (elems Cs (default:Ag) p0))] [] (ow 0 RES.length) [] [Bx RES]:=by
 unfold Mu at hm
 refine SO Tryz.func104 rfl rfl [(0,.p (.sl .nil 3 0 (elems Cs (default:Ag) p0)))] [] ?_
 intro cx hnt
 refine Sq (RD hnt (.no :: []) [] [] [] [] tv ?_)
 refine Sq (Sq (RD hnt (nn 2 []) [] [(4,pB true)] [] [] tv ?_))
 refine Aei tt ?_
 refine Sq (RK hnt (.no :: []) [(2,.p (.sl .nil 0 0 (fun _ => [])))] [] tv ?_)
 refine DW.cv [] [(2,ow 100000 0)] [] [(100000,ob0 (Bx []))] (Conv.ads [(.s 2,100000,3,elems Cs Bq [])]) ?_
 obtain rfl:=sj hm
 exact DW.ret (Aj [Bx []] [100000] (ow 0 0))

theorem Aao (p0:List Ag) (RES:List Ag) (hm:Gf p0=some RES):Spec Tryz.prog 104 [.p (Au p0)] [] (ow 0 RES.length) [] [Bx RES] :=
  Spec.unk (fun h=>Xx p0 RES (by have e:p0 = []:=List.eq_nil_of_length_eq_zero h; subst e; simpa [Gf,Mu] using hm)) (Yq p0 RES hm)
abbrev o115 (ks:List Nat) (b:Bool) (RES:List Ag) (sm:List Nat := []):Orc := .call 104 ks b (ow 0 RES.length) [] [Bx RES] sm

theorem Zx (p0:List Aa) (RES:List Aa) (hm:Ca p0=some RES):Spec Tryz.prog 92 [.p (.sl .nn 4 p0.length (elems Bc (default:Aa) p0))] [] (.p (Bf RES)) [] []:=by
 unfold Ca at hm
 refine SO Tryz.func92 rfl rfl [(0,.p (.sl .nn 4 p0.length (elems Bc (default:Aa) p0)))] [] ?_
 intro cx hnt
 refine Sq (RD hnt (.no :: []) [] [] [] [] tv ?_)
 refine Sq (Sq (RD hnt (nn 2 []) [] [(4,pB false)] [] [] tv ?_))
 refine Aeq ff ?_
 refine Sk ?_
 obtain ⟨g1,hm⟩:=go1 hm
 refine Sq (RN hnt (nn 4 []) [(2,ow 1040 p0.length)] [(1040,ob0 (Ar p0))] [(2,ow 1040 (0+p0.length))] [(1040,.row 4 (0+p0.length) (Ck 0 (cut 4 []) (Hk p0)))] (an (by omega:(0+p0.length)*32≤140737488355328) tv) (by kernel_rfl) (.cons rfl (MLe.ownLen (enc:=Bc) (d:=An) (f:=(Ck 0 (cut 4 []) (Hk p0))) (RowIs.cat RowIs.nil RowIs.elems)) .nil) (.cons rfl (BLe.typed (RowIs.cat RowIs.nil RowIs.elems)) .nil) ?_)
 obtain rfl:=sj hm
 exact DW.ret (Aj [] [] (.p (Bf p0)))

theorem Yr (p0:List Aa) (RES:List Aa) (hm:Fk p0=some RES):Spec Tryz.prog 92 [.p (.sl .nil 4 0 (elems Bc (default:Aa) p0))] [] (.p (Bf RES)) [] []:=by
 unfold Fk at hm
 refine SO Tryz.func92 rfl rfl [(0,.p (.sl .nil 4 0 (elems Bc (default:Aa) p0)))] [] ?_
 intro cx hnt
 refine Sq (RD hnt (.no :: []) [] [] [] [] tv ?_)
 refine Sq (Sq (RD hnt (nn 2 []) [] [(4,pB true)] [] [] tv ?_))
 refine Aei tt ?_
 refine Sq (RK hnt (.no :: []) [(2,.p (.sl .nil 0 0 (fun _ => [])))] [] tv ?_)
 refine DW.conv (τ:=Af [(2,.p (Bf []))] []) (Conv.tp [(2,.p (.sl .nil 0 0 (fun _ => [])))] [] (by kernel_rfl) (.cons rfl MLe.nilL .nil) .nil) ?_
 obtain rfl:=sj hm
 exact DW.ret (Aj [] [] (.p (Bf [])))

theorem Abb (p0:List Aa) (RES:List Aa) (hm:Ca p0=some RES):Spec Tryz.prog 92 [.p (Bf p0)] [] (.p (Bf RES)) [] [] :=
  Spec.unk (fun h=>Yr p0 RES (by have e:p0 = []:=List.eq_nil_of_length_eq_zero h; subst e; simpa [Ca,Fk] using hm)) (Zx p0 RES hm)
abbrev o116 (ks:List Nat) (b:Bool) (RES:List Aa) (sm:List Nat := []):Orc := .call 92 ks b (.p (Bf RES)) [] [] sm

abbrev Aak (s1:List Ag) (k1:Int) (r26:List Aa):=({ group:=(s1.getD (Int.toNat k1) Bq).group,queue:=({ clock:=(s1.getD (Int.toNat k1) Bq).queue.clock,items:=r26 } : Ah) } : Ag)
abbrev c114e2 (s1:List Ag) (k1:Int) (r26:List Aa):=(Az (We s1) (Int.toNat k1) [vi (s1.getD (Int.toNat k1) Bq).group,vi (s1.getD (Int.toNat k1) Bq).queue.clock,Bf r26])
theorem AcK (p0:List Ag) (RES:List Ag) (hm:Kr p0=some RES):Spec Tryz.prog 39 [.p (Au p0)] [] (ow 0 RES.length) [] [Bx RES]:=by
 unfold Kr at hm
 refine SO Tryz.func39 rfl rfl [(0,.p (Au p0))] [] ?_
 intro cx hnt
 refine Sq (RD hnt (.no :: []) [] [] [] [] tv ?_)
 obtain ⟨r1,hr1,hm⟩:=bo hm
 refine Sq (RK hnt (.no::o115 [] true r1 :: .no :: []) [(3,ow 1056 r1.length)] [(1056,ob0 (Bx r1))] (an (Aao p0 r1 hr1) tv) ?_)
 refine Sq (Sq (RD hnt (nn 3 []) [] [(8,ow 1056 r1.length),(9,pI ((r1.length:Nat):Int)),(10,pI 0)] [] [] tv ?_))
 refine Bk ?_
 obtain ⟨hc1,hm⟩:=go1 hm
 refine DW.forO (fun (k1:Int) (s1:List Ag)=>Af [(3,ow 1056 s1.length),(8,ow 1056 s1.length),(9,pI ((r1.length:Nat):Int)),(10,pI k1)] [(1056,ob0 (Bx s1))]) (lo:=0) (hi:=((r1.length:Nat):Int)) hm Conv.eqK ?_
 intro k1 s1 n1 hk1 hs1 he1
 refine Sq (RD hnt (.no :: []) [] [(11,pB (decide (k1<((r1.length:Nat):Int))))] [] [] tv ?_)
 refine Sq (Bu (decide (k1<((r1.length:Nat):Int))) ?_ ?_)
 ·intro h20
  have hlt1:k1<((r1.length:Nat):Int):=by have:=of_decide_eq_true h20; omega
  have hm:=hs1 hlt1
  unfold Abi at hm
  refine Sk ?_
  refine Sq (Bk ?_)
  obtain ⟨g21,g22,hm⟩:=go2 hm
  refine Sq (RD hnt (nn 6 []) [11] [(4,pI k1),(5,rr 1040)] [] [(1040,bx (pm (Cs (s1.getD (Int.toNat k1) Bq))))] (an g21.1 (an g21.2 (an g22 tv))) ?_)
  obtain ⟨r26,hr26,hm⟩:=bo hm
  obtain ⟨g27,g28,hm⟩:=go2 hm
  refine RN hnt (nn 5 (o116 [] true r26::nn 4 [])) [(3,ow 1056 (s1.set (Int.toNat k1) (Aak s1 k1 r26)).length),(8,ow 1056 (s1.set (Int.toNat k1) (Aak s1 k1 r26)).length),(9,pI ((r1.length:Nat):Int)),(10,pI k1)] [(1056,ob0 (Bx (s1.set (Int.toNat k1) (Aak s1 k1 r26))))] [(3,ow 1056 s1.length),(8,ow 1056 s1.length)] [(1056,.row 3 s1.length (c114e2 s1 k1 r26))] (an (Abb (s1.getD (Int.toNat k1) Bq).queue.items r26 hr26) (an g27.1 (an g27.2 (an g28 tv)))) (by kernel_rfl) (.cons rfl (MLe.ownLen (enc:=Cs) (d:=Bq) (f:=(c114e2 s1 k1 r26)) (RowIs.upd RowIs.elems (Aak s1 k1 r26) rfl)) (.cons rfl (MLe.ownLen (enc:=Cs) (d:=Bq) (f:=(c114e2 s1 k1 r26)) (RowIs.upd RowIs.elems (Aak s1 k1 r26) rfl)) .nil)) (.cons rfl (BLe.typed (RowIs.upd RowIs.elems (Aak s1 k1 r26) rfl)) .nil) ?_
  refine DW.done ?_
  show DW _ _ _ _ _
  refine RD hnt (nn 2 []) [] [(10,pI (w64 (k1+1)))] [] [] tv ?_
  exact jD (s1.set (Int.toNat k1) (Aak s1 k1 r26)) ⟨hlt1,hm⟩ (Conv.tp [(10,pI (w64 (k1+1)))] [] (by kernel_rfl) (.cons rfl (.of_eq (congrArg pI (Pr (lo:=0) (hi:=((r1.length:Nat):Int)) (by omega) hk1 hlt1 (by omega)))) .nil) .nil)
 ·intro h20
  have hge1:¬ k1<((r1.length:Nat):Int):=by have:=of_decide_eq_false h20; omega
  have hm:=he1 hge1
  unfold AeQ at hm
  refine DW.exit ?_
  refine Ai ?_
  refine Ap ?_
  refine Ae ?_
  show DW _ _ _ _ _
  refine Sq (RK hnt (nn 2 []) [(2,ow 1056 s1.length)] [(1056,ob0 (Bx s1))] tv ?_)
  obtain rfl:=sj hm
  exact DW.ret (Aj [Bx s1] [1056] (ow 0 s1.length))
abbrev o114 (ks:List Nat) (b:Bool) (RES:List Ag) (sm:List Nat := []):Orc := .call 39 ks b (ow 0 RES.length) [] [Bx RES] sm

theorem Ahj (p0:Ag) (p1:Int) (RES:Bool) (hm:Adb p0 p1=some RES):Spec Tryz.prog 181 [.p (.agg (Cs p0)),rr 0] [.box [pI p1]] (pB RES) [.box [pI p1]] []:=by
 unfold Adb at hm
 refine SO Tryz.func181 rfl rfl [(0,.p (.agg (Cs p0))),(1,rr 0)] [(0,bx [pI p1])] ?_
 intro cx hnt
 refine Sq (RD hnt (nn 2 []) [0] [(2,rr 1016)] [] [(1016,bx (pm (Cs p0)))] tv ?_)
 refine Sq (RK hnt (nn 5 []) [(3,pB (p0.group==p1))] [(0,bx [pI p1])] tv ?_)
 obtain rfl:=sj hm
 exact DW.ret (Aj [.box [pI p1]] [] (pB (p0.group==p1)))

theorem Ql (p0:List Ag) (p1c0:Int) (RES:Int) (hm:Gg p0 p1c0=some RES):Spec Tryz.prog 180 [.p (Au p0),.fn 181 [rr 0]] [.box [pI p1c0]] (pI RES) [.box [pI p1c0]] []:=by
 unfold Gg at hm
 refine SO Tryz.func180 rfl rfl [(0,.p (Au p0)),(1,.fn 181 [rr 0])] [(0,bx [pI p1c0])] ?_
 intro cx hnt
 refine Sq (RD hnt (.no :: []) [] [] [] [] tv ?_)
 refine Sq (Sq (RD hnt (nn 3 []) [] [(7,pI ((p0.length:Nat):Int)),(8,pI 0)] [] [] tv ?_))
 refine Bk ?_
 obtain ⟨hc1,hm⟩:=go1 hm
 refine DW.rangeO (fun (k1:Nat) (s1:Unit)=>Af [(0,.p (Au p0)),(1,.fn 181 [rr 0]),(7,pI ((p0.length:Nat):Int)),(8,pI ((k1:Nat):Int))] [(0,bx [pI p1c0])]) Bq hm Conv.eqK ?_
 intro k1 s1 n1 hk1 hs1 he1
 refine Sq (RD hnt (.no :: []) [] [(9,pB (decide (((k1:Nat):Int)<((p0.length:Nat):Int))))] [] [] tv ?_)
 refine Sq (Bu (decide (((k1:Nat):Int)<((p0.length:Nat):Int))) ?_ ?_)
 ·intro h9
  have hlt1:k1<p0.length:=by have:=of_decide_eq_true h9; omega
  have hm:=hs1 hlt1
  unfold Jk at hm
  refine Sk ?_
  refine Sq (Bk ?_)
  refine Sq (RD hnt (nn 2 []) [9] [(5,pI ((k1:Nat):Int))] [] [] tv ?_)
  obtain ⟨r10,hr10,hm⟩:=bo hm
  refine Sq (RD hnt (nn 5 (.call 181 [0] true (pB r10) [.box [pI p1c0]] [] [] :: [])) [] [(16,pB r10)] [] [] (an (nn0 k1) (an (ltc hlt1) (an (Ahj (p0.getD k1 Bq) p1c0 r10 hr10) (an tv tv)))) ?_)
  refine Ak hm ?_ ?_
  ·intro h11 hm
   refine Sq (RK hnt (nn 2 []) [(4,pI ((k1:Nat):Int))] [(0,bx [pI p1c0])] tv ?_)
   obtain rfl:=sj hm
   exact DW.ret (Aj [.box [pI p1c0]] [] (pI ((k1:Nat):Int)))
  ·intro h11 hm
   refine Sk ?_
   refine DW.done ?_
   show DW _ _ _ _ _
   refine RD hnt (nn 2 []) [5,16] [(8,pI (w64 (((k1:Nat):Int)+1)))] [] [] tv ?_
   exact jD () ⟨hlt1,hm⟩ (Conv.tp [(8,pI (w64 (((k1:Nat):Int)+1)))] [] (by kernel_rfl) (.cons rfl (.of_eq (congrArg pI (Bb hlt1 hc1))) .nil) .nil)
 ·intro h9
  have hge1:¬ k1<p0.length:=by have:=of_decide_eq_false h9; omega
  have hm:=he1 hge1
  unfold Jo at hm
  refine DW.exit ?_
  refine Ai ?_
  refine Ap ?_
  refine Ae ?_
  show DW _ _ _ _ _
  refine Sq (RK hnt (.no :: []) [(4,pI (-1))] [(0,bx [pI p1c0])] tv ?_)
  obtain rfl:=sj hm
  exact DW.ret (Aj [.box [pI p1c0]] [] (pI (-1)))

theorem AeI (p0:List Ag) (p1:Int) (RES:Int) (hm:Vu p0 p1=some RES):Spec Tryz.prog 107 [.p (Au p0),pI p1] [] (pI RES) [] []:=by
 unfold Vu at hm
 refine SO Tryz.func107 rfl rfl [(0,.p (Au p0)),(1,pI p1)] [] ?_
 intro cx hnt
 refine Sq (RD hnt (nn 2 []) [1] [(3,rr 1024)] [] [(1024,bx [pI p1])] tv ?_)
 obtain ⟨r1,hr1,hm⟩:=bo hm
 refine Sq (RK hnt (nn 2 (.call 180 [1024] true (pI r1) [.box [pI p1]] [] [] :: .no :: [])) [(4,pI r1)] [] (an (Ql p0 p1 r1 hr1) (an tv tv)) ?_)
 obtain rfl:=sj hm
 exact DW.ret (Aj [] [] (pI r1))
abbrev o119 (ks:List Nat) (b:Bool) (RES:Int) (sm:List Nat := []):Orc := .call 107 ks b (pI RES) [] [] sm

theorem AcB (p0:Ac) (p1:List Ag) (p2:Cf) (RES:List item) (hm:Xj p0 p1 p2=some RES):Spec Tryz.prog 105 [.p (.agg (Ab p0)),.p (Au p1),.p (.agg (Bd p2))] [] (ow 0 RES.length) [] [roitem RES]:=by
 unfold Xj at hm
 refine SO Tryz.func105 rfl rfl [(0,.p (.agg (Ab p0))),(1,.p (Au p1)),(2,.p (.agg (Bd p2)))] [] ?_
 intro cx hnt
 refine Sq (RD hnt (nn 3 []) [0,2] [(3,rr 1024),(5,rr 1040)] [] [(1024,bx (pm (Ab p0))),(1040,bx (pm (Bd p2)))] tv ?_)
 refine Sq (RD hnt (nn 4 []) [] [(7,pI (w64 (0-p2.id)))] [] [] tv ?_)
 refine Sq (RD hnt (.no :: []) [] [(8,.p (.sl .nil 0 0 (fun _ => [])))] [] [] tv ?_)
 obtain ⟨r1,hr1,hm⟩:=bo hm
 refine Sq (Sq (RD hnt (nn 4 (o53 [] true r1::nn 2 [])) [3,5] [(18,ow 1144 r1.length),(19,pI ((r1.length:Nat):Int)),(20,pI 0)] [1024,1040] [(1144,ob0 (roI r1))] (an (Hi p0.tree p2.group r1 hr1) tv) ?_))
 refine Bk ?_
 obtain ⟨hc1,hm⟩:=go1 hm
 refine DW.rangeO (fun (k1:Nat) (s1:(List item)×Int)=>Af [(1,.p (Au p1)),(7,pI s1.2),(8,ow 1248 s1.1.length),(18,ow 1144 r1.length),(19,pI ((r1.length:Nat):Int)),(20,pI ((k1:Nat):Int))] [(1144,ob0 (roI r1)),(1248,ob0 (roitem s1.1))]) 0 hm (Conv.ads [(.s 8,1248,2,elems encitem ditem [])]) ?_
 intro k1 s1 n1 hk1 hs1 he1
 refine Sq (RD hnt (.no :: []) [] [(21,pB (decide (((k1:Nat):Int)<((r1.length:Nat):Int))))] [] [] tv ?_)
 refine Sq (Bu (decide (((k1:Nat):Int)<((r1.length:Nat):Int))) ?_ ?_)
 ·intro h11
  have hlt1:k1<r1.length:=by have:=of_decide_eq_true h11; omega
  have hm:=hs1 hlt1
  unfold AeM at hm
  refine Sk ?_
  refine Sq (Bk ?_)
  refine Sq (RD hnt (nn 3 []) [21] [(10,pI (r1.getD k1 0))] [] [] (an (nn0 k1) (an (ltc hlt1) (an (by omega:k1<r1.length) tv))) ?_)
  obtain ⟨r12,hr12,hm⟩:=bo hm
  obtain ⟨g13,hm⟩:=go1 hm
  refine Sq (RN hnt (nn 3 (o119 [] true r12::nn 5 [])) [(1,.p (Au p1)),(8,ow 1248 (s1.1 ++ [({ branch:=r12,id:=s1.2 } : item)]).length),(10,pI (r1.getD k1 0)),(18,ow 1144 r1.length),(19,pI ((r1.length:Nat):Int)),(20,pI ((k1:Nat):Int))] [(1144,ob0 (roI r1)),(1248,ob0 (roitem (s1.1 ++ [({ branch:=r12,id:=s1.2 } : item)])))] [(8,ow 1248 (s1.1.length+1))] [(1248,.row 2 (s1.1.length+1) (Ck s1.1.length (elitem s1.1) (cut 2 [vi r12,vi s1.2])))] (an (AeI p1 (r1.getD k1 0) r12 hr12) (an (by omega:(s1.1.length+1)*16≤140737488355328) tv)) (by kernel_rfl) (.cons rfl (MLe.ownLen (enc:=encitem) (d:=ditem) (f:=(Ck s1.1.length (elitem s1.1) (cut 2 [vi r12,vi s1.2]))) (RowIs.cat RowIs.elems (RowIs.lit (enc:=encitem) (d:=ditem) (n:=1) (f:=(cut 2 [vi r12,vi s1.2])) [({ branch:=r12,id:=s1.2 } : item)] rfl (fun|0,_=>rfl|n+1,h=>absurd h (by omega))))) .nil) (.cons rfl (BLe.typed (RowIs.cat RowIs.elems (RowIs.lit (enc:=encitem) (d:=ditem) (n:=1) (f:=(cut 2 [vi r12,vi s1.2])) [({ branch:=r12,id:=s1.2 } : item)] rfl (fun|0,_=>rfl|n+1,h=>absurd h (by omega))))) .nil) ?_)
  refine RD hnt (nn 2 []) [10] [(7,pI (r1.getD k1 0))] [] [] tv ?_
  refine DW.done ?_
  show DW _ _ _ _ _
  refine RD hnt (nn 2 []) [] [(20,pI (w64 (((k1:Nat):Int)+1)))] [] [] tv ?_
  exact jD ((s1.1 ++ [({ branch:=r12,id:=s1.2 } : item)]),(r1.getD k1 0)) ⟨hlt1,hm⟩ (Conv.tp [(20,pI (w64 (((k1:Nat):Int)+1)))] [] (by kernel_rfl) (.cons rfl (.of_eq (congrArg pI (Bb hlt1 hc1))) .nil) .nil)
 ·intro h11
  have hge1:¬ k1<r1.length:=by have:=of_decide_eq_false h11; omega
  have hm:=he1 hge1
  unfold AeX at hm
  refine DW.exit ?_
  refine Ai ?_
  refine Ap ?_
  refine Ae ?_
  show DW _ _ _ _ _
  refine Sq (RK hnt (nn 2 []) [(6,ow 1248 s1.1.length)] [(1248,ob0 (roitem s1.1))] tv ?_)
  obtain rfl:=sj hm
  exact DW.ret (Aj [roitem s1.1] [1248] (ow 0 s1.1.length))
abbrev o118 (ks:List Nat) (b:Bool) (RES:List item) (sm:List Nat := []):Orc := .call 105 ks b (ow 0 RES.length) [] [roitem RES] sm

theorem AfZ (p0:List Ag) (p1:List item) (RES:Bool) (hm:Abc p0 p1=some RES):Spec Tryz.prog 106 [.p (Au p0),.p (slitem p1)] [] (pB RES) [] []:=by
 unfold Abc at hm
 refine SO Tryz.func106 rfl rfl [(0,.p (Au p0)),(1,.p (slitem p1))] [] ?_
 intro cx hnt
 refine Sq (RD hnt (.no :: []) [] [] [] [] tv ?_)
 refine Sq (Sq (RD hnt (nn 3 []) [1] [(9,.p (slitem p1)),(10,pI ((p1.length:Nat):Int)),(11,pI 0)] [] [] tv ?_))
 refine Bk ?_
 obtain ⟨hc1,hm⟩:=go1 hm
 refine DW.rangeO (fun (k1:Nat) (s1:Unit)=>Af [(0,.p (Au p0)),(9,.p (slitem p1)),(10,pI ((p1.length:Nat):Int)),(11,pI ((k1:Nat):Int))] []) ditem hm Conv.eqK ?_
 intro k1 s1 n1 hk1 hs1 he1
 refine Sq (RD hnt (.no :: []) [] [(12,pB (decide (((k1:Nat):Int)<((p1.length:Nat):Int))))] [] [] tv ?_)
 refine Sq (Bu (decide (((k1:Nat):Int)<((p1.length:Nat):Int))) ?_ ?_)
 ·intro h11
  have hlt1:k1<p1.length:=by have:=of_decide_eq_true h11; omega
  have hm:=hs1 hlt1
  unfold AcL at hm
  refine Sk ?_
  refine Sq (Bk ?_)
  refine Sq (RD hnt (nn 4 []) [12] [(6,rr 1048)] [] [(1048,bx (pm (encitem (p1.getD k1 ditem))))] (an (nn0 k1) (an (ltc hlt1) tv)) ?_)
  obtain ⟨g12,hm⟩:=go1 hm
  obtain ⟨r13,hr13,hm⟩:=bo hm
  refine Sq (RD hnt (nn 8 (o85 [] true r13::nn 6 [])) [6] [(7,rr 1056)] [1048] [(1056,bx (pm (Bc r13.1)))] (an g12.1 (an g12.2 (an (Td (p0.getD (Int.toNat (p1.getD k1 ditem).branch) Bq).queue (p1.getD k1 ditem).id r13 hr13) tv))) ?_)
  refine Sq (RD hnt (nn 3 []) [7] [(29,pB (!r13.1.active))] [1056] [] tv ?_)
  refine Ak hm ?_ ?_
  ·intro h14 hm
   refine Sq (RK hnt (.no :: []) [(4,pB false)] [] tv ?_)
   obtain rfl:=sj hm
   exact DW.ret (Aj [] [] (pB false))
  ·intro h14 hm
   refine Sk ?_
   refine DW.done ?_
   show DW _ _ _ _ _
   refine RD hnt (nn 2 []) [29] [(11,pI (w64 (((k1:Nat):Int)+1)))] [] [] tv ?_
   exact jD () ⟨hlt1,hm⟩ (Conv.tp [(11,pI (w64 (((k1:Nat):Int)+1)))] [] (by kernel_rfl) (.cons rfl (.of_eq (congrArg pI (Bb hlt1 hc1))) .nil) .nil)
 ·intro h11
  have hge1:¬ k1<p1.length:=by have:=of_decide_eq_false h11; omega
  have hm:=he1 hge1
  unfold AcI at hm
  refine DW.exit ?_
  refine Ai ?_
  refine Ap ?_
  refine Ae ?_
  show DW _ _ _ _ _
  refine Sq (RK hnt (.no :: []) [(4,pB true)] [] tv ?_)
  obtain rfl:=sj hm
  exact DW.ret (Aj [] [] (pB true))
abbrev o122 (ks:List Nat) (b:Bool) (RES:Bool) (sm:List Nat := []):Orc := .call 106 ks b (pB RES) [] [] sm

theorem Afi (p0:Ah) (p1:List Int) (RES:Int×Bool) (hm:Cp p0 p1=some RES):Spec Tryz.prog 108 [.p (.agg (Al p0)),.p (slI p1)] [] (.p (.tup [vi RES.1,vb RES.2])) [] []:=by
 unfold Cp at hm
 refine SO Tryz.func108 rfl rfl [(0,.p (.agg (Al p0))),(1,.p (slI p1))] [] ?_
 intro cx hnt
 refine Sq (RD hnt (nn 3 []) [0] [(2,rr 1016)] [] [(1016,bx (pm (Al p0)))] tv ?_)
 obtain ⟨r1,hr1,hm⟩:=bo hm
 refine Sq (Sq (RD hnt (.no::o80 [] true r1 :: .no :: []) [] [(11,pB (!r1))] [] [] (an (Hx p0 r1 hr1) tv) ?_))
 refine Ak hm ?_ ?_
 ·intro h2 hm
  refine Sq (RK hnt (nn 2 []) [(4,pI 0),(5,pB false)] [] tv ?_)
  obtain rfl:=sj hm
  exact DW.ret (Aj [] [] (.p (.tup [vi 0,vb false])))
 ·intro h2 hm
  refine Sk ?_
  refine Sq (RD hnt (.no :: []) [11] [(6,pI (-1))] [] [] tv ?_)
  refine Sq (Sq (RD hnt (nn 4 []) [] [(13,.p (Bf p0.items)),(14,pI ((p0.items.length:Nat):Int)),(15,pI 0)] [] [] tv ?_))
  refine Bk ?_
  obtain ⟨hc1,hm⟩:=go1 hm
  refine DW.rangeO (fun (k1:Nat) (s1:Int)=>Af [(1,.p (slI p1)),(2,rr 1016),(6,pI s1),(13,.p (Bf p0.items)),(14,pI ((p0.items.length:Nat):Int)),(15,pI ((k1:Nat):Int))] [(1016,bx (pm (Al p0)))]) An hm Conv.eqK ?_
  intro k1 s1 n1 hk1 hs1 he1
  refine Sq (RD hnt (.no :: []) [] [(16,pB (decide (((k1:Nat):Int)<((p0.items.length:Nat):Int))))] [] [] tv ?_)
  refine Sq (Bu (decide (((k1:Nat):Int)<((p0.items.length:Nat):Int))) ?_ ?_)
  ·intro h23
   have hlt1:k1<p0.items.length:=by have:=of_decide_eq_true h23; omega
   have hm:=hs1 hlt1
   unfold Vk at hm
   refine Sk ?_
   refine Sq ?_
   refine Jn (ι:=Int) (fun (y5:Int)=>Af [(1,.p (slI p1)),(2,rr 1016),(6,pI y5),(13,.p (Bf p0.items)),(14,pI ((p0.items.length:Nat):Int)),(15,pI ((k1:Nat):Int))] [(1016,bx (pm (Al p0)))]) (fun y5=>(La n1) y5=some RES) ?_ ?_
   ·intro y5 hm
    unfold La at hm
    refine RD hnt (nn 2 []) [] [(15,pI (w64 (((k1:Nat):Int)+1)))] [] [] tv ?_
    exact jD y5 ⟨hlt1,hm⟩ (Conv.tp [(15,pI (w64 (((k1:Nat):Int)+1)))] [] (by kernel_rfl) (.cons rfl (.of_eq (congrArg pI (Bb hlt1 hc1))) .nil) .nil)
   ·refine Bk ?_
    refine Sq (RD hnt (nn 6 []) [16] [(7,pI ((k1:Nat):Int)),(8,rr 1064)] [] [(1064,bx (pm (Bc (p0.items.getD k1 An))))] (an (nn0 k1) (an (ltc hlt1) tv)) ?_)
    refine Sq ?_
    refine Jn (ι:=Bool) (fun (y6:Bool)=>Af [(1,.p (slI p1)),(2,rr 1016),(6,pI s1),(7,pI ((k1:Nat):Int)),(13,.p (Bf p0.items)),(14,pI ((p0.items.length:Nat):Int)),(15,pI ((k1:Nat):Int)),(42,pB y6)] [(1016,bx (pm (Al p0)))]) (fun y6=>(Fp k1 s1 n1) y6=some RES) ?_ ?_
    ·intro y6 hm
     unfold Fp at hm
     refine Ak hm ?_ ?_
     ·intro h29 hm
      refine RD hnt (nn 2 []) [7,42] [(6,pI ((k1:Nat):Int))] [] [] tv ?_
      exact bD ((k1:Nat):Int) hm Conv.eqK
     ·intro h29 hm
      refine Sk ?_
      exact bD s1 hm Conv.t0
    ·rcases bt (p0.items.getD k1 An).active with h24|h24
     ·replace hm:=Bt h24 hm
      obtain ⟨r25,hr25,hm⟩:=bo hm
      rcases bt r25 with h26|h26
      ·replace hm:=Bt h26 hm
       rcases bt (decide (s1<0)) with h27|h27
       ·replace hm:=Bt h27 hm
        refine RD hnt (nn 6 (o77 [] true r25::pT::nn 4 (sk 9 (pT::pT :: [])))) [8] [(42,pB true)] [1064] [] (an4 h24 (an (Cu p1 (p0.items.getD k1 An).id r25 hr25) (an h24 (an3 h26 (an3 h27 (an6 h27 (an h26 (an h27 (an h26 tv))))))))) ?_
        exact jD true hm Conv.eqK
       ·replace hm:=Bs h27 hm
        obtain ⟨g28,hm⟩:=go1 hm
        refine RD hnt (nn 6 (o77 [] true r25::pT::nn 13 (pF::pT :: []))) [8] [(42,pB (decide ((p0.items.getD k1 An).v<(p0.items.getD (Int.toNat s1) An).v)))] [1064] [] (an4 h24 (an (Cu p1 (p0.items.getD k1 An).id r25 hr25) (an h24 (an3 h26 (an6 h27 (an g28.1 (an g28.2 (an3 h27 (an h26 (an h27 (an h26 tv))))))))))) ?_
        exact jD (decide ((p0.items.getD k1 An).v<(p0.items.getD (Int.toNat s1) An).v)) hm Conv.eqK
      ·replace hm:=Bs h26 hm
       refine RD hnt (nn 6 (o77 [] true r25::pT :: .no::sk 13 (pF :: []))) [8] [(42,pB false)] [1064] [] (an4 h24 (an (Cu p1 (p0.items.getD k1 An).id r25 hr25) (an h24 (an5 h26 tv)))) ?_
       exact jD false hm Conv.eqK
     ·replace hm:=Bs h24 hm
      refine RD hnt (nn 3 (sk 4 (pF :: .no::sk 13 (pF :: [])))) [8] [(42,pB false)] [1064] [] (an5 h24 (an5 ff tv)) ?_
      exact jD false hm Conv.eqK
  ·intro h23
   have hge1:¬ k1<p0.items.length:=by have:=of_decide_eq_false h23; omega
   have hm:=he1 hge1
   unfold Vq at hm
   refine DW.exit ?_
   refine Ai ?_
   refine Ap ?_
   refine Ae ?_
   show DW _ _ _ _ _
   refine Sq (Sq (RD hnt (nn 2 []) [1,13,14,15,16] [(46,pB (decide (s1<0)))] [] [] tv ?_))
   refine Ak hm ?_ ?_
   ·intro h30 hm
    refine Sq (RK hnt (nn 2 []) [(4,pI 0),(5,pB false)] [] tv ?_)
    obtain rfl:=sj hm
    exact DW.ret (Aj [] [] (.p (.tup [vi 0,vb false])))
   ·intro h30 hm
    refine Sk ?_
    obtain ⟨g31,hm⟩:=go1 hm
    refine Sq (RK hnt (nn 8 []) [(4,pI (p0.items.getD (Int.toNat s1) An).id),(5,pB true)] [] (an g31.1 (an g31.2 tv)) ?_)
    obtain rfl:=sj hm
    exact DW.ret (Aj [] [] (.p (.tup [vi (p0.items.getD (Int.toNat s1) An).id,vb true])))
abbrev o123 (ks:List Nat) (b:Bool) (RES:Int×Bool) (sm:List Nat := []):Orc := .call 108 ks b (.p (.tup [vi RES.1,vb RES.2])) [] [] sm

abbrev El (p1:List Ag) (r183:Int):=(p1.getD (Int.toNat r183) Bq)
abbrev AcX (s1:PMap Bool):Nat×Obj:=(1160,ob0 (pmOf vb (vb false) s1))
abbrev Adw (p0:Ac):Nat×Obj:=(1024,bx (pm (Ab p0)))
theorem AfI (p0:Ac) (p1:List Ag) (p2:List Int) (RES:Int×Bool) (hm:Cz p0 p1 p2=some RES):Spec Tryz.prog 40 [.p (.agg (Ab p0)),.p (Au p1),.p (slI p2)] [] (.p (.tup [vi RES.1,vb RES.2])) [] []:=by
 unfold Cz at hm
 refine SO Tryz.func40 rfl rfl [(0,.p (.agg (Ab p0))),(1,.p (Au p1)),(2,.p (slI p2))] [] ?_
 intro cx hnt
 refine Sq (RD hnt (nn 3 []) [0] [(3,rr 1024)] [] [(Adw p0)] tv ?_)
 refine Sq (RD hnt (nn 2 []) [] [(8,.mref 1160 0)] [] [(1160,ob0 (pmOf vb (vb false) (PMap.empty false)))] tv ?_)
 refine Sq (Sq (RD hnt (nn 4 []) [] [(22,.p (Dn p0.tasks)),(23,pI ((p0.tasks.length:Nat):Int)),(24,pI 0)] [] [] tv ?_))
 refine Bk ?_
 obtain ⟨hc1,hm⟩:=go1 hm
 refine DW.rangeO (fun (k1:Nat) (s1:PMap Bool)=>Af [(1,.p (Au p1)),(2,.p (slI p2)),(3,rr 1024),(8,.mref 1160 0),(22,.p (Dn p0.tasks)),(23,pI ((p0.tasks.length:Nat):Int)),(24,pI ((k1:Nat):Int))] [(Adw p0),(AcX s1)]) Bo hm Conv.eqK ?_
 intro k1 s1 n1 hk1 hs1 he1
 refine Sq (RD hnt (.no :: []) [] [(25,pB (decide (((k1:Nat):Int)<((p0.tasks.length:Nat):Int))))] [] [] tv ?_)
 refine Sq (Bu (decide (((k1:Nat):Int)<((p0.tasks.length:Nat):Int))) ?_ ?_)
 ·intro h139
  have hlt1:k1<p0.tasks.length:=by have:=of_decide_eq_true h139; omega
  have hm:=hs1 hlt1
  unfold Xr at hm
  refine Sk ?_
  refine Sq ?_
  refine Jn (ι:=PMap Bool) (fun (y15:PMap Bool)=>Af [(1,.p (Au p1)),(2,.p (slI p2)),(3,rr 1024),(8,.mref 1160 0),(22,.p (Dn p0.tasks)),(23,pI ((p0.tasks.length:Nat):Int)),(24,pI ((k1:Nat):Int))] [(Adw p0),(1160,ob0 (pmOf vb (vb false) y15))]) (fun y15=>(Nn n1) y15=some RES) ?_ ?_
  ·intro y15 hm
   unfold Nn at hm
   refine RD hnt (nn 2 []) [] [(24,pI (w64 (((k1:Nat):Int)+1)))] [] [] tv ?_
   exact jD y15 ⟨hlt1,hm⟩ (Conv.tp [(24,pI (w64 (((k1:Nat):Int)+1)))] [] (by kernel_rfl) (.cons rfl (.of_eq (congrArg pI (Bb hlt1 hc1))) .nil) .nil)
  ·refine Bk ?_
   refine Sq (RD hnt (nn 4 []) [25] [(10,rr 1080)] [] [(1080,bx (pm (Bd (p0.tasks.getD k1 Bo))))] (an (nn0 k1) (an (ltc hlt1) tv)) ?_)
   obtain ⟨r140,hr140,hm⟩:=bo hm
   refine Sq (Sq (RD hnt (nn 3 (o77 [] true r140 :: .no :: [])) [] [(32,pB (!r140))] [] [] (an (Cu p2 (p0.tasks.getD k1 Bo).id r140 hr140) tv) ?_))
   refine Ak hm ?_ ?_
   ·intro h141 hm
    refine DW.exit ?_
    exact Ae (Tz s1 hm Conv.t0)
   ·intro h141 hm
    refine Sk ?_
    obtain ⟨r142,hr142,hm⟩:=bo hm
    refine Sq (RD hnt (nn 3 (o118 [] true r142 :: .no :: [])) [10,32] [(11,ow 1288 r142.length)] [1080] [(1288,ob0 (roitem r142))] (an (AcB p0 p1 (p0.tasks.getD k1 Bo) r142 hr142) tv) ?_)
    refine Sq (RD hnt (nn 3 []) [] [(38,pI ((r142.length:Nat):Int)),(39,pI 0)] [] [] tv ?_)
    refine Bk ?_
    obtain ⟨hc10,hm⟩:=go1 hm
    refine DW.rangeO (fun (k10:Nat) (s10:PMap Bool)=>Af [(1,.p (Au p1)),(2,.p (slI p2)),(3,rr 1024),(8,.mref 1160 0),(11,ow 1288 r142.length),(22,.p (Dn p0.tasks)),(23,pI ((p0.tasks.length:Nat):Int)),(24,pI ((k1:Nat):Int)),(38,pI ((r142.length:Nat):Int)),(39,pI ((k10:Nat):Int))] [(Adw p0),(1160,ob0 (pmOf vb (vb false) s10)),(1288,ob0 (roitem r142))]) ditem hm Conv.eqK ?_
    intro k10 s10 n10 hk10 hs10 he10
    refine Sq (RD hnt (.no :: []) [] [(40,pB (decide (((k10:Nat):Int)<((r142.length:Nat):Int))))] [] [] tv ?_)
    refine Sq (Bu (decide (((k10:Nat):Int)<((r142.length:Nat):Int))) ?_ ?_)
    ·intro h155
     have hlt10:k10<r142.length:=by have:=of_decide_eq_true h155; omega
     have hm:=hs10 hlt10
     unfold AbJ at hm
     refine Sk ?_
     refine Sq (Bk ?_)
     refine Sq (RD hnt (nn 2 []) [40] [(12,pI ((k10:Nat):Int))] [] [] tv ?_)
     obtain ⟨g156,hm⟩:=go1 hm
     obtain ⟨r157,hr157,hm⟩:=bo hm
     refine Sq (Sq (RD hnt (nn 5 (o122 [] true r157 :: .no :: [])) [] [(48,pB (!r157))] [] [] (an (by omega:(0:Int)≤0) (an (by omega:(0:Int)≤(w64 (((k10:Nat):Int)+1))) (an (by omega:(w64 (((k10:Nat):Int)+1))≤((r142.length:Nat):Int)) (an (Spec.args (xs := [.p (Au p1),.p (.sl .unk 2 (Int.toNat (w64 (((k10:Nat):Int)+1))) (elitem r142))]) (AfZ p1 (r142.take (Int.toNat (w64 (((k10:Nat):Int)+1)))) r157 hr157) (.cons .rfl (.cons (.p (PLe.typed (RowIs.take RowIs.elems (by first|omega|(simp only [Aby,Zc] at *; omega))))) .nil))) tv)))) ?_))
     refine Ak hm ?_ ?_
     ·intro h158 hm
      refine DW.exit ?_
      refine Gh (by decide) ?_
      refine Ap ?_
      refine Ai ?_
      refine Ap ?_
      refine Ae ?_
      show DW _ _ _ _ _
      exact bD s10 hm Conv.t0
     ·intro h158 hm
      refine Sk ?_
      refine RN hnt (nn 6 []) [(1,.p (Au p1)),(2,.p (slI p2)),(3,rr 1024),(8,.mref 1160 0),(11,ow 1288 r142.length),(22,.p (Dn p0.tasks)),(23,pI ((p0.tasks.length:Nat):Int)),(24,pI ((k1:Nat):Int)),(38,pI ((r142.length:Nat):Int)),(39,pI ((k10:Nat):Int))] [(Adw p0),(1160,ob0 (pmOf vb (vb false) (s10.set (r142.getD k10 ditem).branch (r142.getD k10 ditem).id true))),(1288,ob0 (roitem r142))] [] [(1160,.mq (.pm (vb false) (Ja s10.has (r142.getD k10 ditem).branch (r142.getD k10 ditem).id true) (Ja (fun i j=>vb (s10.get i j)) (r142.getD k10 ditem).branch (r142.getD k10 ditem).id (vb true))))] (an (nn0 k10) (an (ltc hlt10) (an (by omega:k10<r142.length) tv))) (by kernel_rfl) .nil (.cons rfl (pm_set true rfl) .nil) ?_
      refine DW.done ?_
      show DW _ _ _ _ _
      refine RD hnt (nn 2 []) [] [(39,pI (w64 (((k10:Nat):Int)+1)))] [] [] tv ?_
      exact jD (s10.set (r142.getD k10 ditem).branch (r142.getD k10 ditem).id true) ⟨hlt10,hm⟩ (Conv.tp [(39,pI (w64 (((k10:Nat):Int)+1)))] [] (by kernel_rfl) (.cons rfl (.of_eq (congrArg pI (Bb hlt10 hc10))) .nil) .nil)
    ·intro h155
     have hge10:¬ k10<r142.length:=by have:=of_decide_eq_false h155; omega
     have hm:=he10 hge10
     unfold AbH at hm
     refine DW.exit ?_
     refine Ai ?_
     refine Ap ?_
     refine Ae ?_
     show DW _ _ _ _ _
     exact bD s10 hm Conv.t0
 ·intro h139
  have hge1:¬ k1<p0.tasks.length:=by have:=of_decide_eq_false h139; omega
  have hm:=he1 hge1
  unfold Pl at hm
  refine DW.exit ?_
  refine Ai ?_
  refine Ap ?_
  refine Ae ?_
  show DW _ _ _ _ _
  refine Sq (RD hnt (.no :: []) [2,3,22,23,24,25] [(13,pI 1)] [1024] [] tv ?_)
  refine Bk ?_
  refine DW.whileO (fun (s11:Int)=>Af [(1,.p (Au p1)),(8,.mref 1160 0),(13,pI s11)] [(AcX s1)]) hm Conv.eqK ?_
  intro s11 n11 hm
  unfold Se at hm
  refine Bk ?_
  obtain ⟨r183,hr183,hm⟩:=bo hm
  refine Sq (RD hnt (nn 2 (o119 [] true r183 :: .no :: [])) [13] [(14,pI r183)] [] [] (an (AeI p1 s11 r183 hr183) tv) ?_)
  refine Sq (RD hnt (.no :: []) [] [(15,.p (.sl .nil 0 0 (fun _ => [])))] [] [] tv ?_)
  obtain ⟨g184,hm⟩:=go1 hm
  refine Sq (Sq (RD hnt (nn 8 []) [] [(64,.p (Bf (El p1 r183).queue.items)),(65,pI (((El p1 r183).queue.items.length:Nat):Int)),(66,pI 0)] [] [] (an g184.1 (an g184.2 tv)) ?_))
  refine Bk ?_
  obtain ⟨hc13,hm⟩:=go1 hm
  refine DW.rangeO (fun (k13:Nat) (s13:List Int)=>Af [(1,.p (Au p1)),(8,.mref 1160 0),(14,pI r183),(15,ow 1640 s13.length),(64,.p (Bf (El p1 r183).queue.items)),(65,pI (((El p1 r183).queue.items.length:Nat):Int)),(66,pI ((k13:Nat):Int))] [(AcX s1),(1640,ob0 (roI s13))]) An hm (Conv.ads [(.s 15,1640,1,elems Bm 0 [])]) ?_
  intro k13 s13 n13 hk13 hs13 he13
  refine Sq (RD hnt (.no :: []) [] [(67,pB (decide (((k13:Nat):Int)<(((El p1 r183).queue.items.length:Nat):Int))))] [] [] tv ?_)
  refine Sq (Bu (decide (((k13:Nat):Int)<(((El p1 r183).queue.items.length:Nat):Int))) ?_ ?_)
  ·intro h200
   have hlt13:k13<(El p1 r183).queue.items.length:=by have:=of_decide_eq_true h200; omega
   have hm:=hs13 hlt13
   unfold Nq at hm
   refine Sk ?_
   refine Sq ?_
   refine Jn (ι:=List Int) (fun (y21:List Int)=>Af [(1,.p (Au p1)),(8,.mref 1160 0),(14,pI r183),(15,ow 1640 y21.length),(64,.p (Bf (El p1 r183).queue.items)),(65,pI (((El p1 r183).queue.items.length:Nat):Int)),(66,pI ((k13:Nat):Int))] [(AcX s1),(1640,ob0 (roI y21))]) (fun y21=>(Sf n13) y21=some RES) ?_ ?_
   ·intro y21 hm
    unfold Sf at hm
    refine RD hnt (nn 2 []) [] [(66,pI (w64 (((k13:Nat):Int)+1)))] [] [] tv ?_
    exact jD y21 ⟨hlt13,hm⟩ (Conv.tp [(66,pI (w64 (((k13:Nat):Int)+1)))] [] (by kernel_rfl) (.cons rfl (.of_eq (congrArg pI (Bb hlt13 hc13))) .nil) .nil)
   ·refine Bk ?_
    refine Sq (RD hnt (nn 4 []) [67] [(17,rr 1136)] [] [(1136,bx (pm (Bc ((El p1 r183).queue.items.getD k13 An))))] (an (nn0 k13) (an (ltc hlt13) tv)) ?_)
    refine Sq (RD hnt (nn 6 []) [] [(75,pB (s1.get r183 ((El p1 r183).queue.items.getD k13 An).id))] [] [] (an (PLe.rfl:PLe (vb false) (vb false)) tv) ?_)
    refine Ak hm ?_ ?_
    ·intro h201 hm
     obtain ⟨g202,hm⟩:=go1 hm
     refine RN hnt (nn 6 []) [(1,.p (Au p1)),(8,.mref 1160 0),(14,pI r183),(15,ow 1640 (s13 ++ [((El p1 r183).queue.items.getD k13 An).id]).length),(64,.p (Bf (El p1 r183).queue.items)),(65,pI (((El p1 r183).queue.items.length:Nat):Int)),(66,pI ((k13:Nat):Int))] [(AcX s1),(1640,ob0 (roI (s13 ++ [((El p1 r183).queue.items.getD k13 An).id])))] [(15,ow 1640 (s13.length+1))] [(1640,.row 1 (s13.length+1) (Ck s13.length (elI s13) (cut 1 [vi ((El p1 r183).queue.items.getD k13 An).id])))] (an (by omega:(s13.length+1)*8≤140737488355328) tv) (by kernel_rfl) (.cons rfl (MLe.ownLen (enc:=Bm) (d:=0) (f:=(Ck s13.length (elI s13) (cut 1 [vi ((El p1 r183).queue.items.getD k13 An).id]))) (RowIs.cat RowIs.elems (RowIs.lit (enc:=Bm) (d:=0) (n:=1) (f:=(cut 1 [vi ((El p1 r183).queue.items.getD k13 An).id])) [((El p1 r183).queue.items.getD k13 An).id] rfl (fun|0,_=>rfl|n+1,h=>absurd h (by omega))))) .nil) (.cons rfl (BLe.typed (RowIs.cat RowIs.elems (RowIs.lit (enc:=Bm) (d:=0) (n:=1) (f:=(cut 1 [vi ((El p1 r183).queue.items.getD k13 An).id])) [((El p1 r183).queue.items.getD k13 An).id] rfl (fun|0,_=>rfl|n+1,h=>absurd h (by omega))))) .nil) ?_
     exact bD (s13 ++ [((El p1 r183).queue.items.getD k13 An).id]) hm .refl
    ·intro h201 hm
     refine Sk ?_
     exact bD s13 hm Conv.t0
  ·intro h200
   have hge13:¬ k13<(El p1 r183).queue.items.length:=by have:=of_decide_eq_false h200; omega
   have hm:=he13 hge13
   unfold Fi at hm
   refine DW.exit ?_
   refine Ai ?_
   refine Ap ?_
   refine Ae ?_
   show DW _ _ _ _ _
   obtain ⟨g203,hm⟩:=go1 hm
   obtain ⟨r204,hr204,hm⟩:=bo hm
   refine Sq (RD hnt (nn 6 (o123 [] true r204::nn 5 [])) [14,15,64,65,66,67] [(18,pI r204.1),(19,pB r204.2)] [1640] [] (an g203.1 (an g203.2 (an (Afi (El p1 r183).queue s13 r204 hr204) tv))) ?_)
   refine Sq (Sq (RD hnt (nn 2 []) [19] [(93,pB (!r204.2))] [] [] tv ?_))
   refine Ak hm ?_ ?_
   ·intro h205 hm
    refine Sq (RK hnt (nn 2 []) [(6,pI 0),(7,pB false)] [] tv ?_)
    obtain rfl:=sj hm
    exact DW.ret (Aj [] [] (.p (.tup [vi 0,vb false])))
   ·intro h205 hm
    refine Sk ?_
    refine Sq (Sq (RD hnt (nn 2 []) [93] [(95,pB (decide (r204.1<0)))] [] [] tv ?_))
    refine Ak hm ?_ ?_
    ·intro h206 hm
     refine Sq (RK hnt (nn 4 []) [(6,pI (w64 (0-r204.1))),(7,pB true)] [] tv ?_)
     obtain rfl:=sj hm
     exact DW.ret (Aj [] [] (.p (.tup [vi (w64 (0-r204.1)),vb true])))
    ·intro h206 hm
     refine Sk ?_
     refine RD hnt (nn 2 []) [18,95] [(13,pI r204.1)] [] [] tv ?_
     refine DW.done ?_
     show DW _ _ _ _ _
     exact jD r204.1 hm Conv.eqK
abbrev o117 (ks:List Nat) (b:Bool) (RES:Int×Bool) (sm:List Nat := []):Orc := .call 40 ks b (.p (.tup [vi RES.1,vb RES.2])) [] [] sm

abbrev AbF (s1:List Aa) (p1:Int) (r45:Int):=({ id:=(s1.getD (Int.toNat p1) An).id,weight:=(s1.getD (Int.toNat p1) An).weight,v:=(w64 ((s1.getD (Int.toNat p1) An).v+r45)),active:=(s1.getD (Int.toNat p1) An).active } : Aa)
abbrev Aee (s1:List Aa) (k1:Int) (p1:Int):=({ id:=(s1.getD (Int.toNat k1) An).id,weight:=(s1.getD (Int.toNat k1) An).weight,v:=(Fd (s1.getD (Int.toNat k1) An).v (s1.getD (Int.toNat p1) An).v),active:=(s1.getD (Int.toNat k1) An).active } : Aa)
abbrev c128e3 (s1:List Aa) (k1:Int) (p1:Int):=(Az (Hk s1) (Int.toNat k1) [vi (s1.getD (Int.toNat k1) An).id,vi (s1.getD (Int.toNat k1) An).weight,vi (Fd (s1.getD (Int.toNat k1) An).v (s1.getD (Int.toNat p1) An).v),vb (s1.getD (Int.toNat k1) An).active])
abbrev c128e4 (s1:List Aa) (p1:Int) (r45:Int):=(Az (Hk s1) (Int.toNat p1) [vi (s1.getD (Int.toNat p1) An).id,vi (s1.getD (Int.toNat p1) An).weight,vi (w64 ((s1.getD (Int.toNat p1) An).v+r45)),vb (s1.getD (Int.toNat p1) An).active])
theorem AbV (p0:Ah) (p1:Int) (RES:Int×Ah) (hm:Lh p0 p1=some RES):Spec Tryz.prog 182 [rr 0,pI p1] [.box [pI p0.clock,ow 1 p0.items.length],Ar p0.items] (pI RES.1) [.box [pI RES.2.clock,ow 1 RES.2.items.length],Ar RES.2.items] []:=by
 unfold Lh at hm
 refine SO Tryz.func182 rfl rfl [(0,rr 0),(1,pI p1)] [(0,bx [pI p0.clock,ow 1 p0.items.length]),(1,ob0 (Ar p0.items))] ?_
 intro cx hnt
 refine Sq (RD hnt (.no :: []) [] [] [] [] tv ?_)
 obtain ⟨g1,hm⟩:=go1 hm
 refine Sq (RD hnt (nn 7 []) [1] [(5,.eref 1 0 (Int.toNat p1) 0)] [] [] (an g1.1 (an g1.2 tv)) ?_)
 refine Sq (Bk ?_)
 obtain ⟨g2,hm⟩:=go1 hm
 refine Sq (RD hnt (nn 6 []) [] [(13,pB (!(p0.items.getD (Int.toNat p1) An).active))] [] [] (an g2 tv) ?_)
 refine Ak hm ?_ ?_
 ·intro h3 hm
  refine Sq (RD hnt (.no :: []) [0,5,13] [(4,pI 9)] [] [] tv ?_)
  obtain rfl:=sj hm
  exact DW.ret (Aj [.box [pI p0.clock,ow 1 p0.items.length],Ar p0.items] [] (pI 9))
 ·intro h3 hm
  obtain ⟨g4,g5,hm⟩:=go2 hm
  obtain ⟨r6,hr6,hm⟩:=bo hm
  refine Sq (RD hnt (nn 8 (o73 [] true r6::nn 3 [])) [13] [(19,pB (decide ((w64 ((p0.items.getD (Int.toNat p1) An).v+r6))>1152921504606846976)))] [] [] (an g4 (an g5 (an (Ip (p0.items.getD (Int.toNat p1) An).weight r6 hr6) tv))) ?_)
  refine Ak hm ?_ ?_
  ·intro h7 hm
   refine Sq (RD hnt (.no :: []) [0,5,19] [(4,pI 7)] [] [] tv ?_)
   obtain rfl:=sj hm
   exact DW.ret (Aj [.box [pI p0.clock,ow 1 p0.items.length],Ar p0.items] [] (pI 7))
  ·intro h7 hm
   refine Sk ?_
   refine DW.done ?_
   show DW _ _ _ _ _
   refine Sq (Sq (RD hnt (nn 6 []) [19] [(35,pI ((p0.items.length:Nat):Int)),(36,pI 0)] [] [] tv ?_))
   refine Bk ?_
   obtain ⟨hc1,hm⟩:=go1 hm
   refine DW.forO (fun (k1:Int) (s1:List Aa)=>Af [(0,rr 0),(5,.eref 1 0 (Int.toNat p1) 0),(35,pI ((p0.items.length:Nat):Int)),(36,pI k1)] [(0,bx [pI p0.clock,ow 1 s1.length]),(1,ob0 (Ar s1))]) (lo:=0) (hi:=((p0.items.length:Nat):Int)) hm Conv.eqK ?_
   intro k1 s1 n1 hk1 hs1 he1
   refine Sq (RD hnt (.no :: []) [] [(37,pB (decide (k1<((p0.items.length:Nat):Int))))] [] [] tv ?_)
   refine Sq (Bu (decide (k1<((p0.items.length:Nat):Int))) ?_ ?_)
   ·intro h34
    have hlt1:k1<((p0.items.length:Nat):Int):=by have:=of_decide_eq_true h34; omega
    have hm:=hs1 hlt1
    unfold Ra at hm
    refine Sk ?_
    refine Sq ?_
    refine Jn (ι:=List Aa) (fun (y3:List Aa)=>Af [(0,rr 0),(5,.eref 1 0 (Int.toNat p1) 0),(35,pI ((p0.items.length:Nat):Int)),(36,pI k1)] [(0,bx [pI p0.clock,ow 1 y3.length]),(1,ob0 (Ar y3))]) (fun y3=>(Iz n1) y3=some RES) ?_ ?_
    ·intro y3 hm
     unfold Iz at hm
     refine RD hnt (nn 2 []) [] [(36,pI (w64 (k1+1)))] [] [] tv ?_
     exact jD y3 ⟨hlt1,hm⟩ (Conv.tp [(36,pI (w64 (k1+1)))] [] (by kernel_rfl) (.cons rfl (.of_eq (congrArg pI (Pr (lo:=0) (hi:=((p0.items.length:Nat):Int)) (by omega) hk1 hlt1 (by omega)))) .nil) .nil)
    ·refine Bk ?_
     refine Sq (RD hnt (nn 2 []) [37] [(6,pI k1)] [] [] tv ?_)
     obtain ⟨g35,g36,hm⟩:=go2 hm
     refine Sq (RD hnt (nn 8 []) [] [(46,pB (s1.getD (Int.toNat k1) An).active)] [] [] (an g35.1 (an g35.2 (an g36 tv))) ?_)
     refine Ak hm ?_ ?_
     ·intro h37 hm
      obtain ⟨g38,g39,g40,g41,hm⟩:=go4 hm
      obtain ⟨g42,hm⟩:=go1 hm
      refine RN hnt (nn 21 []) [(0,rr 0),(5,.eref 1 0 (Int.toNat p1) 0),(35,pI ((p0.items.length:Nat):Int)),(36,pI k1)] [(0,bx [pI p0.clock,ow 1 (s1.set (Int.toNat k1) (Aee s1 k1 p1)).length]),(1,ob0 (Ar (s1.set (Int.toNat k1) (Aee s1 k1 p1))))] [] [(0,.box [pI p0.clock,ow 1 s1.length]),(1,.row 4 s1.length (c128e3 s1 k1 p1))] (an g38.1 (an g38.2 (an g39 (an g40 (an g41.1 (an g41.2 (an g42 tv))))))) (by kernel_rfl) .nil (.cons rfl (.box (.cons .rfl (.cons (MLe.ownLen (enc:=Bc) (d:=An) (f:=(c128e3 s1 k1 p1)) (RowIs.upd RowIs.elems (Aee s1 k1 p1) rfl)) .nil))) (.cons rfl (BLe.typed (RowIs.upd RowIs.elems (Aee s1 k1 p1) rfl)) .nil)) ?_
      exact bD (s1.set (Int.toNat k1) (Aee s1 k1 p1)) hm .refl
     ·intro h37 hm
      refine Sk ?_
      exact bD s1 hm Conv.t0
   ·intro h34
    have hge1:¬ k1<((p0.items.length:Nat):Int):=by have:=of_decide_eq_false h34; omega
    have hm:=he1 hge1
    unfold Rc at hm
    refine DW.exit ?_
    refine Ai ?_
    refine Ap ?_
    refine Ae ?_
    show DW _ _ _ _ _
    obtain ⟨g43,g44,hm⟩:=go2 hm
    obtain ⟨r45,hr45,hm⟩:=bo hm
    obtain ⟨g46,hm⟩:=go1 hm
    refine Sq (RN hnt (nn 8 (o73 [] true r45::nn 4 [])) [] [(0,bx [pI p0.clock,ow 1 (s1.set (Int.toNat p1) (AbF s1 p1 r45)).length]),(1,ob0 (Ar (s1.set (Int.toNat p1) (AbF s1 p1 r45))))] [] [(0,.box [pI p0.clock,ow 1 s1.length]),(1,.row 4 s1.length (c128e4 s1 p1 r45))] (an g43 (an g44 (an (Ip (s1.getD (Int.toNat p1) An).weight r45 hr45) (an g46 tv)))) (by kernel_rfl) .nil (.cons rfl (.box (.cons .rfl (.cons (MLe.ownLen (enc:=Bc) (d:=An) (f:=(c128e4 s1 p1 r45)) (RowIs.upd RowIs.elems (AbF s1 p1 r45) rfl)) .nil))) (.cons rfl (BLe.typed (RowIs.upd RowIs.elems (AbF s1 p1 r45) rfl)) .nil)) ?_)
    refine Sq (RD hnt (.no :: []) [] [(4,pI 0)] [] [] tv ?_)
    obtain rfl:=sj hm
    exact DW.ret (Aj [.box [pI p0.clock,ow 1 (s1.set (Int.toNat p1) (AbF s1 p1 r45)).length],Ar (s1.set (Int.toNat p1) (AbF s1 p1 r45))] [] (pI 0))
abbrev o128 (ks:List Nat) (b:Bool) (RES:Int×Ah) (sm:List Nat := []):Orc := .call 182 ks b (pI RES.1) [.box [pI RES.2.clock,ow 1 RES.2.items.length],Ar RES.2.items] [] sm

abbrev c126e1 : Nat×Body:=(1048,.box [pI 0,.p (.sl .nil 0 0 (fun _ => []))])
theorem Sj (p0:Ah) (p1:Int) (RES:Ah×Int) (hm:Ep p0 p1=some RES):Spec Tryz.prog 161 [.p (.agg (Al p0)),pI p1,.p (.fn 182 [])] [] (.p (.tup [.agg (Al RES.1),vi RES.2])) [] []:=by
 unfold Ep at hm
 refine SO Tryz.func161 rfl rfl [(0,.p (.agg (Al p0))),(1,pI p1),(2,.p (.fn 182 []))] [] ?_
 intro cx hnt
 refine Sq (RD hnt (nn 3 []) [0] [(3,rr 1024),(6,rr 1048)] [] [(1024,bx (pm (Al p0))),(1048,bx [pI 0,.p (.sl .nil 0 0 (fun _ => []))])] tv ?_)
 obtain ⟨r1,hr1,hm⟩:=bo hm
 refine Sq (Sq (RD hnt (.no::o80 [] true r1 :: .no :: []) [] [(13,pB (!r1))] [] [] (an (Hx p0 r1 hr1) tv) ?_))
 refine Ak hm ?_ ?_
 ·intro h2 hm
  refine Sq (RD hnt (nn 3 []) [1,2,3,13] [(7,pI 1)] [1024] [] tv ?_)
  refine DW.conv (τ:=Af [(6,rr 1048),(7,pI 1)] [(1048,bx [pI 0,.p (Bf [])])]) (Conv.tp [] [(c126e1)] (by kernel_rfl) .nil (.cons rfl (.box (.cons .rfl (.cons MLe.nilL .nil))) .nil)) ?_
  obtain rfl:=sj hm
  exact DW.ret (Aj [] [] (.p (.tup [.agg [vi 0,Bf []],vi 1])))
 ·intro h2 hm
  refine Sk ?_
  obtain ⟨r3,hr3,hm⟩:=bo hm
  refine Sq (RD hnt (nn 2 (o86 [] true r3 :: .no :: [])) [1,13] [(8,pI r3)] [] [] (an (Rt p0 p1 r3 hr3) tv) ?_)
  refine Sq (Sq (RD hnt (nn 2 []) [] [(19,pB (decide (r3<0)))] [] [] tv ?_))
  refine Ak hm ?_ ?_
  ·intro h4 hm
   refine Sq (RD hnt (nn 3 []) [2,3,8,19] [(7,pI 4)] [1024] [] tv ?_)
   refine DW.conv (τ:=Af [(6,rr 1048),(7,pI 4)] [(1048,bx [pI 0,.p (Bf [])])]) (Conv.tp [] [(c126e1)] (by kernel_rfl) .nil (.cons rfl (.box (.cons .rfl (.cons MLe.nilL .nil))) .nil)) ?_
   obtain rfl:=sj hm
   exact DW.ret (Aj [] [] (.p (.tup [.agg [vi 0,Bf []],vi 4])))
  ·intro h4 hm
   refine Sk ?_
   obtain ⟨r5,hr5,hm⟩:=bo hm
   refine Sq (RD hnt (nn 4 (o81 [] true r5::nn 3 [])) [3,19] [(9,rr 1072)] [1024] [(1072,bx [pI p0.clock,ow 1200 r5.length]),(1200,ob0 (Ar r5))] (an (Gs p0.items r5 hr5) tv) ?_)
   obtain ⟨r6,hr6,hm⟩:=bo hm
   obtain ⟨g7,hm⟩:=go1 hm
   refine Sq (Sq (RD hnt (nn 2 (o128 [1072,1200] true r6 :: .no :: [])) [2,8] [(10,pI r6.1)] [] [(1072,bx [pI r6.2.clock,ow 1200 r6.2.items.length]),(1200,ob0 (Ar r6.2.items))] (an (AbV ({ clock:=p0.clock,items:=r5 } : Ah) r3 r6 hr6) (an tv (an (⟨rfl,g7⟩:Body.same (Ar r5) (Ar r6.2.items)) tv))) ?_))
   refine Sq (RD hnt (nn 2 []) [] [(31,pB (r6.1 != 0))] [] [] tv ?_)
   refine Ak hm ?_ ?_
   ·intro h8 hm
    refine Sq (RD hnt (nn 4 []) [9,10,31] [(7,pI r6.1)] [1072,1200] [] tv ?_)
    refine DW.conv (τ:=Af [(6,rr 1048),(7,pI r6.1)] [(1048,bx [pI 0,.p (Bf [])])]) (Conv.tp [] [(c126e1)] (by kernel_rfl) .nil (.cons rfl (.box (.cons .rfl (.cons MLe.nilL .nil))) .nil)) ?_
    obtain rfl:=sj hm
    exact DW.ret (Aj [] [] (.p (.tup [.agg [vi 0,Bf []],vi r6.1])))
   ·intro h8 hm
    refine Sk ?_
    refine Sq (DW.cv [] [] [1200] [(1072,bx (pm (Al r6.2)))] (Conv.frz [1200]) ?_)
    obtain ⟨r10,hr10,hm⟩:=bo hm
    refine RK hnt (.no::o95 [] true r10::nn 4 []) [(6,rr 1048),(7,pI r10.2)] [(1048,bx (pm (Al r10.1)))] (an (Re r6.2 r10 hr10) tv) ?_
    obtain rfl:=sj hm
    exact DW.ret (Aj [] [] (.p (.tup [.agg (Al r10.1),vi r10.2])))
abbrev o126 (ks:List Nat) (b:Bool) (RES:Ah×Int) (sm:List Nat := []):Orc := .call 161 ks b (.p (.tup [.agg (Al RES.1),vi RES.2])) [] [] sm

theorem Aex (p0:Ah) (p1:Int) (RES:Ah×Int) (hm:Hz p0 p1=some RES):Spec Tryz.prog 109 [.p (.agg (Al p0)),pI p1] [] (.p (.tup [.agg (Al RES.1),vi RES.2])) [] []:=by
 unfold Hz at hm
 refine SO Tryz.func109 rfl rfl [(0,.p (.agg (Al p0))),(1,pI p1)] [] ?_
 intro cx hnt
 refine Sq (RK hnt (nn 3 []) [(1,pI p1),(2,rr 1016),(4,rr 1032)] [(1016,bx (pm (Al p0))),(1032,bx [pI 0,.p (.sl .nil 0 0 (fun _ => []))])] tv ?_)
 obtain ⟨r1,hr1,hm⟩:=bo hm
 refine Sq (RK hnt (nn 2 (o126 [] true r1::nn 4 [])) [(4,rr 1032),(5,pI r1.2)] [(1032,bx (pm (Al r1.1)))] (an (Sj p0 p1 r1 hr1) tv) ?_)
 obtain rfl:=sj hm
 exact DW.ret (Aj [] [] (.p (.tup [.agg (Al r1.1),vi r1.2])))
abbrev o125 (ks:List Nat) (b:Bool) (RES:Ah×Int) (sm:List Nat := []):Orc := .call 109 ks b (.p (.tup [.agg (Al RES.1),vi RES.2])) [] [] sm

abbrev AdT (s1:List Ag) (r4:List item) (k1:Nat) (r26:Ah×Int):=({ group:=(s1.getD (Int.toNat (r4.getD k1 ditem).branch) Bq).group,queue:=r26.1 } : Ag)
abbrev c124e2 (s1:List Ag) (r4:List item) (k1:Nat) (r26:Ah×Int):=(Az (We s1) (Int.toNat (r4.getD k1 ditem).branch) [vi (s1.getD (Int.toNat (r4.getD k1 ditem).branch) Bq).group,vi r26.1.clock,Bf r26.1.items])
theorem Agr (p0:Ac) (p1:List Ag) (p2:Int) (RES:(List Ag)×Int) (hm:Me p0 p1 p2=some RES):Spec Tryz.prog 41 [.p (.agg (Ab p0)),.p (Au p1),pI p2] [] (.tup [ow 0 RES.1.length,pI RES.2]) [] [Bx RES.1]:=by
 unfold Me at hm
 refine SO Tryz.func41 rfl rfl [(0,.p (.agg (Ab p0))),(1,.p (Au p1)),(2,pI p2)] [] ?_
 intro cx hnt
 refine Sq (RD hnt (nn 3 []) [0] [(3,rr 1024)] [] [(1024,bx (pm (Ab p0)))] tv ?_)
 obtain ⟨r1,hr1,hm⟩:=bo hm
 refine Sq (RD hnt (nn 2 (o18 [] true r1::nn 6 [])) [2] [(8,rr 1064),(9,pB r1.2)] [] [(1064,bx (pm (Bd r1.1)))] (an (Ya p0 p2 r1 hr1) tv) ?_)
 refine Sq (Sq (RD hnt (nn 2 []) [9] [(22,pB (!r1.2))] [] [] tv ?_))
 refine Ak hm ?_ ?_
 ·intro h2 hm
  refine Sq (RK hnt (nn 2 []) [(6,.p (.sl .nil 0 0 (fun _ => []))),(7,pI 4)] [] tv ?_)
  refine DW.cv [] [(6,ow 100000 0)] [] [(100000,ob0 (Bx []))] (Conv.ads [(.s 6,100000,3,elems Cs Bq [])]) ?_
  obtain rfl:=sj hm
  exact DW.ret (Aj [Bx []] [100000] (.tup [ow 0 0,pI 4]))
 ·intro h2 hm
  refine Sk ?_
  obtain ⟨r3,hr3,hm⟩:=bo hm
  refine Sq (RD hnt (.no::o114 [] true r3 :: .no :: []) [22] [(10,ow 1192 r3.length)] [] [(1192,ob0 (Bx r3))] (an (AcK p1 r3 hr3) tv) ?_)
  obtain ⟨r4,hr4,hm⟩:=bo hm
  refine Sq (Sq (RD hnt (nn 3 (o118 [] true r4::nn 2 [])) [1,3,8] [(28,ow 1224 r4.length),(29,pI ((r4.length:Nat):Int)),(30,pI 0)] [1024,1064] [(1224,ob0 (roitem r4))] (an (AcB p0 p1 r1.1 r4 hr4) tv) ?_))
  refine Bk ?_
  obtain ⟨hc1,hm⟩:=go1 hm
  refine DW.rangeO (fun (k1:Nat) (s1:List Ag)=>Af [(10,ow 1192 s1.length),(28,ow 1224 r4.length),(29,pI ((r4.length:Nat):Int)),(30,pI ((k1:Nat):Int))] [(1192,ob0 (Bx s1)),(1224,ob0 (roitem r4))]) ditem hm Conv.eqK ?_
  intro k1 s1 n1 hk1 hs1 he1
  refine Sq (RD hnt (.no :: []) [] [(31,pB (decide (((k1:Nat):Int)<((r4.length:Nat):Int))))] [] [] tv ?_)
  refine Sq (Bu (decide (((k1:Nat):Int)<((r4.length:Nat):Int))) ?_ ?_)
  ·intro h23
   have hlt1:k1<r4.length:=by have:=of_decide_eq_true h23; omega
   have hm:=hs1 hlt1
   unfold Zl at hm
   refine Sk ?_
   refine Sq (Bk ?_)
   refine Sq (RD hnt (nn 4 []) [31] [(12,rr 1096)] [] [(1096,bx (pm (encitem (r4.getD k1 ditem))))] (an (nn0 k1) (an (ltc hlt1) (an (by omega:k1<r4.length) tv))) ?_)
   obtain ⟨g24,g25,hm⟩:=go2 hm
   obtain ⟨r26,hr26,hm⟩:=bo hm
   refine Sq (RD hnt (nn 8 (o125 [] true r26::nn 6 [])) [] [(13,rr 1104),(14,pI r26.2)] [] [(1104,bx (pm (Al r26.1)))] (an g24.1 (an g24.2 (an g25 (an (Aex (s1.getD (Int.toNat (r4.getD k1 ditem).branch) Bq).queue (r4.getD k1 ditem).id r26 hr26) tv)))) ?_)
   refine Sq (Sq (RD hnt (nn 2 []) [] [(47,pB (r26.2 != 0))] [] [] tv ?_))
   refine Ak hm ?_ ?_
   ·intro h27 hm
    refine Sq (RK hnt (nn 3 []) [(6,.p (.sl .nil 0 0 (fun _ => []))),(7,pI r26.2)] [] tv ?_)
    refine DW.cv [] [(6,ow 100000 0)] [] [(100000,ob0 (Bx []))] (Conv.ads [(.s 6,100000,3,elems Cs Bq [])]) ?_
    obtain rfl:=sj hm
    exact DW.ret (Aj [Bx []] [100000] (.tup [ow 0 0,pI r26.2]))
   ·intro h27 hm
    refine Sk ?_
    obtain ⟨g28,g29,hm⟩:=go2 hm
    refine RN hnt (nn 7 []) [(10,ow 1192 (s1.set (Int.toNat (r4.getD k1 ditem).branch) (AdT s1 r4 k1 r26)).length),(28,ow 1224 r4.length),(29,pI ((r4.length:Nat):Int)),(30,pI ((k1:Nat):Int))] [(1192,ob0 (Bx (s1.set (Int.toNat (r4.getD k1 ditem).branch) (AdT s1 r4 k1 r26)))),(1224,ob0 (roitem r4))] [(10,ow 1192 s1.length)] [(1192,.row 3 s1.length (c124e2 s1 r4 k1 r26))] (an g28.1 (an g28.2 (an g29 tv))) (by kernel_rfl) (.cons rfl (MLe.ownLen (enc:=Cs) (d:=Bq) (f:=(c124e2 s1 r4 k1 r26)) (RowIs.upd RowIs.elems (AdT s1 r4 k1 r26) rfl)) .nil) (.cons rfl (BLe.typed (RowIs.upd RowIs.elems (AdT s1 r4 k1 r26) rfl)) .nil) ?_
    refine DW.done ?_
    show DW _ _ _ _ _
    refine RD hnt (nn 2 []) [] [(30,pI (w64 (((k1:Nat):Int)+1)))] [] [] tv ?_
    exact jD (s1.set (Int.toNat (r4.getD k1 ditem).branch) (AdT s1 r4 k1 r26)) ⟨hlt1,hm⟩ (Conv.tp [(30,pI (w64 (((k1:Nat):Int)+1)))] [] (by kernel_rfl) (.cons rfl (.of_eq (congrArg pI (Bb hlt1 hc1))) .nil) .nil)
  ·intro h23
   have hge1:¬ k1<r4.length:=by have:=of_decide_eq_false h23; omega
   have hm:=he1 hge1
   unfold AdN at hm
   refine DW.exit ?_
   refine Ai ?_
   refine Ap ?_
   refine Ae ?_
   show DW _ _ _ _ _
   refine Sq (RK hnt (nn 3 []) [(6,ow 1192 s1.length),(7,pI 0)] [(1192,ob0 (Bx s1))] tv ?_)
   obtain rfl:=sj hm
   exact DW.ret (Aj [Bx s1] [1192] (.tup [ow 0 s1.length,pI 0]))
abbrev o124 (ks:List Nat) (b:Bool) (RES:(List Ag)×Int) (sm:List Nat := []):Orc := .call 41 ks b (.tup [ow 0 RES.1.length,pI RES.2]) [] [Bx RES.1] sm

abbrev Aaj (p0:Ac):Nat×Obj:=(1024,bx (pm (Ab p0)))
abbrev AfD : Nat×MV:=(9,.p (.sl .nil 0 0 (fun _ => [])))
abbrev AdA (p2:Int):Nat×MV:=(37,pI (Lj (Fd p2 0) 65536))
theorem AhK (p0:Ac) (p1:List Ag) (p2:Int) (RES:(List Ag)×(List Int)) (hm:Pb p0 p1 p2=some RES):Spec Tryz.prog 12 [.p (.agg (Ab p0)),.p (Au p1),pI p2] [] (.tup [.p (Au RES.1),ow 0 RES.2.length]) [] [roI RES.2]:=by
 unfold Pb at hm
 refine SO Tryz.func12 rfl rfl [(0,.p (.agg (Ab p0))),(1,.p (Au p1)),(2,pI p2)] [] ?_
 intro cx hnt
 refine Sq (RD hnt (nn 3 []) [0] [(3,rr 1024)] [] [(Aaj p0)] tv ?_)
 refine Sq (RD hnt (nn 2 []) [] [(8,.p (.sl .nil 0 0 (fun _ => []))),(AfD)] [] [] tv ?_)
 refine Sq (Sq (RD hnt (nn 4 []) [] [(17,.p (Dn p0.tasks)),(18,pI ((p0.tasks.length:Nat):Int)),(19,pI 0)] [] [] tv ?_))
 refine Bk ?_
 obtain ⟨hc1,hm⟩:=go1 hm
 refine DW.rangeO (fun (k1:Nat) (s1:List Int)=>Af [(1,.p (Au p1)),(2,pI p2),(3,rr 1024),(8,ow 1216 s1.length),(AfD),(17,.p (Dn p0.tasks)),(18,pI ((p0.tasks.length:Nat):Int)),(19,pI ((k1:Nat):Int))] [(Aaj p0),(1216,ob0 (roI s1))]) Bo hm (Conv.ads [(.s 8,1216,1,elems Bm 0 [])]) ?_
 intro k1 s1 n1 hk1 hs1 he1
 refine Sq (RD hnt (.no :: []) [] [(20,pB (decide (((k1:Nat):Int)<((p0.tasks.length:Nat):Int))))] [] [] tv ?_)
 refine Sq (Bu (decide (((k1:Nat):Int)<((p0.tasks.length:Nat):Int))) ?_ ?_)
 ·intro h48
  have hlt1:k1<p0.tasks.length:=by have:=of_decide_eq_true h48; omega
  have hm:=hs1 hlt1
  unfold AfP at hm
  refine Sk ?_
  refine Sq (Bk ?_)
  refine Sq (RD hnt (nn 4 []) [20] [(11,rr 1088)] [] [(1088,bx (pm (Bd (p0.tasks.getD k1 Bo))))] (an (nn0 k1) (an (ltc hlt1) tv)) ?_)
  obtain ⟨g49,hm⟩:=go1 hm
  refine RN hnt (nn 6 []) [(1,.p (Au p1)),(2,pI p2),(3,rr 1024),(8,ow 1216 (s1 ++ [(p0.tasks.getD k1 Bo).id]).length),(AfD),(17,.p (Dn p0.tasks)),(18,pI ((p0.tasks.length:Nat):Int)),(19,pI ((k1:Nat):Int))] [(Aaj p0),(1216,ob0 (roI (s1 ++ [(p0.tasks.getD k1 Bo).id])))] [(8,ow 1216 (s1.length+1))] [(1216,.row 1 (s1.length+1) (Ck s1.length (elI s1) (cut 1 [vi (p0.tasks.getD k1 Bo).id])))] (an (by omega:(s1.length+1)*8≤140737488355328) tv) (by kernel_rfl) (.cons rfl (MLe.ownLen (enc:=Bm) (d:=0) (f:=(Ck s1.length (elI s1) (cut 1 [vi (p0.tasks.getD k1 Bo).id]))) (RowIs.cat RowIs.elems (RowIs.lit (enc:=Bm) (d:=0) (n:=1) (f:=(cut 1 [vi (p0.tasks.getD k1 Bo).id])) [(p0.tasks.getD k1 Bo).id] rfl (fun|0,_=>rfl|n+1,h=>absurd h (by omega))))) .nil) (.cons rfl (BLe.typed (RowIs.cat RowIs.elems (RowIs.lit (enc:=Bm) (d:=0) (n:=1) (f:=(cut 1 [vi (p0.tasks.getD k1 Bo).id])) [(p0.tasks.getD k1 Bo).id] rfl (fun|0,_=>rfl|n+1,h=>absurd h (by omega))))) .nil) ?_
  refine DW.done ?_
  show DW _ _ _ _ _
  refine RD hnt (nn 2 []) [] [(19,pI (w64 (((k1:Nat):Int)+1)))] [] [] tv ?_
  exact jD (s1 ++ [(p0.tasks.getD k1 Bo).id]) ⟨hlt1,hm⟩ (Conv.tp [(19,pI (w64 (((k1:Nat):Int)+1)))] [] (by kernel_rfl) (.cons rfl (.of_eq (congrArg pI (Bb hlt1 hc1))) .nil) .nil)
 ·intro h48
  have hge1:¬ k1<p0.tasks.length:=by have:=of_decide_eq_false h48; omega
  have hm:=he1 hge1
  unfold Mh at hm
  refine DW.exit ?_
  refine Ai ?_
  refine Ap ?_
  refine Ae ?_
  show DW _ _ _ _ _
  obtain ⟨r50,hr50,hm⟩:=bo hm
  refine Sq (Sq (RD hnt (nn 2 (o112 [] true r50 :: .no :: [])) [17,18,19,20] [(32,pB (!r50))] [] [] (an (Agg p0 p1 r50 hr50) tv) ?_))
  refine Ak hm ?_ ?_
  ·intro h51 hm
   refine Sq (RK hnt (nn 2 []) [(6,.p (.sl .nil 0 0 (fun _ => []))),(7,.p (.sl .nil 0 0 (fun _ => [])))] [] tv ?_)
   refine DW.conv (τ:=Af [(6,.p (Au [])),(7,ow 100000 0)] [(100000,ob0 (roI []))]) (Conv.trans (τ:=Af [(6,.p (.sl .nil 0 0 (fun _ => []))),(7,ow 100000 0)] [(100000,ob0 (roI []))]) (Conv.ads [(.s 7,100000,1,elems Bm 0 [])]) (Conv.tp [(6,.p (.sl .nil 0 0 (fun _ => [])))] [] (by kernel_rfl) (.cons rfl MLe.nilL .nil) .nil)) ?_
   obtain rfl:=sj hm
   exact DW.ret (Aj [roI []] [100000] (.tup [.p (Au []),ow 0 0]))
  ·intro h51 hm
   refine Sk ?_
   obtain ⟨r52,hr52,hm⟩:=bo hm
   refine Sq (RD hnt (.no::o114 [] true r52 :: .no :: []) [32] [(1,ow 1272 r52.length)] [] [(1272,ob0 (Bx r52))] (an (AcK p1 r52 hr52) tv) ?_)
   refine Sq (Sq (RD hnt (nn 4 []) [2] [(AdA p2),(38,pI 0)] [] [] tv ?_))
   refine Jn (ι:=(List Int)×(List Ag)) (fun (y3:(List Int)×(List Ag))=>Af [(1,.p (Au y3.2)),(9,ow 1496 y3.1.length)] [(1496,ob0 (roI y3.1))]) (fun y3=>Mi y3=some RES) ?_ ?_
   ·intro y3 hm
    unfold Mi at hm
    refine Sq (RD hnt (nn 4 []) [1,9] [(6,.p (Au y3.2)),(7,ow 1496 y3.1.length)] [] [] tv ?_)
    obtain rfl:=sj hm
    exact DW.ret (Aj [roI y3.1] [1496] (.tup [.p (Au y3.2),ow 0 y3.1.length]))
   ·refine Bk ?_
    obtain ⟨hc4,hm⟩:=go1 hm
    refine DW.forO (fun (k4:Int) (s4:(List Int)×(List Ag))=>Af [(1,.p (Au s4.2)),(3,rr 1024),(8,ow 1216 s1.length),(9,ow 1496 s4.1.length),(AdA p2),(38,pI k4)] [(Aaj p0),(1216,ob0 (roI s1)),(1496,ob0 (roI s4.1))]) (lo:=0) (hi:=(Lj (Fd p2 0) 65536)) hm (Conv.trans (τ:=Af [(1,.p (Au r52)),(3,rr 1024),(8,ow 1216 s1.length),(AfD),(AdA p2),(38,pI 0)] [(Aaj p0),(1216,ob0 (roI s1))]) (Conv.frz [1272]) (Conv.ads [(.s 9,1496,1,elems Bm 0 [])])) ?_
    intro k4 s4 n4 hk4 hs4 he4
    refine Sq (RD hnt (.no :: []) [] [(39,pB (decide (k4<(Lj (Fd p2 0) 65536))))] [] [] tv ?_)
    refine Sq (Bu (decide (k4<(Lj (Fd p2 0) 65536))) ?_ ?_)
    ·intro h65
     have hlt4:k4<(Lj (Fd p2 0) 65536):=by have:=of_decide_eq_true h65; omega
     have hm:=hs4 hlt4
     unfold Ul at hm
     refine Sk ?_
     refine Sq (Bk ?_)
     obtain ⟨r66,hr66,hm⟩:=bo hm
     refine Sq (RD hnt (nn 3 (o117 [] true r66::nn 5 [])) [39] [(12,pI r66.1),(13,pB r66.2)] [] [] (an (AfI p0 s4.2 s1 r66 hr66) tv) ?_)
     refine Sq (Sq (RD hnt (nn 2 []) [13] [(48,pB (!r66.2))] [] [] tv ?_))
     refine Ak hm ?_ ?_
     ·intro h67 hm
      refine DW.exit ?_
      refine Gh (by decide) ?_
      refine Ap ?_
      refine Ai ?_
      refine Ap ?_
      exact Ae (Tz (s4.1,s4.2) hm Conv.t0)
     ·intro h67 hm
      refine Sk ?_
      obtain ⟨r68,hr68,hm⟩:=bo hm
      refine Sq (RD hnt (nn 3 (o124 [] true r68::nn 5 [])) [48] [(14,ow 1424 r68.1.length),(15,pI r68.2)] [] [(1424,ob0 (Bx r68.1))] (an (Agr p0 s4.2 r66.1 r68 hr68) tv) ?_)
      refine Sq (Sq (RD hnt (nn 2 []) [15] [(57,pB (r68.2 != 0))] [] [] tv ?_))
      refine Ak hm ?_ ?_
      ·intro h69 hm
       refine DW.exit ?_
       refine Gh (by decide) ?_
       refine Ap ?_
       refine Ai ?_
       refine Ap ?_
       exact Ae (Tz (s4.1,s4.2) hm Conv.t0)
      ·intro h69 hm
       refine Sk ?_
       obtain ⟨g70,hm⟩:=go1 hm
       refine RN hnt (nn 7 []) [(1,ow 1424 r68.1.length),(3,rr 1024),(8,ow 1216 s1.length),(9,ow 1496 (s4.1 ++ [r66.1]).length),(AdA p2),(38,pI k4)] [(Aaj p0),(1216,ob0 (roI s1)),(1424,ob0 (Bx r68.1)),(1496,ob0 (roI (s4.1 ++ [r66.1])))] [(9,ow 1496 (s4.1.length+1))] [(1496,.row 1 (s4.1.length+1) (Ck s4.1.length (elI s4.1) (cut 1 [vi r66.1])))] (an (by omega:(s4.1.length+1)*8≤140737488355328) tv) (by kernel_rfl) (.cons rfl (MLe.ownLen (enc:=Bm) (d:=0) (f:=(Ck s4.1.length (elI s4.1) (cut 1 [vi r66.1]))) (RowIs.cat RowIs.elems (RowIs.lit (enc:=Bm) (d:=0) (n:=1) (f:=(cut 1 [vi r66.1])) [r66.1] rfl (fun|0,_=>rfl|n+1,h=>absurd h (by omega))))) .nil) (.cons rfl (BLe.typed (RowIs.cat RowIs.elems (RowIs.lit (enc:=Bm) (d:=0) (n:=1) (f:=(cut 1 [vi r66.1])) [r66.1] rfl (fun|0,_=>rfl|n+1,h=>absurd h (by omega))))) .nil) ?_
       refine DW.done ?_
       show DW _ _ _ _ _
       refine RD hnt (nn 2 []) [] [(38,pI (w64 (k4+1)))] [] [] tv ?_
       exact jD ((s4.1 ++ [r66.1]),r68.1) ⟨hlt4,hm⟩ (Conv.trans (τ:=Af [(1,.p (Au r68.1)),(3,rr 1024),(8,ow 1216 s1.length),(9,ow 1496 (s4.1 ++ [r66.1]).length),(AdA p2),(38,pI (w64 (k4+1)))] [(Aaj p0),(1216,ob0 (roI s1)),(1496,ob0 (roI (s4.1 ++ [r66.1])))]) (Conv.frz [1424]) (Conv.tp [(38,pI (w64 (k4+1)))] [] (by kernel_rfl) (.cons rfl (.of_eq (congrArg pI (Pr (lo:=0) (hi:=(Lj (Fd p2 0) 65536)) (by omega) hk4 hlt4 (by omega)))) .nil) .nil))
    ·intro h65
     have hge4:¬ k4<(Lj (Fd p2 0) 65536):=by have:=of_decide_eq_false h65; omega
     have hm:=he4 hge4
     unfold Ug at hm
     refine DW.exit ?_
     refine Ai ?_
     refine Ap ?_
     exact Ae (Tz (s4.1,s4.2) hm Conv.t0)
abbrev o111 (ks:List Nat) (b:Bool) (RES:(List Ag)×(List Int)) (sm:List Nat := []):Orc := .call 12 ks b (.tup [.p (Au RES.1),ow 0 RES.2.length]) [] [roI RES.2] sm

theorem AcO (p0:Int) (p1:Int) (p2:Int) (RES:Bool) (hm:Qh p0 p1 p2=some RES):Spec Tryz.prog 183 [pI p0,rr 0,rr 1] [.box [pI p1],.box [pI p2]] (pB RES) [.box [pI p1],.box [pI p2]] []:=by
 unfold Qh at hm
 refine SO Tryz.func183 rfl rfl [(0,pI p0),(1,rr 0),(2,rr 1)] [(0,bx [pI p1]),(1,bx [pI p2])] ?_
 intro cx hnt
 refine Sq (RD hnt (.no :: []) [] [] [] [] tv ?_)
 refine Sq (DW.regJ (sl2 := [(4,pB ((decide (p0<p1))||(decide (p0>p2))))]) (ob2 := [(0,bx [pI p1]),(1,bx [pI p2])]) ?_ ?_)
 ·rcases bt (decide (p0<p1)) with h1|h1
  ·exact RT hnt (nn 4 (sk 3 (pT :: .no :: []))) [(4,pB true)] (an4 h1 tv) (by kernel_rfl) (.cons rfl (.of_eq (by rw [h1]; try rfl)) .nil)
  ·exact RT hnt (nn 7 (pF :: .no :: [])) [(4,pB (decide (p0>p2)))] (an4 h1 tv) (by kernel_rfl) (.cons rfl (.of_eq (by rw [h1]; try rfl)) .nil)
 ·refine DW.ret ?_
  obtain rfl:=sj hm
  exact Aj [.box [pI p1],.box [pI p2]] [] (pB ((decide (p0<p1))||(decide (p0>p2))))

theorem Pc (p0:List Int) (p1c0:Int) (p1c1:Int) (RES:Int) (hm:Db p0 p1c0 p1c1=some RES):Spec Tryz.prog 159 [.p (slI p0),.fn 183 [rr 0,rr 1]] [.box [pI p1c0],.box [pI p1c1]] (pI RES) [.box [pI p1c0],.box [pI p1c1]] []:=by
 unfold Db at hm
 refine SO Tryz.func159 rfl rfl [(0,.p (slI p0)),(1,.fn 183 [rr 0,rr 1])] [(0,bx [pI p1c0]),(1,bx [pI p1c1])] ?_
 intro cx hnt
 refine Sq (RD hnt (.no :: []) [] [] [] [] tv ?_)
 refine Sq (Sq (RD hnt (nn 3 []) [] [(7,pI ((p0.length:Nat):Int)),(8,pI 0)] [] [] tv ?_))
 refine Bk ?_
 obtain ⟨hc1,hm⟩:=go1 hm
 refine DW.rangeO (fun (k1:Nat) (s1:Unit)=>Af [(0,.p (slI p0)),(1,.fn 183 [rr 0,rr 1]),(7,pI ((p0.length:Nat):Int)),(8,pI ((k1:Nat):Int))] [(0,bx [pI p1c0]),(1,bx [pI p1c1])]) 0 hm Conv.eqK ?_
 intro k1 s1 n1 hk1 hs1 he1
 refine Sq (RD hnt (.no :: []) [] [(9,pB (decide (((k1:Nat):Int)<((p0.length:Nat):Int))))] [] [] tv ?_)
 refine Sq (Bu (decide (((k1:Nat):Int)<((p0.length:Nat):Int))) ?_ ?_)
 ·intro h9
  have hlt1:k1<p0.length:=by have:=of_decide_eq_true h9; omega
  have hm:=hs1 hlt1
  unfold Ei at hm
  refine Sk ?_
  refine Sq (Bk ?_)
  refine Sq (RD hnt (nn 2 []) [9] [(5,pI ((k1:Nat):Int))] [] [] tv ?_)
  obtain ⟨r10,hr10,hm⟩:=bo hm
  refine Sq (RD hnt (nn 5 (.call 183 [0,1] true (pB r10) [.box [pI p1c0],.box [pI p1c1]] [] [] :: [])) [] [(16,pB r10)] [] [] (an (nn0 k1) (an (ltc hlt1) (an (AcO (p0.getD k1 0) p1c0 p1c1 r10 hr10) (an2 tv tv)))) ?_)
  refine Ak hm ?_ ?_
  ·intro h11 hm
   refine Sq (RD hnt (nn 2 []) [0,1,5,7,8,16] [(4,pI ((k1:Nat):Int))] [] [] tv ?_)
   obtain rfl:=sj hm
   exact DW.ret (Aj [.box [pI p1c0],.box [pI p1c1]] [] (pI ((k1:Nat):Int)))
  ·intro h11 hm
   refine Sk ?_
   refine DW.done ?_
   show DW _ _ _ _ _
   refine RD hnt (nn 2 []) [5,16] [(8,pI (w64 (((k1:Nat):Int)+1)))] [] [] tv ?_
   exact jD () ⟨hlt1,hm⟩ (Conv.tp [(8,pI (w64 (((k1:Nat):Int)+1)))] [] (by kernel_rfl) (.cons rfl (.of_eq (congrArg pI (Bb hlt1 hc1))) .nil) .nil)
 ·intro h9
  have hge1:¬ k1<p0.length:=by have:=of_decide_eq_false h9; omega
  have hm:=he1 hge1
  unfold Ii at hm
  refine DW.exit ?_
  refine Ai ?_
  refine Ap ?_
  refine Ae ?_
  show DW _ _ _ _ _
  refine Sq (RD hnt (.no :: []) [0,1,7,8,9] [(4,pI (-1))] [] [] tv ?_)
  obtain rfl:=sj hm
  exact DW.ret (Aj [.box [pI p1c0],.box [pI p1c1]] [] (pI (-1)))

theorem Nb (p0:List Int) (p1c0:Int) (p1c1:Int) (RES:Bool) (hm:Dh p0 p1c0 p1c1=some RES):Spec Tryz.prog 79 [.p (slI p0),.fn 183 [rr 0,rr 1]] [.box [pI p1c0],.box [pI p1c1]] (pB RES) [.box [pI p1c0],.box [pI p1c1]] []:=by
 unfold Dh at hm
 refine SO Tryz.func79 rfl rfl [(0,.p (slI p0)),(1,.fn 183 [rr 0,rr 1])] [(0,bx [pI p1c0]),(1,bx [pI p1c1])] ?_
 intro cx hnt
 refine Sq (RD hnt (.no :: []) [] [] [] [] tv ?_)
 obtain ⟨r1,hr1,hm⟩:=bo hm
 refine Sq (RD hnt (nn 2 (.call 159 [0,1] true (pI r1) [.box [pI p1c0],.box [pI p1c1]] [] []::nn 2 [])) [0,1] [(4,pB (decide (r1≥0)))] [] [] (an (Pc p0 p1c0 p1c1 r1 hr1) (an2 tv tv)) ?_)
 obtain rfl:=sj hm
 exact DW.ret (Aj [.box [pI p1c0],.box [pI p1c1]] [] (pB (decide (r1≥0))))

theorem Ee (p0:List Int) (p1:Int) (p2:Int) (RES:Bool) (hm:Jv p0 p1 p2=some RES):Spec Tryz.prog 110 [.p (slI p0),pI p1,pI p2] [] (pB RES) [] []:=by
 unfold Jv at hm
 refine SO Tryz.func110 rfl rfl [(0,.p (slI p0)),(1,pI p1),(2,pI p2)] [] ?_
 intro cx hnt
 refine Sq (RK hnt (nn 3 []) [(0,.p (slI p0)),(4,rr 1032),(5,rr 1040)] [(1032,bx [pI p1]),(1040,bx [pI p2])] tv ?_)
 obtain ⟨r1,hr1,hm⟩:=bo hm
 refine Sq (RK hnt (nn 2 (.call 79 [1032,1040] true (pB r1) [.box [pI p1],.box [pI p2]] [] []::nn 2 [])) [(6,pB (!r1))] [] (an (Nb p0 p1 p2 r1 hr1) (an2 tv tv)) ?_)
 obtain rfl:=sj hm
 exact DW.ret (Aj [] [] (pB (!r1)))
abbrev o131 (ks:List Nat) (b:Bool) (RES:Bool) (sm:List Nat := []):Orc := .call 110 ks b (pB RES) [] [] sm

theorem Aff (p0:Int) (p1:List Int) (p2:List Int) (RES:Bool) (hm:Ho p0 p1 p2=some RES):Spec Tryz.prog 42 [pI p0,.p (slI p1),.p (slI p2)] [] (pB RES) [] []:=by
 unfold Ho at hm
 refine SO Tryz.func42 rfl rfl [(0,pI p0),(1,.p (slI p1)),(2,.p (slI p2))] [] ?_
 intro cx hnt
 refine Sq (RD hnt (.no :: []) [] [] [] [] tv ?_)
 obtain ⟨r1,hr1,hm⟩:=bo hm
 refine Sq ?_
 refine Jn (ι:=Bool) (fun (y1:Bool)=>Af [(6,pB y1)] []) (fun y1=>Im y1=some RES) ?_ ?_
 ·intro y1 hm
  unfold Im at hm
  obtain rfl:=sj hm
  exact DW.ret (Aj [] [] (pB y1))
 ·rcases bt r1 with h2|h2
  ·replace hm:=Bt h2 hm
   rcases bt (decide (((p1.length:Nat):Int)≤64)) with h3|h3
   ·replace hm:=Bt h3 hm
    rcases bt (((p1.length:Nat):Int)==((p2.length:Nat):Int)) with h4|h4
    ·replace hm:=Bt h4 hm
     obtain ⟨r5,hr5,hm⟩:=bo hm
     rcases bt r5 with h6|h6
     ·replace hm:=Bt h6 hm
      obtain ⟨r7,hr7,hm⟩:=bo hm
      refine RK hnt (nn 2 (o131 [] true r1::nn 4 (pT::nn 6 (pT::nn 2 (o131 [] true r5::pT::nn 2 (o131 [] true r7::pT :: .no :: [])))))) [(6,pB r7)] [] (an (Spec.args (xs := [.p (.sl .unk 1 1 (cut 1 [vi p0])),pI 0,pI 65536]) (Ee [p0] 0 65536 r1 hr1) (.cons (.p (PLe.typed (RowIs.lit (enc:=Bm) (d:=0) (n:=1) (f:=(cut 1 [vi p0])) [p0] rfl (fun|0,_=>rfl|n+1,h=>absurd h (by omega))))) (.cons .rfl (.cons .rfl .nil)))) (an4 h2 (an6 h3 (an2 h4 (an (Ee p1 1 10000 r5 hr5) (an h4 (an2 h6 (an (Ee p2 0 65536 r7 hr7) (an h6 tv))))))))) ?_
      exact jD r7 hm .refl
     ·replace hm:=Bs h6 hm
      refine RK hnt (nn 2 (o131 [] true r1::nn 4 (pT::nn 6 (pT::nn 2 (o131 [] true r5::pT :: .no::sk 2 (pF :: .no :: [])))))) [(6,pB false)] [] (an (Spec.args (xs := [.p (.sl .unk 1 1 (cut 1 [vi p0])),pI 0,pI 65536]) (Ee [p0] 0 65536 r1 hr1) (.cons (.p (PLe.typed (RowIs.lit (enc:=Bm) (d:=0) (n:=1) (f:=(cut 1 [vi p0])) [p0] rfl (fun|0,_=>rfl|n+1,h=>absurd h (by omega))))) (.cons .rfl (.cons .rfl .nil)))) (an4 h2 (an6 h3 (an2 h4 (an (Ee p1 1 10000 r5 hr5) (an h4 (an3 h6 tv))))))) ?_
      exact jD false hm .refl
    ·replace hm:=Bs h4 hm
     refine RK hnt (nn 2 (o131 [] true r1::nn 4 (pT::nn 6 (pT :: .no::sk 2 (pF :: .no::sk 2 (pF :: .no :: [])))))) [(6,pB false)] [] (an (Spec.args (xs := [.p (.sl .unk 1 1 (cut 1 [vi p0])),pI 0,pI 65536]) (Ee [p0] 0 65536 r1 hr1) (.cons (.p (PLe.typed (RowIs.lit (enc:=Bm) (d:=0) (n:=1) (f:=(cut 1 [vi p0])) [p0] rfl (fun|0,_=>rfl|n+1,h=>absurd h (by omega))))) (.cons .rfl (.cons .rfl .nil)))) (an4 h2 (an6 h3 (an3 h4 (an3 ff tv))))) ?_
     exact jD false hm .refl
   ·replace hm:=Bs h3 hm
    refine RK hnt (nn 2 (o131 [] true r1::nn 4 (pT :: .no::sk 5 (pF :: .no::sk 2 (pF :: .no::sk 2 (pF :: .no :: [])))))) [(6,pB false)] [] (an (Spec.args (xs := [.p (.sl .unk 1 1 (cut 1 [vi p0])),pI 0,pI 65536]) (Ee [p0] 0 65536 r1 hr1) (.cons (.p (PLe.typed (RowIs.lit (enc:=Bm) (d:=0) (n:=1) (f:=(cut 1 [vi p0])) [p0] rfl (fun|0,_=>rfl|n+1,h=>absurd h (by omega))))) (.cons .rfl (.cons .rfl .nil)))) (an4 h2 (an6 h3 (an6 ff tv)))) ?_
    exact jD false hm .refl
  ·replace hm:=Bs h2 hm
   refine RK hnt (nn 2 (o131 [] true r1 :: .no::sk 3 (pF :: .no::sk 5 (pF :: .no::sk 2 (pF :: .no::sk 2 (pF :: .no :: [])))))) [(6,pB false)] [] (an (Spec.args (xs := [.p (.sl .unk 1 1 (cut 1 [vi p0])),pI 0,pI 65536]) (Ee [p0] 0 65536 r1 hr1) (.cons (.p (PLe.typed (RowIs.lit (enc:=Bm) (d:=0) (n:=1) (f:=(cut 1 [vi p0])) [p0] rfl (fun|0,_=>rfl|n+1,h=>absurd h (by omega))))) (.cons .rfl (.cons .rfl .nil)))) (an4 h2 (an6 ff (an6 ff tv)))) ?_
   exact jD false hm .refl
abbrev o130 (ks:List Nat) (b:Bool) (RES:Bool) (sm:List Nat := []):Orc := .call 42 ks b (pB RES) [] [] sm

abbrev Le (s6:Int×Int) (p1:List Int) (k9:Nat):=(w64 (Int.tdiv (w64 (s6.1*(p1.getD k9 0))) s6.2))
theorem Afj (p0:Int) (p1:List Int) (p2:List Int) (RES:List Int) (hm:Hj p0 p1 p2=some RES):Spec Tryz.prog 111 [pI p0,.p (slI p1),.p (slI p2)] [] (ow 0 RES.length) [] [roI RES]:=by
 unfold Hj at hm
 refine SO Tryz.func111 rfl rfl [(0,pI p0),(1,.p (slI p1)),(2,.p (slI p2))] [] ?_
 intro cx hnt
 refine Sq (RD hnt (.no :: []) [] [] [] [] tv ?_)
 obtain ⟨g1,hm⟩:=go1 hm
 refine Sq (RN hnt (nn 4 []) [(0,pI p0),(1,.p (slI p1)),(2,.p (slI p2)),(7,ow 1144 (List.replicate p1.length (0:Int)).length)] [(1144,ob0 (roI (List.replicate p1.length (0:Int))))] [(7,ow 1144 p1.length)] [(1144,.row 1 p1.length (fun _ => [vi 0]))] (an (by omega:(0:Int)≤((p1.length:Nat):Int)) (an (rfl:(((p1.length:Nat):Int):Int)=((p1.length:Nat):Int)) (an (by omega:((p1.length:Nat):Int)≤9223372036854775807) (an (by omega:((p1.length:Nat):Int)*8≤140737488355328) tv)))) (by kernel_rfl) (.cons rfl (MLe.ownLen (enc:=Bm) (d:=0) (f:=(fun _ => [vi 0])) (RowIs.reps (0:Int) rfl)) .nil) (.cons rfl (BLe.typed (RowIs.reps (0:Int) rfl)) .nil) ?_)
 obtain ⟨g2,hm⟩:=go1 hm
 refine Sq (RN hnt (nn 4 []) [(0,pI p0),(1,.p (slI p1)),(2,.p (slI p2)),(7,ow 1144 (List.replicate p1.length (0:Int)).length),(8,ow 1168 (List.replicate p1.length (false:Bool)).length)] [(1144,ob0 (roI (List.replicate p1.length (0:Int)))),(1168,ob0 (roB (List.replicate p1.length (false:Bool))))] [(8,ow 1168 p1.length)] [(1168,.row 1 p1.length (fun _ => [vb false]))] (an (by omega:(0:Int)≤((p1.length:Nat):Int)) (an (rfl:(((p1.length:Nat):Int):Int)=((p1.length:Nat):Int)) (an (by omega:((p1.length:Nat):Int)≤9223372036854775807) (an (by omega:((p1.length:Nat):Int)*1≤140737488355328) tv)))) (by kernel_rfl) (.cons rfl (MLe.ownLen (enc:=Aek) (d:=false) (f:=(fun _ => [vb false])) (RowIs.reps (false:Bool) rfl)) .nil) (.cons rfl (BLe.typed (RowIs.reps (false:Bool) rfl)) .nil) ?_)
 refine Sq (Sq (RD hnt (.no :: []) [] [(9,pB true)] [] [] tv ?_))
 refine Bk ?_
 refine DW.whileO (fun (s1:(List Int)×(List Bool)×Bool)=>Af [(0,pI p0),(1,.p (slI p1)),(2,.p (slI p2)),(7,ow 1144 s1.1.length),(8,ow 1168 s1.2.1.length),(9,pB s1.2.2)] [(1144,ob0 (roI s1.1)),(1168,ob0 (roB s1.2.1))]) hm Conv.eqK ?_
 intro s1 n1 hm
 unfold Ro at hm
 refine Sq (Sq (RD hnt (.no :: []) [9] [(22,pB s1.2.2)] [] [] tv ?_))
 refine Ak hm ?_ ?_
 ·intro h120 hm
  refine Sk ?_
  refine Bk ?_
  refine Sq (RD hnt (.no :: []) [22] [(9,pB false)] [] [] tv ?_)
  refine Sq (RD hnt (nn 3 []) [] [(10,pI p0),(11,pI 0)] [] [] tv ?_)
  refine Sq (Sq (RD hnt (nn 3 []) [] [(24,.p (slI p1)),(25,pI ((p1.length:Nat):Int)),(26,pI 0)] [] [] tv ?_))
  refine Bk ?_
  obtain ⟨hc6,hm⟩:=go1 hm
  refine DW.rangeO (fun (k6:Nat) (s6:Int×Int)=>Af [(0,pI p0),(1,.p (slI p1)),(2,.p (slI p2)),(7,ow 1144 s1.1.length),(8,ow 1168 s1.2.1.length),(9,pB false),(10,pI s6.1),(11,pI s6.2),(24,.p (slI p1)),(25,pI ((p1.length:Nat):Int)),(26,pI ((k6:Nat):Int))] [(1144,ob0 (roI s1.1)),(1168,ob0 (roB s1.2.1))]) 0 hm Conv.eqK ?_
  intro k6 s6 n6 hk6 hs6 he6
  refine Sq (RD hnt (.no :: []) [] [(27,pB (decide (((k6:Nat):Int)<((p1.length:Nat):Int))))] [] [] tv ?_)
  refine Sq (Bu (decide (((k6:Nat):Int)<((p1.length:Nat):Int))) ?_ ?_)
  ·intro h183
   have hlt6:k6<p1.length:=by have:=of_decide_eq_true h183; omega
   have hm:=hs6 hlt6
   unfold Ni at hm
   refine Sk ?_
   refine Sq ?_
   refine Jn (ι:=Int×Int) (fun (y15:Int×Int)=>Af [(0,pI p0),(1,.p (slI p1)),(2,.p (slI p2)),(7,ow 1144 s1.1.length),(8,ow 1168 s1.2.1.length),(9,pB false),(10,pI y15.1),(11,pI y15.2),(24,.p (slI p1)),(25,pI ((p1.length:Nat):Int)),(26,pI ((k6:Nat):Int))] [(1144,ob0 (roI s1.1)),(1168,ob0 (roB s1.2.1))]) (fun y15=>(Mo n6) y15=some RES) ?_ ?_
   ·intro y15 hm
    unfold Mo at hm
    refine RD hnt (nn 2 []) [] [(26,pI (w64 (((k6:Nat):Int)+1)))] [] [] tv ?_
    exact jD (y15.1,y15.2) ⟨hlt6,hm⟩ (Conv.tp [(26,pI (w64 (((k6:Nat):Int)+1)))] [] (by kernel_rfl) (.cons rfl (.of_eq (congrArg pI (Bb hlt6 hc6))) .nil) .nil)
   ·refine Bk ?_
    refine Sq (RD hnt (nn 5 []) [27] [(12,pI ((k6:Nat):Int)),(13,pI (p1.getD k6 0))] [] [] (an (nn0 k6) (an (ltc hlt6) tv)) ?_)
    obtain ⟨g184,g185,hm⟩:=go2 hm
    refine Sq (RD hnt (nn 4 []) [] [(34,pB (s1.2.1.getD k6 false))] [] [] (an (nn0 k6) (an (ltc g184) (an g185 tv))) ?_)
    refine Ak hm ?_ ?_
    ·intro h186 hm
     obtain ⟨g187,hm⟩:=go1 hm
     refine RD hnt (nn 7 []) [12,13,34] [(10,pI (w64 (s6.1-(p2.getD k6 0))))] [] [] (an (nn0 k6) (an (ltc g187) tv)) ?_
     exact bD ((w64 (s6.1-(p2.getD k6 0))),s6.2) hm Conv.eqK
    ·intro h186 hm
     refine RD hnt (nn 4 []) [12,13,34] [(11,pI (w64 (s6.2+(p1.getD k6 0))))] [] [] tv ?_
     exact bD (s6.1,(w64 (s6.2+(p1.getD k6 0)))) hm Conv.eqK
  ·intro h183
   have hge6:¬ k6<p1.length:=by have:=of_decide_eq_false h183; omega
   have hm:=he6 hge6
   unfold Kz at hm
   refine DW.exit ?_
   refine Ai ?_
   refine Ap ?_
   refine Ae ?_
   show DW _ _ _ _ _
   refine Sq (RD hnt (nn 3 []) [24,25,26,27] [(45,.p (slI p1)),(46,pI ((p1.length:Nat):Int)),(47,pI 0)] [] [] tv ?_)
   refine Bk ?_
   obtain ⟨hc9,hm⟩:=go1 hm
   refine DW.rangeO (fun (k9:Nat) (s9:(List Int)×(List Bool)×Bool)=>Af [(0,pI p0),(1,.p (slI p1)),(2,.p (slI p2)),(7,ow 1144 s9.1.length),(8,ow 1168 s9.2.1.length),(9,pB s9.2.2),(10,pI s6.1),(11,pI s6.2),(45,.p (slI p1)),(46,pI ((p1.length:Nat):Int)),(47,pI ((k9:Nat):Int))] [(1144,ob0 (roI s9.1)),(1168,ob0 (roB s9.2.1))]) 0 hm Conv.eqK ?_
   intro k9 s9 n9 hk9 hs9 he9
   refine Sq (RD hnt (.no :: []) [] [(48,pB (decide (((k9:Nat):Int)<((p1.length:Nat):Int))))] [] [] tv ?_)
   refine Sq (Bu (decide (((k9:Nat):Int)<((p1.length:Nat):Int))) ?_ ?_)
   ·intro h222
    have hlt9:k9<p1.length:=by have:=of_decide_eq_true h222; omega
    have hm:=hs9 hlt9
    unfold Rh at hm
    refine Sk ?_
    refine Sq ?_
    refine Jn (ι:=(List Int)×(List Bool)×Bool) (fun (y18:(List Int)×(List Bool)×Bool)=>Af [(0,pI p0),(1,.p (slI p1)),(2,.p (slI p2)),(7,ow 1144 y18.1.length),(8,ow 1168 y18.2.1.length),(9,pB y18.2.2),(10,pI s6.1),(11,pI s6.2),(45,.p (slI p1)),(46,pI ((p1.length:Nat):Int)),(47,pI ((k9:Nat):Int))] [(1144,ob0 (roI y18.1)),(1168,ob0 (roB y18.2.1))]) (fun y18=>(Ji n9) y18=some RES) ?_ ?_
    ·intro y18 hm
     unfold Ji at hm
     refine RD hnt (nn 2 []) [] [(47,pI (w64 (((k9:Nat):Int)+1)))] [] [] tv ?_
     exact jD (y18.1,y18.2.1,y18.2.2) ⟨hlt9,hm⟩ (Conv.tp [(47,pI (w64 (((k9:Nat):Int)+1)))] [] (by kernel_rfl) (.cons rfl (.of_eq (congrArg pI (Bb hlt9 hc9))) .nil) .nil)
    ·refine Bk ?_
     refine Sq (RD hnt (nn 5 []) [48] [(14,pI ((k9:Nat):Int)),(15,pI (p1.getD k9 0))] [] [] (an (nn0 k9) (an (ltc hlt9) tv)) ?_)
     obtain ⟨g223,g224,hm⟩:=go2 hm
     refine Sq (Sq (RD hnt (nn 4 []) [] [(55,pB (s9.2.1.getD k9 false))] [] [] (an (nn0 k9) (an (ltc g223) (an g224 tv))) ?_))
     refine Ak hm ?_ ?_
     ·intro h225 hm
      refine DW.exit ?_
      exact Ae (Tz (s9.1,s9.2.1,s9.2.2) hm Conv.t0)
     ·intro h225 hm
      refine Sk ?_
      obtain ⟨g226,g227,g228,hm⟩:=go3 hm
      refine Sq (RN hnt (nn 9 []) [(0,pI p0),(1,.p (slI p1)),(2,.p (slI p2)),(7,ow 1144 (s9.1.set k9 (Le s6 p1 k9)).length),(8,ow 1168 s9.2.1.length),(9,pB s9.2.2),(10,pI s6.1),(11,pI s6.2),(14,pI ((k9:Nat):Int)),(45,.p (slI p1)),(46,pI ((p1.length:Nat):Int)),(47,pI ((k9:Nat):Int))] [(1144,ob0 (roI (s9.1.set k9 (Le s6 p1 k9)))),(1168,ob0 (roB s9.2.1))] [(7,ow 1144 s9.1.length)] [(1144,.row 1 s9.1.length (Az (elI s9.1) k9 [vi (Le s6 p1 k9)]))] (an g226 (an (nn0 k9) (an (ltc g227) (an g228 tv)))) (by kernel_rfl) (.cons rfl (MLe.ownLen (enc:=Bm) (d:=0) (f:=(Az (elI s9.1) k9 [vi (Le s6 p1 k9)])) (RowIs.upd RowIs.elems (Le s6 p1 k9) rfl)) .nil) (.cons rfl (BLe.typed (RowIs.upd RowIs.elems (Le s6 p1 k9) rfl)) .nil) ?_)
      obtain ⟨g229,g230,g231,hm⟩:=go3 hm
      refine Sq (RD hnt (nn 9 []) [] [(72,pB (decide (((s9.1.set k9 (Le s6 p1 k9)).getD k9 0)≥(p2.getD k9 0))))] [] [] (an (nn0 k9) (an (ltc g229) (an g230 (an (nn0 k9) (an (ltc g231) tv))))) ?_)
      refine Ak hm ?_ ?_
      ·intro h232 hm
       obtain ⟨g233,g234,g235,g236,hm⟩:=go4 hm
       obtain ⟨g237,hm⟩:=go1 hm
       refine RN hnt (nn 13 []) [(0,pI p0),(1,.p (slI p1)),(2,.p (slI p2)),(7,ow 1144 ((s9.1.set k9 (Le s6 p1 k9)).set k9 (p2.getD k9 0)).length),(8,ow 1168 (s9.2.1.set k9 true).length),(9,pB true),(10,pI s6.1),(11,pI s6.2),(45,.p (slI p1)),(46,pI ((p1.length:Nat):Int)),(47,pI ((k9:Nat):Int))] [(1144,ob0 (roI ((s9.1.set k9 (Le s6 p1 k9)).set k9 (p2.getD k9 0)))),(1168,ob0 (roB (s9.2.1.set k9 true)))] [(7,ow 1144 (s9.1.set k9 (Le s6 p1 k9)).length),(8,ow 1168 s9.2.1.length)] [(1144,.row 1 (s9.1.set k9 (Le s6 p1 k9)).length (Az (elI (s9.1.set k9 (Le s6 p1 k9))) k9 [vi (p2.getD k9 0)])),(1168,.row 1 s9.2.1.length (Az (elB s9.2.1) k9 [vb true]))] (an (nn0 k9) (an (ltc g233) (an (nn0 k9) (an (ltc g234) (an g235 (an (nn0 k9) (an (ltc g236) (an g237 tv)))))))) (by kernel_rfl) (.cons rfl (MLe.ownLen (enc:=Bm) (d:=0) (f:=(Az (elI (s9.1.set k9 (Le s6 p1 k9))) k9 [vi (p2.getD k9 0)])) (RowIs.upd RowIs.elems (p2.getD k9 0) rfl)) (.cons rfl (MLe.ownLen (enc:=Aek) (d:=false) (f:=(Az (elB s9.2.1) k9 [vb true])) (RowIs.upd RowIs.elems true rfl)) .nil)) (.cons rfl (BLe.typed (RowIs.upd RowIs.elems (p2.getD k9 0) rfl)) (.cons rfl (BLe.typed (RowIs.upd RowIs.elems true rfl)) .nil)) ?_
       exact bD (((s9.1.set k9 (Le s6 p1 k9)).set k9 (p2.getD k9 0)),(s9.2.1.set k9 true),true) hm .refl
      ·intro h232 hm
       refine Sk ?_
       exact bD ((s9.1.set k9 (Le s6 p1 k9)),s9.2.1,s9.2.2) hm Conv.t0
   ·intro h222
    have hge9:¬ k9<p1.length:=by have:=of_decide_eq_false h222; omega
    have hm:=he9 hge9
    unfold Ng at hm
    refine DW.exit ?_
    refine Ai ?_
    refine Ap ?_
    refine Ae ?_
    show DW _ _ _ _ _
    refine DW.done ?_
    show DW _ _ _ _ _
    exact jD (s9.1,s9.2.1,s9.2.2) hm Conv.t0
 ·intro h120 hm
  refine DW.exit ?_
  refine Ai ?_
  refine Ap ?_
  refine Ae ?_
  show DW _ _ _ _ _
  refine Sq (RK hnt (nn 2 []) [(6,ow 1144 s1.1.length)] [(1144,ob0 (roI s1.1))] tv ?_)
  obtain rfl:=sj hm
  exact DW.ret (Aj [roI s1.1] [1144] (ow 0 s1.1.length))
abbrev o136 (ks:List Nat) (b:Bool) (RES:List Int) (sm:List Nat := []):Orc := .call 111 ks b (ow 0 RES.length) [] [roI RES] sm

theorem Agw (p0:List Int) (RES:Int) (hm:Kf p0=some RES):Spec Tryz.prog 112 [.p (slI p0)] [] (pI RES) [] []:=by
 unfold Kf at hm
 refine SO Tryz.func112 rfl rfl [(0,.p (slI p0))] [] ?_
 intro cx hnt
 refine Sq (RK hnt (.no :: []) [(0,.p (slI p0))] [] tv ?_)
 refine Sq (RD hnt (.no :: []) [] [(3,pI 0)] [] [] tv ?_)
 refine Sq (Sq (RK hnt (nn 3 []) [(3,pI 0),(6,.p (slI p0)),(7,pI ((p0.length:Nat):Int)),(8,pI 0)] [] tv ?_))
 refine Bk ?_
 obtain ⟨hc1,hm⟩:=go1 hm
 refine DW.rangeO (fun (k1:Nat) (s1:Int)=>Af [(3,pI s1),(6,.p (slI p0)),(7,pI ((p0.length:Nat):Int)),(8,pI ((k1:Nat):Int))] []) 0 hm .refl ?_
 intro k1 s1 n1 hk1 hs1 he1
 refine Sq (RD hnt (.no :: []) [] [(9,pB (decide (((k1:Nat):Int)<((p0.length:Nat):Int))))] [] [] tv ?_)
 refine Sq (Bu (decide (((k1:Nat):Int)<((p0.length:Nat):Int))) ?_ ?_)
 ·intro h5
  have hlt1:k1<p0.length:=by have:=of_decide_eq_true h5; omega
  have hm:=hs1 hlt1
  unfold Zq at hm
  refine Sk ?_
  refine Sq (Bk ?_)
  refine Sq (RD hnt (nn 3 []) [9] [(5,pI (p0.getD k1 0))] [] [] (an (nn0 k1) (an (ltc hlt1) tv)) ?_)
  refine RD hnt (nn 4 []) [5] [(3,pI (w64 (s1+(p0.getD k1 0))))] [] [] tv ?_
  refine DW.done ?_
  show DW _ _ _ _ _
  refine RD hnt (nn 2 []) [] [(8,pI (w64 (((k1:Nat):Int)+1)))] [] [] tv ?_
  exact jD (w64 (s1+(p0.getD k1 0))) ⟨hlt1,hm⟩ (Conv.tp [(8,pI (w64 (((k1:Nat):Int)+1)))] [] (by kernel_rfl) (.cons rfl (.of_eq (congrArg pI (Bb hlt1 hc1))) .nil) .nil)
 ·intro h5
  have hge1:¬ k1<p0.length:=by have:=of_decide_eq_false h5; omega
  have hm:=he1 hge1
  unfold Adq at hm
  refine DW.exit ?_
  refine Ai ?_
  refine Ap ?_
  refine Ae ?_
  show DW _ _ _ _ _
  refine Sq (RK hnt (nn 2 []) [(2,pI s1)] [] tv ?_)
  obtain rfl:=sj hm
  exact DW.ret (Aj [] [] (pI s1))
abbrev o137 (ks:List Nat) (b:Bool) (RES:Int) (sm:List Nat := []):Orc := .call 112 ks b (pI RES) [] [] sm

theorem Afc (p0:List Int) (p1:List Int) (p2:Int) (p3:Int) (RES:Int) (hm:Qt p0 p1 p2 p3=some RES):Spec Tryz.prog 184 [.p (slI p0),.p (slI p1),pI p2,pI p3] [] (pI RES) [] []:=by
 unfold Qt at hm
 refine SO Tryz.func184 rfl rfl [(0,.p (slI p0)),(1,.p (slI p1)),(2,pI p2),(3,pI p3)] [] ?_
 intro cx hnt
 refine Sq (RD hnt (.no :: []) [] [] [] [] tv ?_)
 obtain ⟨g1,g2,g3,g4,hm⟩:=go4 hm
 refine Sq (RK hnt (nn 22 []) [(9,pI (w64 ((w64 ((p1.getD (Int.toNat p2) 0)+1))*(p0.getD (Int.toNat p3) 0)))),(10,pI (w64 ((w64 ((p1.getD (Int.toNat p3) 0)+1))*(p0.getD (Int.toNat p2) 0))))] [] (an g1.1 (an g1.2 (an g2.1 (an g2.2 (an g3.1 (an g3.2 (an g4.1 (an g4.2 tv)))))))) ?_)
 refine Sq (Bk ?_)
 refine Sq (RD hnt (nn 4 []) [] [(31,pB (decide ((w64 ((w64 ((p1.getD (Int.toNat p2) 0)+1))*(p0.getD (Int.toNat p3) 0)))<(w64 ((w64 ((p1.getD (Int.toNat p3) 0)+1))*(p0.getD (Int.toNat p2) 0))))))] [] [] tv ?_)
 refine Ak hm ?_ ?_
 ·intro h5 hm
  refine Sq (RK hnt (.no :: []) [(8,pI (-1))] [] tv ?_)
  obtain rfl:=sj hm
  exact DW.ret (Aj [] [] (pI (-1)))
 ·intro h5 hm
  refine Sq (RK hnt (nn 4 []) [(35,pB (decide ((w64 ((w64 ((p1.getD (Int.toNat p2) 0)+1))*(p0.getD (Int.toNat p3) 0)))>(w64 ((w64 ((p1.getD (Int.toNat p3) 0)+1))*(p0.getD (Int.toNat p2) 0))))))] [] tv ?_)
  refine Ak hm ?_ ?_
  ·intro h6 hm
   refine Sq (RK hnt (.no :: []) [(8,pI 1)] [] tv ?_)
   obtain rfl:=sj hm
   exact DW.ret (Aj [] [] (pI 1))
  ·intro h6 hm
   refine Sk ?_
   refine DW.done ?_
   show DW _ _ _ _ _
   refine Sq (RK hnt (.no :: []) [(8,pI 0)] [] tv ?_)
   obtain rfl:=sj hm
   exact DW.ret (Aj [] [] (pI 0))
abbrev o139 (ks:List Nat) (b:Bool) (RES:Int) (sm:List Nat := []):Orc := .call 184 ks b (pI RES) [] [] sm

theorem AeZ (p0:List Int) (p1:List Int) (p2:List Int) (RES:Int×Bool) (hm:Qu p0 p1 p2=some RES):Spec Tryz.prog 113 [.p (slI p0),.p (slI p1),.p (slI p2)] [] (.p (.tup [vi RES.1,vb RES.2])) [] []:=by
 unfold Qu at hm
 refine SO Tryz.func113 rfl rfl [(0,.p (slI p0)),(1,.p (slI p1)),(2,.p (slI p2))] [] ?_
 intro cx hnt
 refine Sq (RD hnt (nn 2 []) [] [] [] [] tv ?_)
 refine Sq (RD hnt (.no :: []) [] [(8,pI (-1))] [] [] tv ?_)
 refine Sq (Sq (RD hnt (nn 3 []) [2] [(11,.p (slI p2)),(12,pI ((p2.length:Nat):Int)),(13,pI 0)] [] [] tv ?_))
 refine Bk ?_
 obtain ⟨hc1,hm⟩:=go1 hm
 refine DW.rangeO (fun (k1:Nat) (s1:Int)=>Af [(0,.p (slI p0)),(1,.p (slI p1)),(8,pI s1),(11,.p (slI p2)),(12,pI ((p2.length:Nat):Int)),(13,pI ((k1:Nat):Int))] []) 0 hm Conv.eqK ?_
 intro k1 s1 n1 hk1 hs1 he1
 refine Sq (RD hnt (.no :: []) [] [(14,pB (decide (((k1:Nat):Int)<((p2.length:Nat):Int))))] [] [] tv ?_)
 refine Sq (Bu (decide (((k1:Nat):Int)<((p2.length:Nat):Int))) ?_ ?_)
 ·intro h15
  have hlt1:k1<p2.length:=by have:=of_decide_eq_true h15; omega
  have hm:=hs1 hlt1
  unfold Vj at hm
  refine Sk ?_
  refine Sq ?_
  refine Jn (ι:=Int) (fun (y5:Int)=>Af [(0,.p (slI p0)),(1,.p (slI p1)),(8,pI y5),(11,.p (slI p2)),(12,pI ((p2.length:Nat):Int)),(13,pI ((k1:Nat):Int))] []) (fun y5=>(Nj n1) y5=some RES) ?_ ?_
  ·intro y5 hm
   unfold Nj at hm
   refine RD hnt (nn 2 []) [] [(13,pI (w64 (((k1:Nat):Int)+1)))] [] [] tv ?_
   exact jD y5 ⟨hlt1,hm⟩ (Conv.tp [(13,pI (w64 (((k1:Nat):Int)+1)))] [] (by kernel_rfl) (.cons rfl (.of_eq (congrArg pI (Bb hlt1 hc1))) .nil) .nil)
  ·refine Bk ?_
   refine Sq (RD hnt (nn 5 []) [14] [(9,pI ((k1:Nat):Int)),(10,pI (p2.getD k1 0))] [] [] (an (nn0 k1) (an (ltc hlt1) tv)) ?_)
   obtain ⟨g16,hm⟩:=go1 hm
   refine Sq ?_
   refine Jn (ι:=Bool) (fun (y6:Bool)=>Af [(0,.p (slI p0)),(1,.p (slI p1)),(8,pI s1),(9,pI ((k1:Nat):Int)),(11,.p (slI p2)),(12,pI ((p2.length:Nat):Int)),(13,pI ((k1:Nat):Int)),(35,pB y6)] []) (fun y6=>(Ik k1 s1 n1) y6=some RES) ?_ ?_
   ·intro y6 hm
    unfold Ik at hm
    refine Ak hm ?_ ?_
    ·intro h20 hm
     refine RD hnt (nn 2 []) [9,35] [(8,pI ((k1:Nat):Int))] [] [] tv ?_
     exact bD ((k1:Nat):Int) hm Conv.eqK
    ·intro h20 hm
     refine Sk ?_
     exact bD s1 hm Conv.t0
   ·rcases bt (decide ((p1.getD k1 0)<(p2.getD k1 0))) with h17|h17
    ·replace hm:=Bt h17 hm
     rcases bt (decide (s1<0)) with h18|h18
     ·replace hm:=Bt h18 hm
      refine RD hnt (nn 10 (sk 6 (pT::pT :: []))) [10] [(35,pB true)] [] [] (an (nn0 k1) (an (ltc g16) (an3 h17 (an6 h18 (an h17 (an h18 (an h17 tv))))))) ?_
      exact jD true hm Conv.eqK
     ·replace hm:=Bs h18 hm
      obtain ⟨r19,hr19,hm⟩:=bo hm
      refine RD hnt (nn 14 (o139 [] true r19 :: .no::pF::pT :: [])) [10] [(35,pB (decide (r19<0)))] [] [] (an (nn0 k1) (an (ltc g16) (an3 h17 (an5 h18 (an (Afc p0 p1 ((k1:Nat):Int) s1 r19 hr19) (an h18 (an h17 (an h18 (an h17 tv))))))))) ?_
      exact jD (decide (r19<0)) hm Conv.eqK
    ·replace hm:=Bs h17 hm
     refine RD hnt (nn 7 (sk 10 (pF :: []))) [10] [(35,pB false)] [] [] (an (nn0 k1) (an (ltc g16) (an5 h17 tv))) ?_
     exact jD false hm Conv.eqK
 ·intro h15
  have hge1:¬ k1<p2.length:=by have:=of_decide_eq_false h15; omega
  have hm:=he1 hge1
  unfold Wc at hm
  refine DW.exit ?_
  refine Ai ?_
  refine Ap ?_
  refine Ae ?_
  show DW _ _ _ _ _
  refine Sq (RK hnt (nn 6 []) [(6,pI (Fd s1 0)),(7,pB (decide (s1≥0)))] [] tv ?_)
  obtain rfl:=sj hm
  exact DW.ret (Aj [] [] (.p (.tup [vi (Fd s1 0),vb (decide (s1≥0))])))
abbrev o138 (ks:List Nat) (b:Bool) (RES:Int×Bool) (sm:List Nat := []):Orc := .call 113 ks b (.p (.tup [vi RES.1,vb RES.2])) [] [] sm

abbrev Aae (s1:List Int) (r18:Int×Bool):=(w64 ((s1.getD (Int.toNat r18.1) 0)+1))
theorem AeD (p0:Int) (p1:List Int) (p2:List Int) (RES:List Int) (hm:Lq p0 p1 p2=some RES):Spec Tryz.prog 43 [pI p0,.p (slI p1),.p (slI p2)] [] (ow 0 RES.length) [] [roI RES]:=by
 unfold Lq at hm
 refine SO Tryz.func43 rfl rfl [(0,pI p0),(1,.p (slI p1)),(2,.p (slI p2))] [] ?_
 intro cx hnt
 refine Sq (RD hnt (.no :: []) [] [] [] [] tv ?_)
 obtain ⟨r1,hr1,hm⟩:=bo hm
 refine Sq (RD hnt (nn 3 (o136 [] true r1 :: .no :: [])) [] [(7,ow 1104 r1.length)] [] [(1104,ob0 (roI r1))] (an (Afj p0 p1 p2 r1 hr1) tv) ?_)
 obtain ⟨r2,hr2,hm⟩:=bo hm
 refine Sq (Sq (RD hnt (nn 2 (o137 [] true r2::nn 2 [])) [0] [(17,pI (w64 (p0-r2))),(18,pI 0)] [] [] (an (Agw r1 r2 hr2) tv) ?_))
 refine Jn (ι:=List Int) (fun (y1:List Int)=>Af [(7,ow 1104 y1.length)] [(1104,ob0 (roI y1))]) (fun y1=>Qa y1=some RES) ?_ ?_
 ·intro y1 hm
  unfold Qa at hm
  refine Sq (RD hnt (nn 2 []) [7] [(6,ow 1104 y1.length)] [] [] tv ?_)
  obtain rfl:=sj hm
  exact DW.ret (Aj [roI y1] [1104] (ow 0 y1.length))
 ·refine Bk ?_
  obtain ⟨hc1,hm⟩:=go1 hm
  refine DW.forO (fun (k1:Int) (s1:List Int)=>Af [(1,.p (slI p1)),(2,.p (slI p2)),(7,ow 1104 s1.length),(17,pI (w64 (p0-r2))),(18,pI k1)] [(1104,ob0 (roI s1))]) (lo:=0) (hi:=(w64 (p0-r2))) hm Conv.eqK ?_
  intro k1 s1 n1 hk1 hs1 he1
  refine Sq (RD hnt (.no :: []) [] [(19,pB (decide (k1<(w64 (p0-r2)))))] [] [] tv ?_)
  refine Sq (Bu (decide (k1<(w64 (p0-r2)))) ?_ ?_)
  ·intro h17
   have hlt1:k1<(w64 (p0-r2)):=by have:=of_decide_eq_true h17; omega
   have hm:=hs1 hlt1
   unfold Mj at hm
   refine Sk ?_
   refine Sq (Bk ?_)
   obtain ⟨r18,hr18,hm⟩:=bo hm
   refine Sq (RD hnt (nn 3 (o138 [] true r18::nn 5 [])) [19] [(8,pI r18.1),(9,pB r18.2)] [] [] (an (AeZ p1 s1 p2 r18 hr18) tv) ?_)
   refine Sq (Sq (RD hnt (nn 2 []) [9] [(28,pB (!r18.2))] [] [] tv ?_))
   refine Ak hm ?_ ?_
   ·intro h19 hm
    refine DW.exit ?_
    refine Gh (by decide) ?_
    refine Ap ?_
    refine Ai ?_
    refine Ap ?_
    exact Ae (Tz s1 hm Conv.t0)
   ·intro h19 hm
    refine Sk ?_
    obtain ⟨g20,g21,g22,g23,hm⟩:=go4 hm
    refine RN hnt (nn 7 []) [(1,.p (slI p1)),(2,.p (slI p2)),(7,ow 1104 (s1.set (Int.toNat r18.1) (Aae s1 r18)).length),(17,pI (w64 (p0-r2))),(18,pI k1)] [(1104,ob0 (roI (s1.set (Int.toNat r18.1) (Aae s1 r18))))] [(7,ow 1104 s1.length)] [(1104,.row 1 s1.length (Az (elI s1) (Int.toNat r18.1) [vi (Aae s1 r18)]))] (an g20.1 (an g20.2 (an g21 (an g22.1 (an g22.2 (an g23 tv)))))) (by kernel_rfl) (.cons rfl (MLe.ownLen (enc:=Bm) (d:=0) (f:=(Az (elI s1) (Int.toNat r18.1) [vi (Aae s1 r18)])) (RowIs.upd RowIs.elems (Aae s1 r18) rfl)) .nil) (.cons rfl (BLe.typed (RowIs.upd RowIs.elems (Aae s1 r18) rfl)) .nil) ?_
    refine DW.done ?_
    show DW _ _ _ _ _
    refine RD hnt (nn 2 []) [] [(18,pI (w64 (k1+1)))] [] [] tv ?_
    exact jD (s1.set (Int.toNat r18.1) (Aae s1 r18)) ⟨hlt1,hm⟩ (Conv.tp [(18,pI (w64 (k1+1)))] [] (by kernel_rfl) (.cons rfl (.of_eq (congrArg pI (Pr (lo:=0) (hi:=(w64 (p0-r2))) (by omega) hk1 hlt1 (by omega)))) .nil) .nil)
  ·intro h17
   have hge1:¬ k1<(w64 (p0-r2)):=by have:=of_decide_eq_false h17; omega
   have hm:=he1 hge1
   unfold AaL at hm
   refine DW.exit ?_
   refine Ai ?_
   refine Ap ?_
   exact Ae (Tz s1 hm Conv.t0)
abbrev o135 (ks:List Nat) (b:Bool) (RES:List Int) (sm:List Nat := []):Orc := .call 43 ks b (ow 0 RES.length) [] [roI RES] sm

theorem AeC (p0:Int) (p1:List Int) (p2:List Int) (RES:List Int) (hm:Ds p0 p1 p2=some RES):Spec Tryz.prog 13 [pI p0,.p (slI p1),.p (slI p2)] [] (ow 0 RES.length) [] [roI RES]:=by
 unfold Ds at hm
 refine SO Tryz.func13 rfl rfl [(0,pI p0),(1,.p (slI p1)),(2,.p (slI p2))] [] ?_
 intro cx hnt
 refine Sq (RD hnt (.no :: []) [] [] [] [] tv ?_)
 obtain ⟨r1,hr1,hm⟩:=bo hm
 refine Sq (Sq (RD hnt (nn 3 (o130 [] true r1 :: .no :: [])) [] [(11,pB (!r1))] [] [] (an (Aff p0 p1 p2 r1 hr1) tv) ?_))
 refine Ak hm ?_ ?_
 ·intro h2 hm
  refine Sq (RK hnt (.no :: []) [(6,.p (.sl .nil 0 0 (fun _ => [])))] [] tv ?_)
  refine DW.cv [] [(6,ow 100000 0)] [] [(100000,ob0 (roI []))] (Conv.ads [(.s 6,100000,1,elems Bm 0 [])]) ?_
  obtain rfl:=sj hm
  exact DW.ret (Aj [roI []] [100000] (ow 0 0))
 ·intro h2 hm
  refine Sk ?_
  obtain ⟨r3,hr3,hm⟩:=bo hm
  refine Sq (RK hnt (nn 3 (o135 [] true r3 :: .no :: [])) [(6,ow 1120 r3.length)] [(1120,ob0 (roI r3))] (an (AeD p0 p1 p2 r3 hr3) tv) ?_)
  obtain rfl:=sj hm
  exact DW.ret (Aj [roI r3] [1120] (ow 0 r3.length))
abbrev o129 (ks:List Nat) (b:Bool) (RES:List Int) (sm:List Nat := []):Orc := .call 13 ks b (ow 0 RES.length) [] [roI RES] sm

theorem Adt (p0:Ac) (RES:Ac) (hm:Vx p0=some RES):Spec Tryz.prog 45 [.p (.agg (Ab p0))] [] (.p (.agg (Ab RES))) [] []:=by
 unfold Vx at hm
 refine SO Tryz.func45 rfl rfl [(0,.p (.agg (Ab p0)))] [] ?_
 intro cx hnt
 refine Sq (RK hnt (nn 2 []) [(1,rr 1008),(2,rr 1016)] [(1008,bx (pm (Ab p0))),(1016,bx [.p (.sl .nil 0 0 (fun _ => [])),pI 0,.p (.sl .nil 0 0 (fun _ => [])),pI 0])] tv ?_)
 obtain ⟨r1,hr1,hm⟩:=bo hm
 refine Sq (Sq (RD hnt (.no::o11 [] true r1 :: .no :: []) [] [(5,pB (!r1))] [] [] (an (Dp p0 r1 hr1) tv) ?_))
 refine Ak hm ?_ ?_
 ·intro h2 hm
  refine Sq (RD hnt (nn 2 []) [1,5] [] [1008] [] tv ?_)
  refine DW.conv (τ:=Af [(2,rr 1016)] [(1016,bx [.p (Cr []),pI 0,.p (Dn []),pI 0])]) (Conv.tp [] [(1016,.box [.p (.sl .nil 0 0 (fun _ => [])),pI 0,.p (.sl .nil 0 0 (fun _ => [])),pI 0])] (by kernel_rfl) .nil (.cons rfl (.box (.cons MLe.nilL (.cons .rfl (.cons MLe.nilL (.cons .rfl .nil))))) .nil)) ?_
  obtain rfl:=sj hm
  exact DW.ret (Aj [] [] (.p (.agg [Cr [],vi 0,Dn [],vi 0])))
 ·intro h2 hm
  refine Sk ?_
  refine Sq (RK hnt (nn 2 []) [(2,rr 1016)] [(1016,bx (pm (Ab p0)))] tv ?_)
  obtain rfl:=sj hm
  exact DW.ret (Aj [] [] (.p (.agg (Ab p0))))
abbrev o141 (ks:List Nat) (b:Bool) (RES:Ac) (sm:List Nat := []):Orc := .call 45 ks b (.p (.agg (Ab RES))) [] [] sm
end Go.Dm


/- Go functions compute their models, printed by a program. -/
namespace Go.Dm
open Go.Proofs
set_option linter.unusedVariables false
theorem Agf (p0:Ac) (p1:Int) (RES:Cf×Bool) (hm:Wn p0 p1=some RES):Spec Tryz.prog 14 [.p (.agg (Ab p0)),pI p1] [] (.p (.tup [.agg (Bd RES.1),vb RES.2])) [] []:=by
 unfold Wn at hm
 refine SO Tryz.func14 rfl rfl [(0,.p (.agg (Ab p0))),(1,pI p1)] [] ?_
 intro cx hnt
 refine Sq (RK hnt (nn 3 []) [(1,pI p1),(2,rr 1016),(4,rr 1032)] [(1016,bx (pm (Ab p0))),(1032,bx [pI 0,pI 0,pI 0,pI 0])] tv ?_)
 obtain ⟨r1,hr1,hm⟩:=bo hm
 obtain ⟨r2,hr2,hm⟩:=bo hm
 refine Sq (RK hnt (.no::o141 [] true r1 :: .no::o18 [] true r2::nn 4 []) [(4,rr 1032),(5,pB r2.2)] [(1032,bx (pm (Bd r2.1)))] (an (Adt p0 r1 hr1) (an (Ya r1 p1 r2 hr2) tv)) ?_)
 obtain rfl:=sj hm
 exact DW.ret (Aj [] [] (.p (.tup [.agg (Bd r2.1),vb r2.2])))
abbrev o140 (ks:List Nat) (b:Bool) (RES:Cf×Bool) (sm:List Nat := []):Orc := .call 14 ks b (.p (.tup [.agg (Bd RES.1),vb RES.2])) [] [] sm

abbrev Xu (s1:Ac×Ey×(List Int)×(List Int)×Int):Nat×Obj:=(1048,bx (pm (Ab s1.1)))
abbrev Xs (s1:Ac×Ey×(List Int)×(List Int)×Int):Nat×Obj:=(1600,ob0 (roI s1.2.2.1))
abbrev c1e3 (r421:Ac×Int×Int):Nat×Obj:=(1104,bx [ow 1488 r421.1.tree.nodes.length,pI r421.1.tree.next,ow 1489 r421.1.tasks.length,pI r421.1.next])
abbrev c1e4 (k24:Nat):Nat×MV:=(24,pI ((k24:Nat):Int))
theorem AfJ (p0:List Int) (p1:Int) (RES:Bool) (hm:Wq p0 p1=some RES):Spec Tryz.prog 3 [.p (slI p0),.p (vk .u8 p1)] [] (pB RES) [] []:=by
 unfold Wq at hm
 refine SO Tryz.func3 rfl rfl [(0,.p (slI p0)),(1,.p (vk .u8 p1))] [] ?_
 intro cx hnt
 refine Sq (RD hnt (.no :: []) [] [] [] [] tv ?_)
 obtain ⟨r1,hr1,hm⟩:=bo hm
 refine Sq (Sq ?_)
 refine Jn (ι:=Bool) (fun (y1:Bool)=>Af [(0,.p (slI p0)),(1,.p (vk .u8 p1)),(35,pB y1)] []) (fun y1=>(Pf p0 p1) y1=some RES) ?_ ?_
 ·intro y1 hm
  unfold Pf at hm
  refine Ak hm ?_ ?_
  ·intro h4 hm
   obtain ⟨r5,hr5,hm⟩:=bo hm
   refine Sq (RK hnt (o2 [] true r5 :: .no :: []) [(4,pB r5)] [] (an (Wb r5 hr5) tv) ?_)
   obtain rfl:=sj hm
   exact DW.ret (Aj [] [] (pB r5))
  ·intro h4 hm
   refine Sk ?_
   obtain ⟨r6,hr6,hm⟩:=bo hm
   refine Sq (RK hnt (.no::o4 [] true r6 :: .no :: []) [(1,.p (vk .u8 p1)),(5,rr 1304)] [(1304,bx (pm (Jm r6)))] (an (Ahd p0 r6 hr6) tv) ?_)
   obtain ⟨r7,hr7,hm⟩:=bo hm
   refine Sq (RD hnt (o5 [] true r7::nn 2 []) [] [(6,rr 1048)] [] [(1048,bx [ow 1312 r7.tree.nodes.length,pI r7.tree.next,ow 1313 r7.tasks.length,pI r7.next]),(1312,ob0 (Ba r7.tree.nodes)),(1313,ob0 (Ce r7.tasks))] (an (Agv r7 hr7) tv) ?_)
   refine Sq (RD hnt (nn 2 []) [] [(7,.p (.sl .nil 0 0 (fun _ => []))),(8,.p (.sl .nil 0 0 (fun _ => [])))] [] [] tv ?_)
   obtain ⟨r8,hr8,hm⟩:=bo hm
   refine Sq (Sq (RD hnt (.no::o7 [1304] true r8::nn 2 []) [] [(9,pI (w64 (2+r8.1)))] [] [(1304,bx (pm (Jm r8.2)))] (an (Xn r6 3 r8 hr8) (an tv tv)) ?_))
   refine Bk ?_
   refine DW.whileO (fun (s1:Ac×Ey×(List Int)×(List Int)×Int)=>Af [(1,.p (vk .u8 p1)),(5,rr 1304),(6,rr 1048),(7,ow 1600 s1.2.2.1.length),(8,ow 1664 s1.2.2.2.1.length),(9,pI s1.2.2.2.2)] [(Xu s1),(1304,bx (pm (Jm s1.2.1))),(Xs s1),(1664,ob0 (roI s1.2.2.2.1))]) hm (Conv.trans (τ:=Af [(1,.p (vk .u8 p1)),(5,rr 1304),(6,rr 1048),(7,.p (.sl .nil 0 0 (fun _ => []))),(8,.p (.sl .nil 0 0 (fun _ => []))),(9,pI (w64 (2+r8.1)))] [(1048,bx (pm (Ab r7))),(1304,bx (pm (Jm r8.2)))]) (Conv.frz [1312,1313]) (Conv.ads [(.s 7,1600,1,elems Bm 0 []),(.s 8,1664,1,elems Bm 0 [])])) ?_
   intro s1 n1 hm
   unfold Jp at hm
   refine Sq (Sq (RD hnt (nn 2 []) [] [(44,pB (decide (s1.2.2.2.2>0)))] [] [] tv ?_))
   refine Ak hm ?_ ?_
   ·intro h414 hm
    refine Sk ?_
    refine Sq (Bk ?_)
    obtain ⟨g416,g417,hm⟩:=go2 hm
    obtain ⟨r418,hr418,hm⟩:=bo hm
    refine Sq (RD hnt (.no :: .asR (ow 1392 [(bs [97]),(bs [98]),(bs [99]),(bs [100]),(bs [101])].length) [(bs [97]),(bs [98]),(bs [99]),(bs [100]),(bs [101])].length (elems encS ByteArray.empty [(bs [97]),(bs [98]),(bs [99]),(bs [100]),(bs [101])])::nn 4 (o8 [] true r418::nn 8 [])) [44] [(10,rr 1080),(11,pI r418.2.1),(12,pI r418.2.2)] [] [(1080,bx [ow 1432 r418.1.tree.nodes.length,pI r418.1.tree.next,ow 1433 r418.1.tasks.length,pI r418.1.next]),(1432,ob0 (Ba r418.1.tree.nodes)),(1433,ob0 (Ce r418.1.tasks))] (an (congrArg (MV.own 1392 0 0) (RowIs.asP (enc:=encS) (d:=ByteArray.empty) (L := [(bs [97]),(bs [98]),(bs [99]),(bs [100]),(bs [101])]) (RowIs.lit (enc:=encS) (d:=ByteArray.empty) (n:=5) (f:=(cut 1 [vs (bs [97]),vs (bs [98]),vs (bs [99]),vs (bs [100]),vs (bs [101])])) [(bs [97]),(bs [98]),(bs [99]),(bs [100]),(bs [101])] rfl (fun|0,_=>rfl|1,_=>rfl|2,_=>rfl|3,_=>rfl|4,_=>rfl|n+5,h=>absurd h (by omega)))).1) (an (RowIs.asP (enc:=encS) (d:=ByteArray.empty) (L := [(bs [97]),(bs [98]),(bs [99]),(bs [100]),(bs [101])]) (RowIs.lit (enc:=encS) (d:=ByteArray.empty) (n:=5) (f:=(cut 1 [vs (bs [97]),vs (bs [98]),vs (bs [99]),vs (bs [100]),vs (bs [101])])) [(bs [97]),(bs [98]),(bs [99]),(bs [100]),(bs [101])] rfl (fun|0,_=>rfl|1,_=>rfl|2,_=>rfl|3,_=>rfl|4,_=>rfl|n+5,h=>absurd h (by omega)))) (an (nn0 s1.2.2.1.length) (an (ltc g416) (an g417 (an (AcQ s1.1 1 ([(bs [97]),(bs [98]),(bs [99]),(bs [100]),(bs [101])].getD s1.2.2.1.length ByteArray.empty) r418 hr418) tv)))))) ?_)
    refine Sq (DW.cv [] [] [1432] [(1080,bx [.p (Cr r418.1.tree.nodes),pI r418.1.tree.next,ow 1433 r418.1.tasks.length,pI r418.1.next])] (Conv.frz [1432]) ?_)
    refine DW.cv [] [] [1433] [(1080,bx (pm (Ab r418.1)))] (Conv.frz [1433]) ?_
    obtain ⟨r421,hr421,hm⟩:=bo hm
    refine RD hnt (nn 2 (o66 [] true r421::nn 8 [])) [10] [(13,rr 1104),(15,pI r421.2.2)] [1080] [(c1e3 r421),(1488,ob0 (Ba r421.1.tree.nodes)),(1489,ob0 (Ce r421.1.tasks))] (an (Afg r418.1 r418.2.1 0 r421 hr421) tv) ?_
    refine Sq (Sq (DW.regJ (sl2 := [(1,.p (vk .u8 p1)),(5,rr 1304),(6,rr 1048),(7,ow 1600 s1.2.2.1.length),(8,ow 1664 s1.2.2.2.1.length),(9,pI s1.2.2.2.2),(11,pI r418.2.1),(13,rr 1104),(70,pB ((r418.2.2 != 0)||(r421.2.2 != 0)))]) (ob2 := [(Xu s1),(c1e3 r421),(1304,bx (pm (Jm s1.2.1))),(1488,ob0 (Ba r421.1.tree.nodes)),(1489,ob0 (Ce r421.1.tasks)),(Xs s1),(1664,ob0 (roI s1.2.2.2.1))]) ?_ ?_))
    ·rcases bt (r418.2.2 != 0) with h422|h422
     ·exact RT hnt (nn 3 (sk 2 (pT :: []))) [(70,pB true)] (an3 h422 tv) (by kernel_rfl) (.cons rfl (.of_eq (by rw [h422]; try rfl)) .nil)
     ·exact RT hnt (nn 5 (pF :: [])) [(70,pB (r421.2.2 != 0))] (an3 h422 tv) (by kernel_rfl) (.cons rfl (.of_eq (by rw [h422]; try rfl)) .nil)
    ·refine Ak hm ?_ ?_
     ·intro h423 hm
      refine Sq (RK hnt (.no :: []) [(4,pB false)] [] tv ?_)
      obtain rfl:=sj hm
      exact DW.ret (Aj [] [] (pB false))
     ·intro h423 hm
      refine Sk ?_
      obtain ⟨g427,hm⟩:=go1 hm
      obtain ⟨r428,hr428,hm⟩:=bo hm
      obtain ⟨g429,g430,g431,hm⟩:=go3 hm
      refine RN hnt (nn 6 (.asR (ow 1616 [100,200,400,50,800].length) [100,200,400,50,800].length (elems Bm 0 [100,200,400,50,800]) :: .no::o7 [1304] true r428::nn 7 [])) [(1,.p (vk .u8 p1)),(5,rr 1304),(6,rr 1048),(7,ow 1600 (s1.2.2.1 ++ [r418.2.1]).length),(8,ow 1664 (s1.2.2.2.1 ++ [([100,200,400,50,800].getD (Int.toNat r428.1) 0)]).length),(9,pI s1.2.2.2.2)] [(1048,bx [ow 1488 r421.1.tree.nodes.length,pI r421.1.tree.next,ow 1489 r421.1.tasks.length,pI r421.1.next]),(1304,bx (pm (Jm r428.2))),(1488,ob0 (Ba r421.1.tree.nodes)),(1489,ob0 (Ce r421.1.tasks)),(1600,ob0 (roI (s1.2.2.1 ++ [r418.2.1]))),(1664,ob0 (roI (s1.2.2.2.1 ++ [([100,200,400,50,800].getD (Int.toNat r428.1) 0)])))] [(7,ow 1600 (s1.2.2.1.length+1)),(8,ow 1664 (s1.2.2.2.1.length+1))] [(1600,.row 1 (s1.2.2.1.length+1) (Ck s1.2.2.1.length (elI s1.2.2.1) (cut 1 [vi r418.2.1]))),(1664,.row 1 (s1.2.2.2.1.length+1) (Ck s1.2.2.2.1.length (elI s1.2.2.2.1) (cut 1 [vi ([100,200,400,50,800].getD (Int.toNat r428.1) 0)])))] (an (by omega:(s1.2.2.1.length+1)*8≤140737488355328) (an (congrArg (MV.own 1616 0 0) (RowIs.asP (enc:=Bm) (d:=0) (L := [100,200,400,50,800]) (RowIs.lit (enc:=Bm) (d:=0) (n:=5) (f:=(cut 1 [vi 100,vi 200,vi 400,vi 50,vi 800])) [100,200,400,50,800] rfl (fun|0,_=>rfl|1,_=>rfl|2,_=>rfl|3,_=>rfl|4,_=>rfl|n+5,h=>absurd h (by omega)))).1) (an (RowIs.asP (enc:=Bm) (d:=0) (L := [100,200,400,50,800]) (RowIs.lit (enc:=Bm) (d:=0) (n:=5) (f:=(cut 1 [vi 100,vi 200,vi 400,vi 50,vi 800])) [100,200,400,50,800] rfl (fun|0,_=>rfl|1,_=>rfl|2,_=>rfl|3,_=>rfl|4,_=>rfl|n+5,h=>absurd h (by omega)))) (an (Xn s1.2.1 5 r428 hr428) (an tv (an g429.1 (an g429.2 (an g430 (an (by omega:(s1.2.2.2.1.length+1)*8≤140737488355328) tv))))))))) (by kernel_rfl) (.cons rfl (MLe.ownLen (enc:=Bm) (d:=0) (f:=(Ck s1.2.2.1.length (elI s1.2.2.1) (cut 1 [vi r418.2.1]))) (RowIs.cat RowIs.elems (RowIs.lit (enc:=Bm) (d:=0) (n:=1) (f:=(cut 1 [vi r418.2.1])) [r418.2.1] rfl (fun|0,_=>rfl|n+1,h=>absurd h (by omega))))) (.cons rfl (MLe.ownLen (enc:=Bm) (d:=0) (f:=(Ck s1.2.2.2.1.length (elI s1.2.2.2.1) (cut 1 [vi ([100,200,400,50,800].getD (Int.toNat r428.1) 0)]))) (RowIs.cat RowIs.elems (RowIs.lit (enc:=Bm) (d:=0) (n:=1) (f:=(cut 1 [vi ([100,200,400,50,800].getD (Int.toNat r428.1) 0)])) [([100,200,400,50,800].getD (Int.toNat r428.1) 0)] rfl (fun|0,_=>rfl|n+1,h=>absurd h (by omega))))) .nil)) (.cons rfl (BLe.typed (RowIs.cat RowIs.elems (RowIs.lit (enc:=Bm) (d:=0) (n:=1) (f:=(cut 1 [vi r418.2.1])) [r418.2.1] rfl (fun|0,_=>rfl|n+1,h=>absurd h (by omega))))) (.cons rfl (BLe.typed (RowIs.cat RowIs.elems (RowIs.lit (enc:=Bm) (d:=0) (n:=1) (f:=(cut 1 [vi ([100,200,400,50,800].getD (Int.toNat r428.1) 0)])) [([100,200,400,50,800].getD (Int.toNat r428.1) 0)] rfl (fun|0,_=>rfl|n+1,h=>absurd h (by omega))))) .nil)) ?_
      refine DW.done ?_
      show DW _ _ _ _ _
      refine RD hnt (nn 3 []) [] [(9,pI (w64 (s1.2.2.2.2-1)))] [] [] tv ?_
      exact jD (r421.1,r428.2,(s1.2.2.1 ++ [r418.2.1]),(s1.2.2.2.1 ++ [([100,200,400,50,800].getD (Int.toNat r428.1) 0)]),(w64 (s1.2.2.2.2-1))) hm (Conv.frz [1488,1489])
   ·intro h414 hm
    refine DW.exit ?_
    refine Ai ?_
    refine Ap ?_
    refine Ae ?_
    show DW _ _ _ _ _
    obtain ⟨g432,hm⟩:=go1 hm
    refine Sq (RN hnt (nn 4 []) [(1,.p (vk .u8 p1)),(6,rr 1048),(7,ow 1600 s1.2.2.1.length),(8,ow 1664 s1.2.2.2.1.length),(16,ow 1672 ([100]++s1.2.2.2.1).length)] [(Xu s1),(Xs s1),(1664,ob0 (roI s1.2.2.2.1)),(1672,ob0 (roI ([100]++s1.2.2.2.1)))] [(16,ow 1672 (1+s1.2.2.2.1.length))] [(1672,.row 1 (1+s1.2.2.2.1.length) (Ck 1 (cut 1 [vi 100]) (elI s1.2.2.2.1)))] (an (by omega:(1+s1.2.2.2.1.length)*8≤140737488355328) tv) (by kernel_rfl) (.cons rfl (MLe.ownLen (enc:=Bm) (d:=0) (f:=(Ck 1 (cut 1 [vi 100]) (elI s1.2.2.2.1))) (RowIs.cat (RowIs.lit (enc:=Bm) (d:=0) (n:=1) (f:=(cut 1 [vi 100])) [100] rfl (fun|0,_=>rfl|n+1,h=>absurd h (by omega))) RowIs.elems)) .nil) (.cons rfl (BLe.typed (RowIs.cat (RowIs.lit (enc:=Bm) (d:=0) (n:=1) (f:=(cut 1 [vi 100])) [100] rfl (fun|0,_=>rfl|n+1,h=>absurd h (by omega))) RowIs.elems)) .nil) ?_)
    refine Sq (RD hnt (nn 2 []) [] [(17,.p (.sl .nil 0 0 (fun _ => []))),(18,.p (.sl .nil 0 0 (fun _ => [])))] [] [] tv ?_)
    refine Sq (Sq (RD hnt (.no :: []) [] [(19,pI 0)] [] [] tv ?_))
    refine Bk ?_
    obtain ⟨hc15,hm⟩:=go1 hm
    refine DW.rangeO (fun (k15:Nat) (s15:(List Int)×(List Int))=>Af [(1,.p (vk .u8 p1)),(6,rr 1048),(7,ow 1600 s1.2.2.1.length),(8,ow 1664 s1.2.2.2.1.length),(16,ow 1672 ([100]++s1.2.2.2.1).length),(17,ow 1816 s15.1.length),(18,ow 1840 s15.2.length),(19,pI ((k15:Nat):Int))] [(Xu s1),(Xs s1),(1664,ob0 (roI s1.2.2.2.1)),(1672,ob0 (roI ([100]++s1.2.2.2.1))),(1816,ob0 (roI s15.1)),(1840,ob0 (roI s15.2))]) Bo hm (Conv.ads [(.s 17,1816,1,elems Bm 0 []),(.s 18,1840,1,elems Bm 0 [])]) ?_
    intro k15 s15 n15 hk15 hs15 he15
    refine Sq (Sq (RD hnt (nn 5 []) [] [(91,pB (decide (((k15:Nat):Int)<((s1.1.tasks.length:Nat):Int))))] [] [] tv ?_))
    refine Bu (decide (((k15:Nat):Int)<((s1.1.tasks.length:Nat):Int))) ?_ ?_
    ·intro h691
     have hlt15:k15<s1.1.tasks.length:=by have:=of_decide_eq_true h691; omega
     have hm:=hs15 hlt15
     unfold Abv at hm
     refine Sk ?_
     refine Sq (Bk ?_)
     obtain ⟨g692,g693,hm⟩:=go2 hm
     refine RN hnt (nn 14 []) [(1,.p (vk .u8 p1)),(6,rr 1048),(7,ow 1600 s1.2.2.1.length),(8,ow 1664 s1.2.2.2.1.length),(16,ow 1672 ([100]++s1.2.2.2.1).length),(17,ow 1816 (s15.1 ++ [(s1.1.tasks.getD k15 Bo).id]).length),(18,ow 1840 (s15.2 ++ [65536]).length),(19,pI ((k15:Nat):Int))] [(Xu s1),(Xs s1),(1664,ob0 (roI s1.2.2.2.1)),(1672,ob0 (roI ([100]++s1.2.2.2.1))),(1816,ob0 (roI (s15.1 ++ [(s1.1.tasks.getD k15 Bo).id]))),(1840,ob0 (roI (s15.2 ++ [65536])))] [(17,ow 1816 (s15.1.length+1)),(18,ow 1840 (s15.2.length+1))] [(1816,.row 1 (s15.1.length+1) (Ck s15.1.length (elI s15.1) (cut 1 [vi (s1.1.tasks.getD k15 Bo).id]))),(1840,.row 1 (s15.2.length+1) (Ck s15.2.length (elI s15.2) (cut 1 [vi 65536])))] (an (nn0 k15) (an (ltc hlt15) (an (by omega:(s15.1.length+1)*8≤140737488355328) (an (by omega:(s15.2.length+1)*8≤140737488355328) tv)))) (by kernel_rfl) (.cons rfl (MLe.ownLen (enc:=Bm) (d:=0) (f:=(Ck s15.1.length (elI s15.1) (cut 1 [vi (s1.1.tasks.getD k15 Bo).id]))) (RowIs.cat RowIs.elems (RowIs.lit (enc:=Bm) (d:=0) (n:=1) (f:=(cut 1 [vi (s1.1.tasks.getD k15 Bo).id])) [(s1.1.tasks.getD k15 Bo).id] rfl (fun|0,_=>rfl|n+1,h=>absurd h (by omega))))) (.cons rfl (MLe.ownLen (enc:=Bm) (d:=0) (f:=(Ck s15.2.length (elI s15.2) (cut 1 [vi 65536]))) (RowIs.cat RowIs.elems (RowIs.lit (enc:=Bm) (d:=0) (n:=1) (f:=(cut 1 [vi 65536])) [65536] rfl (fun|0,_=>rfl|n+1,h=>absurd h (by omega))))) .nil)) (.cons rfl (BLe.typed (RowIs.cat RowIs.elems (RowIs.lit (enc:=Bm) (d:=0) (n:=1) (f:=(cut 1 [vi (s1.1.tasks.getD k15 Bo).id])) [(s1.1.tasks.getD k15 Bo).id] rfl (fun|0,_=>rfl|n+1,h=>absurd h (by omega))))) (.cons rfl (BLe.typed (RowIs.cat RowIs.elems (RowIs.lit (enc:=Bm) (d:=0) (n:=1) (f:=(cut 1 [vi 65536])) [65536] rfl (fun|0,_=>rfl|n+1,h=>absurd h (by omega))))) .nil)) ?_
     refine DW.done ?_
     show DW _ _ _ _ _
     refine RD hnt (nn 3 []) [] [(19,pI (w64 (((k15:Nat):Int)+1)))] [] [] tv ?_
     exact jD ((s15.1 ++ [(s1.1.tasks.getD k15 Bo).id]),(s15.2 ++ [65536])) ⟨hlt15,hm⟩ (Conv.tp [(19,pI (w64 (((k15:Nat):Int)+1)))] [] (by kernel_rfl) (.cons rfl (.of_eq (congrArg pI (Bb hlt15 hc15))) .nil) .nil)
    ·intro h691
     have hge15:¬ k15<s1.1.tasks.length:=by have:=of_decide_eq_false h691; omega
     have hm:=he15 hge15
     unfold Gt at hm
     refine DW.exit ?_
     refine Ai ?_
     refine Ap ?_
     refine Ae ?_
     show DW _ _ _ _ _
     refine Sq (DW.cv [] [(16,.p (slI ([100]++s1.2.2.2.1)))] [1672] [] (Conv.frz [1672]) ?_)
     refine DW.cv [] [(17,.p (slI s15.1))] [1816] [] (Conv.frz [1816]) ?_
     obtain ⟨r696,hr696,hm⟩:=bo hm
     refine RD hnt (nn 3 (o68 [] true r696 :: .no :: [])) [16,17,19,91] [(20,ow 1872 r696.length)] [] [(1872,ob0 (Bx r696))] (an (Spec.args (xs := [.p (.agg (Ab s1.1)),.p (.sl .nil 0 0 (fun _ => [])),.p (slI ([100]++s1.2.2.2.1)),.p (slI s15.1)]) (Ahf s1.1 [] ([100]++s1.2.2.2.1) s15.1 r696 hr696) (.cons .rfl (.cons (.p PLe.nilL) (.cons .rfl (.cons .rfl .nil))))) tv) ?_
     refine Sq (DW.cv [] [(20,.p (Au r696))] [1872] [] (Conv.frz [1872]) ?_)
     obtain ⟨r698,hr698,hm⟩:=bo hm
     refine RD hnt (nn 5 (o111 [] true r698::nn 5 [])) [20] [(22,ow 1928 r698.2.length)] [] [(1928,ob0 (roI r698.2))] (an (by decide:(60:Int)≠0) (an (AhK s1.1 r696 (w64 (Int.tmod p1 60)) r698 hr698) tv)) ?_
     refine Sq (DW.cv [] [(8,.p (slI s1.2.2.2.1))] [1664] [] (Conv.frz [1664]) ?_)
     refine DW.cv [] [(18,.p (slI s15.2))] [1840] [] (Conv.frz [1840]) ?_
     obtain ⟨r701,hr701,hm⟩:=bo hm
     refine RK hnt (nn 5 (o129 [] true r701 :: .no :: [])) [(1,.p (vk .u8 p1)),(6,rr 1048),(7,ow 1600 s1.2.2.1.length),(22,ow 1928 r698.2.length),(23,ow 1992 r701.length)] [(Xu s1),(Xs s1),(1928,ob0 (roI r698.2)),(1992,ob0 (roI r701))] (an (by decide:(60:Int)≠0) (an (AeC (w64 (Int.tmod p1 60)) s1.2.2.2.1 s15.2 r701 hr701) tv)) ?_
     refine Sq (Sq (DW.regJ (sl2 := [(6,rr 1048),(7,ow 1600 s1.2.2.1.length),(22,ow 1928 r698.2.length),(23,ow 1992 r701.length),(137,pB ((((r698.2.length:Nat):Int) != (w64 (Int.tmod p1 60)))||(((r701.length:Nat):Int) != ((s1.2.2.1.length:Nat):Int))))]) (ob2 := [(Xu s1),(Xs s1),(1928,ob0 (roI r698.2)),(1992,ob0 (roI r701))]) ?_ ?_))
     ·rcases bt (((r698.2.length:Nat):Int) != (w64 (Int.tmod p1 60))) with h702|h702
      ·exact RT hnt (nn 7 (sk 5 (pT :: []))) [(137,pB true)] (an (by decide:(60:Int)≠0) (an6 h702 tv)) (by kernel_rfl) (.cons rfl (.of_eq (by rw [h702]; try rfl)) .nil)
      ·exact RT hnt (nn 12 (pF :: [])) [(137,pB (((r701.length:Nat):Int) != ((s1.2.2.1.length:Nat):Int)))] (an (by decide:(60:Int)≠0) (an6 h702 tv)) (by kernel_rfl) (.cons rfl (.of_eq (by rw [h702]; try rfl)) .nil)
     ·refine Ak hm ?_ ?_
      ·intro h703 hm
       refine Sq (RK hnt (.no :: []) [(4,pB false)] [] tv ?_)
       obtain rfl:=sj hm
       exact DW.ret (Aj [] [] (pB false))
      ·intro h703 hm
       refine Sk ?_
       refine Sq (Sq (RD hnt (.no :: []) [137] [(24,pI 0)] [] [] tv ?_))
       refine Bk ?_
       obtain ⟨hc24,hm⟩:=go1 hm
       refine DW.rangeO (fun (k24:Nat) (s24:Unit)=>Af [(6,rr 1048),(7,ow 1600 s1.2.2.1.length),(22,ow 1928 r698.2.length),(23,ow 1992 r701.length),(c1e4 k24)] [(Xu s1),(Xs s1),(1928,ob0 (roI r698.2)),(1992,ob0 (roI r701))]) 0 hm Conv.eqK ?_
       intro k24 s24 n24 hk24 hs24 he24
       refine Sq (Sq (RD hnt (nn 4 []) [] [(141,pB (decide (((k24:Nat):Int)<((s1.2.2.1.length:Nat):Int))))] [] [] tv ?_))
       refine Bu (decide (((k24:Nat):Int)<((s1.2.2.1.length:Nat):Int))) ?_ ?_
       ·intro h786
        have hlt24:k24<s1.2.2.1.length:=by have:=of_decide_eq_true h786; omega
        have hm:=hs24 hlt24
        unfold Abw at hm
        refine Sk ?_
        refine Sq (Bk ?_)
        refine Sq (RD hnt (.no :: []) [141] [(25,pI 0)] [] [] tv ?_)
        refine Sq (Sq (RD hnt (.no :: []) [] [(26,pI 0)] [] [] tv ?_))
        refine Bk ?_
        obtain ⟨hc27,hm⟩:=go1 hm
        refine DW.rangeO (fun (k27:Nat) (s27:Int)=>Af [(6,rr 1048),(7,ow 1600 s1.2.2.1.length),(22,ow 1928 r698.2.length),(23,ow 1992 r701.length),(c1e4 k24),(25,pI s27),(26,pI ((k27:Nat):Int))] [(Xu s1),(Xs s1),(1928,ob0 (roI r698.2)),(1992,ob0 (roI r701))]) 0 hm Conv.eqK ?_
        intro k27 s27 n27 hk27 hs27 he27
        refine Sq (Sq (RD hnt (nn 4 []) [] [(147,pB (decide (((k27:Nat):Int)<((r698.2.length:Nat):Int))))] [] [] tv ?_))
        refine Bu (decide (((k27:Nat):Int)<((r698.2.length:Nat):Int))) ?_ ?_
        ·intro h811
         have hlt27:k27<r698.2.length:=by have:=of_decide_eq_true h811; omega
         have hm:=hs27 hlt27
         unfold No at hm
         refine Sk ?_
         refine Sq ?_
         refine Jn (ι:=Int) (fun (y153:Int)=>Af [(6,rr 1048),(7,ow 1600 s1.2.2.1.length),(22,ow 1928 r698.2.length),(23,ow 1992 r701.length),(c1e4 k24),(25,pI y153),(26,pI ((k27:Nat):Int))] [(Xu s1),(Xs s1),(1928,ob0 (roI r698.2)),(1992,ob0 (roI r701))]) (fun y153=>(Lr n27) y153=some RES) ?_ ?_
         ·intro y153 hm
          unfold Lr at hm
          refine RD hnt (nn 3 []) [] [(26,pI (w64 (((k27:Nat):Int)+1)))] [] [] tv ?_
          exact jD y153 ⟨hlt27,hm⟩ (Conv.tp [(26,pI (w64 (((k27:Nat):Int)+1)))] [] (by kernel_rfl) (.cons rfl (.of_eq (congrArg pI (Bb hlt27 hc27))) .nil) .nil)
         ·refine Bk ?_
          obtain ⟨r812,hr812,hm⟩:=bo hm
          refine Sq (RD hnt (nn 5 (o140 [] true r812::nn 6 [])) [147] [(27,rr 1216),(28,pB r812.2)] [] [(1216,bx (pm (Bd r812.1)))] (an (nn0 k27) (an (ltc hlt27) (an (by omega:k27<r698.2.length) (an (Agf s1.1 (r698.2.getD k27 0) r812 hr812) tv)))) ?_)
          refine Sq (DW.regJ (sl2 := [(6,rr 1048),(7,ow 1600 s1.2.2.1.length),(22,ow 1928 r698.2.length),(23,ow 1992 r701.length),(c1e4 k24),(25,pI s27),(26,pI ((k27:Nat):Int)),(168,pB (r812.2&&(r812.1.group==(s1.2.2.1.getD k24 0))))]) (ob2 := [(Xu s1),(Xs s1),(1928,ob0 (roI r698.2)),(1992,ob0 (roI r701))]) ?_ ?_)
          ·rcases bt r812.2 with h813|h813
           ·exact RT hnt (nn 9 (pT :: [])) [(168,pB (r812.1.group==(s1.2.2.1.getD k24 0)))] (an5 h813 (an (nn0 k24) (an (ltc hlt24) (an h813 (an (by omega:k24<s1.2.2.1.length) (an2 h813 tv)))))) (by kernel_rfl) (.cons rfl (.of_eq (by rw [h813]; try rfl)) .nil)
           ·exact RT hnt (nn 2 (sk 7 (pF :: []))) [(168,pB false)] (an2 h813 (an6 h813 tv)) (by kernel_rfl) (.cons rfl (.of_eq (by rw [h813]; try rfl)) .nil)
          ·refine Ak hm ?_ ?_
           ·intro h814 hm
            refine RD hnt (nn 3 []) [168] [(25,pI (w64 (s27+1)))] [] [] tv ?_
            exact bD (w64 (s27+1)) hm Conv.eqK
           ·intro h814 hm
            refine Sk ?_
            exact bD s27 hm Conv.t0
        ·intro h811
         have hge27:¬ k27<r698.2.length:=by have:=of_decide_eq_false h811; omega
         have hm:=he27 hge27
         unfold Ky at hm
         refine DW.exit ?_
         refine Ai ?_
         refine Ap ?_
         refine Ae ?_
         show DW _ _ _ _ _
         obtain ⟨g815,g816,hm⟩:=go2 hm
         refine Sq ?_
         refine Jn (ι:=Bool) (fun (y154:Bool)=>Af [(6,rr 1048),(7,ow 1600 s1.2.2.1.length),(22,ow 1928 r698.2.length),(23,ow 1992 r701.length),(c1e4 k24),(192,pB y154)] [(Xu s1),(Xs s1),(1928,ob0 (roI r698.2)),(1992,ob0 (roI r701))]) (fun y154=>(Mb n24) y154=some RES) ?_ ?_
         ·intro y154 hm
          unfold Mb at hm
          refine Ak hm ?_ ?_
          ·intro h820 hm
           refine Sq (RK hnt (.no :: []) [(4,pB false)] [] tv ?_)
           obtain rfl:=sj hm
           exact DW.ret (Aj [] [] (pB false))
          ·intro h820 hm
           refine Sk ?_
           refine DW.done ?_
           show DW _ _ _ _ _
           refine RD hnt (nn 3 []) [192] [(24,pI (w64 (((k24:Nat):Int)+1)))] [] [] tv ?_
           exact jD () ⟨hlt24,hm⟩ (Conv.tp [(24,pI (w64 (((k24:Nat):Int)+1)))] [] (by kernel_rfl) (.cons rfl (.of_eq (congrArg pI (Bb hlt24 hc24))) .nil) .nil)
         ·rcases bt (decide ((w64 (s27-(r701.getD k24 0)))>(w64 (2*((s1.2.2.1.length:Nat):Int))))) with h817|h817
          ·replace hm:=Bt h817 hm
           refine RD hnt (nn 11 (sk 10 (pT :: []))) [25,26,147] [(192,pB true)] [] [] (an (nn0 k24) (an (ltc g815) (an g816 (an5 h817 (an6 h817 tv))))) ?_
           exact jD true hm Conv.eqK
          ·replace hm:=Bs h817 hm
           obtain ⟨g818,g819,hm⟩:=go2 hm
           refine RD hnt (nn 21 (pF :: [])) [25,26,147] [(192,pB (decide ((w64 ((r701.getD k24 0)-s27))>(w64 (2*((s1.2.2.1.length:Nat):Int))))))] [] [] (an (nn0 k24) (an (ltc g815) (an g816 (an3 h817 (an (nn0 k24) (an (ltc g818) (an h817 (an g819 (an h817 (an6 h817 tv)))))))))) ?_
           exact jD (decide ((w64 ((r701.getD k24 0)-s27))>(w64 (2*((s1.2.2.1.length:Nat):Int))))) hm Conv.eqK
       ·intro h786
        have hge24:¬ k24<s1.2.2.1.length:=by have:=of_decide_eq_false h786; omega
        have hm:=he24 hge24
        unfold AbM at hm
        refine DW.exit ?_
        refine Ai ?_
        refine Ap ?_
        refine Ae ?_
        show DW _ _ _ _ _
        refine Sq (RK hnt (.no :: []) [(4,pB true)] [] tv ?_)
        obtain rfl:=sj hm
        exact DW.ret (Aj [] [] (pB true))
 ·rcases bt (!r1) with h2|h2
  ·replace hm:=Bt h2 hm
   refine RD hnt (o2 [] true r1::nn 2 (sk 3 (pT :: []))) [] [(35,pB true)] [] [] (an (Wb r1 hr1) (an4 h2 tv)) ?_
   exact jD true hm Conv.eqK
  ·replace hm:=Bs h2 hm
   obtain ⟨r3,hr3,hm⟩:=bo hm
   refine RD hnt (o2 [] true r1::nn 3 (o3 [] true r3 :: .no::pF :: [])) [] [(35,pB (!r3))] [] [] (an (Wb r1 hr1) (an2 h2 (an (AgA p0 r3 hr3) (an2 h2 tv)))) ?_
   exact jD (!r3) hm Conv.eqK
abbrev o1 (ks:List Nat) (b:Bool) (RES:Bool) (sm:List Nat := []):Orc := .call 3 ks b (pB RES) [] [] sm
end Go.Dm

