/- Texts of the proof of DelegateIsolates: the data machine, the models of the Go functions, their contracts. -/
import Derived.Test.YtonaidnipimjgabGreatDelegateIsolatesA4
set_option linter.unusedVariables false
set_option linter.unusedSimpArgs false
/- Go functions compute their models, printed by a program. -/
namespace Go.Dm
open Go.Proofs
set_option linter.unusedVariables false
theorem AgA (p0 : Aa) (p1 : Int) (RES : List Int) (hm : Th p0 p1 = some RES) : Spec Tryz.prog 61 [.p (.agg (Ab p0)),pI p1] [] (.p (slI RES)) [] [] := by
 unfold Th at hm
 refine SO Tryz.func61 rfl rfl [(0,.p (.agg (Ab p0))),(1,pI p1)] [] ?_
 intro cx hnt
 refine Sq (RK hnt (nn 3 []) [(2,rr 1016),(3,rr 1024)] [(1016,bx (pm (Ab p0))),(1024,bx [pI p1])] tv ?_)
 obtain ⟨r1,hr1,hm⟩ := bo hm
 refine Sq (RK hnt (nn 2 (.call 107 [1024] true (.p (slI r1)) [.box [pI p1]] [] :: .no :: [])) [(4,.p (slI r1))] [] (an (Sj p0 p1 r1 hr1) (an tv tv)) ?_)
 obtain rfl := sj hm
 exact DW.ret (Ai [] [] (.p (slI r1)))
abbrev o101 (ks : List Nat) (b : Bool) (RES : List Int) : Orc := .call 61 ks b (.p (slI RES)) [] []

theorem AdK (p0 : List Int) (p1 : Int) (RES : Int) (hm : Qu p0 p1 = some RES) : Spec Tryz.prog 151 [.p (slI p0),pI p1] [] (pI RES) [] [] := by
 unfold Qu at hm
 refine SO Tryz.func151 rfl rfl [(0,.p (slI p0)),(1,pI p1)] [] ?_
 intro cx hnt
 refine Sq (RD hnt (.no :: []) [] [] [] [] tv ?_)
 refine Sq (Sq (RD hnt (nn 3 []) [] [(7,pI ((p0.length : Nat) : Int)),(8,pI 0)] [] [] tv ?_))
 refine Bk ?_
 obtain ⟨hc1,hm⟩ := go1 hm
 refine DW.rangeO (fun (k1 : Nat) (s1 : Unit) => Al [(0,.p (slI p0)),(1,pI p1),(7,pI ((p0.length : Nat) : Int)),(8,pI ((k1 : Nat) : Int))] []) 0 hm Conv.eqK ?_
 intro k1 s1 n1 hk1 hs1 he1
 refine Sq (RD hnt (.no :: []) [] [(9,pB (decide (((k1 : Nat) : Int) < ((p0.length : Nat) : Int))))] [] [] tv ?_)
 refine Sq (Bx (decide (((k1 : Nat) : Int) < ((p0.length : Nat) : Int))) ?_ ?_)
 ·intro h7
  have hlt1 : k1 < p0.length := by have := of_decide_eq_true h7; omega
  have hm := hs1 hlt1
  unfold Zt at hm
  refine Sk ?_
  refine Sq (Bk ?_)
  refine Sq (RD hnt (nn 2 []) [9] [(5,pI ((k1 : Nat) : Int))] [] [] tv ?_)
  refine Sq (RD hnt (nn 6 []) [] [(16,pB (p1 == (p0.getD k1 0)))] [] [] (an (nn0 k1) (an (ltc hlt1) tv)) ?_)
  refine Ah hm ?_ ?_
  ·intro h8 hm
   refine Sq (RK hnt (nn 2 []) [(4,pI ((k1 : Nat) : Int))] [] tv ?_)
   obtain rfl := sj hm
   exact DW.ret (Ai [] [] (pI ((k1 : Nat) : Int)))
  ·intro h8 hm
   refine Sk ?_
   refine DW.done ?_
   show DW _ _ _ _ _
   refine RD hnt (nn 2 []) [5,16] [(8,pI (w64 (((k1 : Nat) : Int) + 1)))] [] [] tv ?_
   exact jD () ⟨hlt1,hm⟩ (Conv.tp [(8,pI (w64 (((k1 : Nat) : Int) + 1)))] [] (by kernel_rfl) (.cons rfl (.of_eq (congrArg pI (Bj hlt1 hc1))) .nil) .nil)
 ·intro h7
  have hge1 : ¬ k1 < p0.length := by have := of_decide_eq_false h7; omega
  have hm := he1 hge1
  unfold Zs at hm
  refine DW.exit ?_
  refine Ap ?_
  refine Au ?_
  refine An ?_
  show DW _ _ _ _ _
  refine Sq (RK hnt (.no :: []) [(4,pI (-1))] [] tv ?_)
  obtain rfl := sj hm
  exact DW.ret (Ai [] [] (pI (-1)))
abbrev o107 (ks : List Nat) (b : Bool) (RES : Int) : Orc := .call 151 ks b (pI RES) [] []

theorem AbT (p0 : List Int) (p1 : Int) (RES : Bool) (hm : Jt p0 p1 = some RES) : Spec Tryz.prog 142 [.p (slI p0),pI p1] [] (pB RES) [] [] := by
 unfold Jt at hm
 refine SO Tryz.func142 rfl rfl [(0,.p (slI p0)),(1,pI p1)] [] ?_
 intro cx hnt
 refine Sq (RD hnt (.no :: []) [] [] [] [] tv ?_)
 obtain ⟨r1,hr1,hm⟩ := bo hm
 refine Sq (RK hnt (nn 2 (o107 [] true r1 :: nn 2 [])) [(4,pB (decide (r1 ≥ 0)))] [] (an (AdK p0 p1 r1 hr1) tv) ?_)
 obtain rfl := sj hm
 exact DW.ret (Ai [] [] (pB (decide (r1 ≥ 0))))
abbrev o106 (ks : List Nat) (b : Bool) (RES : Bool) : Orc := .call 142 ks b (pB RES) [] []

theorem AfO (p0 : Ae) (p1 : Int) (p2 : Int) (RES : Int × Bool) (hm : Rj p0 p1 p2 = some RES) : Spec Tryz.prog 106 [.p (.agg (Aj p0)),pI p1,pI p2] [] (.p (.tup [vi RES.1,vb RES.2])) [] [] := by
 unfold Rj at hm
 refine SO Tryz.func106 rfl rfl [(0,.p (.agg (Aj p0))),(1,pI p1),(2,pI p2)] [] ?_
 intro cx hnt
 refine Sq (RD hnt (nn 3 []) [0] [(3,rr 1024)] [] [(1024,bx (pm (Aj p0)))] tv ?_)
 obtain ⟨r1,hr1,hm⟩ := bo hm
 refine Sq (RD hnt (nn 2 (o40 [] true r1 :: .no :: [])) [2] [(8,ow 1104 r1.length)] [] [(1104,ob0 (roI r1))] (an (Fp p0 p2 r1 hr1) tv) ?_)
 obtain ⟨r2,hr2,hm⟩ := bo hm
 refine Sq (Sq (RD hnt (nn 2 (o40 [] true r2 :: nn 2 [])) [1,3] [(16,ow 1128 r2.length),(17,pI ((r2.length : Nat) : Int)),(18,pI 0)] [1024] [(1128,ob0 (roI r2))] (an (Fp p0 p1 r2 hr2) tv) ?_))
 refine Bk ?_
 obtain ⟨hc1,hm⟩ := go1 hm
 refine DW.rangeO (fun (k1 : Nat) (s1 : Unit) => Al [(8,ow 1104 r1.length),(16,ow 1128 r2.length),(17,pI ((r2.length : Nat) : Int)),(18,pI ((k1 : Nat) : Int))] [(1104,ob0 (roI r1)),(1128,ob0 (roI r2))]) 0 hm Conv.eqK ?_
 intro k1 s1 n1 hk1 hs1 he1
 refine Sq (RD hnt (.no :: []) [] [(19,pB (decide (((k1 : Nat) : Int) < ((r2.length : Nat) : Int))))] [] [] tv ?_)
 refine Sq (Bx (decide (((k1 : Nat) : Int) < ((r2.length : Nat) : Int))) ?_ ?_)
 ·intro h13
  have hlt1 : k1 < r2.length := by have := of_decide_eq_true h13; omega
  have hm := hs1 hlt1
  unfold Xm at hm
  refine Sk ?_
  refine Sq (Bk ?_)
  refine Sq (RD hnt (nn 3 []) [19] [(10,pI (r2.getD k1 0))] [] [] (an (nn0 k1) (an (ltc hlt1) (an (by omega : k1 < r2.length) tv))) ?_)
  obtain ⟨r14,hr14,hm⟩ := bo hm
  refine Sq (RD hnt (nn 2 (o106 [] true r14 :: [])) [] [(24,pB r14)] [] [] (an (AbT r1 (r2.getD k1 0) r14 hr14) tv) ?_)
  refine Ah hm ?_ ?_
  ·intro h15 hm
   refine Sq (RK hnt (nn 3 []) [(6,pI (r2.getD k1 0)),(7,pB true)] [] tv ?_)
   obtain rfl := sj hm
   exact DW.ret (Ai [] [] (.p (.tup [vi (r2.getD k1 0),vb true])))
  ·intro h15 hm
   refine Sk ?_
   refine DW.done ?_
   show DW _ _ _ _ _
   refine RD hnt (nn 2 []) [10,24] [(18,pI (w64 (((k1 : Nat) : Int) + 1)))] [] [] tv ?_
   exact jD () ⟨hlt1,hm⟩ (Conv.tp [(18,pI (w64 (((k1 : Nat) : Int) + 1)))] [] (by kernel_rfl) (.cons rfl (.of_eq (congrArg pI (Bj hlt1 hc1))) .nil) .nil)
 ·intro h13
  have hge1 : ¬ k1 < r2.length := by have := of_decide_eq_false h13; omega
  have hm := he1 hge1
  unfold Acx at hm
  refine DW.exit ?_
  refine Ap ?_
  refine Au ?_
  refine An ?_
  show DW _ _ _ _ _
  refine Sq (RK hnt (nn 2 []) [(6,pI 0),(7,pB false)] [] tv ?_)
  obtain rfl := sj hm
  exact DW.ret (Ai [] [] (.p (.tup [vi 0,vb false])))
abbrev o105 (ks : List Nat) (b : Bool) (RES : Int × Bool) : Orc := .call 106 ks b (.p (.tup [vi RES.1,vb RES.2])) [] []

theorem Aah (p0 : Aa) (p1 : Int) (p2 : Int) (p3 : List Int) (RES : Int) (hm : Mk p0 p1 p2 p3 = some RES) : Spec Tryz.prog 60 [.p (.agg (Ab p0)),pI p1,pI p2,.p (slI p3)] [] (pI RES) [] [] := by
 unfold Mk at hm
 refine SO Tryz.func60 rfl rfl [(0,.p (.agg (Ab p0))),(1,pI p1),(2,pI p2),(3,.p (slI p3))] [] ?_
 intro cx hnt
 refine Sq (RD hnt (nn 2 []) [0] [(4,rr 1032)] [] [(1032,bx (pm (Ab p0)))] tv ?_)
 obtain ⟨r1,hr1,hm⟩ := bo hm
 refine Sq (Sq (RD hnt (nn 3 (o30 [] true r1 :: .no :: [])) [] [(19,pB (decide (r1 < 0)))] [] [] (an (Fs p0.tree p2 r1 hr1) tv) ?_))
 refine Ah hm ?_ ?_
 ·intro h2 hm
  refine Sq (RK hnt (.no :: []) [(8,pI 4)] [] tv ?_)
  obtain rfl := sj hm
  exact DW.ret (Ai [] [] (pI 4))
 ·intro h2 hm
  refine Sk ?_
  obtain ⟨r3,hr3,hm⟩ := bo hm
  refine Sq (Sq (RD hnt (nn 4 (o86 [] true r3 :: .no :: [])) [19] [(25,pB (!r3))] [] [] (an (Oz p0.tree p1 p2 r3 hr3) tv) ?_))
  refine Ah hm ?_ ?_
  ·intro h4 hm
   refine Sq (RK hnt (.no :: []) [(8,pI 8)] [] tv ?_)
   obtain rfl := sj hm
   exact DW.ret (Ai [] [] (pI 8))
  ·intro h4 hm
   refine Sk ?_
   refine Sq (Sq (RD hnt (nn 3 []) [3,25] [(26,.p (slI p3)),(27,pI ((p3.length : Nat) : Int)),(28,pI 0)] [] [] tv ?_))
   refine Bk ?_
   obtain ⟨hc1,hm⟩ := go1 hm
   refine DW.rangeO (fun (k1 : Nat) (s1 : Unit) => Al [(1,pI p1),(2,pI p2),(4,rr 1032),(26,.p (slI p3)),(27,pI ((p3.length : Nat) : Int)),(28,pI ((k1 : Nat) : Int))] [(1032,bx (pm (Ab p0)))]) 0 hm Conv.eqK ?_
   intro k1 s1 n1 hk1 hs1 he1
   refine Sq (RD hnt (.no :: []) [] [(29,pB (decide (((k1 : Nat) : Int) < ((p3.length : Nat) : Int))))] [] [] tv ?_)
   refine Sq (Bx (decide (((k1 : Nat) : Int) < ((p3.length : Nat) : Int))) ?_ ?_)
   ·intro h23
    have hlt1 : k1 < p3.length := by have := of_decide_eq_true h23; omega
    have hm := hs1 hlt1
    unfold Wa at hm
    refine Sk ?_
    refine Sq (Bk ?_)
    refine Sq (RD hnt (nn 3 []) [29] [(10,pI (p3.getD k1 0))] [] [] (an (nn0 k1) (an (ltc hlt1) tv)) ?_)
    obtain ⟨r24,hr24,hm⟩ := bo hm
    refine Sq (RD hnt (nn 2 (o53 [] true r24 :: nn 6 [])) [10] [(11,rr 1088)] [] [(1088,bx (pm (Ao r24.1)))] (an (Vp p0 (p3.getD k1 0) r24 hr24) tv) ?_)
    obtain ⟨r25,hr25,hm⟩ := bo hm
    refine Sq (RD hnt (nn 5 (o105 [] true r25 :: nn 5 [])) [] [(13,pI r25.1)] [] [] (an (AfO p0.tree p2 r24.1.group r25 hr25) tv) ?_)
    refine Sq ?_
    refine Jn (ι := Bool) (fun (y3 : Bool) => Al [(1,pI p1),(2,pI p2),(4,rr 1032),(26,.p (slI p3)),(27,pI ((p3.length : Nat) : Int)),(28,pI ((k1 : Nat) : Int)),(62,pB y3)] [(1032,bx (pm (Ab p0)))]) (fun y3 => (Kc n1) y3 = some RES) ?_ ?_
    ·intro y3 hm
     unfold Kc at hm
     refine Ah hm ?_ ?_
     ·intro h30 hm
      refine Sq (RK hnt (.no :: []) [(8,pI 8)] [] tv ?_)
      obtain rfl := sj hm
      exact DW.ret (Ai [] [] (pI 8))
     ·intro h30 hm
      refine Sk ?_
      refine DW.done ?_
      show DW _ _ _ _ _
      refine RD hnt (nn 2 []) [62] [(28,pI (w64 (((k1 : Nat) : Int) + 1)))] [] [] tv ?_
      exact jD () ⟨hlt1,hm⟩ (Conv.tp [(28,pI (w64 (((k1 : Nat) : Int) + 1)))] [] (by kernel_rfl) (.cons rfl (.of_eq (congrArg pI (Bj hlt1 hc1))) .nil) .nil)
    ·rcases bt (p1 != 0) with h26 | h26
     ·replace hm := Ay h26 hm
      rcases bt (r24.1.user != p1) with h27 | h27
      ·replace hm := Ay h27 hm
       refine RD hnt (nn 7 (pT :: .no :: sk 6 (pT :: []))) [11,13] [(62,pB true)] [1088] [] (an5 h26 (an h27 (an6 h27 tv))) ?_
       exact jD true hm Conv.eqK
      ·replace hm := Az h27 hm
       obtain ⟨r28,hr28,hm⟩ := bo hm
       refine RD hnt (nn 7 (pT :: nn 5 (o86 [] true r28 :: .no :: pF :: []))) [11,13] [(62,pB (!r28))] [1088] [] (an5 h26 (an5 h27 (an (Oz p0.tree p1 r25.1 r28 hr28) (an2 h27 tv)))) ?_
       exact jD (!r28) hm Conv.eqK
     ·replace hm := Az h26 hm
      obtain ⟨r29,hr29,hm⟩ := bo hm
      refine RD hnt (nn 3 (sk 4 (pF :: nn 5 (o86 [] true r29 :: .no :: pF :: [])))) [11,13] [(62,pB (!r29))] [1088] [] (an5 h26 (an5 ff (an (Oz p0.tree p1 r25.1 r29 hr29) (an2 ff tv)))) ?_
      exact jD (!r29) hm Conv.eqK
   ·intro h23
    have hge1 : ¬ k1 < p3.length := by have := of_decide_eq_false h23; omega
    have hm := he1 hge1
    unfold Abs at hm
    refine DW.exit ?_
    refine Ap ?_
    refine Au ?_
    refine An ?_
    show DW _ _ _ _ _
    refine Sq (RK hnt (.no :: []) [(8,pI 0)] [] tv ?_)
    obtain rfl := sj hm
    exact DW.ret (Ai [] [] (pI 0))
abbrev o104 (ks : List Nat) (b : Bool) (RES : Int) : Orc := .call 60 ks b (pI RES) [] []

theorem Bm (p0 : Int) (RES : Aa × Int) (hm : Be p0 = some RES) : Spec Tryz.prog 99 [pI p0] [] (.tup [.agg [ow 0 RES.1.tree.nodes.length,pI RES.1.tree.next,ow 1 RES.1.tasks.length,pI RES.1.next],pI RES.2]) [] [Ac RES.1.tree.nodes,Af RES.1.tasks] := by
 unfold Be at hm
 refine SO Tryz.func99 rfl rfl [(0,pI p0)] [] ?_
 intro cx hnt
 refine Sq (RK hnt (nn 2 []) [(0,pI p0),(2,rr 1016)] [(1016,bx [.p (.sl .nil 0 0 (fun _ => [])),pI 0,.p (.sl .nil 0 0 (fun _ => [])),pI 0])] tv ?_)
 refine Sq (RD hnt (nn 4 []) [0] [(3,pI p0)] [] [] tv ?_)
 refine DW.cv [] [] [] [(1016,bx [ow 100000 0,pI 0,ow 100001 0,pI 0]),(100000,ob0 (Ac [])),(100001,ob0 (Af []))] (Conv.ads [(.o 1016 0,100000,6,elems Ak Ar []),(.o 1016 2,100001,4,elems Ao Ba [])]) ?_
 obtain rfl := sj hm
 exact DW.ret (Ai [Ac [],Af []] [100000,100001] (.tup [.agg [ow 0 0,pI 0,ow 1 0,pI 0],pI p0]))
abbrev Tg (ks : List Nat) (b : Bool) (RES : Aa × Int) : Orc := .call 99 ks b (.tup [.agg [ow 0 RES.1.tree.nodes.length,pI RES.1.tree.next,ow 1 RES.1.tasks.length,pI RES.1.next],pI RES.2]) [] [Ac RES.1.tree.nodes,Af RES.1.tasks]

theorem Yh (p0 : Aa) (p1 : Int) (RES : Int) (hm : Lg p0 p1 = some RES) : Spec Tryz.prog 110 [.p (.agg (Ab p0)),pI p1] [] (pI RES) [] [] := by
 unfold Lg at hm
 refine SO Tryz.func110 rfl rfl [(0,.p (.agg (Ab p0))),(1,pI p1)] [] ?_
 intro cx hnt
 refine Sq (RK hnt (nn 2 []) [(1,pI p1),(2,rr 1016)] [(1016,bx (pm (Ab p0)))] tv ?_)
 obtain ⟨r1,hr1,hm⟩ := bo hm
 refine Sq (RD hnt (nn 3 (o41 [] true r1 :: nn 6 [])) [] [(5,rr 1040),(6,pB r1.2)] [] [(1040,bx (pm (Ak r1.1)))] (an (Fa p0.tree p1 r1 hr1) tv) ?_)
 refine Sq (Bk ?_)
 refine Sq (RD hnt (nn 3 []) [6] [(14,pB (!r1.2))] [] [] tv ?_)
 refine Ah hm ?_ ?_
 ·intro h2 hm
  refine Sq (RK hnt (.no :: []) [(4,pI 4)] [] tv ?_)
  obtain rfl := sj hm
  exact DW.ret (Ai [] [] (pI 4))
 ·intro h2 hm
  refine Sq ?_
  refine Jn (ι := Bool) (fun (y1 : Bool) => Al [(1,pI p1),(5,rr 1040),(17,pB y1)] [(1040,bx (pm (Ak r1.1)))]) (fun y1 => (Lo p1 r1) y1 = some RES) ?_ ?_
  ·intro y1 hm
   unfold Lo at hm
   refine Ah hm ?_ ?_
   ·intro h5 hm
    refine Sq (RK hnt (.no :: []) [(4,pI 10)] [] tv ?_)
    obtain rfl := sj hm
    exact DW.ret (Ai [] [] (pI 10))
   ·intro h5 hm
    refine Sq (DW.regJ (sl2 := [(27,pB ((p1 != 1) && ((kand .i64 r1.1.control 6) != 0)))]) (ob2 := []) ?_ ?_)
    ·rcases bt (p1 != 1) with h6 | h6
     ·exact RT hnt (nn 7 (pT :: .no :: [])) [(27,pB ((kand .i64 r1.1.control 6) != 0))] (an5 h6 tv) (by kernel_rfl) (.cons rfl (.of_eq (by rw [h6]; try rfl)) .nil)
     ·exact RT hnt (nn 3 (sk 4 (pF :: .no :: []))) [(27,pB false)] (an5 h6 tv) (by kernel_rfl) (.cons rfl (.of_eq (by rw [h6]; try rfl)) .nil)
    ·refine Ah hm ?_ ?_
     ·intro h7 hm
      refine Sq (RK hnt (.no :: []) [(4,pI 6)] [] tv ?_)
      obtain rfl := sj hm
      exact DW.ret (Ai [] [] (pI 6))
     ·intro h7 hm
      refine Sk ?_
      refine DW.done ?_
      show DW _ _ _ _ _
      refine Sq (RK hnt (.no :: []) [(4,pI 0)] [] tv ?_)
      obtain rfl := sj hm
      exact DW.ret (Ai [] [] (pI 0))
  ·rcases bt (r1.1.kind != 1) with h3 | h3
   ·replace hm := Ay h3 hm
    obtain ⟨r4,hr4,hm⟩ := bo hm
    refine RD hnt (nn 7 (o85 [] true r4 :: pT :: .no :: [])) [2,14] [(17,pB r4)] [1016] [] (an4 h3 (an (Gw p0.tree p1 r4 hr4) (an h3 tv))) ?_
    exact jD r4 hm Conv.eqK
   ·replace hm := Az h3 hm
    refine RD hnt (nn 4 (sk 4 (pF :: .no :: []))) [2,14] [(17,pB false)] [1016] [] (an5 h3 tv) ?_
    exact jD false hm Conv.eqK
abbrev o110 (ks : List Nat) (b : Bool) (RES : Int) : Orc := .call 110 ks b (pI RES) [] []

abbrev Abi (s1 : List Am) (k1 : Int) (p2 : Int) := ({ id := (s1.getD (Int.toNat k1) Ba).id,process := (s1.getD (Int.toNat k1) Ba).process,group := p2,user := (s1.getD (Int.toNat k1) Ba).user } : Am)
abbrev AeC : Nat × Obj := (1048,bx [.p (.sl .nil 0 0 (fun _ => [])),pI 0,.p (.sl .nil 0 0 (fun _ => [])),pI 0])
abbrev c108e3 (s1 : List Am) (k1 : Int) (p2 : Int) := (Bv (Vh s1) (Int.toNat k1) [vi (s1.getD (Int.toNat k1) Ba).id,vi (s1.getD (Int.toNat k1) Ba).process,vi p2,vi (s1.getD (Int.toNat k1) Ba).user])
abbrev Ahb (r15 : Aa) : Nat × MV := (71,pI ((r15.tasks.length : Nat) : Int))
theorem Aek (p0 : Aa) (p1 : Int) (p2 : Int) (RES : Aa × Int) (hm : Of p0 p1 p2 = some RES) : Spec Tryz.prog 62 [.p (.agg (Ab p0)),pI p1,pI p2] [] (.tup [.agg [ow 0 RES.1.tree.nodes.length,pI RES.1.tree.next,ow 1 RES.1.tasks.length,pI RES.1.next],pI RES.2]) [] [Ac RES.1.tree.nodes,Af RES.1.tasks] := by
 unfold Of at hm
 refine SO Tryz.func62 rfl rfl [(0,.p (.agg (Ab p0))),(1,pI p1),(2,pI p2)] [] ?_
 intro cx hnt
 refine Sq (RD hnt (nn 3 []) [0] [(3,rr 1024),(6,rr 1048)] [] [(1024,bx (pm (Ab p0))),(AeC)] tv ?_)
 obtain ⟨r1,hr1,hm⟩ := bo hm
 refine Sq (Sq (RD hnt (.no :: o49 [] true r1 :: .no :: []) [] [(18,pB (!r1))] [] [] (an (Dh p0 r1 hr1) tv) ?_))
 refine Ah hm ?_ ?_
 ·intro h2 hm
  obtain ⟨r3,hr3,hm⟩ := bo hm
  refine Sq (RK hnt (Tg [] true r3 :: nn 4 []) [(6,rr 1048),(7,pI r3.2)] [(1048,bx [ow 1152 r3.1.tree.nodes.length,pI r3.1.tree.next,ow 1153 r3.1.tasks.length,pI r3.1.next]),(1152,ob0 (Ac r3.1.tree.nodes)),(1153,ob0 (Af r3.1.tasks))] (an (Bm 1 r3 hr3) tv) ?_)
  obtain rfl := sj hm
  exact DW.ret (Ai [Ac r3.1.tree.nodes,Af r3.1.tasks] [1152,1153] (.tup [.agg [ow 0 r3.1.tree.nodes.length,pI r3.1.tree.next,ow 1 r3.1.tasks.length,pI r3.1.next],pI r3.2]))
 ·intro h2 hm
  refine Sk ?_
  obtain ⟨r4,hr4,hm⟩ := bo hm
  refine Sq (RD hnt (nn 2 (o53 [] true r4 :: nn 6 [])) [18] [(8,rr 1064),(9,pB r4.2)] [] [(1064,bx (pm (Ao r4.1)))] (an (Vp p0 p1 r4 hr4) tv) ?_)
  obtain ⟨r5,hr5,hm⟩ := bo hm
  refine Sq (RD hnt (nn 3 (o41 [] true r5 :: nn 6 [])) [] [(10,rr 1080),(11,pB r5.2)] [] [(1080,bx (pm (Ak r5.1)))] (an (Fa p0.tree p2 r5 hr5) tv) ?_)
  refine Sq (Bk ?_)
  refine Sq (DW.regJ (sl2 := [(1,pI p1),(2,pI p2),(3,rr 1024),(6,rr 1048),(10,rr 1080),(35,pB (((!r4.2) || (r4.1.process != p1)) || (!r5.2)))]) (ob2 := [(1024,bx (pm (Ab p0))),(AeC),(1080,bx (pm (Ak r5.1)))]) ?_ ?_)
  ·rcases bt (!r4.2) with h6 | h6
   ·exact RT hnt (nn 3 (sk 4 (pT :: .no :: sk 2 (pT :: .no :: [])))) [(35,pB true)] (an5 h6 (an3 tt tv)) (by kernel_rfl) (.cons rfl (.of_eq (by rw [h6]; try rfl)) .nil)
   ·rcases bt (r4.1.process != p1) with h7 | h7
    ·exact RT hnt (nn 7 (pF :: .no :: sk 2 (pT :: .no :: []))) [(35,pB true)] (an5 h6 (an3 h7 tv)) (by kernel_rfl) (.cons rfl (.of_eq (by rw [h6,h7]; try rfl)) .nil)
    ·exact RT hnt (nn 7 (pF :: nn 3 (pF :: .no :: []))) [(35,pB (!r5.2))] (an5 h6 (an3 h7 tv)) (by kernel_rfl) (.cons rfl (.of_eq (by rw [h6,h7]; try rfl)) .nil)
  ·refine Ah hm ?_ ?_
   ·intro h8 hm
    obtain ⟨r9,hr9,hm⟩ := bo hm
    refine Sq (RK hnt (Tg [] true r9 :: nn 4 []) [(6,rr 1048),(7,pI r9.2)] [(1048,bx [ow 1384 r9.1.tree.nodes.length,pI r9.1.tree.next,ow 1385 r9.1.tasks.length,pI r9.1.next]),(1384,ob0 (Ac r9.1.tree.nodes)),(1385,ob0 (Af r9.1.tasks))] (an (Bm 4 r9 hr9) tv) ?_)
    obtain rfl := sj hm
    exact DW.ret (Ai [Ac r9.1.tree.nodes,Af r9.1.tasks] [1384,1385] (.tup [.agg [ow 0 r9.1.tree.nodes.length,pI r9.1.tree.next,ow 1 r9.1.tasks.length,pI r9.1.next],pI r9.2]))
   ·intro h8 hm
    refine Sq (RD hnt (nn 4 []) [10,35] [(51,pB (r5.1.kind == 1))] [1080] [] tv ?_)
    refine Ah hm ?_ ?_
    ·intro h10 hm
     obtain ⟨r11,hr11,hm⟩ := bo hm
     refine Sq (RK hnt (Tg [] true r11 :: nn 4 []) [(6,rr 1048),(7,pI r11.2)] [(1048,bx [ow 1440 r11.1.tree.nodes.length,pI r11.1.tree.next,ow 1441 r11.1.tasks.length,pI r11.1.next]),(1440,ob0 (Ac r11.1.tree.nodes)),(1441,ob0 (Af r11.1.tasks))] (an (Bm 10 r11 hr11) tv) ?_)
     obtain rfl := sj hm
     exact DW.ret (Ai [Ac r11.1.tree.nodes,Af r11.1.tasks] [1440,1441] (.tup [.agg [ow 0 r11.1.tree.nodes.length,pI r11.1.tree.next,ow 1 r11.1.tasks.length,pI r11.1.next],pI r11.2]))
    ·intro h10 hm
     refine Sk ?_
     refine DW.done ?_
     show DW _ _ _ _ _
     obtain ⟨r12,hr12,hm⟩ := bo hm
     refine Sq (Sq (RD hnt (nn 2 (o110 [] true r12 :: .no :: [])) [51] [(12,pI r12)] [] [] (an (Yh p0 p2 r12 hr12) tv) ?_))
     refine Sq (RD hnt (nn 2 []) [] [(62,pB (r12 != 0))] [] [] tv ?_)
     refine Ah hm ?_ ?_
     ·intro h13 hm
      obtain ⟨r14,hr14,hm⟩ := bo hm
      refine Sq (RK hnt (.no :: Tg [] true r14 :: nn 4 []) [(6,rr 1048),(7,pI r14.2)] [(1048,bx [ow 1512 r14.1.tree.nodes.length,pI r14.1.tree.next,ow 1513 r14.1.tasks.length,pI r14.1.next]),(1512,ob0 (Ac r14.1.tree.nodes)),(1513,ob0 (Af r14.1.tasks))] (an (Bm r12 r14 hr14) tv) ?_)
      obtain rfl := sj hm
      exact DW.ret (Ai [Ac r14.1.tree.nodes,Af r14.1.tasks] [1512,1513] (.tup [.agg [ow 0 r14.1.tree.nodes.length,pI r14.1.tree.next,ow 1 r14.1.tasks.length,pI r14.1.next],pI r14.2]))
     ·intro h13 hm
      refine Sk ?_
      obtain ⟨r15,hr15,hm⟩ := bo hm
      refine Sq (RD hnt (.no :: o95 [] true r15 :: nn 2 []) [3,12,62] [(13,rr 1104)] [1024] [(1104,bx [ow 1544 r15.tree.nodes.length,pI r15.tree.next,ow 1545 r15.tasks.length,pI r15.next]),(1544,ob0 (Ac r15.tree.nodes)),(1545,ob0 (Af r15.tasks))] (an (Nw p0 r15 hr15) tv) ?_)
      refine Sq (Sq (RD hnt (nn 4 []) [] [(70,ow 1545 r15.tasks.length),(Ahb r15),(72,pI 0)] [] [] tv ?_))
      refine Bk ?_
      obtain ⟨hc1,hm⟩ := go1 hm
      refine DW.forO (fun (k1 : Int) (s1 : List Am) => Al [(1,pI p1),(2,pI p2),(6,rr 1048),(13,rr 1104),(70,ow 1545 s1.length),(Ahb r15),(72,pI k1)] [(AeC),(1104,bx [ow 1544 r15.tree.nodes.length,pI r15.tree.next,ow 1545 s1.length,pI r15.next]),(1544,ob0 (Ac r15.tree.nodes)),(1545,ob0 (Af s1))]) (lo := 0) (hi := ((r15.tasks.length : Nat) : Int)) hm Conv.eqK ?_
      intro k1 s1 n1 hk1 hs1 he1
      refine Sq (RD hnt (.no :: []) [] [(73,pB (decide (k1 < ((r15.tasks.length : Nat) : Int))))] [] [] tv ?_)
      refine Sq (Bx (decide (k1 < ((r15.tasks.length : Nat) : Int))) ?_ ?_)
      ·intro h28
       have hlt1 : k1 < ((r15.tasks.length : Nat) : Int) := by have := of_decide_eq_true h28; omega
       have hm := hs1 hlt1
       unfold Uq at hm
       refine Sk ?_
       refine Sq ?_
       refine Jn (ι := List Am) (fun (y3 : List Am) => Al [(1,pI p1),(2,pI p2),(6,rr 1048),(13,rr 1104),(70,ow 1545 y3.length),(Ahb r15),(72,pI k1)] [(AeC),(1104,bx [ow 1544 r15.tree.nodes.length,pI r15.tree.next,ow 1545 y3.length,pI r15.next]),(1544,ob0 (Ac r15.tree.nodes)),(1545,ob0 (Af y3))]) (fun y3 => (Lt n1) y3 = some RES) ?_ ?_
       ·intro y3 hm
        unfold Lt at hm
        refine RD hnt (nn 2 []) [] [(72,pI (w64 (k1 + 1)))] [] [] tv ?_
        exact jD y3 ⟨hlt1,hm⟩ (Conv.tp [(72,pI (w64 (k1 + 1)))] [] (by kernel_rfl) (.cons rfl (.of_eq (congrArg pI (Rr (lo := 0) (hi := ((r15.tasks.length : Nat) : Int)) (by omega) hk1 hlt1 (by omega)))) .nil) .nil)
       ·refine Bk ?_
        obtain ⟨g29,g30,hm⟩ := go2 hm
        refine Sq (RD hnt (nn 6 []) [73] [(14,pI k1),(15,rr 1120)] [] [(1120,bx (pm (Ao (s1.getD (Int.toNat k1) Ba))))] (an g29.1 (an g29.2 (an g30 tv))) ?_)
        refine Sq (RD hnt (nn 4 []) [15] [(80,pB ((s1.getD (Int.toNat k1) Ba).process == p1))] [1120] [] tv ?_)
        refine Ah hm ?_ ?_
        ·intro h31 hm
         obtain ⟨g32,g33,hm⟩ := go2 hm
         refine RN hnt (nn 7 []) [(1,pI p1),(2,pI p2),(6,rr 1048),(13,rr 1104),(70,ow 1545 (s1.set (Int.toNat k1) (Abi s1 k1 p2)).length),(Ahb r15),(72,pI k1)] [(AeC),(1104,bx [ow 1544 r15.tree.nodes.length,pI r15.tree.next,ow 1545 (s1.set (Int.toNat k1) (Abi s1 k1 p2)).length,pI r15.next]),(1544,ob0 (Ac r15.tree.nodes)),(1545,ob0 (Af (s1.set (Int.toNat k1) (Abi s1 k1 p2))))] [(70,ow 1545 s1.length)] [(1104,.box [ow 1544 r15.tree.nodes.length,pI r15.tree.next,ow 1545 s1.length,pI r15.next]),(1545,.row 4 s1.length (c108e3 s1 k1 p2))] (an g32.1 (an g32.2 (an g33 tv))) (by kernel_rfl) (.cons rfl (MLe.ownLen (enc := Ao) (d := Ba) (f := (c108e3 s1 k1 p2)) (RowIs.upd RowIs.elems (Abi s1 k1 p2) rfl)) .nil) (.cons rfl (.box (.cons .rfl (.cons .rfl (.cons (MLe.ownLen (enc := Ao) (d := Ba) (f := (c108e3 s1 k1 p2)) (RowIs.upd RowIs.elems (Abi s1 k1 p2) rfl)) (.cons .rfl .nil))))) (.cons rfl (BLe.typed (RowIs.upd RowIs.elems (Abi s1 k1 p2) rfl)) .nil)) ?_
         exact bD (s1.set (Int.toNat k1) (Abi s1 k1 p2)) hm .refl
        ·intro h31 hm
         refine Sk ?_
         exact bD s1 hm Conv.t0
      ·intro h28
       have hge1 : ¬ k1 < ((r15.tasks.length : Nat) : Int) := by have := of_decide_eq_false h28; omega
       have hm := he1 hge1
       unfold Aau at hm
       refine DW.exit ?_
       refine Ap ?_
       refine Au ?_
       refine An ?_
       show DW _ _ _ _ _
       refine Sq (RD hnt (nn 3 []) [1,2,13,70,71,72,73] [(7,pI 0)] [1104] [(1048,bx [ow 1544 r15.tree.nodes.length,pI r15.tree.next,ow 1545 s1.length,pI r15.next])] tv ?_)
       obtain rfl := sj hm
       exact DW.ret (Ai [Ac r15.tree.nodes,Af s1] [1544,1545] (.tup [.agg [ow 0 r15.tree.nodes.length,pI r15.tree.next,ow 1 s1.length,pI r15.next],pI 0]))
abbrev o108 (ks : List Nat) (b : Bool) (RES : Aa × Int) : Orc := .call 62 ks b (.tup [.agg [ow 0 RES.1.tree.nodes.length,pI RES.1.tree.next,ow 1 RES.1.tasks.length,pI RES.1.next],pI RES.2]) [] [Ac RES.1.tree.nodes,Af RES.1.tasks]

abbrev c99e1 : Nat × Obj := (1064,bx [.p (.sl .nil 0 0 (fun _ => [])),pI 0,.p (.sl .nil 0 0 (fun _ => [])),pI 0])
theorem Ur (p0 : Aa) (p1 : Int) (p2 : Int) (p3 : Int) (RES : Aa × Int) (hm : Lk p0 p1 p2 p3 = some RES) : Spec Tryz.prog 21 [.p (.agg (Ab p0)),pI p1,pI p2,pI p3] [] (.tup [.agg [ow 0 RES.1.tree.nodes.length,pI RES.1.tree.next,ow 1 RES.1.tasks.length,pI RES.1.next],pI RES.2]) [] [Ac RES.1.tree.nodes,Af RES.1.tasks] := by
 unfold Lk at hm
 refine SO Tryz.func21 rfl rfl [(0,.p (.agg (Ab p0))),(1,pI p1),(2,pI p2),(3,pI p3)] [] ?_
 intro cx hnt
 refine Sq (RD hnt (nn 3 []) [0] [(4,rr 1032),(8,rr 1064)] [] [(1032,bx (pm (Ab p0))),(c99e1)] tv ?_)
 obtain ⟨r1,hr1,hm⟩ := bo hm
 refine Sq (Sq ?_)
 refine Jn (ι := Bool) (fun (y1 : Bool) => Al [(1,pI p1),(2,pI p2),(3,pI p3),(4,rr 1032),(8,rr 1064),(20,pB y1)] [(1032,bx (pm (Ab p0))),(c99e1)]) (fun y1 => (Pc p0 p1 p2 p3) y1 = some RES) ?_ ?_
 ·intro y1 hm
  unfold Pc at hm
  refine Ah hm ?_ ?_
  ·intro h4 hm
   obtain ⟨r5,hr5,hm⟩ := bo hm
   refine Sq (RK hnt (o100 [] true r5 :: nn 4 []) [(8,rr 1064),(9,pI r5.2)] [(1064,bx [ow 1168 r5.1.tree.nodes.length,pI r5.1.tree.next,ow 1169 r5.1.tasks.length,pI r5.1.next]),(1168,ob0 (Ac r5.1.tree.nodes)),(1169,ob0 (Af r5.1.tasks))] (an (Dr 1 r5 hr5) tv) ?_)
   obtain rfl := sj hm
   exact DW.ret (Ai [Ac r5.1.tree.nodes,Af r5.1.tasks] [1168,1169] (.tup [.agg [ow 0 r5.1.tree.nodes.length,pI r5.1.tree.next,ow 1 r5.1.tasks.length,pI r5.1.next],pI r5.2]))
  ·intro h4 hm
   refine Sk ?_
   obtain ⟨r6,hr6,hm⟩ := bo hm
   refine Sq (Sq (RD hnt (nn 2 (o53 [] true r6 :: nn 6 [])) [20] [(10,rr 1080),(11,pB r6.2)] [] [(1080,bx (pm (Ao r6.1)))] (an (Vp p0 p2 r6 hr6) tv) ?_))
   refine Sq (DW.regJ (sl2 := [(1,pI p1),(2,pI p2),(3,pI p3),(4,rr 1032),(8,rr 1064),(37,pB ((!r6.2) || (r6.1.process != p2)))]) (ob2 := [(1032,bx (pm (Ab p0))),(c99e1)]) ?_ ?_)
   ·rcases bt (!r6.2) with h7 | h7
    ·exact RT hnt (nn 3 (sk 4 (pT :: []))) [(37,pB true)] (an5 h7 tv) (by kernel_rfl) (.cons rfl (.of_eq (by rw [h7]; try rfl)) .nil)
    ·exact RT hnt (nn 7 (pF :: [])) [(37,pB (r6.1.process != p2))] (an5 h7 tv) (by kernel_rfl) (.cons rfl (.of_eq (by rw [h7]; try rfl)) .nil)
   ·refine Ah hm ?_ ?_
    ·intro h8 hm
     obtain ⟨r9,hr9,hm⟩ := bo hm
     refine Sq (RK hnt (o100 [] true r9 :: nn 4 []) [(8,rr 1064),(9,pI r9.2)] [(1064,bx [ow 1304 r9.1.tree.nodes.length,pI r9.1.tree.next,ow 1305 r9.1.tasks.length,pI r9.1.next]),(1304,ob0 (Ac r9.1.tree.nodes)),(1305,ob0 (Af r9.1.tasks))] (an (Dr 4 r9 hr9) tv) ?_)
     obtain rfl := sj hm
     exact DW.ret (Ai [Ac r9.1.tree.nodes,Af r9.1.tasks] [1304,1305] (.tup [.agg [ow 0 r9.1.tree.nodes.length,pI r9.1.tree.next,ow 1 r9.1.tasks.length,pI r9.1.next],pI r9.2]))
    ·intro h8 hm
     refine Sk ?_
     obtain ⟨r10,hr10,hm⟩ := bo hm
     obtain ⟨r11,hr11,hm⟩ := bo hm
     refine Sq (Sq (RD hnt (nn 5 (o101 [] true r10 :: o104 [] true r11 :: .no :: [])) [1,37] [(12,pI r11)] [] [] (an (AgA p0 p2 r10 hr10) (an (Aah p0 p1 p3 r10 r11 hr11) tv)) ?_))
     refine Sq (RD hnt (nn 2 []) [] [(49,pB (r11 != 0))] [] [] tv ?_)
     refine Ah hm ?_ ?_
     ·intro h12 hm
      obtain ⟨r13,hr13,hm⟩ := bo hm
      refine Sq (RK hnt (.no :: o100 [] true r13 :: nn 4 []) [(8,rr 1064),(9,pI r13.2)] [(1064,bx [ow 1408 r13.1.tree.nodes.length,pI r13.1.tree.next,ow 1409 r13.1.tasks.length,pI r13.1.next]),(1408,ob0 (Ac r13.1.tree.nodes)),(1409,ob0 (Af r13.1.tasks))] (an (Dr r11 r13 hr13) tv) ?_)
      obtain rfl := sj hm
      exact DW.ret (Ai [Ac r13.1.tree.nodes,Af r13.1.tasks] [1408,1409] (.tup [.agg [ow 0 r13.1.tree.nodes.length,pI r13.1.tree.next,ow 1 r13.1.tasks.length,pI r13.1.next],pI r13.2]))
     ·intro h12 hm
      refine Sk ?_
      obtain ⟨r14,hr14,hm⟩ := bo hm
      refine Sq (RK hnt (nn 3 (o108 [] true r14 :: nn 4 [])) [(8,rr 1064),(9,pI r14.2)] [(1064,bx [ow 1456 r14.1.tree.nodes.length,pI r14.1.tree.next,ow 1457 r14.1.tasks.length,pI r14.1.next]),(1456,ob0 (Ac r14.1.tree.nodes)),(1457,ob0 (Af r14.1.tasks))] (an (Aek p0 p2 p3 r14 hr14) tv) ?_)
      obtain rfl := sj hm
      exact DW.ret (Ai [Ac r14.1.tree.nodes,Af r14.1.tasks] [1456,1457] (.tup [.agg [ow 0 r14.1.tree.nodes.length,pI r14.1.tree.next,ow 1 r14.1.tasks.length,pI r14.1.next],pI r14.2]))
 ·rcases bt (!r1) with h2 | h2
  ·replace hm := Ay h2 hm
   refine RD hnt (.no :: o38 [] true r1 :: nn 2 (sk 3 (pT :: []))) [] [(20,pB true)] [] [] (an (Bp p1 r1 hr1) (an4 h2 tv)) ?_
   exact jD true hm Conv.eqK
  ·replace hm := Az h2 hm
   obtain ⟨r3,hr3,hm⟩ := bo hm
   refine RD hnt (.no :: o38 [] true r1 :: nn 3 (o49 [] true r3 :: .no :: pF :: [])) [] [(20,pB (!r3))] [] [] (an (Bp p1 r1 hr1) (an2 h2 (an (Dh p0 r3 hr3) (an2 h2 tv)))) ?_
   exact jD (!r3) hm Conv.eqK
abbrev o99 (ks : List Nat) (b : Bool) (RES : Aa × Int) : Orc := .call 21 ks b (.tup [.agg [ow 0 RES.1.tree.nodes.length,pI RES.1.tree.next,ow 1 RES.1.tasks.length,pI RES.1.next],pI RES.2]) [] [Ac RES.1.tree.nodes,Af RES.1.tasks]

theorem Aee (RES : Bool) (hm : Wh = some RES) : Spec Tryz.prog 6 [] [] (pB RES) [] [] := by
 unfold Wh at hm
 refine SO Tryz.func6 rfl rfl [] [] ?_
 intro cx hnt
 refine Sq (RK hnt (.no :: []) [] [] tv ?_)
 obtain ⟨r1,hr1,hm⟩ := bo hm
 obtain ⟨r2,hr2,hm⟩ := bo hm
 refine Sq (RK hnt (o4 [] true r1 :: o6 [] false r2 :: nn 8 []) [(1,rr 1008),(2,pI r2.2.1)] [(1008,bx [ow 1144 r2.1.tree.nodes.length,pI r2.1.tree.next,ow 1145 r2.1.tasks.length,pI r2.1.next]),(1144,ob0 (Ac r2.1.tree.nodes)),(1145,ob0 (Af r2.1.tasks))] (an (AeI r1 hr1) (an (Ahe r1 1 (bs [97]) r2 hr2) tv)) ?_)
 refine Sq (DW.cv [] [] [1144] [(1008,bx [.p (Bf r2.1.tree.nodes),pI r2.1.tree.next,ow 1145 r2.1.tasks.length,pI r2.1.next])] (Conv.frz [1144]) ?_)
 obtain ⟨r4,hr4,hm⟩ := bo hm
 refine RD hnt (nn 3 (o29 [] true r4 :: nn 6 [])) [] [(4,rr 1032),(5,pI r4.2)] [] [(1032,bx [ow 1208 r4.1.nodes.length,pI r4.1.next]),(1208,ob0 (Ac r4.1.nodes))] (an (AeP r2.1.tree 0 r2.2.1 7 r4 hr4) tv) ?_
 refine Sq (RD hnt (nn 3 []) [4] [] [1032] [(1008,bx [ow 1208 r4.1.nodes.length,pI r4.1.next,ow 1145 r2.1.tasks.length,pI r2.1.next])] tv ?_)
 refine Sq (DW.cv [] [] [1208] [(1008,bx [.p (Bf r4.1.nodes),pI r4.1.next,ow 1145 r2.1.tasks.length,pI r2.1.next])] (Conv.frz [1208]) ?_)
 refine DW.cv [] [] [1145] [(1008,bx [.p (Bf r4.1.nodes),pI r4.1.next,.p (Fr r2.1.tasks),pI r2.1.next])] (Conv.frz [1145]) ?_
 obtain ⟨r7,hr7,hm⟩ := bo hm
 refine RD hnt (nn 2 (o47 [] true r7 :: nn 7 [])) [] [(6,pI r7.2.1),(7,pI r7.2.2)] [] [(1008,bx [ow 1272 r7.1.tree.nodes.length,pI r7.1.tree.next,ow 1273 r7.1.tasks.length,pI r7.1.next]),(1272,ob0 (Ac r7.1.tree.nodes)),(1273,ob0 (Af r7.1.tasks))] (an (Yg ({ tree := r4.1,tasks := r2.1.tasks,next := r2.1.next } : Aa) 7 r2.2.1 (bs [98]) r7 hr7) tv) ?_
 refine Sq (DW.cv [] [] [1272] [(1008,bx [.p (Bf r7.1.tree.nodes),pI r7.1.tree.next,ow 1273 r7.1.tasks.length,pI r7.1.next])] (Conv.frz [1272]) ?_)
 refine DW.cv [] [] [1273] [(1008,bx (pm (Ab r7.1)))] (Conv.frz [1273]) ?_
 obtain ⟨r10,hr10,hm⟩ := bo hm
 refine RK hnt (.no :: o97 [] true r10 :: nn 7 []) [(1,rr 1008),(2,pI r2.2.1),(5,pI r4.2),(6,pI r7.2.1),(7,pI r7.2.2),(8,pI r10.2.1)] [(1008,bx [ow 1320 r10.1.tree.nodes.length,pI r10.1.tree.next,ow 1321 r10.1.tasks.length,pI r10.1.next]),(1320,ob0 (Ac r10.1.tree.nodes)),(1321,ob0 (Af r10.1.tasks))] (an (Yt r7.1 1 7 r10 hr10) tv) ?_
 refine Sq (DW.cv [] [] [1320] [(1008,bx [.p (Bf r10.1.tree.nodes),pI r10.1.tree.next,ow 1321 r10.1.tasks.length,pI r10.1.next])] (Conv.frz [1320]) ?_)
 refine DW.cv [] [] [1321] [(1008,bx (pm (Ab r10.1)))] (Conv.frz [1321]) ?_
 obtain ⟨r13,hr13,hm⟩ := bo hm
 refine RD hnt (nn 2 (o97 [] true r13 :: nn 7 [])) [] [(10,pI r13.2.1)] [] [(1008,bx [ow 1376 r13.1.tree.nodes.length,pI r13.1.tree.next,ow 1377 r13.1.tasks.length,pI r13.1.next]),(1376,ob0 (Ac r13.1.tree.nodes)),(1377,ob0 (Af r13.1.tasks))] (an (Yt r10.1 r2.2.1 7 r13 hr13) tv) ?_
 refine Sq (DW.cv [] [] [1376] [(1008,bx [.p (Bf r13.1.tree.nodes),pI r13.1.tree.next,ow 1377 r13.1.tasks.length,pI r13.1.next])] (Conv.frz [1376]) ?_)
 refine DW.cv [] [] [1377] [(1008,bx (pm (Ab r13.1)))] (Conv.frz [1377]) ?_
 obtain ⟨r16,hr16,hm⟩ := bo hm
 refine RD hnt (nn 3 (o99 [] true r16 :: nn 6 [])) [2,8] [(13,pI r16.2)] [] [] (an (Ur r13.1 7 r10.2.1 r2.2.1 r16 hr16) tv) ?_
 obtain ⟨r17,hr17,hm⟩ := bo hm
 refine Sq (RD hnt (nn 3 (o99 [] true r17 :: nn 6 [])) [1,6,10] [(15,pI r17.2)] [1008] [] (an (Ur r13.1 7 r13.2.1 r7.2.1 r17 hr17) tv) ?_)
 refine Sq (DW.regJ (sl2 := [(0,pB ((((r4.2 == 0) && (r7.2.2 == 0)) && (r16.2 == 8)) && (r17.2 == 0)))]) (ob2 := []) ?_ ?_)
 ·rcases bt (r4.2 == 0) with h18 | h18
  ·rcases bt (r7.2.2 == 0) with h19 | h19
   ·rcases bt (r16.2 == 8) with h20 | h20
    ·exact RT hnt (nn 5 (pT :: nn 3 (pT :: nn 3 (pT :: .no :: [])))) [(0,pB (r17.2 == 0))] (an3 h18 (an3 h19 (an3 h20 tv))) (by kernel_rfl) (.cons rfl (.of_eq (by rw [h18,h19,h20]; try rfl)) .nil)
    ·exact RT hnt (nn 5 (pT :: nn 3 (pT :: .no :: sk 2 (pF :: .no :: [])))) [(0,pB false)] (an3 h18 (an3 h19 (an3 h20 tv))) (by kernel_rfl) (.cons rfl (.of_eq (by rw [h18,h19,h20]; try rfl)) .nil)
   ·exact RT hnt (nn 5 (pT :: .no :: sk 2 (pF :: .no :: sk 2 (pF :: .no :: [])))) [(0,pB false)] (an3 h18 (an3 h19 (an3 ff tv))) (by kernel_rfl) (.cons rfl (.of_eq (by rw [h18,h19]; try rfl)) .nil)
  ·exact RT hnt (nn 3 (sk 2 (pF :: .no :: sk 2 (pF :: .no :: sk 2 (pF :: .no :: []))))) [(0,pB false)] (an3 h18 (an6 ff tv)) (by kernel_rfl) (.cons rfl (.of_eq (by rw [h18]; try rfl)) .nil)
 ·refine DW.ret ?_
  obtain rfl := sj hm
  exact Ai [] [] (pB ((((r4.2 == 0) && (r7.2.2 == 0)) && (r16.2 == 8)) && (r17.2 == 0)))
abbrev o3 (ks : List Nat) (b : Bool) (RES : Bool) : Orc := .call 6 ks b (pB RES) [] []

theorem AiW (p0 : List Int) (RES : At) (hm : Afk p0 = some RES) : Spec Tryz.prog 7 [.p (slI p0)] [] (rr 0) [] [.box (pm (Aq RES))] := by
 unfold Afk at hm
 refine SO Tryz.func7 rfl rfl [(0,.p (slI p0))] [] ?_
 intro cx hnt
 refine Sq (RK hnt (.no :: []) [(0,.p (slI p0))] [] tv ?_)
 refine Sq (RK hnt (nn 4 []) [(2,rr 1040)] [(1040,bx [.p (slI p0),pI 0])] tv ?_)
 obtain rfl := sj hm
 exact DW.ret (Ai [.box [.p (slI p0),pI 0]] [1040] (rr 0))
abbrev o111 (ks : List Nat) (b : Bool) (RES : At) : Orc := .call 7 ks b (rr 0) [] [.box (pm (Aq RES))]

abbrev AeW (p0 : At) := (p0.l.getD (Int.toNat (w64 ((w64 (p0.atF + 1)) - 1))) 0)
theorem Bo (p0 : At) (p1 : Int) (RES : Int × At) (hm : Bq p0 p1 = some RES) : Spec Tryz.prog 11 [rr 0,pI p1] [.box (pm (Aq p0))] (pI RES.1) [.box (pm (Aq RES.2))] [] := by
 unfold Bq at hm
 refine SO Tryz.func11 rfl rfl [(0,rr 0),(1,pI p1)] [(0,bx (pm (Aq p0)))] ?_
 intro cx hnt
 refine Sq (RD hnt (.no :: []) [] [] [] [] tv ?_)
 refine Sq (Sq (DW.regJ (sl2 := [(0,rr 0),(1,pI p1),(19,pB ((decide (p0.atF ≥ ((p0.l.length : Nat) : Int))) || (decide (p1 < 1))))]) (ob2 := [(0,bx (pm (Aq p0)))]) ?_ ?_))
 ·rcases bt (decide (p0.atF ≥ ((p0.l.length : Nat) : Int))) with h1 | h1
  ·exact RT hnt (nn 11 (sk 2 (pT :: []))) [(19,pB true)] (an3 h1 tv) (by kernel_rfl) (.cons rfl (.of_eq (by rw [h1]; try rfl)) .nil)
  ·exact RT hnt (nn 13 (pF :: [])) [(19,pB (decide (p1 < 1)))] (an3 h1 tv) (by kernel_rfl) (.cons rfl (.of_eq (by rw [h1]; try rfl)) .nil)
 ·refine Ah hm ?_ ?_
  ·intro h2 hm
   refine Sq (RD hnt (.no :: []) [0,1,19] [(4,pI 0)] [] [] tv ?_)
   obtain rfl := sj hm
   exact DW.ret (Ai [.box (pm (Aq p0))] [] (pI 0))
  ·intro h2 hm
   refine Sk ?_
   refine Sq (RD hnt (nn 8 []) [19] [] [] [(0,bx [.p (slI p0.l),pI (w64 (p0.atF + 1))])] tv ?_)
   obtain ⟨g3,g4,hm⟩ := go2 hm
   refine Sq (RD hnt (nn 14 []) [0] [(5,pI (Int.tmod (AeW p0) p1))] [] [] (an g3.1 (an g3.2 (an g4 tv))) ?_)
   refine Sq (Sq (RD hnt (nn 2 []) [] [(41,pB (decide ((Int.tmod (AeW p0) p1) < 0)))] [] [] tv ?_))
   refine Jn (ι := Int) (fun (y1 : Int) => Al [(5,pI y1)] [(0,bx [.p (slI p0.l),pI (w64 (p0.atF + 1))])]) (fun y1 => (Ng p0) y1 = some RES) ?_ ?_
   ·intro y1 hm
    unfold Ng at hm
    refine Sq (RD hnt (nn 2 []) [5] [(4,pI y1)] [] [] tv ?_)
    obtain rfl := sj hm
    exact DW.ret (Ai [.box [.p (slI p0.l),pI (w64 (p0.atF + 1))]] [] (pI y1))
   ·refine Ah hm ?_ ?_
    ·intro h5 hm
     refine RD hnt (nn 4 []) [1,41] [(5,pI (w64 ((Int.tmod (AeW p0) p1) + p1)))] [] [] tv ?_
     exact jD (w64 ((Int.tmod (AeW p0) p1) + p1)) hm Conv.eqK
    ·intro h5 hm
     refine Sk ?_
     exact jD (Int.tmod (AeW p0) p1) hm Conv.t0
abbrev Tn (ks : List Nat) (b : Bool) (RES : Int × At) : Orc := .call 11 ks b (pI RES.1) [.box (pm (Aq RES.2))] []

theorem Aaf (p0 : At) (RES : ByteArray × At) (hm : Mo p0 = some RES) : Spec Tryz.prog 16 [rr 0] [.box (pm (Aq p0))] (pS RES.1) [.box (pm (Aq RES.2))] [] := by
 unfold Mo at hm
 refine SO Tryz.func16 rfl rfl [(0,rr 0)] [(0,bx (pm (Aq p0)))] ?_
 intro cx hnt
 refine Sq (RD hnt (.no :: []) [] [] [] [] tv ?_)
 obtain ⟨r3,hr3,hm⟩ := bo hm
 obtain ⟨g4,g5,hm⟩ := go2 hm
 refine Sq (RK hnt (.asR (ow 1024 [(bs [97]),(bs [98]),(bs [99]),(bs [119,101,98]),(bs [100,98,45,49]),(bs [88,95,57])].length) [(bs [97]),(bs [98]),(bs [99]),(bs [119,101,98]),(bs [100,98,45,49]),(bs [88,95,57])].length (elems encS ByteArray.empty [(bs [97]),(bs [98]),(bs [99]),(bs [119,101,98]),(bs [100,98,45,49]),(bs [88,95,57])]) :: .no :: Tn [0] true r3 :: nn 3 []) [(2,pS ([(bs [97]),(bs [98]),(bs [99]),(bs [119,101,98]),(bs [100,98,45,49]),(bs [88,95,57])].getD (Int.toNat r3.1) ByteArray.empty))] [(0,bx (pm (Aq r3.2)))] (an (congrArg (MV.own 1024 0 0) (RowIs.asP (enc := encS) (d := ByteArray.empty) (L := [(bs [97]),(bs [98]),(bs [99]),(bs [119,101,98]),(bs [100,98,45,49]),(bs [88,95,57])]) (RowIs.lit (enc := encS) (d := ByteArray.empty) (n := 6) (f := (cut 1 [vs (bs [97]),vs (bs [98]),vs (bs [99]),vs (bs [119,101,98]),vs (bs [100,98,45,49]),vs (bs [88,95,57])])) [(bs [97]),(bs [98]),(bs [99]),(bs [119,101,98]),(bs [100,98,45,49]),(bs [88,95,57])] rfl (fun | 0,_ => rfl | 1,_ => rfl | 2,_ => rfl | 3,_ => rfl | 4,_ => rfl | 5,_ => rfl | n + 6,h => absurd h (by omega)))).1) (an (RowIs.asP (enc := encS) (d := ByteArray.empty) (L := [(bs [97]),(bs [98]),(bs [99]),(bs [119,101,98]),(bs [100,98,45,49]),(bs [88,95,57])]) (RowIs.lit (enc := encS) (d := ByteArray.empty) (n := 6) (f := (cut 1 [vs (bs [97]),vs (bs [98]),vs (bs [99]),vs (bs [119,101,98]),vs (bs [100,98,45,49]),vs (bs [88,95,57])])) [(bs [97]),(bs [98]),(bs [99]),(bs [119,101,98]),(bs [100,98,45,49]),(bs [88,95,57])] rfl (fun | 0,_ => rfl | 1,_ => rfl | 2,_ => rfl | 3,_ => rfl | 4,_ => rfl | 5,_ => rfl | n + 6,h => absurd h (by omega)))) (an (Bo p0 6 r3 hr3) (an tv (an g4.1 (an g4.2 (an g5 tv))))))) ?_)
 obtain rfl := sj hm
 exact DW.ret (Ai [.box (pm (Aq r3.2))] [] (pS ([(bs [97]),(bs [98]),(bs [99]),(bs [119,101,98]),(bs [100,98,45,49]),(bs [88,95,57])].getD (Int.toNat r3.1) ByteArray.empty)))
abbrev o115 (ks : List Nat) (b : Bool) (RES : ByteArray × At) : Orc := .call 16 ks b (pS RES.1) [.box (pm (Aq RES.2))] []

theorem Fh (p0 : At) (p1 : Int) (RES : Bool × At) (hm : Fy p0 p1 = some RES) : Spec Tryz.prog 36 [rr 0,pI p1] [.box (pm (Aq p0))] (pB RES.1) [.box (pm (Aq RES.2))] [] := by
 unfold Fy at hm
 refine SO Tryz.func36 rfl rfl [(0,rr 0),(1,pI p1)] [(0,bx (pm (Aq p0)))] ?_
 intro cx hnt
 refine Sq (RD hnt (.no :: []) [] [] [] [] tv ?_)
 obtain ⟨r1,hr1,hm⟩ := bo hm
 refine Sq (RK hnt (nn 2 (Tn [0] true r1 :: nn 4 [])) [(4,pB (r1.1 == (w64 (p1 - 1))))] [(0,bx (pm (Aq r1.2)))] (an (Bo p0 p1 r1 hr1) (an tv tv)) ?_)
 obtain rfl := sj hm
 exact DW.ret (Ai [.box (pm (Aq r1.2))] [] (pB (r1.1 == (w64 (p1 - 1)))))
abbrev o116 (ks : List Nat) (b : Bool) (RES : Bool × At) : Orc := .call 36 ks b (pB RES.1) [.box (pm (Aq RES.2))] []

abbrev Du (p0 : Ae) (k1 : Nat) := (p0.nodes.getD k1 (default : Ag))
abbrev AgH : Nat × Obj := (1032,bx [.p (.sl .nil 0 0 (fun _ => [])),pI 0])
abbrev Ahz : Nat × Obj := (1032,bx [ow 100000 0,pI 0])
theorem AgY (p0 : Ae) (p1 : Int) (RES : Ae × Int) (hm : Vd p0 p1 = some RES) : Spec Tryz.prog 80 [.p (.agg (Aj p0)),pI p1] [] (.tup [.agg [ow 0 RES.1.nodes.length,pI RES.1.next],pI RES.2]) [] [Ac RES.1.nodes] := by
 unfold Vd at hm
 refine SO Tryz.func80 rfl rfl [(0,.p (.agg (Aj p0))),(1,pI p1)] [] ?_
 intro cx hnt
 refine Sq (RK hnt (nn 3 []) [(1,pI p1),(2,rr 1016),(4,rr 1032)] [(1016,bx (pm (Aj p0))),(AgH)] tv ?_)
 refine Sq (Bk ?_)
 obtain ⟨r1,hr1,hm⟩ := bo hm
 refine Sq (RD hnt (.no :: o10 [] true r1 :: nn 2 []) [] [(8,pB (!r1))] [] [] (an (Fx p0 r1 hr1) tv) ?_)
 refine Ah hm ?_ ?_
 ·intro h2 hm
  refine Sq (RD hnt (nn 3 []) [1,2,8] [(5,pI 1)] [1016] [] tv ?_)
  refine DW.cv [] [] [] [(Ahz),(100000,ob0 (Ac []))] (Conv.ads [(.o 1032 0,100000,6,elems Ak Ar [])]) ?_
  obtain rfl := sj hm
  exact DW.ret (Ai [Ac []] [100000] (.tup [.agg [ow 0 0,pI 0],pI 1]))
 ·intro h2 hm
  obtain ⟨r3,hr3,hm⟩ := bo hm
  refine Sq (RD hnt (nn 2 (o15 [] true r3 :: nn 2 [])) [8] [(13,pB (!r3))] [] [] (an (Df p0 p1 r3 hr3) tv) ?_)
  refine Ah hm ?_ ?_
  ·intro h4 hm
   refine Sq (RD hnt (nn 3 []) [1,2,13] [(5,pI 4)] [1016] [] tv ?_)
   refine DW.cv [] [] [] [(Ahz),(100000,ob0 (Ac []))] (Conv.ads [(.o 1032 0,100000,6,elems Ak Ar [])]) ?_
   obtain rfl := sj hm
   exact DW.ret (Ai [Ac []] [100000] (.tup [.agg [ow 0 0,pI 0],pI 4]))
  ·intro h4 hm
   refine Sq (RD hnt (nn 3 []) [13] [(19,pB (p1 == 1))] [] [] tv ?_)
   refine Ah hm ?_ ?_
   ·intro h5 hm
    refine Sq (RD hnt (nn 3 []) [1,2,19] [(5,pI 9)] [1016] [] tv ?_)
    refine DW.cv [] [] [] [(Ahz),(100000,ob0 (Ac []))] (Conv.ads [(.o 1032 0,100000,6,elems Ak Ar [])]) ?_
    obtain rfl := sj hm
    exact DW.ret (Ai [Ac []] [100000] (.tup [.agg [ow 0 0,pI 0],pI 9]))
   ·intro h5 hm
    obtain ⟨r6,hr6,hm⟩ := bo hm
    refine Sq (RD hnt (nn 2 (o24 [] true r6 :: nn 3 [])) [19] [(23,pB (decide (((r6.length : Nat) : Int) > 0)))] [] [] (an (Um p0 p1 r6 hr6) tv) ?_)
    refine Ah hm ?_ ?_
    ·intro h7 hm
     refine Sq (RD hnt (nn 3 []) [1,2,23] [(5,pI 6)] [1016] [] tv ?_)
     refine DW.cv [] [] [] [(Ahz),(100000,ob0 (Ac []))] (Conv.ads [(.o 1032 0,100000,6,elems Ak Ar [])]) ?_
     obtain rfl := sj hm
     exact DW.ret (Ai [Ac []] [100000] (.tup [.agg [ow 0 0,pI 0],pI 6]))
    ·intro h7 hm
     refine Sk ?_
     refine DW.done ?_
     show DW _ _ _ _ _
     refine Sq (RD hnt (nn 5 []) [23] [(6,rr 1048)] [] [(1048,bx [.p (.sl .nil 0 0 (fun _ => [])),pI p0.next])] tv ?_)
     refine Sq (Sq (RD hnt (.no :: []) [] [(7,pI 0)] [] [] tv ?_))
     refine Bk ?_
     obtain ⟨hc1,hm⟩ := go1 hm
     refine DW.rangeO (fun (k1 : Nat) (s1 : List Ag) => Al [(1,pI p1),(2,rr 1016),(4,rr 1032),(6,rr 1048),(7,pI ((k1 : Nat) : Int))] [(1016,bx (pm (Aj p0))),(AgH),(1048,bx [ow 1448 s1.length,pI p0.next]),(1448,ob0 (Ac s1))]) Ar hm (Conv.ads [(.o 1048 0,1448,6,elems Ak Ar [])]) ?_
     intro k1 s1 n1 hk1 hs1 he1
     refine Sq (Sq (RD hnt (nn 5 []) [] [(37,pB (decide (((k1 : Nat) : Int) < ((p0.nodes.length : Nat) : Int))))] [] [] tv ?_))
     refine Bx (decide (((k1 : Nat) : Int) < ((p0.nodes.length : Nat) : Int))) ?_ ?_
     ·intro h17
      have hlt1 : k1 < p0.nodes.length := by have := of_decide_eq_true h17; omega
      have hm := hs1 hlt1
      unfold Vo at hm
      refine Sk ?_
      refine Sq ?_
      refine Jn (ι := List Ag) (fun (y3 : List Ag) => Al [(1,pI p1),(2,rr 1016),(4,rr 1032),(6,rr 1048),(7,pI ((k1 : Nat) : Int))] [(1016,bx (pm (Aj p0))),(AgH),(1048,bx [ow 1448 y3.length,pI p0.next]),(1448,ob0 (Ac y3))]) (fun y3 => (Ro n1) y3 = some RES) ?_ ?_
      ·intro y3 hm
       unfold Ro at hm
       refine RD hnt (nn 3 []) [] [(7,pI (w64 (((k1 : Nat) : Int) + 1)))] [] [] tv ?_
       exact jD y3 ⟨hlt1,hm⟩ (Conv.tp [(7,pI (w64 (((k1 : Nat) : Int) + 1)))] [] (by kernel_rfl) (.cons rfl (.of_eq (congrArg pI (Bj hlt1 hc1))) .nil) .nil)
      ·refine Bk ?_
       refine Sq (RD hnt (nn 8 []) [37] [(47,pB ((Du p0 k1).id != p1))] [] [] (an (nn0 k1) (an (ltc hlt1) tv)) ?_)
       refine Ah hm ?_ ?_
       ·intro h18 hm
        obtain ⟨g19,hm⟩ := go1 hm
        refine RN hnt (nn 11 []) [(1,pI p1),(2,rr 1016),(4,rr 1032),(6,rr 1048),(7,pI ((k1 : Nat) : Int))] [(1016,bx (pm (Aj p0))),(AgH),(1048,bx [ow 1448 (s1 ++ [(Du p0 k1)]).length,pI p0.next]),(1448,ob0 (Ac (s1 ++ [(Du p0 k1)])))] [] [(1048,.box [ow 1448 (s1.length + 1),pI p0.next]),(1448,.row 6 (s1.length + 1) (Ef s1.length (Il s1) (cut 6 [vi (Du p0 k1).id,vi (Du p0 k1).parent,vs (Du p0 k1).name,vi (Du p0 k1).control,vi (Du p0 k1).kind,vi (Du p0 k1).owner])))] (an (nn0 k1) (an (ltc hlt1) (an (by omega : (s1.length + 1) * 56 ≤ 140737488355328) tv))) (by kernel_rfl) .nil (.cons rfl (.box (.cons (MLe.ownLen (enc := Ak) (d := Ar) (f := (Ef s1.length (Il s1) (cut 6 [vi (Du p0 k1).id,vi (Du p0 k1).parent,vs (Du p0 k1).name,vi (Du p0 k1).control,vi (Du p0 k1).kind,vi (Du p0 k1).owner]))) (RowIs.cat RowIs.elems (RowIs.lit (enc := Ak) (d := Ar) (n := 1) (f := (cut 6 [vi (Du p0 k1).id,vi (Du p0 k1).parent,vs (Du p0 k1).name,vi (Du p0 k1).control,vi (Du p0 k1).kind,vi (Du p0 k1).owner])) [(Du p0 k1)] rfl (fun | 0,_ => rfl | n + 1,h => absurd h (by omega))))) (.cons .rfl .nil))) (.cons rfl (BLe.typed (RowIs.cat RowIs.elems (RowIs.lit (enc := Ak) (d := Ar) (n := 1) (f := (cut 6 [vi (Du p0 k1).id,vi (Du p0 k1).parent,vs (Du p0 k1).name,vi (Du p0 k1).control,vi (Du p0 k1).kind,vi (Du p0 k1).owner])) [(Du p0 k1)] rfl (fun | 0,_ => rfl | n + 1,h => absurd h (by omega))))) .nil)) ?_
        exact bD (s1 ++ [(Du p0 k1)]) hm .refl
       ·intro h18 hm
        refine Sk ?_
        exact bD s1 hm Conv.t0
     ·intro h17
      have hge1 : ¬ k1 < p0.nodes.length := by have := of_decide_eq_false h17; omega
      have hm := he1 hge1
      unfold Vr at hm
      refine DW.exit ?_
      refine Ap ?_
      refine Au ?_
      refine An ?_
      show DW _ _ _ _ _
      refine Sq (RK hnt (nn 3 []) [(4,rr 1032),(5,pI 0)] [(1032,bx [ow 1448 s1.length,pI p0.next]),(1448,ob0 (Ac s1))] tv ?_)
      obtain rfl := sj hm
      exact DW.ret (Ai [Ac s1] [1448] (.tup [.agg [ow 0 s1.length,pI p0.next],pI 0]))
abbrev o117 (ks : List Nat) (b : Bool) (RES : Ae × Int) : Orc := .call 80 ks b (.tup [.agg [ow 0 RES.1.nodes.length,pI RES.1.next],pI RES.2]) [] [Ac RES.1.nodes]

abbrev AgW : Nat × Obj := (1032,bx [.p (.sl .nil 0 0 (fun _ => [])),pI 0])
theorem AeD (p0 : At) (p1 : Int) (RES : Ae × At) (hm : Mi p0 p1 = some RES) : Spec Tryz.prog 33 [rr 0,pI p1] [.box (pm (Aq p0))] (.p (.agg (Aj RES.1))) [.box (pm (Aq RES.2))] [] := by
 unfold Mi at hm
 refine SO Tryz.func33 rfl rfl [(0,rr 0),(1,pI p1)] [(0,bx (pm (Aq p0)))] ?_
 intro cx hnt
 refine Sq (RD hnt (.no :: []) [] [(4,rr 1032)] [] [(AgW)] tv ?_)
 obtain ⟨r1,hr1,hm⟩ := bo hm
 refine Sq (RD hnt (o5 [] true r1 :: nn 2 []) [] [(5,rr 1040)] [] [(1040,bx [ow 1104 r1.nodes.length,pI r1.next]),(1104,ob0 (Ac r1.nodes))] (an (Afh r1 hr1) tv) ?_)
 obtain ⟨r2,hr2,hm⟩ := bo hm
 refine Sq (Sq (RD hnt (nn 3 (Tn [0] true r2 :: .no :: [])) [1] [(6,pI r2.1)] [] [(0,bx (pm (Aq r2.2)))] (an (Bo p0 (w64 (p1 + 1)) r2 hr2) (an tv tv)) ?_))
 refine Bk ?_
 refine DW.whileO (fun (s1 : At × Ae × Int) => Al [(0,rr 0),(4,rr 1032),(5,rr 1040),(6,pI s1.2.2)] [(0,bx (pm (Aq s1.1))),(AgW),(1040,bx (pm (Aj s1.2.1)))]) hm (Conv.frz [1104]) ?_
 intro s1 n1 hm
 unfold Vx at hm
 refine Sq (Sq (RD hnt (nn 2 []) [] [(19,pB (decide (s1.2.2 > 0)))] [] [] tv ?_))
 refine Ah hm ?_ ?_
 ·intro h18 hm
  refine Sk ?_
  refine Sq ?_
  refine Jn (ι := At × Ae) (fun (y3 : At × Ae) => Al [(0,rr 0),(4,rr 1032),(5,rr 1040),(6,pI s1.2.2)] [(0,bx (pm (Aq y3.1))),(AgW),(1040,bx (pm (Aj y3.2)))]) (fun y3 => (Ib s1 n1) y3 = some RES) ?_ ?_
  ·intro y3 hm
   unfold Ib at hm
   refine RD hnt (nn 3 []) [] [(6,pI (w64 (s1.2.2 - 1)))] [] [] tv ?_
   exact jD (y3.1,y3.2,(w64 (s1.2.2 - 1))) hm Conv.eqK
  ·refine Bk ?_
   obtain ⟨r19,hr19,hm⟩ := bo hm
   obtain ⟨g20,hm⟩ := go1 hm
   refine Sq (RD hnt (nn 6 (Tn [0] true r19 :: nn 4 [])) [19] [(7,pI (s1.2.1.nodes.getD (Int.toNat r19.1) Ar).id)] [] [(0,bx (pm (Aq r19.2)))] (an (Bo s1.1 ((s1.2.1.nodes.length : Nat) : Int) r19 hr19) (an tv (an g20.1 (an g20.2 tv)))) ?_)
   obtain ⟨r21,hr21,hm⟩ := bo hm
   obtain ⟨r22,hr22,hm⟩ := bo hm
   refine Sq (Sq (RD hnt (nn 3 (o115 [0] true r21 :: o25 [] true r22 :: nn 8 [])) [7] [(8,rr 1064),(10,pI r22.2.2)] [] [(0,bx (pm (Aq r21.2))),(1064,bx [ow 1296 r22.1.nodes.length,pI r22.1.next]),(1296,ob0 (Ac r22.1.nodes))] (an (Aaf r19.2 r21 hr21) (an tv (an (Aeu s1.2.1 (s1.2.1.nodes.getD (Int.toNat r19.1) Ar).id r21.1 r22 hr22) tv))) ?_))
   refine Sq (RD hnt (nn 2 []) [10] [(42,pB (r22.2.2 == 0))] [] [] tv ?_)
   refine Jn (ι := Ae) (fun (y4 : Ae) => Al [(0,rr 0),(4,rr 1032),(5,rr 1040),(6,pI s1.2.2)] [(0,bx (pm (Aq r21.2))),(AgW),(1040,bx (pm (Aj y4)))]) (fun y4 => (Ki s1 n1 r21) y4 = some RES) ?_ ?_
   ·intro y4 hm
    unfold Ki at hm
    obtain ⟨r24,hr24,hm⟩ := bo hm
    refine Sq (RD hnt (.no :: o116 [0] true r24 :: []) [] [(45,pB r24.1)] [] [(0,bx (pm (Aq r24.2)))] (an (Fh r21.2 6 r24 hr24) (an tv tv)) ?_)
    refine Ah hm ?_ ?_
    ·intro h25 hm
     obtain ⟨r26,hr26,hm⟩ := bo hm
     obtain ⟨g27,hm⟩ := go1 hm
     obtain ⟨r28,hr28,hm⟩ := bo hm
     refine Sq (RD hnt (nn 7 (Tn [0] true r26 :: nn 3 (o117 [] true r28 :: nn 6 []))) [45] [(11,rr 1088),(12,pI r28.2)] [] [(0,bx (pm (Aq r26.2))),(1088,bx [ow 1464 r28.1.nodes.length,pI r28.1.next]),(1464,ob0 (Ac r28.1.nodes))] (an (Bo r24.2 ((y4.nodes.length : Nat) : Int) r26 hr26) (an tv (an g27.1 (an g27.2 (an (AgY y4 (y4.nodes.getD (Int.toNat r26.1) Ar).id r28 hr28) tv))))) ?_)
     refine Sq (RD hnt (nn 2 []) [12] [(62,pB (r28.2 == 0))] [] [] tv ?_)
     refine Ah hm ?_ ?_
     ·intro h29 hm
      refine RD hnt (nn 2 []) [11,62] [] [1088] [(1040,bx [ow 1464 r28.1.nodes.length,pI r28.1.next])] tv ?_
      exact bD (r26.2,r28.1) hm (Conv.frz [1464])
     ·intro h29 hm
      refine Sk ?_
      exact bD (r26.2,y4) hm Conv.t0
    ·intro h25 hm
     refine Sk ?_
     exact bD (r24.2,y4) hm Conv.t0
   ·refine Ah hm ?_ ?_
    ·intro h23 hm
     refine RD hnt (nn 2 []) [8,42] [] [1064] [(1040,bx [ow 1296 r22.1.nodes.length,pI r22.1.next])] tv ?_
     exact jD r22.1 hm (Conv.frz [1296])
    ·intro h23 hm
     refine Sk ?_
     exact jD s1.2.1 hm Conv.t0
 ·intro h18 hm
  refine DW.exit ?_
  refine Ap ?_
  refine Au ?_
  refine An ?_
  show DW _ _ _ _ _
  refine Sq (RD hnt (nn 2 []) [0,5,6,19] [] [1040] [(1032,bx (pm (Aj s1.2.1)))] tv ?_)
  obtain rfl := sj hm
  exact DW.ret (Ai [.box (pm (Aq s1.1))] [] (.p (.agg (Aj s1.2.1))))
abbrev o113 (ks : List Nat) (b : Bool) (RES : Ae × At) : Orc := .call 33 ks b (.p (.agg (Aj RES.1))) [.box (pm (Aq RES.2))] []

theorem Nn (p0 : At) (p1 : Ae) (RES : Int × At) (hm : Hi p0 p1 = some RES) : Spec Tryz.prog 13 [rr 0,.p (.agg (Aj p1))] [.box (pm (Aq p0))] (pI RES.1) [.box (pm (Aq RES.2))] [] := by
 unfold Hi at hm
 refine SO Tryz.func13 rfl rfl [(0,rr 0),(1,.p (.agg (Aj p1)))] [(0,bx (pm (Aq p0)))] ?_
 intro cx hnt
 refine Sq (RD hnt (nn 2 []) [1] [(3,rr 1024)] [] [(1024,bx (pm (Aj p1)))] tv ?_)
 obtain ⟨r1,hr1,hm⟩ := bo hm
 refine Sq (Sq ?_)
 refine Jn (ι := Bool) (fun (y1 : Bool) => Al [(0,rr 0),(3,rr 1024),(12,pB y1)] [(0,bx (pm (Aq r1.2))),(1024,bx (pm (Aj p1)))]) (fun y1 => (Jl p1 r1) y1 = some RES) ?_ ?_
 ·intro y1 hm
  unfold Jl at hm
  refine Ah hm ?_ ?_
  ·intro h3 hm
   obtain ⟨r4,hr4,hm⟩ := bo hm
   refine Sq (RK hnt (.no :: Tn [0] true r4 :: nn 2 []) [(4,pI (w64 (r4.1 - 1)))] [(0,bx (pm (Aq r4.2)))] (an (Bo r1.2 9 r4 hr4) (an tv tv)) ?_)
   obtain rfl := sj hm
   exact DW.ret (Ai [.box (pm (Aq r4.2))] [] (pI (w64 (r4.1 - 1))))
  ·intro h3 hm
   refine Sk ?_
   obtain ⟨r5,hr5,hm⟩ := bo hm
   obtain ⟨g6,hm⟩ := go1 hm
   refine Sq (RK hnt (nn 6 (Tn [0] true r5 :: nn 4 [])) [(4,pI (p1.nodes.getD (Int.toNat r5.1) Ar).id)] [(0,bx (pm (Aq r5.2)))] (an (Bo r1.2 ((p1.nodes.length : Nat) : Int) r5 hr5) (an tv (an g6.1 (an g6.2 tv)))) ?_)
   obtain rfl := sj hm
   exact DW.ret (Ai [.box (pm (Aq r5.2))] [] (pI (p1.nodes.getD (Int.toNat r5.1) Ar).id))
 ·rcases bt r1.1 with h2 | h2
  ·replace hm := Ay h2 hm
   refine RD hnt (.no :: o116 [0] true r1 :: .no :: sk 4 (pT :: [])) [] [(12,pB true)] [] [(0,bx (pm (Aq r1.2)))] (an (Fh p0 15 r1 hr1) (an tv (an5 h2 tv))) ?_
   exact jD true hm Conv.eqK
  ·replace hm := Az h2 hm
   refine RD hnt (.no :: o116 [0] true r1 :: nn 5 (pF :: [])) [] [(12,pB (((p1.nodes.length : Nat) : Int) == 0))] [] [(0,bx (pm (Aq r1.2)))] (an (Fh p0 15 r1 hr1) (an tv (an5 h2 tv))) ?_
   exact jD (((p1.nodes.length : Nat) : Int) == 0) hm Conv.eqK
abbrev o119 (ks : List Nat) (b : Bool) (RES : Int × At) : Orc := .call 13 ks b (pI RES.1) [.box (pm (Aq RES.2))] []

theorem Ma (p0 : At) (RES : Int × At) (hm : Ez p0 = some RES) : Spec Tryz.prog 19 [rr 0] [.box (pm (Aq p0))] (pI RES.1) [.box (pm (Aq RES.2))] [] := by
 unfold Ez at hm
 refine SO Tryz.func19 rfl rfl [(0,rr 0)] [(0,bx (pm (Aq p0)))] ?_
 intro cx hnt
 refine Sq (RD hnt (.no :: []) [] [] [] [] tv ?_)
 obtain ⟨r3,hr3,hm⟩ := bo hm
 obtain ⟨g4,g5,hm⟩ := go2 hm
 refine Sq (RK hnt (.asR (ow 1024 [1,9,31,2,25,4,0,32,(-1)].length) [1,9,31,2,25,4,0,32,(-1)].length (elems Cl 0 [1,9,31,2,25,4,0,32,(-1)]) :: .no :: Tn [0] true r3 :: nn 3 []) [(2,pI ([1,9,31,2,25,4,0,32,(-1)].getD (Int.toNat r3.1) 0))] [(0,bx (pm (Aq r3.2)))] (an (congrArg (MV.own 1024 0 0) (RowIs.asP (enc := Cl) (d := 0) (L := [1,9,31,2,25,4,0,32,(-1)]) (RowIs.lit (enc := Cl) (d := 0) (n := 9) (f := (cut 1 [vi 1,vi 9,vi 31,vi 2,vi 25,vi 4,vi 0,vi 32,vi (-1)])) [1,9,31,2,25,4,0,32,(-1)] rfl (fun | 0,_ => rfl | 1,_ => rfl | 2,_ => rfl | 3,_ => rfl | 4,_ => rfl | 5,_ => rfl | 6,_ => rfl | 7,_ => rfl | 8,_ => rfl | n + 9,h => absurd h (by omega)))).1) (an (RowIs.asP (enc := Cl) (d := 0) (L := [1,9,31,2,25,4,0,32,(-1)]) (RowIs.lit (enc := Cl) (d := 0) (n := 9) (f := (cut 1 [vi 1,vi 9,vi 31,vi 2,vi 25,vi 4,vi 0,vi 32,vi (-1)])) [1,9,31,2,25,4,0,32,(-1)] rfl (fun | 0,_ => rfl | 1,_ => rfl | 2,_ => rfl | 3,_ => rfl | 4,_ => rfl | 5,_ => rfl | 6,_ => rfl | 7,_ => rfl | 8,_ => rfl | n + 9,h => absurd h (by omega)))) (an (Bo p0 9 r3 hr3) (an tv (an g4.1 (an g4.2 (an g5 tv))))))) ?_)
 obtain rfl := sj hm
 exact DW.ret (Ai [.box (pm (Aq r3.2))] [] (pI ([1,9,31,2,25,4,0,32,(-1)].getD (Int.toNat r3.1) 0)))
abbrev o120 (ks : List Nat) (b : Bool) (RES : Int × At) : Orc := .call 19 ks b (pI RES.1) [.box (pm (Aq RES.2))] []

theorem Te (p0 : Int) (RES : Bool) (hm : Yx p0 = some RES) : Spec Tryz.prog 146 [pI p0] [] (pB RES) [] [] := by
 unfold Yx at hm
 refine SO Tryz.func146 rfl rfl [(0,pI p0)] [] ?_
 intro cx hnt
 refine Sq (RK hnt (.no :: []) [(0,pI p0)] [] tv ?_)
 refine Sq (DW.regJ (sl2 := [(2,pB ((decide (p0 ≥ 0)) && (decide (p0 ≤ 31))))]) (ob2 := []) ?_ ?_)
 ·rcases bt (decide (p0 ≥ 0)) with h1 | h1
  ·exact RT hnt (nn 5 (pT :: .no :: [])) [(2,pB (decide (p0 ≤ 31)))] (an3 h1 tv) (by kernel_rfl) (.cons rfl (.of_eq (by rw [h1]; try rfl)) .nil)
  ·exact RT hnt (nn 3 (sk 2 (pF :: .no :: []))) [(2,pB false)] (an3 h1 tv) (by kernel_rfl) (.cons rfl (.of_eq (by rw [h1]; try rfl)) .nil)
 ·refine DW.ret ?_
  obtain rfl := sj hm
  exact Ai [] [] (pB ((decide (p0 ≥ 0)) && (decide (p0 ≤ 31))))
abbrev o123 (ks : List Nat) (b : Bool) (RES : Bool) : Orc := .call 146 ks b (pB RES) [] []

abbrev AgI : Nat × Obj := (1032,bx [.p (.sl .nil 0 0 (fun _ => [])),pI 0])
theorem AbC (p0 : Ae) (p1 : Ag) (RES : Ae) (hm : Wb p0 p1 = some RES) : Spec Tryz.prog 83 [.p (.agg (Aj p0)),.p (.agg (Ak p1))] [] (.agg [ow 0 RES.nodes.length,pI RES.next]) [] [Ac RES.nodes] := by
 unfold Wb at hm
 refine SO Tryz.func83 rfl rfl [(0,.p (.agg (Aj p0))),(1,.p (.agg (Ak p1)))] [] ?_
 intro cx hnt
 refine Sq (RK hnt (nn 3 []) [(2,rr 1016),(3,rr 1024),(4,rr 1032)] [(1016,bx (pm (Aj p0))),(1024,bx (pm (Ak p1))),(AgI)] tv ?_)
 obtain ⟨r1,hr1,hm⟩ := bo hm
 refine Sq (RD hnt (.no :: o27 [] true r1 :: nn 2 []) [2] [(5,rr 1040)] [1016] [(1040,bx [ow 1064 r1.nodes.length,pI r1.next]),(1064,ob0 (Ac r1.nodes))] (an (Vu p0 r1 hr1) tv) ?_)
 refine Sq (Sq (RD hnt (.no :: []) [] [(6,pI 0)] [] [] tv ?_))
 refine Bk ?_
 refine DW.whileO (fun (s1 : (List Ag) × Int) => Al [(3,rr 1024),(4,rr 1032),(5,rr 1040),(6,pI s1.2)] [(1024,bx (pm (Ak p1))),(AgI),(1040,bx [ow 1064 s1.1.length,pI r1.next]),(1064,ob0 (Ac s1.1))]) hm Conv.eqK ?_
 intro s1 n1 hm
 unfold AdM at hm
 refine Sq (Sq (RD hnt (nn 5 []) [] [(13,pB (decide (s1.2 < ((s1.1.length : Nat) : Int))))] [] [] tv ?_))
 refine Ah hm ?_ ?_
 ·intro h8 hm
  refine Sk ?_
  refine Sq ?_
  refine Jn (ι := List Ag) (fun (y2 : List Ag) => Al [(3,rr 1024),(4,rr 1032),(5,rr 1040),(6,pI s1.2)] [(1024,bx (pm (Ak p1))),(AgI),(1040,bx [ow 1064 y2.length,pI r1.next]),(1064,ob0 (Ac y2))]) (fun y2 => (Wu s1 n1) y2 = some RES) ?_ ?_
  ·intro y2 hm
   unfold Wu at hm
   refine RD hnt (nn 3 []) [] [(6,pI (w64 (s1.2 + 1)))] [] [] tv ?_
   exact jD (y2,(w64 (s1.2 + 1))) hm Conv.eqK
  ·refine Bk ?_
   obtain ⟨g9,g10,hm⟩ := go2 hm
   refine Sq (RD hnt (nn 9 []) [13] [(24,pB ((s1.1.getD (Int.toNat s1.2) Ar).id == p1.id))] [] [] (an g9.1 (an g9.2 (an g10 tv))) ?_)
   refine Ah hm ?_ ?_
   ·intro h11 hm
    obtain ⟨g12,g13,hm⟩ := go2 hm
    refine RN hnt (nn 6 []) [(3,rr 1024),(4,rr 1032),(5,rr 1040),(6,pI s1.2)] [(1024,bx (pm (Ak p1))),(AgI),(1040,bx [ow 1064 (s1.1.set (Int.toNat s1.2) p1).length,pI r1.next]),(1064,ob0 (Ac (s1.1.set (Int.toNat s1.2) p1)))] [] [(1040,.box [ow 1064 s1.1.length,pI r1.next]),(1064,.row 6 s1.1.length (Bv (Il s1.1) (Int.toNat s1.2) [vi p1.id,vi p1.parent,vs p1.name,vi p1.control,vi p1.kind,vi p1.owner]))] (an g12.1 (an g12.2 (an g13 tv))) (by kernel_rfl) .nil (.cons rfl (.box (.cons (MLe.ownLen (enc := Ak) (d := Ar) (f := (Bv (Il s1.1) (Int.toNat s1.2) [vi p1.id,vi p1.parent,vs p1.name,vi p1.control,vi p1.kind,vi p1.owner])) (RowIs.upd RowIs.elems p1 rfl)) (.cons .rfl .nil))) (.cons rfl (BLe.typed (RowIs.upd RowIs.elems p1 rfl)) .nil)) ?_
    exact bD (s1.1.set (Int.toNat s1.2) p1) hm .refl
   ·intro h11 hm
    refine Sk ?_
    exact bD s1.1 hm Conv.t0
 ·intro h8 hm
  refine DW.exit ?_
  refine Ap ?_
  refine Au ?_
  refine An ?_
  show DW _ _ _ _ _
  refine Sq (RD hnt (nn 2 []) [3,5,6,13] [] [1024,1040] [(1032,bx [ow 1064 s1.1.length,pI r1.next])] tv ?_)
  obtain rfl := sj hm
  exact DW.ret (Ai [Ac s1.1] [1064] (.agg [ow 0 s1.1.length,pI r1.next]))
abbrev o124 (ks : List Nat) (b : Bool) (RES : Ae) : Orc := .call 83 ks b (.agg [ow 0 RES.nodes.length,pI RES.next]) [] [Ac RES.nodes]

abbrev AhE : Nat × Obj := (1064,bx [.p (.sl .nil 0 0 (fun _ => [])),pI 0,.p (.sl .nil 0 0 (fun _ => [])),pI 0])
abbrev Afj : Nat × Obj := (1064,bx [ow 100000 0,pI 0,ow 100001 0,pI 0])
abbrev c122e3 (r8 : Ag × Bool) (p3 : Int) (p2 : Int) : Nat × Obj := (1080,bx [pI r8.1.id,pI r8.1.parent,pS r8.1.name,pI (kor .i64 (Ax .i64 r8.1.control p3) p2),pI r8.1.kind,pI r8.1.owner])
theorem AhS (p0 : Aa) (p1 : Int) (p2 : Int) (p3 : Int) (RES : Aa × Int) (hm : Qp p0 p1 p2 p3 = some RES) : Spec Tryz.prog 124 [.p (.agg (Ab p0)),pI p1,pI p2,pI p3] [] (.tup [.agg [ow 0 RES.1.tree.nodes.length,pI RES.1.tree.next,ow 1 RES.1.tasks.length,pI RES.1.next],pI RES.2]) [] [Ac RES.1.tree.nodes,Af RES.1.tasks] := by
 unfold Qp at hm
 refine SO Tryz.func124 rfl rfl [(0,.p (.agg (Ab p0))),(1,pI p1),(2,pI p2),(3,pI p3)] [] ?_
 intro cx hnt
 refine Sq (RD hnt (nn 3 []) [0] [(4,rr 1032),(8,rr 1064)] [] [(1032,bx (pm (Ab p0))),(AhE)] tv ?_)
 obtain ⟨r1,hr1,hm⟩ := bo hm
 refine Sq (Sq ?_)
 refine Jn (ι := Bool) (fun (y1 : Bool) => Al [(1,pI p1),(2,pI p2),(3,pI p3),(4,rr 1032),(8,rr 1064),(37,pB y1)] [(1032,bx (pm (Ab p0))),(AhE)]) (fun y1 => (Fq p0 p1 p2 p3) y1 = some RES) ?_ ?_
 ·intro y1 hm
  unfold Fq at hm
  refine Ah hm ?_ ?_
  ·intro h7 hm
   refine Sq (RD hnt (nn 3 []) [1,2,3,4,37] [(9,pI 1)] [1032] [] tv ?_)
   refine DW.cv [] [] [] [(Afj),(100000,ob0 (Ac [])),(100001,ob0 (Af []))] (Conv.ads [(.o 1064 0,100000,6,elems Ak Ar []),(.o 1064 2,100001,4,elems Ao Ba [])]) ?_
   obtain rfl := sj hm
   exact DW.ret (Ai [Ac [],Af []] [100000,100001] (.tup [.agg [ow 0 0,pI 0,ow 1 0,pI 0],pI 1]))
  ·intro h7 hm
   refine Sk ?_
   obtain ⟨r8,hr8,hm⟩ := bo hm
   refine Sq (RD hnt (nn 3 (o16 [] true r8 :: nn 6 [])) [37] [(10,rr 1080),(11,pB r8.2)] [] [(1080,bx (pm (Ak r8.1)))] (an (Cg p0.tree p1 r8 hr8) tv) ?_)
   refine Sq (Sq (RD hnt (nn 2 []) [11] [(47,pB (!r8.2))] [] [] tv ?_))
   refine Ah hm ?_ ?_
   ·intro h9 hm
    refine Sq (RD hnt (nn 3 []) [1,2,3,4,10,47] [(9,pI 4)] [1032,1080] [] tv ?_)
    refine DW.cv [] [] [] [(Afj),(100000,ob0 (Ac [])),(100001,ob0 (Af []))] (Conv.ads [(.o 1064 0,100000,6,elems Ak Ar []),(.o 1064 2,100001,4,elems Ao Ba [])]) ?_
    obtain rfl := sj hm
    exact DW.ret (Ai [Ac [],Af []] [100000,100001] (.tup [.agg [ow 0 0,pI 0,ow 1 0,pI 0],pI 4]))
   ·intro h9 hm
    refine Sk ?_
    obtain ⟨r10,hr10,hm⟩ := bo hm
    refine Sq (Sq (RD hnt (nn 4 (o17 [] true r10 :: nn 2 [])) [47] [(55,pB ((Ax .i64 p2 r10) != 0))] [] [] (an (Kv p0.tree p1 r10 hr10) tv) ?_))
    refine Ah hm ?_ ?_
    ·intro h11 hm
     refine Sq (RD hnt (nn 3 []) [1,2,3,4,10,55] [(9,pI 9)] [1032,1080] [] tv ?_)
     refine DW.cv [] [] [] [(Afj),(100000,ob0 (Ac [])),(100001,ob0 (Af []))] (Conv.ads [(.o 1064 0,100000,6,elems Ak Ar []),(.o 1064 2,100001,4,elems Ao Ba [])]) ?_
     obtain rfl := sj hm
     exact DW.ret (Ai [Ac [],Af []] [100000,100001] (.tup [.agg [ow 0 0,pI 0,ow 1 0,pI 0],pI 9]))
    ·intro h11 hm
     refine Sk ?_
     obtain ⟨r12,hr12,hm⟩ := bo hm
     refine Sq (RD hnt (nn 3 (o24 [] true r12 :: .no :: [])) [55] [(12,ow 1480 r12.length)] [] [(1480,ob0 (roI r12))] (an (Um p0.tree p1 r12 hr12) tv) ?_)
     refine Sq (Sq (RD hnt (.no :: []) [] [(13,pI 0)] [] [] tv ?_))
     refine Bk ?_
     obtain ⟨hc1,hm⟩ := go1 hm
     refine DW.rangeO (fun (k1 : Nat) (s1 : Unit) => Al [(1,pI p1),(2,pI p2),(3,pI p3),(4,rr 1032),(8,rr 1064),(10,rr 1080),(12,ow 1480 r12.length),(13,pI ((k1 : Nat) : Int))] [(1032,bx (pm (Ab p0))),(AhE),(1080,bx (pm (Ak r8.1))),(1480,ob0 (roI r12))]) 0 hm Conv.eqK ?_
     intro k1 s1 n1 hk1 hs1 he1
     refine Sq (Sq (RD hnt (nn 4 []) [] [(64,pB (decide (((k1 : Nat) : Int) < ((r12.length : Nat) : Int))))] [] [] tv ?_))
     refine Bx (decide (((k1 : Nat) : Int) < ((r12.length : Nat) : Int))) ?_ ?_
     ·intro h35
      have hlt1 : k1 < r12.length := by have := of_decide_eq_true h35; omega
      have hm := hs1 hlt1
      unfold Xg at hm
      refine Sk ?_
      refine Sq (Bk ?_)
      obtain ⟨r36,hr36,hm⟩ := bo hm
      refine Sq (RD hnt (nn 6 (o16 [] true r36 :: nn 6 [])) [64] [(14,rr 1112)] [] [(1112,bx (pm (Ak r36.1)))] (an (nn0 k1) (an (ltc hlt1) (an (by omega : k1 < r12.length) (an (Cg p0.tree (r12.getD k1 0) r36 hr36) tv)))) ?_)
      refine Sq (RD hnt (nn 5 []) [14] [(81,pB ((kand .i64 r36.1.control p3) != 0))] [1112] [] tv ?_)
      refine Ah hm ?_ ?_
      ·intro h37 hm
       refine Sq (RD hnt (nn 3 []) [1,2,3,4,10,12,13,81] [(9,pI 9)] [1032,1080,1480] [] tv ?_)
       refine DW.cv [] [] [] [(Afj),(100000,ob0 (Ac [])),(100001,ob0 (Af []))] (Conv.ads [(.o 1064 0,100000,6,elems Ak Ar []),(.o 1064 2,100001,4,elems Ao Ba [])]) ?_
       obtain rfl := sj hm
       exact DW.ret (Ai [Ac [],Af []] [100000,100001] (.tup [.agg [ow 0 0,pI 0,ow 1 0,pI 0],pI 9]))
      ·intro h37 hm
       refine Sk ?_
       refine DW.done ?_
       show DW _ _ _ _ _
       refine RD hnt (nn 3 []) [81] [(13,pI (w64 (((k1 : Nat) : Int) + 1)))] [] [] tv ?_
       exact jD () ⟨hlt1,hm⟩ (Conv.tp [(13,pI (w64 (((k1 : Nat) : Int) + 1)))] [] (by kernel_rfl) (.cons rfl (.of_eq (congrArg pI (Bj hlt1 hc1))) .nil) .nil)
     ·intro h35
      have hge1 : ¬ k1 < r12.length := by have := of_decide_eq_false h35; omega
      have hm := he1 hge1
      unfold Xk at hm
      refine DW.exit ?_
      refine Ap ?_
      refine Au ?_
      refine An ?_
      show DW _ _ _ _ _
      refine Sq (RD hnt (nn 3 []) [12,13,64] [(16,pI r8.1.control)] [1480] [] tv ?_)
      refine Sq (RD hnt (nn 7 []) [2,3] [] [] [(c122e3 r8 p3 p2)] tv ?_)
      refine Sq (Sq (RD hnt (nn 4 []) [] [(17,pI (kand .i64 (kor .i64 (Ax .i64 r8.1.control p3) p2) 6))] [] [] tv ?_))
      refine Sq ?_
      refine Jn (ι := Bool) (fun (y4 : Bool) => Al [(4,rr 1032),(8,rr 1064),(10,rr 1080),(108,pB y4)] [(1032,bx (pm (Ab p0))),(AhE),(c122e3 r8 p3 p2)]) (fun y4 => (Jf p0 p2 p3 r8) y4 = some RES) ?_ ?_
      ·intro y4 hm
       unfold Jf at hm
       refine Ah hm ?_ ?_
       ·intro h41 hm
        refine Sq (RD hnt (nn 3 []) [4,10,108] [(9,pI 6)] [1032,1080] [] tv ?_)
        refine DW.cv [] [] [] [(Afj),(100000,ob0 (Ac [])),(100001,ob0 (Af []))] (Conv.ads [(.o 1064 0,100000,6,elems Ak Ar []),(.o 1064 2,100001,4,elems Ao Ba [])]) ?_
        obtain rfl := sj hm
        exact DW.ret (Ai [Ac [],Af []] [100000,100001] (.tup [.agg [ow 0 0,pI 0,ow 1 0,pI 0],pI 6]))
       ·intro h41 hm
        refine Sk ?_
        obtain ⟨r42,hr42,hm⟩ := bo hm
        refine Sq (RD hnt (.no :: o28 [] true r42 :: nn 2 []) [108] [(18,rr 1144)] [] [(1144,bx [ow 1888 r42.tree.nodes.length,pI r42.tree.next,ow 1889 r42.tasks.length,pI r42.next]),(1888,ob0 (Ac r42.tree.nodes)),(1889,ob0 (Af r42.tasks))] (an (Rf p0 r42 hr42) tv) ?_)
        obtain ⟨r43,hr43,hm⟩ := bo hm
        refine Sq (RD hnt (nn 3 (o124 [] true r43 :: nn 2 [])) [4,10] [] [1032,1080,1888] [(1144,bx [ow 1920 r43.nodes.length,pI r43.next,ow 1889 r42.tasks.length,pI r42.next]),(1920,ob0 (Ac r43.nodes))] (an (AbC p0.tree ({ id := r8.1.id,parent := r8.1.parent,name := r8.1.name,control := (kor .i64 (Ax .i64 r8.1.control p3) p2),kind := r8.1.kind,owner := r8.1.owner } : Ag) r43 hr43) tv) ?_)
        refine Sq (RD hnt (nn 3 []) [18] [(9,pI 0)] [1144] [(1064,bx [ow 1920 r43.nodes.length,pI r43.next,ow 1889 r42.tasks.length,pI r42.next])] tv ?_)
        obtain rfl := sj hm
        exact DW.ret (Ai [Ac r43.nodes,Af r42.tasks] [1920,1889] (.tup [.agg [ow 0 r43.nodes.length,pI r43.next,ow 1 r42.tasks.length,pI r42.next],pI 0]))
      ·rcases bt ((Ax .i64 (kand .i64 (kor .i64 (Ax .i64 r8.1.control p3) p2) 6) r8.1.control) != 0) with h38 | h38
       ·replace hm := Ay h38 hm
        rcases bt (p1 != 1) with h39 | h39
        ·replace hm := Ay h39 hm
         obtain ⟨r40,hr40,hm⟩ := bo hm
         refine RD hnt (nn 7 (pT :: nn 3 (o19 [] true r40 :: nn 2 (pT :: [])))) [1,16,17] [(108,pB (decide (((r40.length : Nat) : Int) > 0)))] [] [] (an3 h38 (an3 h39 (an (Jz p0 p1 r40 hr40) (an3 h39 tv)))) ?_
         exact jD (decide (((r40.length : Nat) : Int) > 0)) hm Conv.eqK
        ·replace hm := Az h39 hm
         refine RD hnt (nn 7 (pT :: .no :: sk 5 (pF :: []))) [1,16,17] [(108,pB false)] [] [] (an3 h38 (an6 h39 tv)) ?_
         exact jD false hm Conv.eqK
       ·replace hm := Az h38 hm
        refine RD hnt (nn 5 (sk 2 (pF :: .no :: sk 5 (pF :: [])))) [1,16,17] [(108,pB false)] [] [] (an3 h38 (an6 ff tv)) ?_
        exact jD false hm Conv.eqK
 ·rcases bt (!r1) with h2 | h2
  ·replace hm := Ay h2 hm
   refine RD hnt (.no :: o8 [] true r1 :: nn 2 (sk 3 (pT :: .no :: sk 3 (pT :: .no :: sk 4 (pT :: []))))) [] [(37,pB true)] [] [] (an (Qd p0 r1 hr1) (an4 h2 (an3 tt (an6 tt tv)))) ?_
   exact jD true hm Conv.eqK
  ·replace hm := Az h2 hm
   obtain ⟨r3,hr3,hm⟩ := bo hm
   rcases bt (!r3) with h4 | h4
   ·replace hm := Ay h4 hm
    refine RD hnt (.no :: o8 [] true r1 :: nn 3 (o123 [] true r3 :: .no :: pF :: .no :: sk 3 (pT :: .no :: sk 4 (pT :: [])))) [] [(37,pB true)] [] [] (an (Qd p0 r1 hr1) (an2 h2 (an (Te p2 r3 hr3) (an2 h2 (an4 h4 (an5 tt tv)))))) ?_
    exact jD true hm Conv.eqK
   ·replace hm := Az h4 hm
    obtain ⟨r5,hr5,hm⟩ := bo hm
    rcases bt (!r5) with h6 | h6
    ·replace hm := Ay h6 hm
     refine RD hnt (.no :: o8 [] true r1 :: nn 3 (o123 [] true r3 :: .no :: pF :: nn 2 (o123 [] true r5 :: .no :: pF :: .no :: sk 4 (pT :: [])))) [] [(37,pB true)] [] [] (an (Qd p0 r1 hr1) (an2 h2 (an (Te p2 r3 hr3) (an2 h2 (an2 h4 (an (Te p3 r5 hr5) (an2 h4 (an5 h6 tv)))))))) ?_
     exact jD true hm Conv.eqK
    ·replace hm := Az h6 hm
     refine RD hnt (.no :: o8 [] true r1 :: nn 3 (o123 [] true r3 :: .no :: pF :: nn 2 (o123 [] true r5 :: .no :: pF :: nn 5 (pF :: [])))) [] [(37,pB ((kand .i64 p2 p3) != 0))] [] [] (an (Qd p0 r1 hr1) (an2 h2 (an (Te p2 r3 hr3) (an2 h2 (an2 h4 (an (Te p3 r5 hr5) (an2 h4 (an5 h6 tv)))))))) ?_
     exact jD ((kand .i64 p2 p3) != 0) hm Conv.eqK
abbrev o122 (ks : List Nat) (b : Bool) (RES : Aa × Int) : Orc := .call 124 ks b (.tup [.agg [ow 0 RES.1.tree.nodes.length,pI RES.1.tree.next,ow 1 RES.1.tasks.length,pI RES.1.next],pI RES.2]) [] [Ac RES.1.tree.nodes,Af RES.1.tasks]

abbrev c121e1 : Nat × Obj := (1064,bx [ow 100000 0,pI 0,ow 100001 0,pI 0])
theorem Ahf (p0 : Aa) (p1 : Int) (p2 : Int) (p3 : Int) (RES : Aa × Int) (hm : Mc p0 p1 p2 p3 = some RES) : Spec Tryz.prog 81 [.p (.agg (Ab p0)),pI p1,pI p2,pI p3] [] (.tup [.agg [ow 0 RES.1.tree.nodes.length,pI RES.1.tree.next,ow 1 RES.1.tasks.length,pI RES.1.next],pI RES.2]) [] [Ac RES.1.tree.nodes,Af RES.1.tasks] := by
 unfold Mc at hm
 refine SO Tryz.func81 rfl rfl [(0,.p (.agg (Ab p0))),(1,pI p1),(2,pI p2),(3,pI p3)] [] ?_
 intro cx hnt
 refine Sq (RD hnt (nn 3 []) [0] [(4,rr 1032),(8,rr 1064)] [] [(1032,bx (pm (Ab p0))),(1064,bx [.p (.sl .nil 0 0 (fun _ => [])),pI 0,.p (.sl .nil 0 0 (fun _ => [])),pI 0])] tv ?_)
 obtain ⟨r1,hr1,hm⟩ := bo hm
 refine Sq (Sq (RD hnt (.no :: o7 [] true r1 :: .no :: []) [] [(14,pB (!r1))] [] [] (an (Ia p0 r1 hr1) tv) ?_))
 refine Ah hm ?_ ?_
 ·intro h2 hm
  refine Sq (RD hnt (nn 3 []) [1,2,3,4,14] [(9,pI 1)] [1032] [] tv ?_)
  refine DW.cv [] [] [] [(c121e1),(100000,ob0 (Ac [])),(100001,ob0 (Af []))] (Conv.ads [(.o 1064 0,100000,6,elems Ak Ar []),(.o 1064 2,100001,4,elems Ao Ba [])]) ?_
  obtain rfl := sj hm
  exact DW.ret (Ai [Ac [],Af []] [100000,100001] (.tup [.agg [ow 0 0,pI 0,ow 1 0,pI 0],pI 1]))
 ·intro h2 hm
  refine Sk ?_
  obtain ⟨r3,hr3,hm⟩ := bo hm
  refine Sq (RD hnt (nn 4 (o122 [] true r3 :: nn 6 [])) [1,2,3,4,14] [(10,rr 1080),(11,pI r3.2)] [1032] [(1080,bx [ow 1168 r3.1.tree.nodes.length,pI r3.1.tree.next,ow 1169 r3.1.tasks.length,pI r3.1.next]),(1168,ob0 (Ac r3.1.tree.nodes)),(1169,ob0 (Af r3.1.tasks))] (an (AhS p0 p1 p2 p3 r3 hr3) tv) ?_)
  refine Sq (Sq (RD hnt (nn 2 []) [] [(25,pB (r3.2 != 0))] [] [] tv ?_))
  refine Ah hm ?_ ?_
  ·intro h4 hm
   refine Sq (RD hnt (nn 4 []) [10,11,25] [(9,pI r3.2)] [1080,1168,1169] [] tv ?_)
   refine DW.cv [] [] [] [(c121e1),(100000,ob0 (Ac [])),(100001,ob0 (Af []))] (Conv.ads [(.o 1064 0,100000,6,elems Ak Ar []),(.o 1064 2,100001,4,elems Ao Ba [])]) ?_
   obtain rfl := sj hm
   exact DW.ret (Ai [Ac [],Af []] [100000,100001] (.tup [.agg [ow 0 0,pI 0,ow 1 0,pI 0],pI r3.2]))
  ·intro h4 hm
   refine Sk ?_
   obtain ⟨r5,hr5,hm⟩ := bo hm
   refine Sq (Sq (RD hnt (.no :: o7 [] true r5 :: .no :: []) [11,25] [(30,pB (!r5))] [] [] (an (Ia r3.1 r5 hr5) tv) ?_))
   refine Ah hm ?_ ?_
   ·intro h6 hm
    refine Sq (RD hnt (nn 3 []) [10,30] [(9,pI 10)] [1080,1168,1169] [] tv ?_)
    refine DW.cv [] [] [] [(c121e1),(100000,ob0 (Ac [])),(100001,ob0 (Af []))] (Conv.ads [(.o 1064 0,100000,6,elems Ak Ar []),(.o 1064 2,100001,4,elems Ao Ba [])]) ?_
    obtain rfl := sj hm
    exact DW.ret (Ai [Ac [],Af []] [100000,100001] (.tup [.agg [ow 0 0,pI 0,ow 1 0,pI 0],pI 10]))
   ·intro h6 hm
    refine Sk ?_
    refine Sq (RD hnt (nn 3 []) [10,30] [(9,pI 0)] [1080] [(1064,bx [ow 1168 r3.1.tree.nodes.length,pI r3.1.tree.next,ow 1169 r3.1.tasks.length,pI r3.1.next])] tv ?_)
    obtain rfl := sj hm
    exact DW.ret (Ai [Ac r3.1.tree.nodes,Af r3.1.tasks] [1168,1169] (.tup [.agg [ow 0 r3.1.tree.nodes.length,pI r3.1.tree.next,ow 1 r3.1.tasks.length,pI r3.1.next],pI 0]))
abbrev o121 (ks : List Nat) (b : Bool) (RES : Aa × Int) : Orc := .call 81 ks b (.tup [.agg [ow 0 RES.1.tree.nodes.length,pI RES.1.tree.next,ow 1 RES.1.tasks.length,pI RES.1.next],pI RES.2]) [] [Ac RES.1.tree.nodes,Af RES.1.tasks]

abbrev AhC : Nat × Obj := (1032,bx [.p (.sl .nil 0 0 (fun _ => [])),pI 0,.p (.sl .nil 0 0 (fun _ => [])),pI 0])
abbrev Adg : Nat × Obj := (1032,bx [ow 100000 0,pI 0,ow 100001 0,pI 0])
theorem AgB (p0 : Aa) (p1 : Int) (RES : Aa × Int) (hm : Kw p0 p1 = some RES) : Spec Tryz.prog 82 [.p (.agg (Ab p0)),pI p1] [] (.tup [.agg [ow 0 RES.1.tree.nodes.length,pI RES.1.tree.next,ow 1 RES.1.tasks.length,pI RES.1.next],pI RES.2]) [] [Ac RES.1.tree.nodes,Af RES.1.tasks] := by
 unfold Kw at hm
 refine SO Tryz.func82 rfl rfl [(0,.p (.agg (Ab p0))),(1,pI p1)] [] ?_
 intro cx hnt
 refine Sq (RK hnt (nn 3 []) [(1,pI p1),(2,rr 1016),(4,rr 1032)] [(1016,bx (pm (Ab p0))),(AhC)] tv ?_)
 obtain ⟨r1,hr1,hm⟩ := bo hm
 refine Sq (Sq (RD hnt (.no :: o7 [] true r1 :: .no :: []) [] [(13,pB (!r1))] [] [] (an (Ia p0 r1 hr1) tv) ?_))
 refine Ah hm ?_ ?_
 ·intro h2 hm
  refine Sq (RD hnt (nn 3 []) [1,2,13] [(5,pI 1)] [1016] [] tv ?_)
  refine DW.cv [] [] [] [(Adg),(100000,ob0 (Ac [])),(100001,ob0 (Af []))] (Conv.ads [(.o 1032 0,100000,6,elems Ak Ar []),(.o 1032 2,100001,4,elems Ao Ba [])]) ?_
  obtain rfl := sj hm
  exact DW.ret (Ai [Ac [],Af []] [100000,100001] (.tup [.agg [ow 0 0,pI 0,ow 1 0,pI 0],pI 1]))
 ·intro h2 hm
  refine Sk ?_
  obtain ⟨r3,hr3,hm⟩ := bo hm
  refine Sq (RD hnt (nn 3 (o16 [] true r3 :: nn 6 [])) [13] [(6,rr 1048),(7,pB r3.2)] [] [(1048,bx (pm (Ak r3.1)))] (an (Cg p0.tree p1 r3 hr3) tv) ?_)
  refine Sq (Sq (RD hnt (nn 2 []) [7] [(23,pB (!r3.2))] [] [] tv ?_))
  refine Ah hm ?_ ?_
  ·intro h4 hm
   refine Sq (RD hnt (nn 3 []) [1,2,6,23] [(5,pI 4)] [1016,1048] [] tv ?_)
   refine DW.cv [] [] [] [(Adg),(100000,ob0 (Ac [])),(100001,ob0 (Af []))] (Conv.ads [(.o 1032 0,100000,6,elems Ak Ar []),(.o 1032 2,100001,4,elems Ao Ba [])]) ?_
   obtain rfl := sj hm
   exact DW.ret (Ai [Ac [],Af []] [100000,100001] (.tup [.agg [ow 0 0,pI 0,ow 1 0,pI 0],pI 4]))
  ·intro h4 hm
   refine Sk ?_
   refine Sq (Sq (DW.regJ (sl2 := [(1,pI p1),(2,rr 1016),(4,rr 1032),(6,rr 1048),(31,pB ((p1 == 1) || (r3.1.kind == 1)))]) (ob2 := [(1016,bx (pm (Ab p0))),(AhC),(1048,bx (pm (Ak r3.1)))]) ?_ ?_))
   ·rcases bt (p1 == 1) with h5 | h5
    ·exact RT hnt (nn 3 (sk 3 (pT :: []))) [(31,pB true)] (an4 h5 tv) (by kernel_rfl) (.cons rfl (.of_eq (by rw [h5]; try rfl)) .nil)
    ·exact RT hnt (nn 6 (pF :: [])) [(31,pB (r3.1.kind == 1))] (an4 h5 tv) (by kernel_rfl) (.cons rfl (.of_eq (by rw [h5]; try rfl)) .nil)
   ·refine Ah hm ?_ ?_
    ·intro h6 hm
     refine Sq (RD hnt (nn 3 []) [1,2,6,31] [(5,pI 9)] [1016,1048] [] tv ?_)
     refine DW.cv [] [] [] [(Adg),(100000,ob0 (Ac [])),(100001,ob0 (Af []))] (Conv.ads [(.o 1032 0,100000,6,elems Ak Ar []),(.o 1032 2,100001,4,elems Ao Ba [])]) ?_
     obtain rfl := sj hm
     exact DW.ret (Ai [Ac [],Af []] [100000,100001] (.tup [.agg [ow 0 0,pI 0,ow 1 0,pI 0],pI 9]))
    ·intro h6 hm
     refine Sk ?_
     obtain ⟨r7,hr7,hm⟩ := bo hm
     refine Sq (RD hnt (nn 4 (o16 [] true r7 :: nn 6 [])) [31] [(8,rr 1064)] [] [(1064,bx (pm (Ak r7.1)))] (an (Cg p0.tree r3.1.parent r7 hr7) tv) ?_)
     obtain ⟨r8,hr8,hm⟩ := bo hm
     refine Sq (Sq ?_)
     refine Jn (ι := Bool) (fun (y1 : Bool) => Al [(1,pI p1),(2,rr 1016),(4,rr 1032),(6,rr 1048),(57,pB y1)] [(1016,bx (pm (Ab p0))),(AhC),(1048,bx (pm (Ak r3.1)))]) (fun y1 => (Hg p0 p1 r3) y1 = some RES) ?_ ?_
     ·intro y1 hm
      unfold Hg at hm
      refine Ah hm ?_ ?_
      ·intro h11 hm
       refine Sq (RD hnt (nn 3 []) [1,2,6,57] [(5,pI 10)] [1016,1048] [] tv ?_)
       refine DW.cv [] [] [] [(Adg),(100000,ob0 (Ac [])),(100001,ob0 (Af []))] (Conv.ads [(.o 1032 0,100000,6,elems Ak Ar []),(.o 1032 2,100001,4,elems Ao Ba [])]) ?_
       obtain rfl := sj hm
       exact DW.ret (Ai [Ac [],Af []] [100000,100001] (.tup [.agg [ow 0 0,pI 0,ow 1 0,pI 0],pI 10]))
      ·intro h11 hm
       refine Sk ?_
       refine Sq (Sq (RD hnt (nn 4 []) [57] [(62,pB ((kand .i64 r3.1.control 6) != 0))] [] [] tv ?_))
       refine Ah hm ?_ ?_
       ·intro h12 hm
        refine Sq (RD hnt (nn 3 []) [1,2,6,62] [(5,pI 9)] [1016,1048] [] tv ?_)
        refine DW.cv [] [] [] [(Adg),(100000,ob0 (Ac [])),(100001,ob0 (Af []))] (Conv.ads [(.o 1032 0,100000,6,elems Ak Ar []),(.o 1032 2,100001,4,elems Ao Ba [])]) ?_
        obtain rfl := sj hm
        exact DW.ret (Ai [Ac [],Af []] [100000,100001] (.tup [.agg [ow 0 0,pI 0,ow 1 0,pI 0],pI 9]))
       ·intro h12 hm
        refine Sk ?_
        refine Sq (RD hnt (nn 2 []) [62] [] [] [(1048,bx [pI r3.1.id,pI r3.1.parent,pS r3.1.name,pI r3.1.control,pI 1,pI r3.1.owner])] tv ?_)
        obtain ⟨r13,hr13,hm⟩ := bo hm
        refine Sq (RD hnt (.no :: o28 [] true r13 :: nn 2 []) [] [(10,rr 1080)] [] [(1080,bx [ow 1528 r13.tree.nodes.length,pI r13.tree.next,ow 1529 r13.tasks.length,pI r13.next]),(1528,ob0 (Ac r13.tree.nodes)),(1529,ob0 (Af r13.tasks))] (an (Rf p0 r13 hr13) tv) ?_)
        obtain ⟨r14,hr14,hm⟩ := bo hm
        refine Sq (RD hnt (nn 3 (o124 [] true r14 :: nn 2 [])) [6] [] [1048,1528] [(1080,bx [ow 1560 r14.nodes.length,pI r14.next,ow 1529 r13.tasks.length,pI r13.next]),(1560,ob0 (Ac r14.nodes))] (an (AbC p0.tree ({ id := r3.1.id,parent := r3.1.parent,name := r3.1.name,control := r3.1.control,kind := 1,owner := r3.1.owner } : Ag) r14 hr14) tv) ?_)
        obtain ⟨r15,hr15,hm⟩ := bo hm
        refine Sq (Sq ?_)
        refine Jn (ι := Bool) (fun (y2 : Bool) => Al [(4,rr 1032),(10,rr 1080),(81,pB y2)] [(AhC),(1080,bx [ow 1560 r14.nodes.length,pI r14.next,ow 1529 r13.tasks.length,pI r13.next]),(1529,ob0 (Af r13.tasks)),(1560,ob0 (Ac r14.nodes))]) (fun y2 => (Mq r13 r14) y2 = some RES) ?_ ?_
        ·intro y2 hm
         unfold Mq at hm
         refine Ah hm ?_ ?_
         ·intro h18 hm
          refine Sq (RD hnt (nn 3 []) [10,81] [(5,pI 6)] [1080,1529,1560] [] tv ?_)
          refine DW.cv [] [] [] [(Adg),(100000,ob0 (Ac [])),(100001,ob0 (Af []))] (Conv.ads [(.o 1032 0,100000,6,elems Ak Ar []),(.o 1032 2,100001,4,elems Ao Ba [])]) ?_
          obtain rfl := sj hm
          exact DW.ret (Ai [Ac [],Af []] [100000,100001] (.tup [.agg [ow 0 0,pI 0,ow 1 0,pI 0],pI 6]))
         ·intro h18 hm
          refine Sk ?_
          refine Sq (RD hnt (nn 3 []) [10,81] [(5,pI 0)] [1080] [(1032,bx [ow 1560 r14.nodes.length,pI r14.next,ow 1529 r13.tasks.length,pI r13.next])] tv ?_)
          obtain rfl := sj hm
          exact DW.ret (Ai [Ac r14.nodes,Af r13.tasks] [1560,1529] (.tup [.agg [ow 0 r14.nodes.length,pI r14.next,ow 1 r13.tasks.length,pI r13.next],pI 0]))
        ·rcases bt (decide (((r15.length : Nat) : Int) > 0)) with h16 | h16
         ·replace hm := Ay h16 hm
          refine RD hnt (nn 2 (o19 [] true r15 :: nn 3 (sk 3 (pT :: [])))) [1,2] [(81,pB true)] [1016] [] (an (Jz p0 p1 r15 hr15) (an4 h16 tv)) ?_
          exact jD true hm Conv.eqK
         ·replace hm := Az h16 hm
          obtain ⟨r17,hr17,hm⟩ := bo hm
          refine RD hnt (nn 2 (o19 [] true r15 :: nn 4 (o7 [] true r17 :: .no :: pF :: []))) [1,2] [(81,pB (!r17))] [1016] [] (an (Jz p0 p1 r15 hr15) (an2 h16 (an (Ia ({ tree := r14,tasks := r13.tasks,next := r13.next } : Aa) r17 hr17) (an2 h16 tv)))) ?_
          exact jD (!r17) hm Conv.eqK
     ·rcases bt (r8 == 3) with h9 | h9
      ·replace hm := Ay h9 hm
       refine RD hnt (nn 4 (o23 [] true r8 :: nn 2 (sk 9 (pT :: [])))) [8] [(57,pB true)] [1064] [] (an (Hy p0.tree r7.1.id r8 hr8) (an6 h9 tv)) ?_
       exact jD true hm Conv.eqK
      ·replace hm := Az h9 hm
       rcases bt (r7.1.id != 1) with h10 | h10
       ·replace hm := Ay h10 hm
        refine RD hnt (nn 4 (o23 [] true r8 :: nn 10 (pT :: pF :: []))) [8] [(57,pB ((kand .i64 r7.1.control 6) != 0))] [1064] [] (an (Hy p0.tree r7.1.id r8 hr8) (an4 h9 (an4 h10 (an h9 (an h10 (an h9 tv)))))) ?_
        exact jD ((kand .i64 r7.1.control 6) != 0) hm Conv.eqK
       ·replace hm := Az h10 hm
        refine RD hnt (nn 4 (o23 [] true r8 :: nn 6 (sk 4 (pF :: pF :: [])))) [8] [(57,pB false)] [1064] [] (an (Hy p0.tree r7.1.id r8 hr8) (an4 h9 (an4 h10 (an h9 (an h10 (an h9 tv)))))) ?_
        exact jD false hm Conv.eqK
abbrev o125 (ks : List Nat) (b : Bool) (RES : Aa × Int) : Orc := .call 82 ks b (.tup [.agg [ow 0 RES.1.tree.nodes.length,pI RES.1.tree.next,ow 1 RES.1.tasks.length,pI RES.1.next],pI RES.2]) [] [Ac RES.1.tree.nodes,Af RES.1.tasks]

abbrev AhB : Nat × Obj := (1032,bx [.p (.sl .nil 0 0 (fun _ => [])),pI 0,.p (.sl .nil 0 0 (fun _ => [])),pI 0])
theorem Afn (p0 : At) (p1 : Aa) (RES : Aa × At) (hm : Qc p0 p1 = some RES) : Spec Tryz.prog 34 [rr 0,.p (.agg (Ab p1))] [.box (pm (Aq p0))] (.p (.agg (Ab RES.1))) [.box (pm (Aq RES.2))] [] := by
 unfold Qc at hm
 refine SO Tryz.func34 rfl rfl [(0,rr 0),(1,.p (.agg (Ab p1)))] [(0,bx (pm (Aq p0)))] ?_
 intro cx hnt
 refine Sq (RD hnt (nn 2 []) [1] [(3,rr 1024),(4,rr 1032)] [] [(1024,bx (pm (Ab p1))),(AhB)] tv ?_)
 obtain ⟨r1,hr1,hm⟩ := bo hm
 refine Sq (RD hnt (nn 3 (o119 [0] true r1 :: .no :: [])) [] [(5,pI r1.1)] [] [(0,bx (pm (Aq r1.2)))] (an (Nn p0 p1.tree r1 hr1) (an tv tv)) ?_)
 obtain ⟨r2,hr2,hm⟩ := bo hm
 refine Sq (Sq (RD hnt (.no :: Tn [0] true r2 :: []) [] [(17,pI r2.1)] [] [(0,bx (pm (Aq r2.2)))] (an (Bo r1.2 5 r2 hr2) (an tv tv)) ?_))
 refine Jn (ι := At × Aa) (fun (y1 : At × Aa) => Al [(3,rr 1024),(4,rr 1032)] [(0,bx (pm (Aq y1.1))),(1024,bx (pm (Ab y1.2))),(AhB)]) (fun y1 => Gq y1 = some RES) ?_ ?_
 ·intro y1 hm
  unfold Gq at hm
  refine Sq (RD hnt (nn 2 []) [3] [] [1024] [(1032,bx (pm (Ab y1.2)))] tv ?_)
  obtain rfl := sj hm
  exact DW.ret (Ai [.box (pm (Aq y1.1))] [] (.p (.agg (Ab y1.2))))
 ·refine Bk ?_
  refine Sq (Sq (RD hnt (nn 2 []) [] [(18,pB (r2.1 == 0))] [] [] tv ?_))
  refine Jn (ι := Bool) (fun (y2 : Bool) => Al [(0,rr 0),(3,rr 1024),(4,rr 1032),(5,pI r1.1),(17,pI r2.1),(18,pB y2)] [(0,bx (pm (Aq r2.2))),(1024,bx (pm (Ab p1))),(AhB)]) (fun y2 => (Kf p1 r1 r2) y2 = some RES) ?_ ?_
  ·intro y2 hm
   unfold Kf at hm
   refine Ah hm ?_ ?_
   ·intro h4 hm
    obtain ⟨r5,hr5,hm⟩ := bo hm
    obtain ⟨r6,hr6,hm⟩ := bo hm
    refine Sq (RD hnt (nn 3 (o120 [0] true r5 :: o121 [] true r6 :: nn 6 [])) [0,5,17,18] [(6,rr 1048),(7,pI r6.2)] [] [(0,bx (pm (Aq r5.2))),(1048,bx [ow 1208 r6.1.tree.nodes.length,pI r6.1.tree.next,ow 1209 r6.1.tasks.length,pI r6.1.next]),(1208,ob0 (Ac r6.1.tree.nodes)),(1209,ob0 (Af r6.1.tasks))] (an (Ma r2.2 r5 hr5) (an tv (an (Ahf p1 r1.1 r5.1 0 r6 hr6) tv))) ?_)
    refine Sq (RD hnt (nn 2 []) [7] [(30,pB (r6.2 == 0))] [] [] tv ?_)
    refine Ah hm ?_ ?_
    ·intro h7 hm
     refine Sq (RD hnt (nn 2 []) [3,6,30] [] [1024,1048] [(1032,bx [ow 1208 r6.1.tree.nodes.length,pI r6.1.tree.next,ow 1209 r6.1.tasks.length,pI r6.1.next])] tv ?_)
     obtain rfl := sj hm
     exact DW.ret (Ai [.box (pm (Aq r5.2))] [] (.p (.agg (Ab r6.1))))
    ·intro h7 hm
     refine Sk ?_
     exact bD (r5.2,p1) hm Conv.t0
   ·intro h4 hm
    refine Sq (RD hnt (nn 2 []) [18] [(32,pB (r2.1 == 2))] [] [] tv ?_)
    refine Ah hm ?_ ?_
    ·intro h8 hm
     obtain ⟨r9,hr9,hm⟩ := bo hm
     refine Sq (RD hnt (nn 2 (o125 [] true r9 :: nn 6 [])) [0,5,17,32] [(8,rr 1064),(9,pI r9.2)] [] [(1064,bx [ow 1296 r9.1.tree.nodes.length,pI r9.1.tree.next,ow 1297 r9.1.tasks.length,pI r9.1.next]),(1296,ob0 (Ac r9.1.tree.nodes)),(1297,ob0 (Af r9.1.tasks))] (an (AgB p1 r1.1 r9 hr9) tv) ?_)
     refine Sq (RD hnt (nn 2 []) [9] [(41,pB (r9.2 == 0))] [] [] tv ?_)
     refine Ah hm ?_ ?_
     ·intro h10 hm
      refine Sq (RD hnt (nn 2 []) [3,8,41] [] [1024,1064] [(1032,bx [ow 1296 r9.1.tree.nodes.length,pI r9.1.tree.next,ow 1297 r9.1.tasks.length,pI r9.1.next])] tv ?_)
      obtain rfl := sj hm
      exact DW.ret (Ai [.box (pm (Aq r2.2))] [] (.p (.agg (Ab r9.1))))
     ·intro h10 hm
      refine Sk ?_
      exact bD (r2.2,p1) hm Conv.t0
    ·intro h8 hm
     refine Sq (RD hnt (nn 2 []) [17,32] [(43,pB (r2.1 == 3))] [] [] tv ?_)
     refine Ah hm ?_ ?_
     ·intro h11 hm
      obtain ⟨r12,hr12,hm⟩ := bo hm
      refine Sq (RD hnt (nn 3 (o16 [] true r12 :: nn 6 [])) [43] [(10,rr 1080),(11,pB r12.2)] [] [(1080,bx (pm (Ak r12.1)))] (an (Cg p1.tree r1.1 r12 hr12) tv) ?_)
      refine Sq (DW.regJ (sl2 := [(0,rr 0),(3,rr 1024),(4,rr 1032),(10,rr 1080),(56,pB (r12.2 && (r1.1 != 1)))]) (ob2 := [(0,bx (pm (Aq r2.2))),(1024,bx (pm (Ab p1))),(AhB),(1080,bx (pm (Ak r12.1)))]) ?_ ?_)
      ·rcases bt r12.2 with h13 | h13
       ·exact RT hnt (nn 4 (pT :: [])) [(56,pB (r1.1 != 1))] (an3 h13 tv) (by kernel_rfl) (.cons rfl (.of_eq (by rw [h13]; try rfl)) .nil)
       ·exact RT hnt (nn 2 (sk 2 (pF :: []))) [(56,pB false)] (an3 h13 tv) (by kernel_rfl) (.cons rfl (.of_eq (by rw [h13]; try rfl)) .nil)
      ·refine Ah hm ?_ ?_
       ·intro h14 hm
        obtain ⟨r15,hr15,hm⟩ := bo hm
        refine Sq (RD hnt (.no :: Tn [0] true r15 :: nn 2 []) [0,56] [] [] [(0,bx (pm (Aq r15.2))),(1080,bx [pI r12.1.id,pI r12.1.parent,pS r12.1.name,pI r12.1.control,pI r12.1.kind,pI r15.1])] (an (Bo r2.2 3 r15 hr15) (an tv tv)) ?_)
        obtain ⟨r16,hr16,hm⟩ := bo hm
        refine RD hnt (nn 3 (o124 [] true r16 :: nn 2 [])) [10] [] [1080] [(1024,bx [ow 1504 r16.nodes.length,pI r16.next,.p (Fr p1.tasks),pI p1.next]),(1504,ob0 (Ac r16.nodes))] (an (AbC p1.tree ({ id := r12.1.id,parent := r12.1.parent,name := r12.1.name,control := r12.1.control,kind := r12.1.kind,owner := r15.1 } : Ag) r16 hr16) tv) ?_
        exact bD (r15.2,({ tree := r16,tasks := p1.tasks,next := p1.next } : Aa)) hm (Conv.frz [1504])
       ·intro h14 hm
        refine Sk ?_
        exact bD (r2.2,p1) hm Conv.t0
     ·intro h11 hm
      refine Sk ?_
      exact bD (r2.2,p1) hm Conv.t0
  ·refine Ah hm ?_ ?_
   ·intro h3 hm
    refine Sk ?_
    exact jD (r2.1 == 0) hm Conv.eqK
   ·intro h3 hm
    refine RD hnt (nn 2 []) [] [(18,pB (r2.1 == 1))] [] [] tv ?_
    exact jD (r2.1 == 1) hm Conv.eqK
abbrev o118 (ks : List Nat) (b : Bool) (RES : Aa × At) : Orc := .call 34 ks b (.p (.agg (Ab RES.1))) [.box (pm (Aq RES.2))] []

theorem Acb (p0 : Aa) (p1 : Int) (RES : Int) (hm : Iz p0 p1 = some RES) : Spec Tryz.prog 35 [.p (.agg (Ab p0)),pI p1] [] (pI RES) [] [] := by
 unfold Iz at hm
 refine SO Tryz.func35 rfl rfl [(0,.p (.agg (Ab p0))),(1,pI p1)] [] ?_
 intro cx hnt
 refine Sq (RK hnt (nn 2 []) [(1,pI p1),(2,rr 1016)] [(1016,bx (pm (Ab p0)))] tv ?_)
 obtain ⟨r1,hr1,hm⟩ := bo hm
 refine Sq (Sq (RD hnt (.no :: o7 [] true r1 :: .no :: []) [] [(9,pB (!r1))] [] [] (an (Ia p0 r1 hr1) tv) ?_))
 refine Ah hm ?_ ?_
 ·intro h2 hm
  refine Sq (RK hnt (.no :: []) [(4,pI 1)] [] tv ?_)
  obtain rfl := sj hm
  exact DW.ret (Ai [] [] (pI 1))
 ·intro h2 hm
  refine Sk ?_
  obtain ⟨r3,hr3,hm⟩ := bo hm
  refine Sq (RD hnt (nn 3 (o16 [] true r3 :: nn 6 [])) [9] [(5,rr 1040),(6,pB r3.2)] [] [(1040,bx (pm (Ak r3.1)))] (an (Cg p0.tree p1 r3 hr3) tv) ?_)
  refine Sq (Bk ?_)
  refine Sq (RD hnt (nn 3 []) [6] [(17,pB (!r3.2))] [] [] tv ?_)
  refine Ah hm ?_ ?_
  ·intro h4 hm
   refine Sq (RK hnt (.no :: []) [(4,pI 4)] [] tv ?_)
   obtain rfl := sj hm
   exact DW.ret (Ai [] [] (pI 4))
  ·intro h4 hm
   obtain ⟨r5,hr5,hm⟩ := bo hm
   refine Sq (RD hnt (nn 3 (o23 [] true r5 :: nn 2 [])) [2,17] [(20,pB (r5 == 3))] [1016] [] (an (Hy p0.tree p1 r5 hr5) tv) ?_)
   refine Ah hm ?_ ?_
   ·intro h6 hm
    refine Sq (RK hnt (.no :: []) [(4,pI 10)] [] tv ?_)
    obtain rfl := sj hm
    exact DW.ret (Ai [] [] (pI 10))
   ·intro h6 hm
    refine Sq (DW.regJ (sl2 := [(26,pB ((p1 != 1) && ((kand .i64 r3.1.control 6) != 0)))]) (ob2 := []) ?_ ?_)
    ·rcases bt (p1 != 1) with h7 | h7
     ·exact RT hnt (nn 7 (pT :: .no :: [])) [(26,pB ((kand .i64 r3.1.control 6) != 0))] (an5 h7 tv) (by kernel_rfl) (.cons rfl (.of_eq (by rw [h7]; try rfl)) .nil)
     ·exact RT hnt (nn 3 (sk 4 (pF :: .no :: []))) [(26,pB false)] (an5 h7 tv) (by kernel_rfl) (.cons rfl (.of_eq (by rw [h7]; try rfl)) .nil)
    ·refine Ah hm ?_ ?_
     ·intro h8 hm
      refine Sq (RK hnt (.no :: []) [(4,pI 6)] [] tv ?_)
      obtain rfl := sj hm
      exact DW.ret (Ai [] [] (pI 6))
     ·intro h8 hm
      refine Sk ?_
      refine DW.done ?_
      show DW _ _ _ _ _
      refine Sq (RK hnt (.no :: []) [(4,pI 0)] [] tv ?_)
      obtain rfl := sj hm
      exact DW.ret (Ai [] [] (pI 0))
abbrev o126 (ks : List Nat) (b : Bool) (RES : Int) : Orc := .call 35 ks b (pI RES) [] []

theorem Oi (p0 : At) (p1 : Aa) (RES : Int × At) (hm : Ij p0 p1 = some RES) : Spec Tryz.prog 14 [rr 0,.p (.agg (Ab p1))] [.box (pm (Aq p0))] (pI RES.1) [.box (pm (Aq RES.2))] [] := by
 unfold Ij at hm
 refine SO Tryz.func14 rfl rfl [(0,rr 0),(1,.p (.agg (Ab p1)))] [(0,bx (pm (Aq p0)))] ?_
 intro cx hnt
 refine Sq (RD hnt (nn 2 []) [1] [(3,rr 1024)] [] [(1024,bx (pm (Ab p1)))] tv ?_)
 obtain ⟨r1,hr1,hm⟩ := bo hm
 refine Sq (Sq ?_)
 refine Jn (ι := Bool) (fun (y1 : Bool) => Al [(0,rr 0),(3,rr 1024),(12,pB y1)] [(0,bx (pm (Aq r1.2))),(1024,bx (pm (Ab p1)))]) (fun y1 => (Jy p1 r1) y1 = some RES) ?_ ?_
 ·intro y1 hm
  unfold Jy at hm
  refine Ah hm ?_ ?_
  ·intro h3 hm
   obtain ⟨r4,hr4,hm⟩ := bo hm
   refine Sq (RK hnt (.no :: Tn [0] true r4 :: nn 2 []) [(4,pI (w64 (r4.1 - 1)))] [(0,bx (pm (Aq r4.2)))] (an (Bo r1.2 9 r4 hr4) (an tv tv)) ?_)
   obtain rfl := sj hm
   exact DW.ret (Ai [.box (pm (Aq r4.2))] [] (pI (w64 (r4.1 - 1))))
  ·intro h3 hm
   refine Sk ?_
   obtain ⟨r5,hr5,hm⟩ := bo hm
   obtain ⟨g6,hm⟩ := go1 hm
   refine Sq (RK hnt (nn 6 (Tn [0] true r5 :: nn 4 [])) [(4,pI (p1.tasks.getD (Int.toNat r5.1) Ba).id)] [(0,bx (pm (Aq r5.2)))] (an (Bo r1.2 ((p1.tasks.length : Nat) : Int) r5 hr5) (an tv (an g6.1 (an g6.2 tv)))) ?_)
   obtain rfl := sj hm
   exact DW.ret (Ai [.box (pm (Aq r5.2))] [] (pI (p1.tasks.getD (Int.toNat r5.1) Ba).id))
 ·rcases bt r1.1 with h2 | h2
  ·replace hm := Ay h2 hm
   refine RD hnt (.no :: o116 [0] true r1 :: .no :: sk 4 (pT :: [])) [] [(12,pB true)] [] [(0,bx (pm (Aq r1.2)))] (an (Fh p0 15 r1 hr1) (an tv (an5 h2 tv))) ?_
   exact jD true hm Conv.eqK
  ·replace hm := Az h2 hm
   refine RD hnt (.no :: o116 [0] true r1 :: nn 5 (pF :: [])) [] [(12,pB (((p1.tasks.length : Nat) : Int) == 0))] [] [(0,bx (pm (Aq r1.2)))] (an (Fh p0 15 r1 hr1) (an tv (an5 h2 tv))) ?_
   exact jD (((p1.tasks.length : Nat) : Int) == 0) hm Conv.eqK
abbrev o127 (ks : List Nat) (b : Bool) (RES : Int × At) : Orc := .call 14 ks b (pI RES.1) [.box (pm (Aq RES.2))] []

theorem AhU (p0 : Aa) (p1 : Int) (RES : Aa × Int × Int) (hm : Xs p0 p1 = some RES) : Spec Tryz.prog 37 [.p (.agg (Ab p0)),pI p1] [] (.tup [.agg [ow 0 RES.1.tree.nodes.length,pI RES.1.tree.next,ow 1 RES.1.tasks.length,pI RES.1.next],pI RES.2.1,pI RES.2.2]) [] [Ac RES.1.tree.nodes,Af RES.1.tasks] := by
 unfold Xs at hm
 refine SO Tryz.func37 rfl rfl [(0,.p (.agg (Ab p0))),(1,pI p1)] [] ?_
 intro cx hnt
 refine Sq (RK hnt (nn 4 []) [(1,pI p1),(2,rr 1016),(4,rr 1032)] [(1016,bx (pm (Ab p0))),(1032,bx [.p (.sl .nil 0 0 (fun _ => [])),pI 0,.p (.sl .nil 0 0 (fun _ => [])),pI 0])] tv ?_)
 obtain ⟨r1,hr1,hm⟩ := bo hm
 refine Sq (Sq (RD hnt (.no :: o9 [] true r1 :: .no :: []) [] [(11,pB (!r1))] [] [] (an (He p0 r1 hr1) tv) ?_))
 refine Ah hm ?_ ?_
 ·intro h2 hm
  refine Sq (RD hnt (nn 4 []) [1,2,11] [(5,pI 0),(6,pI 1)] [1016] [] tv ?_)
  refine DW.cv [] [] [] [(1032,bx [ow 100000 0,pI 0,ow 100001 0,pI 0]),(100000,ob0 (Ac [])),(100001,ob0 (Af []))] (Conv.ads [(.o 1032 0,100000,6,elems Ak Ar []),(.o 1032 2,100001,4,elems Ao Ba [])]) ?_
  obtain rfl := sj hm
  exact DW.ret (Ai [Ac [],Af []] [100000,100001] (.tup [.agg [ow 0 0,pI 0,ow 1 0,pI 0],pI 0,pI 1]))
 ·intro h2 hm
  refine Sk ?_
  obtain ⟨r3,hr3,hm⟩ := bo hm
  refine Sq (RD hnt (nn 2 (o20 [] true r3 :: nn 6 [])) [1,11] [(7,rr 1056),(8,pB r3.2)] [] [(1056,bx (pm (Ao r3.1)))] (an (Rn p0 p1 r3 hr3) tv) ?_)
  refine Sq (Sq (RD hnt (nn 2 []) [8] [(20,pB (!r3.2))] [] [] tv ?_))
  refine Ah hm ?_ ?_
  ·intro h4 hm
   refine Sq (RD hnt (nn 4 []) [2,7,20] [(5,pI 0),(6,pI 4)] [1016,1056] [] tv ?_)
   refine DW.cv [] [] [] [(1032,bx [ow 100000 0,pI 0,ow 100001 0,pI 0]),(100000,ob0 (Ac [])),(100001,ob0 (Af []))] (Conv.ads [(.o 1032 0,100000,6,elems Ak Ar []),(.o 1032 2,100001,4,elems Ao Ba [])]) ?_
   obtain rfl := sj hm
   exact DW.ret (Ai [Ac [],Af []] [100000,100001] (.tup [.agg [ow 0 0,pI 0,ow 1 0,pI 0],pI 0,pI 4]))
  ·intro h4 hm
   refine Sk ?_
   obtain ⟨r5,hr5,hm⟩ := bo hm
   refine Sq (RK hnt (nn 2 (o98 [] true r5 :: nn 6 [])) [(4,rr 1032),(5,pI r5.2.1),(6,pI r5.2.2)] [(1032,bx [ow 1192 r5.1.tree.nodes.length,pI r5.1.tree.next,ow 1193 r5.1.tasks.length,pI r5.1.next]),(1192,ob0 (Ac r5.1.tree.nodes)),(1193,ob0 (Af r5.1.tasks))] (an (Aff p0 r3.1 r5 hr5) tv) ?_)
   obtain rfl := sj hm
   exact DW.ret (Ai [Ac r5.1.tree.nodes,Af r5.1.tasks] [1192,1193] (.tup [.agg [ow 0 r5.1.tree.nodes.length,pI r5.1.tree.next,ow 1 r5.1.tasks.length,pI r5.1.next],pI r5.2.1,pI r5.2.2]))
abbrev o128 (ks : List Nat) (b : Bool) (RES : Aa × Int × Int) : Orc := .call 37 ks b (.tup [.agg [ow 0 RES.1.tree.nodes.length,pI RES.1.tree.next,ow 1 RES.1.tasks.length,pI RES.1.next],pI RES.2.1,pI RES.2.2]) [] [Ac RES.1.tree.nodes,Af RES.1.tasks]

abbrev Afe (s1 : (List Am) × Int) (p2 : Int) := ({ id := (s1.1.getD (Int.toNat s1.2) Ba).id,process := (s1.1.getD (Int.toNat s1.2) Ba).process,group := p2,user := (s1.1.getD (Int.toNat s1.2) Ba).user } : Am)
abbrev Aer : Nat × Obj := (1048,bx [.p (.sl .nil 0 0 (fun _ => [])),pI 0,.p (.sl .nil 0 0 (fun _ => [])),pI 0])
abbrev c130e3 (s1 : (List Am) × Int) (p2 : Int) := (Bv (Vh s1.1) (Int.toNat s1.2) [vi (s1.1.getD (Int.toNat s1.2) Ba).id,vi (s1.1.getD (Int.toNat s1.2) Ba).process,vi p2,vi (s1.1.getD (Int.toNat s1.2) Ba).user])
theorem AhG (p0 : Aa) (p1 : Int) (p2 : Int) (RES : Aa × Int) (hm : Tq p0 p1 p2 = some RES) : Spec Tryz.prog 84 [.p (.agg (Ab p0)),pI p1,pI p2] [] (.tup [.agg [ow 0 RES.1.tree.nodes.length,pI RES.1.tree.next,ow 1 RES.1.tasks.length,pI RES.1.next],pI RES.2]) [] [Ac RES.1.tree.nodes,Af RES.1.tasks] := by
 unfold Tq at hm
 refine SO Tryz.func84 rfl rfl [(0,.p (.agg (Ab p0))),(1,pI p1),(2,pI p2)] [] ?_
 intro cx hnt
 refine Sq (RD hnt (nn 3 []) [0] [(3,rr 1024),(6,rr 1048)] [] [(1024,bx (pm (Ab p0))),(Aer)] tv ?_)
 obtain ⟨r1,hr1,hm⟩ := bo hm
 refine Sq (Sq (RD hnt (.no :: o9 [] true r1 :: .no :: []) [] [(14,pB (!r1))] [] [] (an (He p0 r1 hr1) tv) ?_))
 refine Ah hm ?_ ?_
 ·intro h2 hm
  refine Sq (RD hnt (nn 3 []) [1,2,3,14] [(7,pI 1)] [1024] [] tv ?_)
  refine DW.cv [] [] [] [(1048,bx [ow 100000 0,pI 0,ow 100001 0,pI 0]),(100000,ob0 (Ac [])),(100001,ob0 (Af []))] (Conv.ads [(.o 1048 0,100000,6,elems Ak Ar []),(.o 1048 2,100001,4,elems Ao Ba [])]) ?_
  obtain rfl := sj hm
  exact DW.ret (Ai [Ac [],Af []] [100000,100001] (.tup [.agg [ow 0 0,pI 0,ow 1 0,pI 0],pI 1]))
 ·intro h2 hm
  refine Sk ?_
  obtain ⟨r3,hr3,hm⟩ := bo hm
  refine Sq (Sq (RD hnt (nn 2 (o20 [] true r3 :: nn 6 [])) [14] [(9,pB r3.2)] [] [] (an (Rn p0 p1 r3 hr3) tv) ?_))
  refine Sq ?_
  refine Jn (ι := Bool) (fun (y1 : Bool) => Al [(1,pI p1),(2,pI p2),(3,rr 1024),(6,rr 1048),(30,pB y1)] [(1024,bx (pm (Ab p0))),(Aer)]) (fun y1 => (Tk p0 p1 p2) y1 = some RES) ?_ ?_
  ·intro y1 hm
   unfold Tk at hm
   refine Ah hm ?_ ?_
   ·intro h6 hm
    refine Sq (RD hnt (nn 3 []) [1,2,3,30] [(7,pI 4)] [1024] [] tv ?_)
    refine DW.cv [] [] [] [(1048,bx [ow 100000 0,pI 0,ow 100001 0,pI 0]),(100000,ob0 (Ac [])),(100001,ob0 (Af []))] (Conv.ads [(.o 1048 0,100000,6,elems Ak Ar []),(.o 1048 2,100001,4,elems Ao Ba [])]) ?_
    obtain rfl := sj hm
    exact DW.ret (Ai [Ac [],Af []] [100000,100001] (.tup [.agg [ow 0 0,pI 0,ow 1 0,pI 0],pI 4]))
   ·intro h6 hm
    refine Sk ?_
    obtain ⟨r7,hr7,hm⟩ := bo hm
    refine Sq (RD hnt (.no :: o28 [] true r7 :: nn 2 []) [3,30] [(10,rr 1080)] [1024] [(1080,bx [ow 1264 r7.tree.nodes.length,pI r7.tree.next,ow 1265 r7.tasks.length,pI r7.next]),(1264,ob0 (Ac r7.tree.nodes)),(1265,ob0 (Af r7.tasks))] (an (Rf p0 r7 hr7) tv) ?_)
    refine Sq (Sq (RD hnt (.no :: []) [] [(11,pI 0)] [] [] tv ?_))
    refine Bk ?_
    refine DW.whileO (fun (s1 : (List Am) × Int) => Al [(1,pI p1),(2,pI p2),(6,rr 1048),(10,rr 1080),(11,pI s1.2)] [(Aer),(1080,bx [ow 1264 r7.tree.nodes.length,pI r7.tree.next,ow 1265 s1.1.length,pI r7.next]),(1264,ob0 (Ac r7.tree.nodes)),(1265,ob0 (Af s1.1))]) hm Conv.eqK ?_
    intro s1 n1 hm
    unfold Sz at hm
    refine Sq (Sq (RD hnt (nn 5 []) [] [(38,pB (decide (s1.2 < ((s1.1.length : Nat) : Int))))] [] [] tv ?_))
    refine Ah hm ?_ ?_
    ·intro h14 hm
     refine Sk ?_
     refine Sq ?_
     refine Jn (ι := List Am) (fun (y3 : List Am) => Al [(1,pI p1),(2,pI p2),(6,rr 1048),(10,rr 1080),(11,pI s1.2)] [(Aer),(1080,bx [ow 1264 r7.tree.nodes.length,pI r7.tree.next,ow 1265 y3.length,pI r7.next]),(1264,ob0 (Ac r7.tree.nodes)),(1265,ob0 (Af y3))]) (fun y3 => (Sy s1 n1) y3 = some RES) ?_ ?_
     ·intro y3 hm
      unfold Sy at hm
      refine RD hnt (nn 3 []) [] [(11,pI (w64 (s1.2 + 1)))] [] [] tv ?_
      exact jD (y3,(w64 (s1.2 + 1))) hm Conv.eqK
     ·refine Bk ?_
      obtain ⟨g15,g16,hm⟩ := go2 hm
      refine Sq (RD hnt (nn 8 []) [38] [(48,pB ((s1.1.getD (Int.toNat s1.2) Ba).id == p1))] [] [] (an g15.1 (an g15.2 (an g16 tv))) ?_)
      refine Ah hm ?_ ?_
      ·intro h17 hm
       obtain ⟨g18,g19,hm⟩ := go2 hm
       refine RN hnt (nn 7 []) [(1,pI p1),(2,pI p2),(6,rr 1048),(10,rr 1080),(11,pI s1.2)] [(Aer),(1080,bx [ow 1264 r7.tree.nodes.length,pI r7.tree.next,ow 1265 (s1.1.set (Int.toNat s1.2) (Afe s1 p2)).length,pI r7.next]),(1264,ob0 (Ac r7.tree.nodes)),(1265,ob0 (Af (s1.1.set (Int.toNat s1.2) (Afe s1 p2))))] [] [(1080,.box [ow 1264 r7.tree.nodes.length,pI r7.tree.next,ow 1265 s1.1.length,pI r7.next]),(1265,.row 4 s1.1.length (c130e3 s1 p2))] (an g18.1 (an g18.2 (an g19 tv))) (by kernel_rfl) .nil (.cons rfl (.box (.cons .rfl (.cons .rfl (.cons (MLe.ownLen (enc := Ao) (d := Ba) (f := (c130e3 s1 p2)) (RowIs.upd RowIs.elems (Afe s1 p2) rfl)) (.cons .rfl .nil))))) (.cons rfl (BLe.typed (RowIs.upd RowIs.elems (Afe s1 p2) rfl)) .nil)) ?_
       exact bD (s1.1.set (Int.toNat s1.2) (Afe s1 p2)) hm .refl
      ·intro h17 hm
       refine Sk ?_
       exact bD s1.1 hm Conv.t0
    ·intro h14 hm
     refine DW.exit ?_
     refine Ap ?_
     refine Au ?_
     refine An ?_
     show DW _ _ _ _ _
     refine Sq (RD hnt (nn 3 []) [1,2,10,11,38] [(7,pI 0)] [1080] [(1048,bx [ow 1264 r7.tree.nodes.length,pI r7.tree.next,ow 1265 s1.1.length,pI r7.next])] tv ?_)
     obtain rfl := sj hm
     exact DW.ret (Ai [Ac r7.tree.nodes,Af s1.1] [1264,1265] (.tup [.agg [ow 0 r7.tree.nodes.length,pI r7.tree.next,ow 1 s1.1.length,pI r7.next],pI 0]))
  ·rcases bt (!r3.2) with h4 | h4
   ·replace hm := Ay h4 hm
    refine RD hnt (nn 3 (sk 5 (pT :: []))) [9] [(30,pB true)] [] [] (an6 h4 tv) ?_
    exact jD true hm Conv.eqK
   ·replace hm := Az h4 hm
    obtain ⟨r5,hr5,hm⟩ := bo hm
    refine RD hnt (nn 6 (o15 [] true r5 :: .no :: pF :: [])) [9] [(30,pB (!r5))] [] [] (an4 h4 (an (Df p0.tree p2 r5 hr5) (an2 h4 tv))) ?_
    exact jD (!r5) hm Conv.eqK
abbrev o130 (ks : List Nat) (b : Bool) (RES : Aa × Int) : Orc := .call 84 ks b (.tup [.agg [ow 0 RES.1.tree.nodes.length,pI RES.1.tree.next,ow 1 RES.1.tasks.length,pI RES.1.next],pI RES.2]) [] [Ac RES.1.tree.nodes,Af RES.1.tasks]

abbrev Ahp : Nat × Obj := (1048,bx [ow 100000 0,pI 0,ow 100001 0,pI 0])
abbrev c129e2 : Nat × Obj := (1048,bx [.p (.sl .nil 0 0 (fun _ => [])),pI 0,.p (.sl .nil 0 0 (fun _ => [])),pI 0])
theorem Adf (p0 : Aa) (p1 : Int) (p2 : Int) (RES : Aa × Int) (hm : Ga p0 p1 p2 = some RES) : Spec Tryz.prog 38 [.p (.agg (Ab p0)),pI p1,pI p2] [] (.tup [.agg [ow 0 RES.1.tree.nodes.length,pI RES.1.tree.next,ow 1 RES.1.tasks.length,pI RES.1.next],pI RES.2]) [] [Ac RES.1.tree.nodes,Af RES.1.tasks] := by
 unfold Ga at hm
 refine SO Tryz.func38 rfl rfl [(0,.p (.agg (Ab p0))),(1,pI p1),(2,pI p2)] [] ?_
 intro cx hnt
 refine Sq (RD hnt (nn 3 []) [0] [(3,rr 1024),(6,rr 1048)] [] [(1024,bx (pm (Ab p0))),(c129e2)] tv ?_)
 obtain ⟨r1,hr1,hm⟩ := bo hm
 refine Sq (Sq (RD hnt (.no :: o7 [] true r1 :: .no :: []) [] [(17,pB (!r1))] [] [] (an (Ia p0 r1 hr1) tv) ?_))
 refine Ah hm ?_ ?_
 ·intro h2 hm
  refine Sq (RD hnt (nn 3 []) [1,2,3,17] [(7,pI 1)] [1024] [] tv ?_)
  refine DW.cv [] [] [] [(Ahp),(100000,ob0 (Ac [])),(100001,ob0 (Af []))] (Conv.ads [(.o 1048 0,100000,6,elems Ak Ar []),(.o 1048 2,100001,4,elems Ao Ba [])]) ?_
  obtain rfl := sj hm
  exact DW.ret (Ai [Ac [],Af []] [100000,100001] (.tup [.agg [ow 0 0,pI 0,ow 1 0,pI 0],pI 1]))
 ·intro h2 hm
  refine Sk ?_
  obtain ⟨r3,hr3,hm⟩ := bo hm
  refine Sq (RD hnt (nn 2 (o20 [] true r3 :: nn 6 [])) [17] [(8,rr 1064),(9,pB r3.2)] [] [(1064,bx (pm (Ao r3.1)))] (an (Rn p0 p1 r3 hr3) tv) ?_)
  refine Sq (Sq ?_)
  refine Jn (ι := Bool) (fun (y1 : Bool) => Al [(1,pI p1),(2,pI p2),(3,rr 1024),(6,rr 1048),(8,rr 1064),(33,pB y1)] [(1024,bx (pm (Ab p0))),(c129e2),(1064,bx (pm (Ao r3.1)))]) (fun y1 => (Gd p0 p1 p2 r3) y1 = some RES) ?_ ?_
  ·intro y1 hm
   unfold Gd at hm
   refine Ah hm ?_ ?_
   ·intro h6 hm
    refine Sq (RD hnt (nn 3 []) [1,2,3,8,33] [(7,pI 4)] [1024,1064] [] tv ?_)
    refine DW.cv [] [] [] [(Ahp),(100000,ob0 (Ac [])),(100001,ob0 (Af []))] (Conv.ads [(.o 1048 0,100000,6,elems Ak Ar []),(.o 1048 2,100001,4,elems Ao Ba [])]) ?_
    obtain rfl := sj hm
    exact DW.ret (Ai [Ac [],Af []] [100000,100001] (.tup [.agg [ow 0 0,pI 0,ow 1 0,pI 0],pI 4]))
   ·intro h6 hm
    refine Sk ?_
    obtain ⟨r7,hr7,hm⟩ := bo hm
    refine Sq (Sq (RD hnt (nn 2 (o126 [] true r7 :: .no :: [])) [33] [(10,pI r7)] [] [] (an (Acb p0 p2 r7 hr7) tv) ?_))
    refine Sq (RD hnt (nn 2 []) [] [(39,pB (r7 != 0))] [] [] tv ?_)
    refine Ah hm ?_ ?_
    ·intro h8 hm
     refine Sq (RD hnt (nn 4 []) [1,2,3,8,10,39] [(7,pI r7)] [1024,1064] [] tv ?_)
     refine DW.cv [] [] [] [(Ahp),(100000,ob0 (Ac [])),(100001,ob0 (Af []))] (Conv.ads [(.o 1048 0,100000,6,elems Ak Ar []),(.o 1048 2,100001,4,elems Ao Ba [])]) ?_
     obtain rfl := sj hm
     exact DW.ret (Ai [Ac [],Af []] [100000,100001] (.tup [.agg [ow 0 0,pI 0,ow 1 0,pI 0],pI r7]))
    ·intro h8 hm
     refine Sk ?_
     obtain ⟨r9,hr9,hm⟩ := bo hm
     refine Sq (RD hnt (nn 3 (o21 [] true r9 :: nn 5 [])) [10,39] [(11,pI r9.1)] [] [] (an (Sf p0.tree p2 r9 hr9) tv) ?_)
     obtain ⟨r10,hr10,hm⟩ := bo hm
     refine Sq (Sq (RD hnt (nn 4 (o21 [] true r10 :: nn 5 [])) [8] [(13,pI r10.1)] [1064] [] (an (Sf p0.tree r3.1.group r10 hr10) tv) ?_))
     refine Sq (RD hnt (nn 3 []) [11,13] [(59,pB (r9.1 != r10.1))] [] [] tv ?_)
     refine Ah hm ?_ ?_
     ·intro h11 hm
      refine Sq (RD hnt (nn 3 []) [1,2,3,59] [(7,pI 9)] [1024] [] tv ?_)
      refine DW.cv [] [] [] [(Ahp),(100000,ob0 (Ac [])),(100001,ob0 (Af []))] (Conv.ads [(.o 1048 0,100000,6,elems Ak Ar []),(.o 1048 2,100001,4,elems Ao Ba [])]) ?_
      obtain rfl := sj hm
      exact DW.ret (Ai [Ac [],Af []] [100000,100001] (.tup [.agg [ow 0 0,pI 0,ow 1 0,pI 0],pI 9]))
     ·intro h11 hm
      refine Sk ?_
      obtain ⟨r12,hr12,hm⟩ := bo hm
      refine Sq (RK hnt (nn 3 (o130 [] true r12 :: nn 4 [])) [(6,rr 1048),(7,pI r12.2)] [(1048,bx [ow 1512 r12.1.tree.nodes.length,pI r12.1.tree.next,ow 1513 r12.1.tasks.length,pI r12.1.next]),(1512,ob0 (Ac r12.1.tree.nodes)),(1513,ob0 (Af r12.1.tasks))] (an (AhG p0 p1 p2 r12 hr12) tv) ?_)
      obtain rfl := sj hm
      exact DW.ret (Ai [Ac r12.1.tree.nodes,Af r12.1.tasks] [1512,1513] (.tup [.agg [ow 0 r12.1.tree.nodes.length,pI r12.1.tree.next,ow 1 r12.1.tasks.length,pI r12.1.next],pI r12.2]))
  ·rcases bt (!r3.2) with h4 | h4
   ·replace hm := Ay h4 hm
    refine RD hnt (nn 3 (sk 5 (pT :: []))) [9] [(33,pB true)] [] [] (an6 h4 tv) ?_
    exact jD true hm Conv.eqK
   ·replace hm := Az h4 hm
    obtain ⟨r5,hr5,hm⟩ := bo hm
    refine RD hnt (nn 6 (o15 [] true r5 :: .no :: pF :: [])) [9] [(33,pB (!r5))] [] [] (an4 h4 (an (Df p0.tree p2 r5 hr5) (an2 h4 tv))) ?_
    exact jD (!r5) hm Conv.eqK
abbrev o129 (ks : List Nat) (b : Bool) (RES : Aa × Int) : Orc := .call 38 ks b (.tup [.agg [ow 0 RES.1.tree.nodes.length,pI RES.1.tree.next,ow 1 RES.1.tasks.length,pI RES.1.next],pI RES.2]) [] [Ac RES.1.tree.nodes,Af RES.1.tasks]
end Go.Dm


/- Go functions compute their models, printed by a program. -/
namespace Go.Dm
open Go.Proofs
set_option linter.unusedVariables false
abbrev Ev (p0 : Aa) (k1 : Nat) := (p0.tasks.getD k1 (default : Am))
abbrev Afa : Nat × Obj := (1032,bx [.p (.sl .nil 0 0 (fun _ => [])),pI 0,.p (.sl .nil 0 0 (fun _ => [])),pI 0])
abbrev Afp (p0 : Aa) : Nat × Obj := (1016,bx (pm (Ab p0)))
theorem AiD (p0 : Aa) (p1 : Int) (RES : Aa × Int) (hm : Aab p0 p1 = some RES) : Spec Tryz.prog 39 [.p (.agg (Ab p0)),pI p1] [] (.tup [.agg [ow 0 RES.1.tree.nodes.length,pI RES.1.tree.next,ow 1 RES.1.tasks.length,pI RES.1.next],pI RES.2]) [] [Ac RES.1.tree.nodes,Af RES.1.tasks] := by
 unfold Aab at hm
 refine SO Tryz.func39 rfl rfl [(0,.p (.agg (Ab p0))),(1,pI p1)] [] ?_
 intro cx hnt
 refine Sq (RK hnt (nn 3 []) [(1,pI p1),(2,rr 1016),(4,rr 1032)] [(Afp p0),(Afa)] tv ?_)
 obtain ⟨r1,hr1,hm⟩ := bo hm
 refine Sq (Sq (RD hnt (.no :: o9 [] true r1 :: .no :: []) [] [(13,pB (!r1))] [] [] (an (He p0 r1 hr1) tv) ?_))
 refine Ah hm ?_ ?_
 ·intro h2 hm
  refine Sq (RD hnt (nn 3 []) [1,2,13] [(5,pI 1)] [1016] [] tv ?_)
  refine DW.cv [] [] [] [(1032,bx [ow 100000 0,pI 0,ow 100001 0,pI 0]),(100000,ob0 (Ac [])),(100001,ob0 (Af []))] (Conv.ads [(.o 1032 0,100000,6,elems Ak Ar []),(.o 1032 2,100001,4,elems Ao Ba [])]) ?_
  obtain rfl := sj hm
  exact DW.ret (Ai [Ac [],Af []] [100000,100001] (.tup [.agg [ow 0 0,pI 0,ow 1 0,pI 0],pI 1]))
 ·intro h2 hm
  refine Sk ?_
  obtain ⟨r3,hr3,hm⟩ := bo hm
  refine Sq (Sq (RD hnt (nn 2 (o20 [] true r3 :: nn 6 [])) [13] [(7,pB r3.2)] [] [] (an (Rn p0 p1 r3 hr3) tv) ?_))
  refine Sq (RD hnt (nn 2 []) [7] [(22,pB (!r3.2))] [] [] tv ?_)
  refine Ah hm ?_ ?_
  ·intro h4 hm
   refine Sq (RD hnt (nn 3 []) [1,2,22] [(5,pI 4)] [1016] [] tv ?_)
   refine DW.cv [] [] [] [(1032,bx [ow 100000 0,pI 0,ow 100001 0,pI 0]),(100000,ob0 (Ac [])),(100001,ob0 (Af []))] (Conv.ads [(.o 1032 0,100000,6,elems Ak Ar []),(.o 1032 2,100001,4,elems Ao Ba [])]) ?_
   obtain rfl := sj hm
   exact DW.ret (Ai [Ac [],Af []] [100000,100001] (.tup [.agg [ow 0 0,pI 0,ow 1 0,pI 0],pI 4]))
  ·intro h4 hm
   refine Sk ?_
   obtain ⟨r5,hr5,hm⟩ := bo hm
   refine Sq (RD hnt (nn 2 (o27 [] true r5 :: nn 5 [])) [22] [(8,rr 1064)] [] [(1064,bx [ow 1208 r5.nodes.length,pI r5.next,.p (.sl .nil 0 0 (fun _ => [])),pI p0.next]),(1208,ob0 (Ac r5.nodes))] (an (Vu p0.tree r5 hr5) tv) ?_)
   refine Sq (Sq (RD hnt (.no :: []) [] [(9,pI 0)] [] [] tv ?_))
   refine Bk ?_
   obtain ⟨hc1,hm⟩ := go1 hm
   refine DW.rangeO (fun (k1 : Nat) (s1 : List Am) => Al [(1,pI p1),(2,rr 1016),(4,rr 1032),(8,rr 1064),(9,pI ((k1 : Nat) : Int))] [(Afp p0),(Afa),(1064,bx [ow 1208 r5.nodes.length,pI r5.next,ow 1448 s1.length,pI p0.next]),(1208,ob0 (Ac r5.nodes)),(1448,ob0 (Af s1))]) Ba hm (Conv.ads [(.o 1064 2,1448,4,elems Ao Ba [])]) ?_
   intro k1 s1 n1 hk1 hs1 he1
   refine Sq (Sq (RD hnt (nn 5 []) [] [(34,pB (decide (((k1 : Nat) : Int) < ((p0.tasks.length : Nat) : Int))))] [] [] tv ?_))
   refine Bx (decide (((k1 : Nat) : Int) < ((p0.tasks.length : Nat) : Int))) ?_ ?_
   ·intro h15
    have hlt1 : k1 < p0.tasks.length := by have := of_decide_eq_true h15; omega
    have hm := hs1 hlt1
    unfold Zg at hm
    refine Sk ?_
    refine Sq ?_
    refine Jn (ι := List Am) (fun (y3 : List Am) => Al [(1,pI p1),(2,rr 1016),(4,rr 1032),(8,rr 1064),(9,pI ((k1 : Nat) : Int))] [(Afp p0),(Afa),(1064,bx [ow 1208 r5.nodes.length,pI r5.next,ow 1448 y3.length,pI p0.next]),(1208,ob0 (Ac r5.nodes)),(1448,ob0 (Af y3))]) (fun y3 => (Uw n1) y3 = some RES) ?_ ?_
    ·intro y3 hm
     unfold Uw at hm
     refine RD hnt (nn 3 []) [] [(9,pI (w64 (((k1 : Nat) : Int) + 1)))] [] [] tv ?_
     exact jD y3 ⟨hlt1,hm⟩ (Conv.tp [(9,pI (w64 (((k1 : Nat) : Int) + 1)))] [] (by kernel_rfl) (.cons rfl (.of_eq (congrArg pI (Bj hlt1 hc1))) .nil) .nil)
    ·refine Bk ?_
     refine Sq (RD hnt (nn 7 []) [34] [(10,rr 1080)] [] [(1080,bx (pm (Ao (Ev p0 k1))))] (an (nn0 k1) (an (ltc hlt1) tv)) ?_)
     refine Sq (DW.regJ (sl2 := [(1,pI p1),(2,rr 1016),(4,rr 1032),(8,rr 1064),(9,pI ((k1 : Nat) : Int)),(10,rr 1080),(51,pB (((Ev p0 k1).id != p1) && ((Ev p0 k1).process != p1)))]) (ob2 := [(Afp p0),(Afa),(1064,bx [ow 1208 r5.nodes.length,pI r5.next,ow 1448 s1.length,pI p0.next]),(1080,bx (pm (Ao (Ev p0 k1)))),(1208,ob0 (Ac r5.nodes)),(1448,ob0 (Af s1))]) ?_ ?_)
     ·rcases bt ((Ev p0 k1).id != p1) with h16 | h16
      ·exact RT hnt (nn 9 (pT :: [])) [(51,pB ((Ev p0 k1).process != p1))] (an5 h16 tv) (by kernel_rfl) (.cons rfl (.of_eq (by rw [h16]; try rfl)) .nil)
      ·exact RT hnt (nn 5 (sk 4 (pF :: []))) [(51,pB false)] (an5 h16 tv) (by kernel_rfl) (.cons rfl (.of_eq (by rw [h16]; try rfl)) .nil)
     ·refine Ah hm ?_ ?_
      ·intro h17 hm
       obtain ⟨g18,hm⟩ := go1 hm
       refine RN hnt (nn 7 []) [(1,pI p1),(2,rr 1016),(4,rr 1032),(8,rr 1064),(9,pI ((k1 : Nat) : Int))] [(Afp p0),(Afa),(1064,bx [ow 1208 r5.nodes.length,pI r5.next,ow 1448 (s1 ++ [(Ev p0 k1)]).length,pI p0.next]),(1208,ob0 (Ac r5.nodes)),(1448,ob0 (Af (s1 ++ [(Ev p0 k1)])))] [] [(1064,.box [ow 1208 r5.nodes.length,pI r5.next,ow 1448 (s1.length + 1),pI p0.next]),(1448,.row 4 (s1.length + 1) (Ef s1.length (Vh s1) (cut 4 [vi (Ev p0 k1).id,vi (Ev p0 k1).process,vi (Ev p0 k1).group,vi (Ev p0 k1).user])))] (an (by omega : (s1.length + 1) * 32 ≤ 140737488355328) tv) (by kernel_rfl) .nil (.cons rfl (.box (.cons .rfl (.cons .rfl (.cons (MLe.ownLen (enc := Ao) (d := Ba) (f := (Ef s1.length (Vh s1) (cut 4 [vi (Ev p0 k1).id,vi (Ev p0 k1).process,vi (Ev p0 k1).group,vi (Ev p0 k1).user]))) (RowIs.cat RowIs.elems (RowIs.lit (enc := Ao) (d := Ba) (n := 1) (f := (cut 4 [vi (Ev p0 k1).id,vi (Ev p0 k1).process,vi (Ev p0 k1).group,vi (Ev p0 k1).user])) [(Ev p0 k1)] rfl (fun | 0,_ => rfl | n + 1,h => absurd h (by omega))))) (.cons .rfl .nil))))) (.cons rfl (BLe.typed (RowIs.cat RowIs.elems (RowIs.lit (enc := Ao) (d := Ba) (n := 1) (f := (cut 4 [vi (Ev p0 k1).id,vi (Ev p0 k1).process,vi (Ev p0 k1).group,vi (Ev p0 k1).user])) [(Ev p0 k1)] rfl (fun | 0,_ => rfl | n + 1,h => absurd h (by omega))))) .nil)) ?_
       exact bD (s1 ++ [(Ev p0 k1)]) hm .refl
      ·intro h17 hm
       refine Sk ?_
       exact bD s1 hm Conv.t0
   ·intro h15
    have hge1 : ¬ k1 < p0.tasks.length := by have := of_decide_eq_false h15; omega
    have hm := he1 hge1
    unfold Zf at hm
    refine DW.exit ?_
    refine Ap ?_
    refine Au ?_
    refine An ?_
    show DW _ _ _ _ _
    refine Sq (RD hnt (nn 3 []) [1,2,8,9,34] [(5,pI 0)] [1016,1064] [(1032,bx [ow 1208 r5.nodes.length,pI r5.next,ow 1448 s1.length,pI p0.next])] tv ?_)
    obtain rfl := sj hm
    exact DW.ret (Ai [Ac r5.nodes,Af s1] [1208,1448] (.tup [.agg [ow 0 r5.nodes.length,pI r5.next,ow 1 s1.length,pI p0.next],pI 0]))
abbrev o131 (ks : List Nat) (b : Bool) (RES : Aa × Int) : Orc := .call 39 ks b (.tup [.agg [ow 0 RES.1.tree.nodes.length,pI RES.1.tree.next,ow 1 RES.1.tasks.length,pI RES.1.next],pI RES.2]) [] [Ac RES.1.tree.nodes,Af RES.1.tasks]

abbrev Abp : Nat × Obj := (1048,bx [.p (.sl .nil 0 0 (fun _ => [])),pI 0,.p (.sl .nil 0 0 (fun _ => [])),pI 0])
theorem AbR (p0 : At) (p1 : Int) (p2 : Int) (RES : Aa × At) (hm : Ho p0 p1 p2 = some RES) : Spec Tryz.prog 8 [rr 0,pI p1,pI p2] [.box (pm (Aq p0))] (.p (.agg (Ab RES.1))) [.box (pm (Aq RES.2))] [] := by
 unfold Ho at hm
 refine SO Tryz.func8 rfl rfl [(0,rr 0),(1,pI p1),(2,pI p2)] [(0,bx (pm (Aq p0)))] ?_
 intro cx hnt
 refine Sq (RD hnt (.no :: []) [] [(6,rr 1048)] [] [(Abp)] tv ?_)
 obtain ⟨r1,hr1,hm⟩ := bo hm
 refine Sq (RD hnt (o4 [] true r1 :: nn 2 []) [] [(7,rr 1056)] [] [(1056,bx [ow 1168 r1.tree.nodes.length,pI r1.tree.next,ow 1169 r1.tasks.length,pI r1.next]),(1168,ob0 (Ac r1.tree.nodes)),(1169,ob0 (Af r1.tasks))] (an (AeI r1 hr1) tv) ?_)
 obtain ⟨r2,hr2,hm⟩ := bo hm
 refine Sq (RD hnt (nn 2 (o113 [0] true r2 :: nn 2 [])) [] [] [1168] [(0,bx (pm (Aq r2.2))),(1056,bx [.p (Bf r2.1.nodes),pI r2.1.next,ow 1169 r1.tasks.length,pI r1.next])] (an (AeD p0 p1 r2 hr2) (an tv tv)) ?_)
 obtain ⟨r3,hr3,hm⟩ := bo hm
 refine Sq (Sq (RD hnt (nn 3 (Tn [0] true r3 :: .no :: [])) [1] [(8,pI r3.1)] [] [(0,bx (pm (Aq r3.2)))] (an (Bo r2.2 (w64 (p1 + 3)) r3 hr3) (an tv tv)) ?_))
 refine Bk ?_
 refine DW.whileO (fun (s1 : At × Aa × Int) => Al [(0,rr 0),(2,pI p2),(6,rr 1048),(7,rr 1056),(8,pI s1.2.2)] [(0,bx (pm (Aq s1.1))),(Abp),(1056,bx (pm (Ab s1.2.1)))]) hm (Conv.frz [1169]) ?_
 intro s1 n1 hm
 unfold Pn at hm
 refine Sq (Sq (RD hnt (nn 2 []) [] [(31,pB (decide (s1.2.2 > 0)))] [] [] tv ?_))
 refine Ah hm ?_ ?_
 ·intro h56 hm
  refine Sk ?_
  refine Sq (Bk ?_)
  obtain ⟨r57,hr57,hm⟩ := bo hm
  refine RD hnt (nn 2 (o118 [0] true r57 :: .no :: [])) [31] [] [] [(0,bx (pm (Aq r57.2))),(1056,bx (pm (Ab r57.1)))] (an (Afn s1.1 s1.2.1 r57 hr57) (an tv tv)) ?_
  refine DW.done ?_
  show DW _ _ _ _ _
  refine RD hnt (nn 3 []) [] [(8,pI (w64 (s1.2.2 - 1)))] [] [] tv ?_
  exact jD (r57.2,r57.1,(w64 (s1.2.2 - 1))) hm Conv.eqK
 ·intro h56 hm
  refine DW.exit ?_
  refine Ap ?_
  refine Au ?_
  refine An ?_
  show DW _ _ _ _ _
  obtain ⟨r58,hr58,hm⟩ := bo hm
  refine Sq (Sq (RD hnt (nn 3 (Tn [0] true r58 :: .no :: [])) [2,8,31] [(9,pI r58.1)] [] [(0,bx (pm (Aq r58.2)))] (an (Bo s1.1 (w64 (p2 + 1)) r58 hr58) (an tv tv)) ?_))
  refine Bk ?_
  refine DW.whileO (fun (s3 : At × Aa × Int) => Al [(0,rr 0),(6,rr 1048),(7,rr 1056),(9,pI s3.2.2)] [(0,bx (pm (Aq s3.1))),(Abp),(1056,bx (pm (Ab s3.2.1)))]) hm Conv.eqK ?_
  intro s3 n3 hm
  unfold Pp at hm
  refine Sq (Sq (RD hnt (nn 2 []) [] [(42,pB (decide (s3.2.2 > 0)))] [] [] tv ?_))
  refine Ah hm ?_ ?_
  ·intro h82 hm
   refine Sk ?_
   refine Sq ?_
   refine Jn (ι := At × Aa) (fun (y13 : At × Aa) => Al [(0,rr 0),(6,rr 1048),(7,rr 1056),(9,pI s3.2.2)] [(0,bx (pm (Aq y13.1))),(Abp),(1056,bx (pm (Ab y13.2)))]) (fun y13 => (Di s3 n3) y13 = some RES) ?_ ?_
   ·intro y13 hm
    unfold Di at hm
    refine RD hnt (nn 3 []) [] [(9,pI (w64 (s3.2.2 - 1)))] [] [] tv ?_
    exact jD (y13.1,y13.2,(w64 (s3.2.2 - 1))) hm Conv.eqK
   ·refine Bk ?_
    obtain ⟨r83,hr83,hm⟩ := bo hm
    refine Sq (RD hnt (nn 3 (o119 [0] true r83 :: .no :: [])) [42] [(10,pI r83.1)] [] [(0,bx (pm (Aq r83.2)))] (an (Nn s3.1 s3.2.1.tree r83 hr83) (an tv tv)) ?_)
    obtain ⟨r84,hr84,hm⟩ := bo hm
    refine Sq (Sq (RD hnt (nn 2 (o126 [] true r84 :: .no :: [])) [] [(52,pB (r84 != 0))] [] [] (an (Acb s3.2.1 r83.1 r84 hr84) tv) ?_))
    refine Ah hm ?_ ?_
    ·intro h85 hm
     refine DW.exit ?_
     exact An (joinKQ (r83.2,s3.2.1) hm Conv.t0)
    ·intro h85 hm
     refine Sk ?_
     obtain ⟨r86,hr86,hm⟩ := bo hm
     obtain ⟨r87,hr87,hm⟩ := bo hm
     refine Sq (Sq (RD hnt (nn 3 (Tn [0] true r86 :: o97 [] true r87 :: nn 8 [])) [10,52] [(11,rr 1088),(13,pI r87.2.2)] [] [(0,bx (pm (Aq r86.2))),(1088,bx [ow 1464 r87.1.tree.nodes.length,pI r87.1.tree.next,ow 1465 r87.1.tasks.length,pI r87.1.next]),(1464,ob0 (Ac r87.1.tree.nodes)),(1465,ob0 (Af r87.1.tasks))] (an (Bo r83.2 3 r86 hr86) (an tv (an (Yt s3.2.1 r83.1 r86.1 r87 hr87) tv))) ?_))
     refine Sq (RD hnt (nn 2 []) [13] [(63,pB (r87.2.2 == 0))] [] [] tv ?_)
     refine Jn (ι := Aa) (fun (y14 : Aa) => Al [(0,rr 0),(6,rr 1048),(7,rr 1056),(9,pI s3.2.2)] [(0,bx (pm (Aq r86.2))),(Abp),(1056,bx (pm (Ab y14)))]) (fun y14 => (Fz s3 n3 r86) y14 = some RES) ?_ ?_
     ·intro y14 hm
      unfold Fz at hm
      obtain ⟨r89,hr89,hm⟩ := bo hm
      refine Sq (Sq (RD hnt (.no :: o116 [0] true r89 :: []) [] [(66,pB r89.1)] [] [(0,bx (pm (Aq r89.2)))] (an (Fh r86.2 3 r89 hr89) (an tv tv)) ?_))
      refine Jn (ι := At × Aa) (fun (y15 : At × Aa) => Al [(0,rr 0),(6,rr 1048),(7,rr 1056),(9,pI s3.2.2)] [(0,bx (pm (Aq y15.1))),(Abp),(1056,bx (pm (Ab y15.2)))]) (fun y15 => (Ej s3 n3) y15 = some RES) ?_ ?_
      ·intro y15 hm
       unfold Ej at hm
       obtain ⟨r94,hr94,hm⟩ := bo hm
       refine Sq (Sq (RD hnt (.no :: o116 [0] true r94 :: []) [] [(80,pB r94.1)] [] [(0,bx (pm (Aq r94.2)))] (an (Fh y15.1 4 r94 hr94) (an tv tv)) ?_))
       refine Jn (ι := At × Aa) (fun (y16 : At × Aa) => Al [(0,rr 0),(6,rr 1048),(7,rr 1056),(9,pI s3.2.2)] [(0,bx (pm (Aq y16.1))),(Abp),(1056,bx (pm (Ab y16.2)))]) (fun y16 => (Ek s3 n3) y16 = some RES) ?_ ?_
       ·intro y16 hm
        unfold Ek at hm
        obtain ⟨r100,hr100,hm⟩ := bo hm
        refine Sq (RD hnt (.no :: o116 [0] true r100 :: []) [] [(97,pB r100.1)] [] [(0,bx (pm (Aq r100.2)))] (an (Fh y16.1 8 r100 hr100) (an tv tv)) ?_)
        refine Ah hm ?_ ?_
        ·intro h101 hm
         obtain ⟨r102,hr102,hm⟩ := bo hm
         obtain ⟨r103,hr103,hm⟩ := bo hm
         refine Sq (RD hnt (nn 3 (o127 [0] true r102 :: o131 [] true r103 :: nn 6 [])) [97] [(19,rr 1152),(20,pI r103.2)] [] [(0,bx (pm (Aq r102.2))),(1152,bx [ow 1824 r103.1.tree.nodes.length,pI r103.1.tree.next,ow 1825 r103.1.tasks.length,pI r103.1.next]),(1824,ob0 (Ac r103.1.tree.nodes)),(1825,ob0 (Af r103.1.tasks))] (an (Oi r100.2 y16.2 r102 hr102) (an tv (an (AiD y16.2 r102.1 r103 hr103) tv))) ?_)
         refine Sq (RD hnt (nn 2 []) [20] [(107,pB (r103.2 == 0))] [] [] tv ?_)
         refine Ah hm ?_ ?_
         ·intro h104 hm
          refine RD hnt (nn 2 []) [19,107] [] [1152] [(1056,bx [ow 1824 r103.1.tree.nodes.length,pI r103.1.tree.next,ow 1825 r103.1.tasks.length,pI r103.1.next])] tv ?_
          exact bD (r102.2,r103.1) hm (Conv.frz [1824,1825])
         ·intro h104 hm
          refine Sk ?_
          exact bD (r102.2,y16.2) hm Conv.t0
        ·intro h101 hm
         refine Sk ?_
         exact bD (r100.2,y16.2) hm Conv.t0
       ·refine Ah hm ?_ ?_
        ·intro h95 hm
         obtain ⟨r96,hr96,hm⟩ := bo hm
         obtain ⟨r97,hr97,hm⟩ := bo hm
         obtain ⟨r98,hr98,hm⟩ := bo hm
         refine Sq (RD hnt (nn 3 (o127 [0] true r96 :: nn 3 (o119 [0] true r97 :: o129 [] true r98 :: nn 6 []))) [80] [(17,rr 1136),(18,pI r98.2)] [] [(0,bx (pm (Aq r97.2))),(1136,bx [ow 1720 r98.1.tree.nodes.length,pI r98.1.tree.next,ow 1721 r98.1.tasks.length,pI r98.1.next]),(1720,ob0 (Ac r98.1.tree.nodes)),(1721,ob0 (Af r98.1.tasks))] (an (Oi r94.2 y15.2 r96 hr96) (an tv (an (Nn r96.2 y15.2.tree r97 hr97) (an tv (an (Adf y15.2 r96.1 r97.1 r98 hr98) tv))))) ?_)
         refine Sq (RD hnt (nn 2 []) [18] [(94,pB (r98.2 == 0))] [] [] tv ?_)
         refine Ah hm ?_ ?_
         ·intro h99 hm
          refine RD hnt (nn 2 []) [17,94] [] [1136] [(1056,bx [ow 1720 r98.1.tree.nodes.length,pI r98.1.tree.next,ow 1721 r98.1.tasks.length,pI r98.1.next])] tv ?_
          exact jD (r97.2,r98.1) hm (Conv.frz [1720,1721])
         ·intro h99 hm
          refine Sk ?_
          exact jD (r97.2,y15.2) hm Conv.t0
        ·intro h95 hm
         refine Sk ?_
         exact jD (r94.2,y15.2) hm Conv.t0
      ·refine Ah hm ?_ ?_
       ·intro h90 hm
        obtain ⟨r91,hr91,hm⟩ := bo hm
        obtain ⟨r92,hr92,hm⟩ := bo hm
        refine Sq (RD hnt (nn 3 (o127 [0] true r91 :: o128 [] true r92 :: nn 8 [])) [66] [(14,rr 1112),(16,pI r92.2.2)] [] [(0,bx (pm (Aq r91.2))),(1112,bx [ow 1576 r92.1.tree.nodes.length,pI r92.1.tree.next,ow 1577 r92.1.tasks.length,pI r92.1.next]),(1576,ob0 (Ac r92.1.tree.nodes)),(1577,ob0 (Af r92.1.tasks))] (an (Oi r89.2 y14 r91 hr91) (an tv (an (AhU y14 r91.1 r92 hr92) tv))) ?_)
        refine Sq (RD hnt (nn 2 []) [16] [(77,pB (r92.2.2 == 0))] [] [] tv ?_)
        refine Ah hm ?_ ?_
        ·intro h93 hm
         refine RD hnt (nn 2 []) [14,77] [] [1112] [(1056,bx [ow 1576 r92.1.tree.nodes.length,pI r92.1.tree.next,ow 1577 r92.1.tasks.length,pI r92.1.next])] tv ?_
         exact jD (r91.2,r92.1) hm (Conv.frz [1576,1577])
        ·intro h93 hm
         refine Sk ?_
         exact jD (r91.2,y14) hm Conv.t0
       ·intro h90 hm
        refine Sk ?_
        exact jD (r89.2,y14) hm Conv.t0
     ·refine Ah hm ?_ ?_
      ·intro h88 hm
       refine RD hnt (nn 2 []) [11,63] [] [1088] [(1056,bx [ow 1464 r87.1.tree.nodes.length,pI r87.1.tree.next,ow 1465 r87.1.tasks.length,pI r87.1.next])] tv ?_
       exact jD r87.1 hm (Conv.frz [1464,1465])
      ·intro h88 hm
       refine Sk ?_
       exact jD s3.2.1 hm Conv.t0
  ·intro h82 hm
   refine DW.exit ?_
   refine Ap ?_
   refine Au ?_
   refine An ?_
   show DW _ _ _ _ _
   refine Sq (RD hnt (nn 2 []) [0,7,9,42] [] [1056] [(1048,bx (pm (Ab s3.2.1)))] tv ?_)
   obtain rfl := sj hm
   exact DW.ret (Ai [.box (pm (Aq s3.1))] [] (.p (.agg (Ab s3.2.1))))
abbrev o112 (ks : List Nat) (b : Bool) (RES : Aa × At) : Orc := .call 8 ks b (.p (.agg (Ab RES.1))) [.box (pm (Aq RES.2))] []

theorem Ot (p0 : Aa) (p1 : Int) (p2 : Int) (RES : Int) (hm : Ea p0 p1 p2 = some RES) : Spec Tryz.prog 49 [.p (.agg (Ab p0)),pI p1,pI p2,.p (.fn 52 [])] [] (pI RES) [] [] := by
 unfold Ea at hm
 refine SO Tryz.func49 rfl rfl [(0,.p (.agg (Ab p0))),(1,pI p1),(2,pI p2),(3,.p (.fn 52 []))] [] ?_
 intro cx hnt
 refine Sq (RD hnt (nn 2 []) [0] [(4,rr 1032)] [] [(1032,bx (pm (Ab p0)))] tv ?_)
 obtain ⟨r1,hr1,hm⟩ := bo hm
 refine Sq (Sq ?_)
 refine Jn (ι := Bool) (fun (y1 : Bool) => Al [(1,pI p1),(2,pI p2),(3,.p (.fn 52 [])),(4,rr 1032),(16,pB y1)] [(1032,bx (pm (Ab p0)))]) (fun y1 => (Eu p0 p1 p2) y1 = some RES) ?_ ?_
 ·intro y1 hm
  unfold Eu at hm
  refine Ah hm ?_ ?_
  ·intro h4 hm
   refine Sq (RK hnt (.no :: []) [(8,pI 1)] [] tv ?_)
   obtain rfl := sj hm
   exact DW.ret (Ai [] [] (pI 1))
  ·intro h4 hm
   refine Sk ?_
   obtain ⟨r5,hr5,hm⟩ := bo hm
   refine Sq (Sq (RD hnt (nn 3 (o30 [] true r5 :: .no :: [])) [16] [(21,pB (decide (r5 < 0)))] [] [] (an (Fs p0.tree p2 r5 hr5) tv) ?_))
   refine Ah hm ?_ ?_
   ·intro h6 hm
    refine Sq (RK hnt (.no :: []) [(8,pI 4)] [] tv ?_)
    obtain rfl := sj hm
    exact DW.ret (Ai [] [] (pI 4))
   ·intro h6 hm
    refine Sk ?_
    obtain ⟨r7,hr7,hm⟩ := bo hm
    refine Sq (Sq (RK hnt (nn 5 (o39 [] true r7 :: .no :: [])) [(28,pB (!r7))] [] (an (Jm p0.tree p1 p2 r7 hr7) tv) ?_))
    refine Ah hm ?_ ?_
    ·intro h8 hm
     refine Sq (RK hnt (.no :: []) [(8,pI 8)] [] tv ?_)
     obtain rfl := sj hm
     exact DW.ret (Ai [] [] (pI 8))
    ·intro h8 hm
     refine Sk ?_
     refine Sq (RK hnt (.no :: []) [(8,pI 0)] [] tv ?_)
     obtain rfl := sj hm
     exact DW.ret (Ai [] [] (pI 0))
 ·rcases bt (!r1) with h2 | h2
  ·replace hm := Ay h2 hm
   refine RD hnt (.no :: o38 [] true r1 :: nn 2 (sk 3 (pT :: []))) [] [(16,pB true)] [] [] (an (Bp p1 r1 hr1) (an4 h2 tv)) ?_
   exact jD true hm Conv.eqK
  ·replace hm := Az h2 hm
   obtain ⟨r3,hr3,hm⟩ := bo hm
   refine RD hnt (.no :: o38 [] true r1 :: nn 3 (o49 [] true r3 :: .no :: pF :: [])) [] [(16,pB (!r3))] [] [] (an (Bp p1 r1 hr1) (an2 h2 (an (Dh p0 r3 hr3) (an2 h2 tv)))) ?_
   exact jD (!r3) hm Conv.eqK
abbrev o133 (ks : List Nat) (b : Bool) (RES : Int) : Orc := .call 49 ks b (pI RES) [] []

abbrev Tj (p0 : Ae) (k1 : Nat) := (p0.nodes.getD k1 (default : Ag))
abbrev Ahh (p0 : Ae) : Nat × MV := (10,pI ((p0.nodes.length : Nat) : Int))
theorem Aem (p0 : Ae) (p1 : Int) (RES : List Int) (hm : Ox p0 p1 = some RES) : Spec Tryz.prog 135 [.p (.agg (Aj p0)),pI p1] [] (ow 0 RES.length) [] [roI RES] := by
 unfold Ox at hm
 refine SO Tryz.func135 rfl rfl [(0,.p (.agg (Aj p0))),(1,pI p1)] [] ?_
 intro cx hnt
 refine Sq (RK hnt (nn 2 []) [(1,pI p1),(2,rr 1016)] [(1016,bx (pm (Aj p0)))] tv ?_)
 refine Sq (RD hnt (.no :: []) [] [(5,.p (.sl .nil 0 0 (fun _ => [])))] [] [] tv ?_)
 refine Sq (Sq (RD hnt (nn 4 []) [2] [(9,.p (Bf p0.nodes)),(Ahh p0),(11,pI 0)] [1016] [] tv ?_))
 refine Bk ?_
 obtain ⟨hc1,hm⟩ := go1 hm
 refine DW.rangeO (fun (k1 : Nat) (s1 : List Int) => Al [(1,pI p1),(5,ow 1184 s1.length),(9,.p (Bf p0.nodes)),(Ahh p0),(11,pI ((k1 : Nat) : Int))] [(1184,ob0 (roI s1))]) Ar hm (Conv.ads [(.s 5,1184,1,elems Cl 0 [])]) ?_
 intro k1 s1 n1 hk1 hs1 he1
 refine Sq (RD hnt (.no :: []) [] [(12,pB (decide (((k1 : Nat) : Int) < ((p0.nodes.length : Nat) : Int))))] [] [] tv ?_)
 refine Sq (Bx (decide (((k1 : Nat) : Int) < ((p0.nodes.length : Nat) : Int))) ?_ ?_)
 ·intro h8
  have hlt1 : k1 < p0.nodes.length := by have := of_decide_eq_true h8; omega
  have hm := hs1 hlt1
  unfold Uu at hm
  refine Sk ?_
  refine Sq ?_
  refine Jn (ι := List Int) (fun (y3 : List Int) => Al [(1,pI p1),(5,ow 1184 y3.length),(9,.p (Bf p0.nodes)),(Ahh p0),(11,pI ((k1 : Nat) : Int))] [(1184,ob0 (roI y3))]) (fun y3 => (Lq n1) y3 = some RES) ?_ ?_
  ·intro y3 hm
   unfold Lq at hm
   refine RD hnt (nn 2 []) [] [(11,pI (w64 (((k1 : Nat) : Int) + 1)))] [] [] tv ?_
   exact jD y3 ⟨hlt1,hm⟩ (Conv.tp [(11,pI (w64 (((k1 : Nat) : Int) + 1)))] [] (by kernel_rfl) (.cons rfl (.of_eq (congrArg pI (Bj hlt1 hc1))) .nil) .nil)
  ·refine Bk ?_
   refine Sq (RD hnt (nn 4 []) [12] [(7,rr 1056)] [] [(1056,bx (pm (Ak (Tj p0 k1))))] (an (nn0 k1) (an (ltc hlt1) tv)) ?_)
   refine Sq (RD hnt (nn 4 []) [] [(18,pB ((Tj p0 k1).parent == p1))] [] [] tv ?_)
   refine Ah hm ?_ ?_
   ·intro h9 hm
    obtain ⟨g10,hm⟩ := go1 hm
    refine RN hnt (nn 6 []) [(1,pI p1),(5,ow 1184 (s1 ++ [(Tj p0 k1).id]).length),(9,.p (Bf p0.nodes)),(Ahh p0),(11,pI ((k1 : Nat) : Int))] [(1184,ob0 (roI (s1 ++ [(Tj p0 k1).id])))] [(5,ow 1184 (s1.length + 1))] [(1184,.row 1 (s1.length + 1) (Ef s1.length (elI s1) (cut 1 [vi (Tj p0 k1).id])))] (an (by omega : (s1.length + 1) * 8 ≤ 140737488355328) tv) (by kernel_rfl) (.cons rfl (MLe.ownLen (enc := Cl) (d := 0) (f := (Ef s1.length (elI s1) (cut 1 [vi (Tj p0 k1).id]))) (RowIs.cat RowIs.elems (RowIs.lit (enc := Cl) (d := 0) (n := 1) (f := (cut 1 [vi (Tj p0 k1).id])) [(Tj p0 k1).id] rfl (fun | 0,_ => rfl | n + 1,h => absurd h (by omega))))) .nil) (.cons rfl (BLe.typed (RowIs.cat RowIs.elems (RowIs.lit (enc := Cl) (d := 0) (n := 1) (f := (cut 1 [vi (Tj p0 k1).id])) [(Tj p0 k1).id] rfl (fun | 0,_ => rfl | n + 1,h => absurd h (by omega))))) .nil) ?_
    exact bD (s1 ++ [(Tj p0 k1).id]) hm .refl
   ·intro h9 hm
    refine Sk ?_
    exact bD s1 hm Conv.t0
 ·intro h8
  have hge1 : ¬ k1 < p0.nodes.length := by have := of_decide_eq_false h8; omega
  have hm := he1 hge1
  unfold Aaz at hm
  refine DW.exit ?_
  refine Ap ?_
  refine Au ?_
  refine An ?_
  show DW _ _ _ _ _
  refine Sq (RK hnt (nn 2 []) [(4,ow 1184 s1.length)] [(1184,ob0 (roI s1))] tv ?_)
  obtain rfl := sj hm
  exact DW.ret (Ai [roI s1] [1184] (ow 0 s1.length))
abbrev o136 (ks : List Nat) (b : Bool) (RES : List Int) : Orc := .call 135 ks b (ow 0 RES.length) [] [roI RES]

abbrev c137e1 := ({ id := 0,parent := 0,name := ByteArray.empty,control := 0,kind := 0,owner := 0 } : Ag)
theorem AcR (p0 : List Ag) (p1 : Int) (p2 : Int) (RES : Nat × (List Ag)) (hm : Kq p0 p1 p2 = some RES) : Spec Tryz.prog 136 [ow 0 p0.length,pI p1,pI p2] [Ac p0] (ow 0 RES.1) [Ac RES.2] [] := by
 unfold Kq at hm
 refine SO Tryz.func136 rfl rfl [(0,ow 0 p0.length),(1,pI p1),(2,pI p2)] [(0,ob0 (Ac p0))] ?_
 intro cx hnt
 refine Sq (RD hnt (.no :: []) [] [] [] [] tv ?_)
 obtain ⟨g1,hm⟩ := go1 hm
 refine Sq (RD hnt (nn 6 []) [] [] [] [] (an g1.1 (an g1.2.1 (an g1.2.2.1 (an g1.2.2.2 tv)))) ?_)
 refine Sq (Sq (RD hnt (nn 3 []) [] [(16,pB (p1 == p2))] [] [] tv ?_))
 refine Ah hm ?_ ?_
 ·intro h2 hm
  refine Sq (RK hnt (nn 2 []) [(6,ow 0 p0.length)] [(0,ob0 (Ac p0))] tv ?_)
  obtain rfl := sj hm
  exact DW.ret (Ai [Ac p0] [] (ow 0 p0.length))
 ·intro h2 hm
  refine Sk ?_
  refine Sq (RD hnt (nn 3 []) [16] [(7,pI ((p0.length : Nat) : Int))] [] [] tv ?_)
  obtain ⟨g3,g4,g5,hm⟩ := go3 hm
  refine Sq (RN hnt (nn 8 []) [(0,ow 0 ((Int.toNat p1) + (Cc p0.length (Int.toNat p2)))),(7,pI ((p0.length : Nat) : Int))] [(0,ob0 (Ac (Ra p0 (0 + (Int.toNat p1)) (Cc p0.length (Int.toNat p2)) ((p0.drop (Int.toNat p2)).take (Cc p0.length (Int.toNat p2))))))] [] [(0,.row 6 p0.length (Od (Il p0) (0 + (Int.toNat p1)) (Cc p0.length (Int.toNat p2)) (shF (Int.toNat p2) (Il p0))))] (an (by omega : (0 : Int) ≤ 0) (an (by omega : (0 : Int) ≤ p1) (an (by omega : p1 ≤ ((p0.length : Nat) : Int)) (an (by omega : (0 : Int) ≤ p2) (an (by omega : p2 ≤ ((p0.length : Nat) : Int)) (an (by omega : ((p0.length : Nat) : Int) ≤ ((p0.length : Nat) : Int)) (an g5.1 (an g5.2 tv)))))))) (by kernel_rfl) .nil (.cons rfl (BLe.typed (RowIs.over RowIs.elems (RowIs.sub RowIs.elems (by first | omega | (simp only [Tp,Uc] at *; omega))) (Nat.le_refl _) g5.1)) .nil) ?_)
  generalize (Ra p0 (0 + (Int.toNat p1)) (Cc p0.length (Int.toNat p2)) ((p0.drop (Int.toNat p2)).take (Cc p0.length (Int.toNat p2)))) = G1 at hm ⊢
  obtain ⟨g6,g7,hm⟩ := go2 hm
  refine Sq (RN hnt (nn 4 (pF :: .no :: [])) [(0,ow 0 ((Int.toNat p1) + (Cc p0.length (Int.toNat p2))))] [(0,ob0 (Ac (Si G1 ((Int.toNat p1) + (Cc p0.length (Int.toNat p2))) (Cc p0.length ((Int.toNat p1) + (Cc p0.length (Int.toNat p2)))) (c137e1))))] [] [(0,.row 6 G1.length (Od (Il G1) ((Int.toNat p1) + (Cc p0.length (Int.toNat p2))) (Cc p0.length ((Int.toNat p1) + (Cc p0.length (Int.toNat p2)))) (fun _ => [vi 0,vi 0,vs ByteArray.empty,vi 0,vi 0,vi 0])))] (an g6.1 (an g6.2.1 (an g6.2.2 (an g7 tv)))) (by kernel_rfl) .nil (.cons rfl (BLe.typed (RowIs.fill RowIs.elems (c137e1) rfl (by first | exact g7 | omega))) .nil) ?_)
  refine Sq (RD hnt (nn 2 []) [0] [(6,ow 0 ((Int.toNat p1) + (Cc p0.length (Int.toNat p2))))] [] [] tv ?_)
  obtain rfl := sj hm
  exact DW.ret (Ai [Ac (Si G1 ((Int.toNat p1) + (Cc p0.length (Int.toNat p2))) (Cc p0.length ((Int.toNat p1) + (Cc p0.length (Int.toNat p2)))) (c137e1))] [] (ow 0 ((Int.toNat p1) + (Cc p0.length (Int.toNat p2)))))
abbrev o137 (ks : List Nat) (b : Bool) (RES : Nat × (List Ag)) : Orc := .call 136 ks b (ow 0 RES.1) [Ac RES.2] []

abbrev AgP : Nat × Body := (1032,.box [.p (.sl .nil 0 0 (fun _ => [])),pI 0])
abbrev Ahs : Nat × Obj := (1032,bx [.p (Bf []),pI 0])
theorem Ahd (p0 : Ae) (p1 : Int) (RES : Ae × Int) (hm : Vc p0 p1 = some RES) : Spec Tryz.prog 97 [.p (.agg (Aj p0)),pI p1] [] (.p (.tup [.agg (Aj RES.1),vi RES.2])) [] [] := by
 unfold Vc at hm
 refine SO Tryz.func97 rfl rfl [(0,.p (.agg (Aj p0))),(1,pI p1)] [] ?_
 intro cx hnt
 refine Sq (RK hnt (nn 3 []) [(1,pI p1),(2,rr 1016),(4,rr 1032)] [(1016,bx (pm (Aj p0))),(1032,bx [.p (.sl .nil 0 0 (fun _ => [])),pI 0])] tv ?_)
 obtain ⟨r1,hr1,hm⟩ := bo hm
 refine Sq (RD hnt (nn 2 (o30 [] true r1 :: .no :: [])) [] [(6,pI r1)] [] [] (an (Fs p0 p1 r1 hr1) tv) ?_)
 refine Sq (Bk ?_)
 obtain ⟨r2,hr2,hm⟩ := bo hm
 refine Sq (RD hnt (.no :: o33 [] true r2 :: nn 2 []) [] [(11,pB (!r2))] [] [] (an (It p0 r2 hr2) tv) ?_)
 refine Ah hm ?_ ?_
 ·intro h3 hm
  refine Sq (RD hnt (nn 3 []) [1,2,6,11] [(5,pI 1)] [1016] [] tv ?_)
  refine DW.conv (τ := Al [(4,rr 1032),(5,pI 1)] [(Ahs)]) (Conv.tp [] [(AgP)] (by kernel_rfl) .nil (.cons rfl (.box (.cons MLe.nilL (.cons .rfl .nil))) .nil)) ?_
  obtain rfl := sj hm
  exact DW.ret (Ai [] [] (.p (.tup [.agg [Bf [],vi 0],vi 1])))
 ·intro h3 hm
  refine Sq (RD hnt (nn 3 []) [11] [(16,pB (decide (r1 < 0)))] [] [] tv ?_)
  refine Ah hm ?_ ?_
  ·intro h4 hm
   refine Sq (RD hnt (nn 3 []) [1,2,6,16] [(5,pI 4)] [1016] [] tv ?_)
   refine DW.conv (τ := Al [(4,rr 1032),(5,pI 4)] [(Ahs)]) (Conv.tp [] [(AgP)] (by kernel_rfl) .nil (.cons rfl (.box (.cons MLe.nilL (.cons .rfl .nil))) .nil)) ?_
   obtain rfl := sj hm
   exact DW.ret (Ai [] [] (.p (.tup [.agg [Bf [],vi 0],vi 4])))
  ·intro h4 hm
   refine Sq (RD hnt (nn 3 []) [16] [(20,pB (p1 == 1))] [] [] tv ?_)
   refine Ah hm ?_ ?_
   ·intro h5 hm
    refine Sq (RD hnt (nn 3 []) [1,2,6,20] [(5,pI 9)] [1016] [] tv ?_)
    refine DW.conv (τ := Al [(4,rr 1032),(5,pI 9)] [(Ahs)]) (Conv.tp [] [(AgP)] (by kernel_rfl) .nil (.cons rfl (.box (.cons MLe.nilL (.cons .rfl .nil))) .nil)) ?_
    obtain rfl := sj hm
    exact DW.ret (Ai [] [] (.p (.tup [.agg [Bf [],vi 0],vi 9])))
   ·intro h5 hm
    obtain ⟨r6,hr6,hm⟩ := bo hm
    refine Sq (RD hnt (nn 2 (o136 [] true r6 :: nn 3 [])) [1,20] [(24,pB (decide (((r6.length : Nat) : Int) > 0)))] [] [] (an (Aem p0 p1 r6 hr6) tv) ?_)
    refine Ah hm ?_ ?_
    ·intro h7 hm
     refine Sq (RD hnt (nn 3 []) [2,6,24] [(5,pI 6)] [1016] [] tv ?_)
     refine DW.conv (τ := Al [(4,rr 1032),(5,pI 6)] [(Ahs)]) (Conv.tp [] [(AgP)] (by kernel_rfl) .nil (.cons rfl (.box (.cons MLe.nilL (.cons .rfl .nil))) .nil)) ?_
     obtain rfl := sj hm
     exact DW.ret (Ai [] [] (.p (.tup [.agg [Bf [],vi 0],vi 6])))
    ·intro h7 hm
     refine Sk ?_
     refine DW.done ?_
     show DW _ _ _ _ _
     obtain ⟨r8,hr8,hm⟩ := bo hm
     refine Sq (RD hnt (.no :: o94 [] true r8 :: nn 2 []) [2,24] [(7,rr 1056)] [1016] [(1056,bx [ow 1256 r8.nodes.length,pI r8.next]),(1256,ob0 (Ac r8.nodes))] (an (Acu p0 r8 hr8) tv) ?_)
     obtain ⟨r9,hr9,hm⟩ := bo hm
     obtain ⟨g10,g11,hm⟩ := go2 hm
     refine Sq (RD hnt (nn 5 (o137 [1256] true r9 :: nn 2 [])) [6] [] [] [(1056,bx [ow 1256 r9.1,pI r8.next]),(1256,ob0 (Ac r9.2))] (an (AcR r8.nodes r1 (w64 (r1 + 1)) r9 hr9) (an (⟨rfl,g10⟩ : Body.same (Ac r8.nodes) (Ac r9.2)) tv)) ?_)
     refine Sq (RD hnt (nn 3 []) [7] [(5,pI 0)] [1056] [(1032,bx [ow 1256 r9.1,pI r8.next])] tv ?_)
     refine DW.conv (τ := Al [(4,rr 1032),(5,pI 0)] [(1032,bx [.p (Bf (r9.2.take r9.1)),pI r8.next])]) (Conv.trans (τ := Al [(4,rr 1032),(5,pI 0)] [(1032,bx [.p (.sl .unk 6 r9.1 (Il r9.2)),pI r8.next])]) (Conv.frz [1256]) (Conv.tp [] [(1032,.box [.p (.sl .unk 6 r9.1 (Il r9.2)),pI r8.next])] (by kernel_rfl) .nil (.cons rfl (.box (.cons (MLe.typed (RowIs.take RowIs.elems (by first | omega | (simp only [Tp,Uc] at *; omega)))) (.cons .rfl .nil))) .nil))) ?_
     obtain rfl := sj hm
     exact DW.ret (Ai [] [] (.p (.tup [.agg [Bf (r9.2.take r9.1),vi r8.next],vi 0])))
abbrev o135 (ks : List Nat) (b : Bool) (RES : Ae × Int) : Orc := .call 97 ks b (.p (.tup [.agg (Aj RES.1),vi RES.2])) [] []

abbrev c134e1 : Nat × Body := (1032,.box [.p (.sl .nil 0 0 (fun _ => [])),pI 0,ow 100000 0,pI 0])
abbrev c134e2 : Nat × Obj := (1032,bx [.p (.sl .nil 0 0 (fun _ => [])),pI 0,ow 100000 0,pI 0])
abbrev c134e3 : Nat × Obj := (1032,bx [.p (Bf []),pI 0,ow 100000 0,pI 0])
theorem AfH (p0 : Aa) (p1 : Int) (RES : Aa × Int) (hm : Rm p0 p1 = some RES) : Spec Tryz.prog 54 [.p (.agg (Ab p0)),pI p1] [] (.tup [.agg [.p (Bf RES.1.tree.nodes),pI RES.1.tree.next,ow 0 RES.1.tasks.length,pI RES.1.next],pI RES.2]) [] [Af RES.1.tasks] := by
 unfold Rm at hm
 refine SO Tryz.func54 rfl rfl [(0,.p (.agg (Ab p0))),(1,pI p1)] [] ?_
 intro cx hnt
 refine Sq (RK hnt (nn 3 []) [(1,pI p1),(2,rr 1016),(4,rr 1032)] [(1016,bx (pm (Ab p0))),(1032,bx [.p (.sl .nil 0 0 (fun _ => [])),pI 0,.p (.sl .nil 0 0 (fun _ => [])),pI 0])] tv ?_)
 obtain ⟨r1,hr1,hm⟩ := bo hm
 refine Sq (Sq (RD hnt (.no :: o51 [] true r1 :: .no :: []) [] [(11,pB (!r1))] [] [] (an (AbK p0 r1 hr1) tv) ?_))
 refine Ah hm ?_ ?_
 ·intro h2 hm
  refine Sq (RD hnt (nn 3 []) [1,2,11] [(5,pI 1)] [1016] [] tv ?_)
  refine DW.conv (τ := Al [(4,rr 1032),(5,pI 1)] [(c134e3),(100000,ob0 (Af []))]) (Conv.trans (τ := Al [(4,rr 1032),(5,pI 1)] [(c134e2),(100000,ob0 (Af []))]) (Conv.ads [(.o 1032 2,100000,4,elems Ao Ba [])]) (Conv.tp [] [(c134e1)] (by kernel_rfl) .nil (.cons rfl (.box (.cons MLe.nilL (.cons .rfl (.cons .rfl (.cons .rfl .nil))))) .nil))) ?_
  obtain rfl := sj hm
  exact DW.ret (Ai [Af []] [100000] (.tup [.agg [.p (Bf []),pI 0,ow 0 0,pI 0],pI 1]))
 ·intro h2 hm
  refine Sk ?_
  obtain ⟨r3,hr3,hm⟩ := bo hm
  refine Sq (RD hnt (nn 3 (o135 [] true r3 :: nn 6 [])) [11] [(6,rr 1048),(7,pI r3.2)] [] [(1048,bx (pm (Aj r3.1)))] (an (Ahd p0.tree p1 r3 hr3) tv) ?_)
  refine Sq (Sq (RD hnt (nn 2 []) [] [(21,pB (r3.2 != 0))] [] [] tv ?_))
  refine Ah hm ?_ ?_
  ·intro h4 hm
   refine Sq (RD hnt (nn 4 []) [1,2,6,7,21] [(5,pI r3.2)] [1016,1048] [] tv ?_)
   refine DW.conv (τ := Al [(4,rr 1032),(5,pI r3.2)] [(c134e3),(100000,ob0 (Af []))]) (Conv.trans (τ := Al [(4,rr 1032),(5,pI r3.2)] [(c134e2),(100000,ob0 (Af []))]) (Conv.ads [(.o 1032 2,100000,4,elems Ao Ba [])]) (Conv.tp [] [(c134e1)] (by kernel_rfl) .nil (.cons rfl (.box (.cons MLe.nilL (.cons .rfl (.cons .rfl (.cons .rfl .nil))))) .nil))) ?_
   obtain rfl := sj hm
   exact DW.ret (Ai [Af []] [100000] (.tup [.agg [.p (Bf []),pI 0,ow 0 0,pI 0],pI r3.2]))
  ·intro h4 hm
   refine Sk ?_
   obtain ⟨r5,hr5,hm⟩ := bo hm
   refine Sq (Sq (RD hnt (nn 2 (o58 [] true r5 :: nn 2 [])) [1,7,21] [(28,pB (decide (((r5.length : Nat) : Int) > 0)))] [] [] (an (Mj p0 p1 r5 hr5) tv) ?_))
   refine Ah hm ?_ ?_
   ·intro h6 hm
    refine Sq (RD hnt (nn 3 []) [2,6,28] [(5,pI 6)] [1016,1048] [] tv ?_)
    refine DW.conv (τ := Al [(4,rr 1032),(5,pI 6)] [(c134e3),(100000,ob0 (Af []))]) (Conv.trans (τ := Al [(4,rr 1032),(5,pI 6)] [(c134e2),(100000,ob0 (Af []))]) (Conv.ads [(.o 1032 2,100000,4,elems Ao Ba [])]) (Conv.tp [] [(c134e1)] (by kernel_rfl) .nil (.cons rfl (.box (.cons MLe.nilL (.cons .rfl (.cons .rfl (.cons .rfl .nil))))) .nil))) ?_
    obtain rfl := sj hm
    exact DW.ret (Ai [Af []] [100000] (.tup [.agg [.p (Bf []),pI 0,ow 0 0,pI 0],pI 6]))
   ·intro h6 hm
    refine Sk ?_
    obtain ⟨r7,hr7,hm⟩ := bo hm
    refine Sq (RD hnt (.no :: o95 [] true r7 :: nn 2 []) [2,28] [(8,rr 1064)] [1016] [(1064,bx [ow 1248 r7.tree.nodes.length,pI r7.tree.next,ow 1249 r7.tasks.length,pI r7.next]),(1248,ob0 (Ac r7.tree.nodes)),(1249,ob0 (Af r7.tasks))] (an (Nw p0 r7 hr7) tv) ?_)
    refine Sq (RD hnt (nn 3 []) [6] [] [1048,1248] [(1064,bx [.p (Bf r3.1.nodes),pI r3.1.next,ow 1249 r7.tasks.length,pI r7.next])] tv ?_)
    refine Sq (RD hnt (nn 3 []) [8] [(5,pI 0)] [1064] [(1032,bx [.p (Bf r3.1.nodes),pI r3.1.next,ow 1249 r7.tasks.length,pI r7.next])] tv ?_)
    obtain rfl := sj hm
    exact DW.ret (Ai [Af r7.tasks] [1249] (.tup [.agg [.p (Bf r3.1.nodes),pI r3.1.next,ow 0 r7.tasks.length,pI r7.next],pI 0]))
abbrev o134 (ks : List Nat) (b : Bool) (RES : Aa × Int) : Orc := .call 54 ks b (.tup [.agg [.p (Bf RES.1.tree.nodes),pI RES.1.tree.next,ow 0 RES.1.tasks.length,pI RES.1.next],pI RES.2]) [] [Af RES.1.tasks]

theorem Aeo (p0 : Aa) (p1 : Int) (p2 : Int) (RES : Aa × Int) (hm : Oe p0 p1 p2 = some RES) : Spec Tryz.prog 17 [.p (.agg (Ab p0)),pI p1,pI p2] [] (.tup [.agg [.p (Bf RES.1.tree.nodes),pI RES.1.tree.next,ow 0 RES.1.tasks.length,pI RES.1.next],pI RES.2]) [] [Af RES.1.tasks] := by
 unfold Oe at hm
 refine SO Tryz.func17 rfl rfl [(0,.p (.agg (Ab p0))),(1,pI p1),(2,pI p2)] [] ?_
 intro cx hnt
 refine Sq (RD hnt (nn 3 []) [0] [(3,rr 1024),(6,rr 1048)] [] [(1024,bx (pm (Ab p0))),(1048,bx [.p (.sl .nil 0 0 (fun _ => [])),pI 0,.p (.sl .nil 0 0 (fun _ => [])),pI 0])] tv ?_)
 obtain ⟨r1,hr1,hm⟩ := bo hm
 refine Sq (Sq (RD hnt (nn 3 (o133 [] true r1 :: .no :: [])) [1] [(8,pI r1)] [] [] (an (Ot p0 p1 p2 r1 hr1) tv) ?_))
 refine Sq (RD hnt (nn 2 []) [] [(14,pB (r1 != 0))] [] [] tv ?_)
 refine Ah hm ?_ ?_
 ·intro h2 hm
  obtain ⟨r3,hr3,hm⟩ := bo hm
  refine Sq (RK hnt (.no :: o100 [] true r3 :: nn 4 []) [(6,rr 1048),(7,pI r3.2)] [(1048,bx [ow 1128 r3.1.tree.nodes.length,pI r3.1.tree.next,ow 1129 r3.1.tasks.length,pI r3.1.next]),(1128,ob0 (Ac r3.1.tree.nodes)),(1129,ob0 (Af r3.1.tasks))] (an (Dr r1 r3 hr3) tv) ?_)
  obtain rfl := sj hm
  exact DW.ret (Ai [Af r3.1.tasks] [1129] (.tup [.agg [.p (Bf r3.1.tree.nodes),pI r3.1.tree.next,ow 0 r3.1.tasks.length,pI r3.1.next],pI r3.2]))
 ·intro h2 hm
  refine Sk ?_
  obtain ⟨r4,hr4,hm⟩ := bo hm
  refine Sq (RK hnt (nn 2 (o134 [] true r4 :: nn 4 [])) [(6,rr 1048),(7,pI r4.2)] [(1048,bx [.p (Bf r4.1.tree.nodes),pI r4.1.tree.next,ow 1168 r4.1.tasks.length,pI r4.1.next]),(1168,ob0 (Af r4.1.tasks))] (an (AfH p0 p2 r4 hr4) tv) ?_)
  obtain rfl := sj hm
  exact DW.ret (Ai [Af r4.1.tasks] [1168] (.tup [.agg [.p (Bf r4.1.tree.nodes),pI r4.1.tree.next,ow 0 r4.1.tasks.length,pI r4.1.next],pI r4.2]))
abbrev o132 (ks : List Nat) (b : Bool) (RES : Aa × Int) : Orc := .call 17 ks b (.tup [.agg [.p (Bf RES.1.tree.nodes),pI RES.1.tree.next,ow 0 RES.1.tasks.length,pI RES.1.next],pI RES.2]) [] [Af RES.1.tasks]

theorem Oq (p0 : Int) (RES : Bool) (hm : Rx p0 = some RES) : Spec Tryz.prog 138 [pI p0] [] (pB RES) [] [] := by
 unfold Rx at hm
 refine SO Tryz.func138 rfl rfl [(0,pI p0)] [] ?_
 intro cx hnt
 refine Sq (RK hnt (.no :: []) [(0,pI p0)] [] tv ?_)
 refine Sq (DW.regJ (sl2 := [(2,pB ((decide (p0 ≥ 0)) && ((Ax .i64 p0 31) == 0)))]) (ob2 := []) ?_ ?_)
 ·rcases bt (decide (p0 ≥ 0)) with h1 | h1
  ·exact RT hnt (nn 6 (pT :: .no :: [])) [(2,pB ((Ax .i64 p0 31) == 0))] (an4 h1 tv) (by kernel_rfl) (.cons rfl (.of_eq (by rw [h1]; try rfl)) .nil)
  ·exact RT hnt (nn 3 (sk 3 (pF :: .no :: []))) [(2,pB false)] (an4 h1 tv) (by kernel_rfl) (.cons rfl (.of_eq (by rw [h1]; try rfl)) .nil)
 ·refine DW.ret ?_
  obtain rfl := sj hm
  exact Ai [] [] (pB ((decide (p0 ≥ 0)) && ((Ax .i64 p0 31) == 0)))
abbrev o141 (ks : List Nat) (b : Bool) (RES : Bool) : Orc := .call 138 ks b (pB RES) [] []

abbrev c140e1 (r42 : Aa) (r8 : Int) (p0 : Aa) (p3 : Int) (p2 : Int) := ({ id := (r42.tree.nodes.getD (Int.toNat r8) Ar).id,parent := (r42.tree.nodes.getD (Int.toNat r8) Ar).parent,name := (r42.tree.nodes.getD (Int.toNat r8) Ar).name,control := (kor .i64 (Ax .i64 (p0.tree.nodes.getD (Int.toNat r8) Ar).control p3) p2),kind := (r42.tree.nodes.getD (Int.toNat r8) Ar).kind,owner := (r42.tree.nodes.getD (Int.toNat r8) Ar).owner } : Ag)
abbrev AcW : Nat × Obj := (1064,bx [.p (.sl .nil 0 0 (fun _ => [])),pI 0,.p (.sl .nil 0 0 (fun _ => [])),pI 0])
abbrev c140e3 (r42 : Aa) (r8 : Int) (p0 : Aa) (p3 : Int) (p2 : Int) := (Bv (Il r42.tree.nodes) (Int.toNat r8) [vi (r42.tree.nodes.getD (Int.toNat r8) Ar).id,vi (r42.tree.nodes.getD (Int.toNat r8) Ar).parent,vs (r42.tree.nodes.getD (Int.toNat r8) Ar).name,vi (kor .i64 (Ax .i64 (p0.tree.nodes.getD (Int.toNat r8) Ar).control p3) p2),vi (r42.tree.nodes.getD (Int.toNat r8) Ar).kind,vi (r42.tree.nodes.getD (Int.toNat r8) Ar).owner])
abbrev AeZ : Nat × Obj := (1064,bx [ow 100000 0,pI 0,ow 100001 0,pI 0])
abbrev Zx (p0 : Aa) (r8 : Int) := (p0.tree.nodes.getD (Int.toNat r8) Ar)
abbrev AeM (p0 : Aa) (k1 : Nat) := (p0.tree.nodes.getD k1 (default : Ag))
abbrev AeQ (p0 : Aa) : Nat × Obj := (1032,bx (pm (Ab p0)))
abbrev Afi (r42 : Aa) (r8 : Int) (p0 : Aa) (p3 : Int) (p2 : Int) := (r42.tree.nodes.set (Int.toNat r8) (c140e1 r42 r8 p0 p3 p2))
theorem AfF (p0 : Aa) (p1 : Int) (p2 : Int) (p3 : Int) (RES : Aa × Int) (hm : Ri p0 p1 p2 p3 = some RES) : Spec Tryz.prog 100 [.p (.agg (Ab p0)),pI p1,pI p2,pI p3] [] (.tup [.agg [ow 0 RES.1.tree.nodes.length,pI RES.1.tree.next,ow 1 RES.1.tasks.length,pI RES.1.next],pI RES.2]) [] [Ac RES.1.tree.nodes,Af RES.1.tasks] := by
 unfold Ri at hm
 refine SO Tryz.func100 rfl rfl [(0,.p (.agg (Ab p0))),(1,pI p1),(2,pI p2),(3,pI p3)] [] ?_
 intro cx hnt
 refine Sq (RD hnt (nn 3 []) [0] [(4,rr 1032),(8,rr 1064)] [] [(AeQ p0),(AcW)] tv ?_)
 obtain ⟨r1,hr1,hm⟩ := bo hm
 refine Sq (Sq ?_)
 refine Jn (ι := Bool) (fun (y1 : Bool) => Al [(1,pI p1),(2,pI p2),(3,pI p3),(4,rr 1032),(8,rr 1064),(34,pB y1)] [(AeQ p0),(AcW)]) (fun y1 => (Ji p0 p1 p2 p3) y1 = some RES) ?_ ?_
 ·intro y1 hm
  unfold Ji at hm
  refine Ah hm ?_ ?_
  ·intro h7 hm
   refine Sq (RD hnt (nn 3 []) [1,2,3,4,34] [(9,pI 1)] [1032] [] tv ?_)
   refine DW.cv [] [] [] [(AeZ),(100000,ob0 (Ac [])),(100001,ob0 (Af []))] (Conv.ads [(.o 1064 0,100000,6,elems Ak Ar []),(.o 1064 2,100001,4,elems Ao Ba [])]) ?_
   obtain rfl := sj hm
   exact DW.ret (Ai [Ac [],Af []] [100000,100001] (.tup [.agg [ow 0 0,pI 0,ow 1 0,pI 0],pI 1]))
  ·intro h7 hm
   refine Sk ?_
   obtain ⟨r8,hr8,hm⟩ := bo hm
   refine Sq (RD hnt (nn 3 (o30 [] true r8 :: .no :: [])) [34] [(10,pI r8)] [] [] (an (Fs p0.tree p1 r8 hr8) tv) ?_)
   refine Sq (Sq (RD hnt (nn 2 []) [] [(41,pB (decide (r8 < 0)))] [] [] tv ?_))
   refine Ah hm ?_ ?_
   ·intro h9 hm
    refine Sq (RD hnt (nn 3 []) [1,2,3,4,10,41] [(9,pI 4)] [1032] [] tv ?_)
    refine DW.cv [] [] [] [(AeZ),(100000,ob0 (Ac [])),(100001,ob0 (Af []))] (Conv.ads [(.o 1064 0,100000,6,elems Ak Ar []),(.o 1064 2,100001,4,elems Ao Ba [])]) ?_
    obtain rfl := sj hm
    exact DW.ret (Ai [Ac [],Af []] [100000,100001] (.tup [.agg [ow 0 0,pI 0,ow 1 0,pI 0],pI 4]))
   ·intro h9 hm
    refine Sk ?_
    obtain ⟨g10,hm⟩ := go1 hm
    refine Sq (RD hnt (nn 8 []) [41] [(11,rr 1088)] [] [(1088,bx (pm (Ak (Zx p0 r8))))] (an g10.1 (an g10.2 tv)) ?_)
    obtain ⟨r11,hr11,hm⟩ := bo hm
    refine Sq (Sq (RD hnt (nn 4 (o57 [] true r11 :: nn 2 [])) [] [(55,pB ((Ax .i64 p2 r11) != 0))] [] [] (an (Abr p0.tree (Zx p0 r8) r11 hr11) tv) ?_))
    refine Ah hm ?_ ?_
    ·intro h12 hm
     refine Sq (RD hnt (nn 3 []) [1,2,3,4,10,11,55] [(9,pI 9)] [1032,1088] [] tv ?_)
     refine DW.cv [] [] [] [(AeZ),(100000,ob0 (Ac [])),(100001,ob0 (Af []))] (Conv.ads [(.o 1064 0,100000,6,elems Ak Ar []),(.o 1064 2,100001,4,elems Ao Ba [])]) ?_
     obtain rfl := sj hm
     exact DW.ret (Ai [Ac [],Af []] [100000,100001] (.tup [.agg [ow 0 0,pI 0,ow 1 0,pI 0],pI 9]))
    ·intro h12 hm
     refine Sk ?_
     refine Sq (Sq (RD hnt (nn 5 []) [55] [(59,.p (Bf p0.tree.nodes)),(60,pI ((p0.tree.nodes.length : Nat) : Int)),(61,pI 0)] [] [] tv ?_))
     refine Bk ?_
     obtain ⟨hc1,hm⟩ := go1 hm
     refine DW.rangeO (fun (k1 : Nat) (s1 : Unit) => Al [(1,pI p1),(2,pI p2),(3,pI p3),(4,rr 1032),(8,rr 1064),(10,pI r8),(11,rr 1088),(59,.p (Bf p0.tree.nodes)),(60,pI ((p0.tree.nodes.length : Nat) : Int)),(61,pI ((k1 : Nat) : Int))] [(AeQ p0),(AcW),(1088,bx (pm (Ak (Zx p0 r8))))]) Ar hm Conv.eqK ?_
     intro k1 s1 n1 hk1 hs1 he1
     refine Sq (RD hnt (.no :: []) [] [(62,pB (decide (((k1 : Nat) : Int) < ((p0.tree.nodes.length : Nat) : Int))))] [] [] tv ?_)
     refine Sq (Bx (decide (((k1 : Nat) : Int) < ((p0.tree.nodes.length : Nat) : Int))) ?_ ?_)
     ·intro h35
      have hlt1 : k1 < p0.tree.nodes.length := by have := of_decide_eq_true h35; omega
      have hm := hs1 hlt1
      unfold Acj at hm
      refine Sk ?_
      refine Sq (Bk ?_)
      refine Sq (RD hnt (nn 4 []) [62] [(13,rr 1104)] [] [(1104,bx (pm (Ak (AeM p0 k1))))] (an (nn0 k1) (an (ltc hlt1) tv)) ?_)
      refine Sq (DW.regJ (sl2 := [(1,pI p1),(2,pI p2),(3,pI p3),(4,rr 1032),(8,rr 1064),(10,pI r8),(11,rr 1088),(59,.p (Bf p0.tree.nodes)),(60,pI ((p0.tree.nodes.length : Nat) : Int)),(61,pI ((k1 : Nat) : Int)),(75,pB (((AeM p0 k1).parent == p1) && ((kand .i64 (AeM p0 k1).control p3) != 0)))]) (ob2 := [(AeQ p0),(AcW),(1088,bx (pm (Ak (Zx p0 r8))))]) ?_ ?_)
      ·rcases bt ((AeM p0 k1).parent == p1) with h36 | h36
       ·exact RT hnt (nn 10 (pT :: [])) [(75,pB ((kand .i64 (AeM p0 k1).control p3) != 0))] (an6 h36 tv) (by kernel_rfl) (.cons rfl (.of_eq (by rw [h36]; try rfl)) .nil)
       ·exact RT hnt (nn 5 (sk 5 (pF :: []))) [(75,pB false)] (an6 h36 tv) (by kernel_rfl) (.cons rfl (.of_eq (by rw [h36]; try rfl)) .nil)
      ·refine Ah hm ?_ ?_
       ·intro h37 hm
        refine Sq (RD hnt (nn 3 []) [1,2,3,4,10,11,59,60,61,75] [(9,pI 9)] [1032,1088] [] tv ?_)
        refine DW.cv [] [] [] [(AeZ),(100000,ob0 (Ac [])),(100001,ob0 (Af []))] (Conv.ads [(.o 1064 0,100000,6,elems Ak Ar []),(.o 1064 2,100001,4,elems Ao Ba [])]) ?_
        obtain rfl := sj hm
        exact DW.ret (Ai [Ac [],Af []] [100000,100001] (.tup [.agg [ow 0 0,pI 0,ow 1 0,pI 0],pI 9]))
       ·intro h37 hm
        refine Sk ?_
        refine DW.done ?_
        show DW _ _ _ _ _
        refine RD hnt (nn 2 []) [75] [(61,pI (w64 (((k1 : Nat) : Int) + 1)))] [] [] tv ?_
        exact jD () ⟨hlt1,hm⟩ (Conv.tp [(61,pI (w64 (((k1 : Nat) : Int) + 1)))] [] (by kernel_rfl) (.cons rfl (.of_eq (congrArg pI (Bj hlt1 hc1))) .nil) .nil)
     ·intro h35
      have hge1 : ¬ k1 < p0.tree.nodes.length := by have := of_decide_eq_false h35; omega
      have hm := he1 hge1
      unfold Sc at hm
      refine DW.exit ?_
      refine Ap ?_
      refine Au ?_
      refine An ?_
      show DW _ _ _ _ _
      refine Sq (RD hnt (nn 7 []) [2,3,59,60,61,62] [(14,pI (kor .i64 (Ax .i64 (Zx p0 r8).control p3) p2))] [] [] tv ?_)
      refine Sq (Sq ?_)
      refine Jn (ι := Bool) (fun (y4 : Bool) => Al [(4,rr 1032),(8,rr 1064),(10,pI r8),(14,pI (kor .i64 (Ax .i64 (Zx p0 r8).control p3) p2)),(100,pB y4)] [(AeQ p0),(AcW)]) (fun y4 => (Jk p0 p2 p3 r8) y4 = some RES) ?_ ?_
      ·intro y4 hm
       unfold Jk at hm
       refine Ah hm ?_ ?_
       ·intro h41 hm
        refine Sq (RD hnt (nn 3 []) [4,10,14,100] [(9,pI 6)] [1032] [] tv ?_)
        refine DW.cv [] [] [] [(AeZ),(100000,ob0 (Ac [])),(100001,ob0 (Af []))] (Conv.ads [(.o 1064 0,100000,6,elems Ak Ar []),(.o 1064 2,100001,4,elems Ao Ba [])]) ?_
        obtain rfl := sj hm
        exact DW.ret (Ai [Ac [],Af []] [100000,100001] (.tup [.agg [ow 0 0,pI 0,ow 1 0,pI 0],pI 6]))
       ·intro h41 hm
        refine Sk ?_
        obtain ⟨r42,hr42,hm⟩ := bo hm
        refine Sq (RD hnt (.no :: o95 [] true r42 :: nn 2 []) [4,100] [(15,rr 1120)] [1032] [(1120,bx [ow 1824 r42.tree.nodes.length,pI r42.tree.next,ow 1825 r42.tasks.length,pI r42.next]),(1824,ob0 (Ac r42.tree.nodes)),(1825,ob0 (Af r42.tasks))] (an (Nw p0 r42 hr42) tv) ?_)
        obtain ⟨g43,g44,hm⟩ := go2 hm
        refine Sq (RN hnt (nn 8 []) [(8,rr 1064),(15,rr 1120)] [(AcW),(1120,bx [ow 1824 (Afi r42 r8 p0 p3 p2).length,pI r42.tree.next,ow 1825 r42.tasks.length,pI r42.next]),(1824,ob0 (Ac (Afi r42 r8 p0 p3 p2))),(1825,ob0 (Af r42.tasks))] [] [(1120,.box [ow 1824 r42.tree.nodes.length,pI r42.tree.next,ow 1825 r42.tasks.length,pI r42.next]),(1824,.row 6 r42.tree.nodes.length (c140e3 r42 r8 p0 p3 p2))] (an g43.1 (an g43.2 (an g44 tv))) (by kernel_rfl) .nil (.cons rfl (.box (.cons (MLe.ownLen (enc := Ak) (d := Ar) (f := (c140e3 r42 r8 p0 p3 p2)) (RowIs.upd RowIs.elems (c140e1 r42 r8 p0 p3 p2) rfl)) (.cons .rfl (.cons .rfl (.cons .rfl .nil))))) (.cons rfl (BLe.typed (RowIs.upd RowIs.elems (c140e1 r42 r8 p0 p3 p2) rfl)) .nil)) ?_)
        refine Sq (RD hnt (nn 3 []) [15] [(9,pI 0)] [1120] [(1064,bx [ow 1824 (Afi r42 r8 p0 p3 p2).length,pI r42.tree.next,ow 1825 r42.tasks.length,pI r42.next])] tv ?_)
        obtain rfl := sj hm
        exact DW.ret (Ai [Ac (Afi r42 r8 p0 p3 p2),Af r42.tasks] [1824,1825] (.tup [.agg [ow 0 (Afi r42 r8 p0 p3 p2).length,pI r42.tree.next,ow 1 r42.tasks.length,pI r42.next],pI 0]))
      ·rcases bt ((kand .i64 (Ax .i64 (kor .i64 (Ax .i64 (Zx p0 r8).control p3) p2) (Zx p0 r8).control) 6) != 0) with h38 | h38
       ·replace hm := Ay h38 hm
        rcases bt (p1 != 1) with h39 | h39
        ·replace hm := Ay h39 hm
         obtain ⟨r40,hr40,hm⟩ := bo hm
         refine RD hnt (nn 9 (pT :: nn 3 (o58 [] true r40 :: nn 2 (pT :: [])))) [1,11] [(100,pB (decide (((r40.length : Nat) : Int) > 0)))] [1088] [] (an3 h38 (an3 h39 (an (Mj p0 p1 r40 hr40) (an3 h39 tv)))) ?_
         exact jD (decide (((r40.length : Nat) : Int) > 0)) hm Conv.eqK
        ·replace hm := Az h39 hm
         refine RD hnt (nn 9 (pT :: .no :: sk 5 (pF :: []))) [1,11] [(100,pB false)] [1088] [] (an3 h38 (an6 h39 tv)) ?_
         exact jD false hm Conv.eqK
       ·replace hm := Az h38 hm
        refine RD hnt (nn 7 (sk 2 (pF :: .no :: sk 5 (pF :: [])))) [1,11] [(100,pB false)] [1088] [] (an3 h38 (an6 ff tv)) ?_
        exact jD false hm Conv.eqK
 ·rcases bt (!r1) with h2 | h2
  ·replace hm := Ay h2 hm
   refine RD hnt (.no :: o50 [] true r1 :: nn 2 (sk 3 (pT :: .no :: sk 3 (pT :: .no :: sk 4 (pT :: []))))) [] [(34,pB true)] [] [] (an (Lr p0 r1 hr1) (an4 h2 (an3 tt (an6 tt tv)))) ?_
   exact jD true hm Conv.eqK
  ·replace hm := Az h2 hm
   obtain ⟨r3,hr3,hm⟩ := bo hm
   rcases bt (!r3) with h4 | h4
   ·replace hm := Ay h4 hm
    refine RD hnt (.no :: o50 [] true r1 :: nn 3 (o141 [] true r3 :: .no :: pF :: .no :: sk 3 (pT :: .no :: sk 4 (pT :: [])))) [] [(34,pB true)] [] [] (an (Lr p0 r1 hr1) (an2 h2 (an (Oq p2 r3 hr3) (an2 h2 (an4 h4 (an5 tt tv)))))) ?_
    exact jD true hm Conv.eqK
   ·replace hm := Az h4 hm
    obtain ⟨r5,hr5,hm⟩ := bo hm
    rcases bt (!r5) with h6 | h6
    ·replace hm := Ay h6 hm
     refine RD hnt (.no :: o50 [] true r1 :: nn 3 (o141 [] true r3 :: .no :: pF :: nn 2 (o141 [] true r5 :: .no :: pF :: .no :: sk 4 (pT :: [])))) [] [(34,pB true)] [] [] (an (Lr p0 r1 hr1) (an2 h2 (an (Oq p2 r3 hr3) (an2 h2 (an2 h4 (an (Oq p3 r5 hr5) (an2 h4 (an5 h6 tv)))))))) ?_
     exact jD true hm Conv.eqK
    ·replace hm := Az h6 hm
     refine RD hnt (.no :: o50 [] true r1 :: nn 3 (o141 [] true r3 :: .no :: pF :: nn 2 (o141 [] true r5 :: .no :: pF :: nn 5 (pF :: [])))) [] [(34,pB ((kand .i64 p2 p3) != 0))] [] [] (an (Lr p0 r1 hr1) (an2 h2 (an (Oq p2 r3 hr3) (an2 h2 (an2 h4 (an (Oq p3 r5 hr5) (an2 h4 (an5 h6 tv)))))))) ?_
     exact jD ((kand .i64 p2 p3) != 0) hm Conv.eqK
abbrev o140 (ks : List Nat) (b : Bool) (RES : Aa × Int) : Orc := .call 100 ks b (.tup [.agg [ow 0 RES.1.tree.nodes.length,pI RES.1.tree.next,ow 1 RES.1.tasks.length,pI RES.1.next],pI RES.2]) [] [Ac RES.1.tree.nodes,Af RES.1.tasks]

theorem Aeh (p0 : Aa) (p1 : Int) (p2 : Int) (p3 : Int) (RES : Aa × Int) (hm : Oj p0 p1 p2 p3 = some RES) : Spec Tryz.prog 55 [.p (.agg (Ab p0)),pI p1,pI p2,pI p3] [] (.tup [.agg [ow 0 RES.1.tree.nodes.length,pI RES.1.tree.next,ow 1 RES.1.tasks.length,pI RES.1.next],pI RES.2]) [] [Ac RES.1.tree.nodes,Af RES.1.tasks] := by
 unfold Oj at hm
 refine SO Tryz.func55 rfl rfl [(0,.p (.agg (Ab p0))),(1,pI p1),(2,pI p2),(3,pI p3)] [] ?_
 intro cx hnt
 refine Sq (RD hnt (nn 3 []) [0] [(4,rr 1032),(8,rr 1064)] [] [(1032,bx (pm (Ab p0))),(1064,bx [.p (.sl .nil 0 0 (fun _ => [])),pI 0,.p (.sl .nil 0 0 (fun _ => [])),pI 0])] tv ?_)
 obtain ⟨r1,hr1,hm⟩ := bo hm
 refine Sq (Sq (RD hnt (.no :: o49 [] true r1 :: .no :: []) [] [(14,pB (!r1))] [] [] (an (Dh p0 r1 hr1) tv) ?_))
 refine Ah hm ?_ ?_
 ·intro h2 hm
  obtain ⟨r3,hr3,hm⟩ := bo hm
  refine Sq (RK hnt (Tg [] true r3 :: nn 4 []) [(8,rr 1064),(9,pI r3.2)] [(1064,bx [ow 1120 r3.1.tree.nodes.length,pI r3.1.tree.next,ow 1121 r3.1.tasks.length,pI r3.1.next]),(1120,ob0 (Ac r3.1.tree.nodes)),(1121,ob0 (Af r3.1.tasks))] (an (Bm 1 r3 hr3) tv) ?_)
  obtain rfl := sj hm
  exact DW.ret (Ai [Ac r3.1.tree.nodes,Af r3.1.tasks] [1120,1121] (.tup [.agg [ow 0 r3.1.tree.nodes.length,pI r3.1.tree.next,ow 1 r3.1.tasks.length,pI r3.1.next],pI r3.2]))
 ·intro h2 hm
  refine Sk ?_
  obtain ⟨r4,hr4,hm⟩ := bo hm
  refine Sq (RD hnt (nn 4 (o140 [] true r4 :: nn 6 [])) [1,2,3,4,14] [(10,rr 1080),(11,pI r4.2)] [1032] [(1080,bx [ow 1184 r4.1.tree.nodes.length,pI r4.1.tree.next,ow 1185 r4.1.tasks.length,pI r4.1.next]),(1184,ob0 (Ac r4.1.tree.nodes)),(1185,ob0 (Af r4.1.tasks))] (an (AfF p0 p1 p2 p3 r4 hr4) tv) ?_)
  refine Sq (Sq (RD hnt (nn 2 []) [] [(27,pB (r4.2 != 0))] [] [] tv ?_))
  refine Ah hm ?_ ?_
  ·intro h5 hm
   obtain ⟨r6,hr6,hm⟩ := bo hm
   refine Sq (RK hnt (.no :: Tg [] true r6 :: nn 4 []) [(8,rr 1064),(9,pI r6.2)] [(1064,bx [ow 1232 r6.1.tree.nodes.length,pI r6.1.tree.next,ow 1233 r6.1.tasks.length,pI r6.1.next]),(1232,ob0 (Ac r6.1.tree.nodes)),(1233,ob0 (Af r6.1.tasks))] (an (Bm r4.2 r6 hr6) tv) ?_)
   obtain rfl := sj hm
   exact DW.ret (Ai [Ac r6.1.tree.nodes,Af r6.1.tasks] [1232,1233] (.tup [.agg [ow 0 r6.1.tree.nodes.length,pI r6.1.tree.next,ow 1 r6.1.tasks.length,pI r6.1.next],pI r6.2]))
  ·intro h5 hm
   refine Sk ?_
   obtain ⟨r7,hr7,hm⟩ := bo hm
   refine Sq (Sq (RD hnt (.no :: o49 [] true r7 :: .no :: []) [11,27] [(34,pB (!r7))] [] [] (an (Dh r4.1 r7 hr7) tv) ?_))
   refine Ah hm ?_ ?_
   ·intro h8 hm
    obtain ⟨r9,hr9,hm⟩ := bo hm
    refine Sq (RK hnt (Tg [] true r9 :: nn 4 []) [(8,rr 1064),(9,pI r9.2)] [(1064,bx [ow 1280 r9.1.tree.nodes.length,pI r9.1.tree.next,ow 1281 r9.1.tasks.length,pI r9.1.next]),(1280,ob0 (Ac r9.1.tree.nodes)),(1281,ob0 (Af r9.1.tasks))] (an (Bm 10 r9 hr9) tv) ?_)
    obtain rfl := sj hm
    exact DW.ret (Ai [Ac r9.1.tree.nodes,Af r9.1.tasks] [1280,1281] (.tup [.agg [ow 0 r9.1.tree.nodes.length,pI r9.1.tree.next,ow 1 r9.1.tasks.length,pI r9.1.next],pI r9.2]))
   ·intro h8 hm
    refine Sk ?_
    refine Sq (RD hnt (nn 3 []) [10,34] [(9,pI 0)] [1080] [(1064,bx [ow 1184 r4.1.tree.nodes.length,pI r4.1.tree.next,ow 1185 r4.1.tasks.length,pI r4.1.next])] tv ?_)
    obtain rfl := sj hm
    exact DW.ret (Ai [Ac r4.1.tree.nodes,Af r4.1.tasks] [1184,1185] (.tup [.agg [ow 0 r4.1.tree.nodes.length,pI r4.1.tree.next,ow 1 r4.1.tasks.length,pI r4.1.next],pI 0]))
abbrev o139 (ks : List Nat) (b : Bool) (RES : Aa × Int) : Orc := .call 55 ks b (.tup [.agg [ow 0 RES.1.tree.nodes.length,pI RES.1.tree.next,ow 1 RES.1.tasks.length,pI RES.1.next],pI RES.2]) [] [Ac RES.1.tree.nodes,Af RES.1.tasks]

theorem Yb (p0 : Aa) (p1 : Int) (p2 : Int) (p3 : Int) (p4 : Int) (RES : Aa × Int) (hm : Ka p0 p1 p2 p3 p4 = some RES) : Spec Tryz.prog 18 [.p (.agg (Ab p0)),pI p1,pI p2,pI p3,pI p4] [] (.tup [.agg [ow 0 RES.1.tree.nodes.length,pI RES.1.tree.next,ow 1 RES.1.tasks.length,pI RES.1.next],pI RES.2]) [] [Ac RES.1.tree.nodes,Af RES.1.tasks] := by
 unfold Ka at hm
 refine SO Tryz.func18 rfl rfl [(0,.p (.agg (Ab p0))),(1,pI p1),(2,pI p2),(3,pI p3),(4,pI p4)] [] ?_
 intro cx hnt
 refine Sq (RD hnt (nn 3 []) [0] [(5,rr 1040),(10,rr 1080)] [] [(1040,bx (pm (Ab p0))),(1080,bx [.p (.sl .nil 0 0 (fun _ => [])),pI 0,.p (.sl .nil 0 0 (fun _ => [])),pI 0])] tv ?_)
 obtain ⟨r1,hr1,hm⟩ := bo hm
 refine Sq (Sq (RD hnt (nn 3 (o48 [] true r1 :: .no :: [])) [1] [(12,pI r1)] [] [] (an (No p0 p1 p2 r1 hr1) tv) ?_))
 refine Sq (RD hnt (nn 2 []) [] [(18,pB (r1 != 0))] [] [] tv ?_)
 refine Ah hm ?_ ?_
 ·intro h2 hm
  obtain ⟨r3,hr3,hm⟩ := bo hm
  refine Sq (RK hnt (.no :: o100 [] true r3 :: nn 4 []) [(10,rr 1080),(11,pI r3.2)] [(1080,bx [ow 1160 r3.1.tree.nodes.length,pI r3.1.tree.next,ow 1161 r3.1.tasks.length,pI r3.1.next]),(1160,ob0 (Ac r3.1.tree.nodes)),(1161,ob0 (Af r3.1.tasks))] (an (Dr r1 r3 hr3) tv) ?_)
  obtain rfl := sj hm
  exact DW.ret (Ai [Ac r3.1.tree.nodes,Af r3.1.tasks] [1160,1161] (.tup [.agg [ow 0 r3.1.tree.nodes.length,pI r3.1.tree.next,ow 1 r3.1.tasks.length,pI r3.1.next],pI r3.2]))
 ·intro h2 hm
  refine Sk ?_
  obtain ⟨r4,hr4,hm⟩ := bo hm
  refine Sq (RK hnt (nn 4 (o139 [] true r4 :: nn 4 [])) [(10,rr 1080),(11,pI r4.2)] [(1080,bx [ow 1216 r4.1.tree.nodes.length,pI r4.1.tree.next,ow 1217 r4.1.tasks.length,pI r4.1.next]),(1216,ob0 (Ac r4.1.tree.nodes)),(1217,ob0 (Af r4.1.tasks))] (an (Aeh p0 p2 p3 p4 r4 hr4) tv) ?_)
  obtain rfl := sj hm
  exact DW.ret (Ai [Ac r4.1.tree.nodes,Af r4.1.tasks] [1216,1217] (.tup [.agg [ow 0 r4.1.tree.nodes.length,pI r4.1.tree.next,ow 1 r4.1.tasks.length,pI r4.1.next],pI r4.2]))
abbrev o138 (ks : List Nat) (b : Bool) (RES : Aa × Int) : Orc := .call 18 ks b (.tup [.agg [ow 0 RES.1.tree.nodes.length,pI RES.1.tree.next,ow 1 RES.1.tasks.length,pI RES.1.next],pI RES.2]) [] [Ac RES.1.tree.nodes,Af RES.1.tasks]

theorem AiQ (p0 : Ae) (p1 : Int) (RES : Ag × Bool) (hm : Aal p0 p1 = some RES) : Spec Tryz.prog 140 [.p (.agg (Aj p0)),pI p1] [] (.p (.tup [.agg (Ak RES.1),vb RES.2])) [] [] := by
 unfold Aal at hm
 refine SO Tryz.func140 rfl rfl [(0,.p (.agg (Aj p0))),(1,pI p1)] [] ?_
 intro cx hnt
 refine Sq (RK hnt (nn 3 []) [(1,pI p1),(2,rr 1016),(4,rr 1032)] [(1016,bx (pm (Aj p0))),(1032,bx [pI 0,pI 0,pS ByteArray.empty,pI 0,pI 0,pI 0])] tv ?_)
 obtain ⟨r1,hr1,hm⟩ := bo hm
 obtain ⟨r2,hr2,hm⟩ := bo hm
 refine Sq (RK hnt (.no :: o93 [] true r1 :: .no :: o41 [] true r2 :: nn 4 []) [(4,rr 1032),(5,pB r2.2)] [(1032,bx (pm (Ak r2.1)))] (an (Abw p0 r1 hr1) (an (Fa r1 p1 r2 hr2) tv)) ?_)
 obtain rfl := sj hm
 exact DW.ret (Ai [] [] (.p (.tup [.agg (Ak r2.1),vb r2.2])))
abbrev o145 (ks : List Nat) (b : Bool) (RES : Ag × Bool) : Orc := .call 140 ks b (.p (.tup [.agg (Ak RES.1),vb RES.2])) [] []

theorem Un (p0 : Ae) (p1 : Int) (RES : Int) (hm : Rp p0 p1 = some RES) : Spec Tryz.prog 102 [.p (.agg (Aj p0)),pI p1] [] (pI RES) [] [] := by
 unfold Rp at hm
 refine SO Tryz.func102 rfl rfl [(0,.p (.agg (Aj p0))),(1,pI p1)] [] ?_
 intro cx hnt
 refine Sq (RK hnt (nn 2 []) [(1,pI p1),(2,rr 1016)] [(1016,bx (pm (Aj p0)))] tv ?_)
 obtain ⟨r1,hr1,hm⟩ := bo hm
 refine Sq (RD hnt (nn 2 (o145 [] true r1 :: nn 6 [])) [] [(5,rr 1040),(6,pB r1.2)] [] [(1040,bx (pm (Ak r1.1)))] (an (AiQ p0 p1 r1 hr1) tv) ?_)
 refine Sq (Bk ?_)
 refine Sq (RD hnt (nn 3 []) [6] [(15,pB (!r1.2))] [] [] tv ?_)
 refine Ah hm ?_ ?_
 ·intro h2 hm
  refine Sq (RK hnt (.no :: []) [(4,pI 0)] [] tv ?_)
  obtain rfl := sj hm
  exact DW.ret (Ai [] [] (pI 0))
 ·intro h2 hm
  refine Sq (RD hnt (nn 4 []) [5,15] [(18,pB (r1.1.kind == 1))] [1040] [] tv ?_)
  refine Ah hm ?_ ?_
  ·intro h3 hm
   refine Sq (RK hnt (.no :: []) [(4,pI 2)] [] tv ?_)
   obtain rfl := sj hm
   exact DW.ret (Ai [] [] (pI 2))
  ·intro h3 hm
   obtain ⟨r4,hr4,hm⟩ := bo hm
   refine Sq (RD hnt (nn 2 (o85 [] true r4 :: .no :: [])) [18] [(22,pB r4)] [] [] (an (Gw p0 p1 r4 hr4) tv) ?_)
   refine Ah hm ?_ ?_
   ·intro h5 hm
    refine Sq (RK hnt (.no :: []) [(4,pI 3)] [] tv ?_)
    obtain rfl := sj hm
    exact DW.ret (Ai [] [] (pI 3))
   ·intro h5 hm
    refine Sk ?_
    refine DW.done ?_
    show DW _ _ _ _ _
    refine Sq (Sq (RK hnt (nn 4 []) [(1,pI p1),(27,.p (Bf p0.nodes)),(28,pI ((p0.nodes.length : Nat) : Int)),(29,pI 0)] [] tv ?_))
    refine Bk ?_
    obtain ⟨hc1,hm⟩ := go1 hm
    refine DW.rangeO (fun (k1 : Nat) (s1 : Unit) => Al [(1,pI p1),(27,.p (Bf p0.nodes)),(28,pI ((p0.nodes.length : Nat) : Int)),(29,pI ((k1 : Nat) : Int))] []) Ar hm .refl ?_
    intro k1 s1 n1 hk1 hs1 he1
    refine Sq (RD hnt (.no :: []) [] [(30,pB (decide (((k1 : Nat) : Int) < ((p0.nodes.length : Nat) : Int))))] [] [] tv ?_)
    refine Sq (Bx (decide (((k1 : Nat) : Int) < ((p0.nodes.length : Nat) : Int))) ?_ ?_)
    ·intro h14
     have hlt1 : k1 < p0.nodes.length := by have := of_decide_eq_true h14; omega
     have hm := hs1 hlt1
     unfold AcE at hm
     refine Sk ?_
     refine Sq (Bk ?_)
     refine Sq (RD hnt (nn 4 []) [30] [(8,rr 1064)] [] [(1064,bx (pm (Ak (p0.nodes.getD k1 (default : Ag)))))] (an (nn0 k1) (an (ltc hlt1) tv)) ?_)
     refine Sq (DW.regJ (sl2 := [(1,pI p1),(27,.p (Bf p0.nodes)),(28,pI ((p0.nodes.length : Nat) : Int)),(29,pI ((k1 : Nat) : Int)),(41,pB (((p0.nodes.getD k1 (default : Ag)).parent == p1) && ((p0.nodes.getD k1 (default : Ag)).kind == 1)))]) (ob2 := []) ?_ ?_)
     ·rcases bt ((p0.nodes.getD k1 (default : Ag)).parent == p1) with h15 | h15
      ·exact RT hnt (nn 8 (pT :: [])) [(41,pB ((p0.nodes.getD k1 (default : Ag)).kind == 1))] (an4 h15 tv) (by kernel_rfl) (.cons rfl (.of_eq (by rw [h15]; try rfl)) .nil)
      ·exact RT hnt (nn 5 (sk 3 (pF :: []))) [(41,pB false)] (an4 h15 tv) (by kernel_rfl) (.cons rfl (.of_eq (by rw [h15]; try rfl)) .nil)
     ·refine Ah hm ?_ ?_
      ·intro h16 hm
       refine Sq (RK hnt (.no :: []) [(4,pI 1)] [] tv ?_)
       obtain rfl := sj hm
       exact DW.ret (Ai [] [] (pI 1))
      ·intro h16 hm
       refine Sk ?_
       refine DW.done ?_
       show DW _ _ _ _ _
       refine RD hnt (nn 2 []) [41] [(29,pI (w64 (((k1 : Nat) : Int) + 1)))] [] [] tv ?_
       exact jD () ⟨hlt1,hm⟩ (Conv.tp [(29,pI (w64 (((k1 : Nat) : Int) + 1)))] [] (by kernel_rfl) (.cons rfl (.of_eq (congrArg pI (Bj hlt1 hc1))) .nil) .nil)
    ·intro h14
     have hge1 : ¬ k1 < p0.nodes.length := by have := of_decide_eq_false h14; omega
     have hm := he1 hge1
     unfold Ace at hm
     refine DW.exit ?_
     refine Ap ?_
     refine Au ?_
     refine An ?_
     show DW _ _ _ _ _
     refine Sq (RK hnt (.no :: []) [(4,pI 0)] [] tv ?_)
     obtain rfl := sj hm
     exact DW.ret (Ai [] [] (pI 0))
abbrev o144 (ks : List Nat) (b : Bool) (RES : Int) : Orc := .call 102 ks b (pI RES) [] []

abbrev c143e1 (r19 : Aa) (r4 : Int) := ({ id := (r19.tree.nodes.getD (Int.toNat r4) Ar).id,parent := (r19.tree.nodes.getD (Int.toNat r4) Ar).parent,name := (r19.tree.nodes.getD (Int.toNat r4) Ar).name,control := (r19.tree.nodes.getD (Int.toNat r4) Ar).control,kind := 1,owner := (r19.tree.nodes.getD (Int.toNat r4) Ar).owner } : Ag)
abbrev AeU : Nat × Obj := (1032,bx [.p (.sl .nil 0 0 (fun _ => [])),pI 0,.p (.sl .nil 0 0 (fun _ => [])),pI 0])
abbrev c143e3 (r19 : Aa) (r4 : Int) := (Bv (Il r19.tree.nodes) (Int.toNat r4) [vi (r19.tree.nodes.getD (Int.toNat r4) Ar).id,vi (r19.tree.nodes.getD (Int.toNat r4) Ar).parent,vs (r19.tree.nodes.getD (Int.toNat r4) Ar).name,vi (r19.tree.nodes.getD (Int.toNat r4) Ar).control,vi 1,vi (r19.tree.nodes.getD (Int.toNat r4) Ar).owner])
abbrev To (p0 : Aa) (r4 : Int) := (p0.tree.nodes.getD (Int.toNat r4) Ar)
abbrev Aac (r19 : Aa) (r4 : Int) := (r19.tree.nodes.set (Int.toNat r4) (c143e1 r19 r4))
theorem AdR (p0 : Aa) (p1 : Int) (RES : Aa × Int) (hm : My p0 p1 = some RES) : Spec Tryz.prog 56 [.p (.agg (Ab p0)),pI p1] [] (.tup [.agg [ow 0 RES.1.tree.nodes.length,pI RES.1.tree.next,ow 1 RES.1.tasks.length,pI RES.1.next],pI RES.2]) [] [Ac RES.1.tree.nodes,Af RES.1.tasks] := by
 unfold My at hm
 refine SO Tryz.func56 rfl rfl [(0,.p (.agg (Ab p0))),(1,pI p1)] [] ?_
 intro cx hnt
 refine Sq (RK hnt (nn 3 []) [(1,pI p1),(2,rr 1016),(4,rr 1032)] [(1016,bx (pm (Ab p0))),(AeU)] tv ?_)
 obtain ⟨r1,hr1,hm⟩ := bo hm
 refine Sq (Sq (RD hnt (.no :: o49 [] true r1 :: .no :: []) [] [(13,pB (!r1))] [] [] (an (Dh p0 r1 hr1) tv) ?_))
 refine Ah hm ?_ ?_
 ·intro h2 hm
  obtain ⟨r3,hr3,hm⟩ := bo hm
  refine Sq (RK hnt (Tg [] true r3 :: nn 4 []) [(4,rr 1032),(5,pI r3.2)] [(1032,bx [ow 1112 r3.1.tree.nodes.length,pI r3.1.tree.next,ow 1113 r3.1.tasks.length,pI r3.1.next]),(1112,ob0 (Ac r3.1.tree.nodes)),(1113,ob0 (Af r3.1.tasks))] (an (Bm 1 r3 hr3) tv) ?_)
  obtain rfl := sj hm
  exact DW.ret (Ai [Ac r3.1.tree.nodes,Af r3.1.tasks] [1112,1113] (.tup [.agg [ow 0 r3.1.tree.nodes.length,pI r3.1.tree.next,ow 1 r3.1.tasks.length,pI r3.1.next],pI r3.2]))
 ·intro h2 hm
  refine Sk ?_
  obtain ⟨r4,hr4,hm⟩ := bo hm
  refine Sq (RD hnt (nn 3 (o30 [] true r4 :: .no :: [])) [13] [(6,pI r4)] [] [] (an (Fs p0.tree p1 r4 hr4) tv) ?_)
  refine Sq (Sq (RD hnt (nn 2 []) [] [(22,pB (decide (r4 < 0)))] [] [] tv ?_))
  refine Ah hm ?_ ?_
  ·intro h5 hm
   obtain ⟨r6,hr6,hm⟩ := bo hm
   refine Sq (RK hnt (Tg [] true r6 :: nn 4 []) [(4,rr 1032),(5,pI r6.2)] [(1032,bx [ow 1184 r6.1.tree.nodes.length,pI r6.1.tree.next,ow 1185 r6.1.tasks.length,pI r6.1.next]),(1184,ob0 (Ac r6.1.tree.nodes)),(1185,ob0 (Af r6.1.tasks))] (an (Bm 4 r6 hr6) tv) ?_)
   obtain rfl := sj hm
   exact DW.ret (Ai [Ac r6.1.tree.nodes,Af r6.1.tasks] [1184,1185] (.tup [.agg [ow 0 r6.1.tree.nodes.length,pI r6.1.tree.next,ow 1 r6.1.tasks.length,pI r6.1.next],pI r6.2]))
  ·intro h5 hm
   refine Sk ?_
   obtain ⟨g7,hm⟩ := go1 hm
   refine Sq (RD hnt (nn 8 []) [22] [(7,rr 1056)] [] [(1056,bx (pm (Ak (To p0 r4))))] (an g7.1 (an g7.2 tv)) ?_)
   obtain ⟨r8,hr8,hm⟩ := bo hm
   refine Sq (RD hnt (nn 4 (o41 [] true r8 :: nn 6 [])) [] [(8,rr 1064)] [] [(1064,bx (pm (Ak r8.1)))] (an (Fa p0.tree (To p0 r4).parent r8 hr8) tv) ?_)
   refine Sq (Bk ?_)
   refine Sq (DW.regJ (sl2 := [(1,pI p1),(2,rr 1016),(4,rr 1032),(6,pI r4),(7,rr 1056),(8,rr 1064),(40,pB ((p1 == 1) || ((To p0 r4).kind == 1)))]) (ob2 := [(1016,bx (pm (Ab p0))),(AeU),(1056,bx (pm (Ak (To p0 r4)))),(1064,bx (pm (Ak r8.1)))]) ?_ ?_)
   ·rcases bt (p1 == 1) with h9 | h9
    ·exact RT hnt (nn 3 (sk 3 (pT :: .no :: []))) [(40,pB true)] (an4 h9 tv) (by kernel_rfl) (.cons rfl (.of_eq (by rw [h9]; try rfl)) .nil)
    ·exact RT hnt (nn 6 (pF :: .no :: [])) [(40,pB ((To p0 r4).kind == 1))] (an4 h9 tv) (by kernel_rfl) (.cons rfl (.of_eq (by rw [h9]; try rfl)) .nil)
   ·refine Ah hm ?_ ?_
    ·intro h10 hm
     obtain ⟨r11,hr11,hm⟩ := bo hm
     refine Sq (RK hnt (Tg [] true r11 :: nn 4 []) [(4,rr 1032),(5,pI r11.2)] [(1032,bx [ow 1384 r11.1.tree.nodes.length,pI r11.1.tree.next,ow 1385 r11.1.tasks.length,pI r11.1.next]),(1384,ob0 (Ac r11.1.tree.nodes)),(1385,ob0 (Af r11.1.tasks))] (an (Bm 9 r11 hr11) tv) ?_)
     obtain rfl := sj hm
     exact DW.ret (Ai [Ac r11.1.tree.nodes,Af r11.1.tasks] [1384,1385] (.tup [.agg [ow 0 r11.1.tree.nodes.length,pI r11.1.tree.next,ow 1 r11.1.tasks.length,pI r11.1.next],pI r11.2]))
    ·intro h10 hm
     obtain ⟨r12,hr12,hm⟩ := bo hm
     refine Sq ?_
     refine Jn (ι := Bool) (fun (y1 : Bool) => Al [(1,pI p1),(2,rr 1016),(4,rr 1032),(6,pI r4),(7,rr 1056),(51,pB y1)] [(1016,bx (pm (Ab p0))),(AeU),(1056,bx (pm (Ak (To p0 r4))))]) (fun y1 => (Gk p0 p1 r4) y1 = some RES) ?_ ?_
     ·intro y1 hm
      unfold Gk at hm
      refine Ah hm ?_ ?_
      ·intro h15 hm
       obtain ⟨r16,hr16,hm⟩ := bo hm
       refine Sq (RK hnt (Tg [] true r16 :: nn 4 []) [(4,rr 1032),(5,pI r16.2)] [(1032,bx [ow 1552 r16.1.tree.nodes.length,pI r16.1.tree.next,ow 1553 r16.1.tasks.length,pI r16.1.next]),(1552,ob0 (Ac r16.1.tree.nodes)),(1553,ob0 (Af r16.1.tasks))] (an (Bm 10 r16 hr16) tv) ?_)
       obtain rfl := sj hm
       exact DW.ret (Ai [Ac r16.1.tree.nodes,Af r16.1.tasks] [1552,1553] (.tup [.agg [ow 0 r16.1.tree.nodes.length,pI r16.1.tree.next,ow 1 r16.1.tasks.length,pI r16.1.next],pI r16.2]))
      ·intro h15 hm
       refine Sq (RD hnt (nn 5 []) [7,51] [(72,pB ((kand .i64 (To p0 r4).control 6) != 0))] [1056] [] tv ?_)
       refine Ah hm ?_ ?_
       ·intro h17 hm
        obtain ⟨r18,hr18,hm⟩ := bo hm
        refine Sq (RK hnt (Tg [] true r18 :: nn 4 []) [(4,rr 1032),(5,pI r18.2)] [(1032,bx [ow 1616 r18.1.tree.nodes.length,pI r18.1.tree.next,ow 1617 r18.1.tasks.length,pI r18.1.next]),(1616,ob0 (Ac r18.1.tree.nodes)),(1617,ob0 (Af r18.1.tasks))] (an (Bm 9 r18 hr18) tv) ?_)
        obtain rfl := sj hm
        exact DW.ret (Ai [Ac r18.1.tree.nodes,Af r18.1.tasks] [1616,1617] (.tup [.agg [ow 0 r18.1.tree.nodes.length,pI r18.1.tree.next,ow 1 r18.1.tasks.length,pI r18.1.next],pI r18.2]))
       ·intro h17 hm
        refine Sk ?_
        refine DW.done ?_
        show DW _ _ _ _ _
        obtain ⟨r19,hr19,hm⟩ := bo hm
        refine Sq (RD hnt (.no :: o95 [] true r19 :: nn 2 []) [72] [(10,rr 1080)] [] [(1080,bx [ow 1648 r19.tree.nodes.length,pI r19.tree.next,ow 1649 r19.tasks.length,pI r19.next]),(1648,ob0 (Ac r19.tree.nodes)),(1649,ob0 (Af r19.tasks))] (an (Nw p0 r19 hr19) tv) ?_)
        obtain ⟨g20,g21,hm⟩ := go2 hm
        refine Sq (RN hnt (nn 7 []) [(1,pI p1),(2,rr 1016),(4,rr 1032),(10,rr 1080)] [(1016,bx (pm (Ab p0))),(AeU),(1080,bx [ow 1648 (Aac r19 r4).length,pI r19.tree.next,ow 1649 r19.tasks.length,pI r19.next]),(1648,ob0 (Ac (Aac r19 r4))),(1649,ob0 (Af r19.tasks))] [] [(1080,.box [ow 1648 r19.tree.nodes.length,pI r19.tree.next,ow 1649 r19.tasks.length,pI r19.next]),(1648,.row 6 r19.tree.nodes.length (c143e3 r19 r4))] (an g20.1 (an g20.2 (an g21 tv))) (by kernel_rfl) .nil (.cons rfl (.box (.cons (MLe.ownLen (enc := Ak) (d := Ar) (f := (c143e3 r19 r4)) (RowIs.upd RowIs.elems (c143e1 r19 r4) rfl)) (.cons .rfl (.cons .rfl (.cons .rfl .nil))))) (.cons rfl (BLe.typed (RowIs.upd RowIs.elems (c143e1 r19 r4) rfl)) .nil)) ?_)
        obtain ⟨r22,hr22,hm⟩ := bo hm
        refine Sq (Sq ?_)
        refine Jn (ι := Bool) (fun (y2 : Bool) => Al [(4,rr 1032),(10,rr 1080),(97,pB y2)] [(AeU),(1080,bx [ow 1648 (Aac r19 r4).length,pI r19.tree.next,ow 1649 r19.tasks.length,pI r19.next]),(1648,ob0 (Ac (Aac r19 r4))),(1649,ob0 (Af r19.tasks))]) (fun y2 => (Iq r4 r19) y2 = some RES) ?_ ?_
        ·intro y2 hm
         unfold Iq at hm
         refine Ah hm ?_ ?_
         ·intro h25 hm
          obtain ⟨r26,hr26,hm⟩ := bo hm
          refine Sq (RK hnt (Tg [] true r26 :: nn 4 []) [(4,rr 1032),(5,pI r26.2)] [(1032,bx [ow 1784 r26.1.tree.nodes.length,pI r26.1.tree.next,ow 1785 r26.1.tasks.length,pI r26.1.next]),(1784,ob0 (Ac r26.1.tree.nodes)),(1785,ob0 (Af r26.1.tasks))] (an (Bm 6 r26 hr26) tv) ?_)
          obtain rfl := sj hm
          exact DW.ret (Ai [Ac r26.1.tree.nodes,Af r26.1.tasks] [1784,1785] (.tup [.agg [ow 0 r26.1.tree.nodes.length,pI r26.1.tree.next,ow 1 r26.1.tasks.length,pI r26.1.next],pI r26.2]))
         ·intro h25 hm
          refine Sk ?_
          refine Sq (RD hnt (nn 3 []) [10,97] [(5,pI 0)] [1080] [(1032,bx [ow 1648 (Aac r19 r4).length,pI r19.tree.next,ow 1649 r19.tasks.length,pI r19.next])] tv ?_)
          obtain rfl := sj hm
          exact DW.ret (Ai [Ac (Aac r19 r4),Af r19.tasks] [1648,1649] (.tup [.agg [ow 0 (Aac r19 r4).length,pI r19.tree.next,ow 1 r19.tasks.length,pI r19.next],pI 0]))
        ·rcases bt (decide (((r22.length : Nat) : Int) > 0)) with h23 | h23
         ·replace hm := Ay h23 hm
          refine RD hnt (nn 2 (o58 [] true r22 :: nn 3 (sk 3 (pT :: [])))) [1,2] [(97,pB true)] [1016] [] (an (Mj p0 p1 r22 hr22) (an4 h23 tv)) ?_
          exact jD true hm Conv.eqK
         ·replace hm := Az h23 hm
          obtain ⟨r24,hr24,hm⟩ := bo hm
          refine RD hnt (nn 2 (o58 [] true r22 :: nn 4 (o49 [] true r24 :: .no :: pF :: []))) [1,2] [(97,pB (!r24))] [1016] [] (an (Mj p0 p1 r22 hr22) (an2 h23 (an (Dh ({ tree := ({ nodes := (Aac r19 r4),next := r19.tree.next } : Ae),tasks := r19.tasks,next := r19.next } : Aa) r24 hr24) (an2 h23 tv)))) ?_
          exact jD (!r24) hm Conv.eqK
     ·rcases bt (r12 == 3) with h13 | h13
      ·replace hm := Ay h13 hm
       refine RD hnt (nn 4 (o144 [] true r12 :: nn 2 (sk 9 (pT :: .no :: [])))) [8,40] [(51,pB true)] [1064] [] (an (Un p0.tree (To p0 r4).parent r12 hr12) (an6 h13 tv)) ?_
       exact jD true hm Conv.eqK
      ·replace hm := Az h13 hm
       rcases bt ((To p0 r4).parent != 1) with h14 | h14
       ·replace hm := Ay h14 hm
        refine RD hnt (nn 4 (o144 [] true r12 :: nn 10 (pT :: pF :: .no :: []))) [8,40] [(51,pB ((kand .i64 r8.1.control 6) != 0))] [1064] [] (an (Un p0.tree (To p0 r4).parent r12 hr12) (an4 h13 (an4 h14 (an h13 (an h14 (an h13 tv)))))) ?_
        exact jD ((kand .i64 r8.1.control 6) != 0) hm Conv.eqK
       ·replace hm := Az h14 hm
        refine RD hnt (nn 4 (o144 [] true r12 :: nn 6 (sk 4 (pF :: pF :: .no :: [])))) [8,40] [(51,pB false)] [1064] [] (an (Un p0.tree (To p0 r4).parent r12 hr12) (an4 h13 (an4 h14 (an h13 (an h14 (an h13 tv)))))) ?_
        exact jD false hm Conv.eqK
abbrev o143 (ks : List Nat) (b : Bool) (RES : Aa × Int) : Orc := .call 56 ks b (.tup [.agg [ow 0 RES.1.tree.nodes.length,pI RES.1.tree.next,ow 1 RES.1.tasks.length,pI RES.1.next],pI RES.2]) [] [Ac RES.1.tree.nodes,Af RES.1.tasks]

theorem AdN (p0 : Aa) (p1 : Int) (p2 : Int) (RES : Aa × Int) (hm : Mx p0 p1 p2 = some RES) : Spec Tryz.prog 20 [.p (.agg (Ab p0)),pI p1,pI p2] [] (.tup [.agg [ow 0 RES.1.tree.nodes.length,pI RES.1.tree.next,ow 1 RES.1.tasks.length,pI RES.1.next],pI RES.2]) [] [Ac RES.1.tree.nodes,Af RES.1.tasks] := by
 unfold Mx at hm
 refine SO Tryz.func20 rfl rfl [(0,.p (.agg (Ab p0))),(1,pI p1),(2,pI p2)] [] ?_
 intro cx hnt
 refine Sq (RD hnt (nn 3 []) [0] [(3,rr 1024),(6,rr 1048)] [] [(1024,bx (pm (Ab p0))),(1048,bx [.p (.sl .nil 0 0 (fun _ => [])),pI 0,.p (.sl .nil 0 0 (fun _ => [])),pI 0])] tv ?_)
 obtain ⟨r1,hr1,hm⟩ := bo hm
 refine Sq (Sq (RD hnt (nn 3 (o133 [] true r1 :: .no :: [])) [1] [(8,pI r1)] [] [] (an (Ot p0 p1 p2 r1 hr1) tv) ?_))
 refine Sq (RD hnt (nn 2 []) [] [(14,pB (r1 != 0))] [] [] tv ?_)
 refine Ah hm ?_ ?_
 ·intro h2 hm
  obtain ⟨r3,hr3,hm⟩ := bo hm
  refine Sq (RK hnt (.no :: o100 [] true r3 :: nn 4 []) [(6,rr 1048),(7,pI r3.2)] [(1048,bx [ow 1128 r3.1.tree.nodes.length,pI r3.1.tree.next,ow 1129 r3.1.tasks.length,pI r3.1.next]),(1128,ob0 (Ac r3.1.tree.nodes)),(1129,ob0 (Af r3.1.tasks))] (an (Dr r1 r3 hr3) tv) ?_)
  obtain rfl := sj hm
  exact DW.ret (Ai [Ac r3.1.tree.nodes,Af r3.1.tasks] [1128,1129] (.tup [.agg [ow 0 r3.1.tree.nodes.length,pI r3.1.tree.next,ow 1 r3.1.tasks.length,pI r3.1.next],pI r3.2]))
 ·intro h2 hm
  refine Sk ?_
  obtain ⟨r4,hr4,hm⟩ := bo hm
  refine Sq (RK hnt (nn 2 (o143 [] true r4 :: nn 4 [])) [(6,rr 1048),(7,pI r4.2)] [(1048,bx [ow 1168 r4.1.tree.nodes.length,pI r4.1.tree.next,ow 1169 r4.1.tasks.length,pI r4.1.next]),(1168,ob0 (Ac r4.1.tree.nodes)),(1169,ob0 (Af r4.1.tasks))] (an (AdR p0 p2 r4 hr4) tv) ?_)
  obtain rfl := sj hm
  exact DW.ret (Ai [Ac r4.1.tree.nodes,Af r4.1.tasks] [1168,1169] (.tup [.agg [ow 0 r4.1.tree.nodes.length,pI r4.1.tree.next,ow 1 r4.1.tasks.length,pI r4.1.next],pI r4.2]))
abbrev o142 (ks : List Nat) (b : Bool) (RES : Aa × Int) : Orc := .call 20 ks b (.tup [.agg [ow 0 RES.1.tree.nodes.length,pI RES.1.tree.next,ow 1 RES.1.tasks.length,pI RES.1.next],pI RES.2]) [] [Ac RES.1.tree.nodes,Af RES.1.tasks]

abbrev c147e1 (r17 : Aa) (r4 : Int) (p2 : Int) := ({ id := (r17.tasks.getD (Int.toNat r4) Ba).id,process := (r17.tasks.getD (Int.toNat r4) Ba).process,group := p2,user := (r17.tasks.getD (Int.toNat r4) Ba).user } : Am)
abbrev c147e2 : Nat × Obj := (1048,bx [.p (.sl .nil 0 0 (fun _ => [])),pI 0,.p (.sl .nil 0 0 (fun _ => [])),pI 0])
abbrev c147e3 (r17 : Aa) (r4 : Int) (p2 : Int) := (Bv (Vh r17.tasks) (Int.toNat r4) [vi (r17.tasks.getD (Int.toNat r4) Ba).id,vi (r17.tasks.getD (Int.toNat r4) Ba).process,vi p2,vi (r17.tasks.getD (Int.toNat r4) Ba).user])
abbrev Afo (r17 : Aa) (r4 : Int) (p2 : Int) := (r17.tasks.set (Int.toNat r4) (c147e1 r17 r4 p2))
theorem AaL (p0 : Aa) (p1 : Int) (p2 : Int) (RES : Aa × Int) (hm : Im p0 p1 p2 = some RES) : Spec Tryz.prog 64 [.p (.agg (Ab p0)),pI p1,pI p2] [] (.tup [.agg [ow 0 RES.1.tree.nodes.length,pI RES.1.tree.next,ow 1 RES.1.tasks.length,pI RES.1.next],pI RES.2]) [] [Ac RES.1.tree.nodes,Af RES.1.tasks] := by
 unfold Im at hm
 refine SO Tryz.func64 rfl rfl [(0,.p (.agg (Ab p0))),(1,pI p1),(2,pI p2)] [] ?_
 intro cx hnt
 refine Sq (RD hnt (nn 3 []) [0] [(3,rr 1024),(6,rr 1048)] [] [(1024,bx (pm (Ab p0))),(c147e2)] tv ?_)
 obtain ⟨r1,hr1,hm⟩ := bo hm
 refine Sq (Sq (RD hnt (.no :: o49 [] true r1 :: .no :: []) [] [(13,pB (!r1))] [] [] (an (Dh p0 r1 hr1) tv) ?_))
 refine Ah hm ?_ ?_
 ·intro h2 hm
  obtain ⟨r3,hr3,hm⟩ := bo hm
  refine Sq (RK hnt (Tg [] true r3 :: nn 4 []) [(6,rr 1048),(7,pI r3.2)] [(1048,bx [ow 1112 r3.1.tree.nodes.length,pI r3.1.tree.next,ow 1113 r3.1.tasks.length,pI r3.1.next]),(1112,ob0 (Ac r3.1.tree.nodes)),(1113,ob0 (Af r3.1.tasks))] (an (Bm 1 r3 hr3) tv) ?_)
  obtain rfl := sj hm
  exact DW.ret (Ai [Ac r3.1.tree.nodes,Af r3.1.tasks] [1112,1113] (.tup [.agg [ow 0 r3.1.tree.nodes.length,pI r3.1.tree.next,ow 1 r3.1.tasks.length,pI r3.1.next],pI r3.2]))
 ·intro h2 hm
  refine Sk ?_
  obtain ⟨r4,hr4,hm⟩ := bo hm
  refine Sq (RD hnt (nn 2 (o54 [] true r4 :: .no :: [])) [1,13] [(8,pI r4)] [] [] (an (AcO p0 p1 r4 hr4) tv) ?_)
  refine Sq (Sq ?_)
  refine Jn (ι := Bool) (fun (y1 : Bool) => Al [(2,pI p2),(3,rr 1024),(6,rr 1048),(8,pI r4),(28,pB y1)] [(1024,bx (pm (Ab p0))),(c147e2)]) (fun y1 => (Hh p0 p2 r4) y1 = some RES) ?_ ?_
  ·intro y1 hm
   unfold Hh at hm
   refine Ah hm ?_ ?_
   ·intro h7 hm
    obtain ⟨r8,hr8,hm⟩ := bo hm
    refine Sq (RK hnt (Tg [] true r8 :: nn 4 []) [(6,rr 1048),(7,pI r8.2)] [(1048,bx [ow 1232 r8.1.tree.nodes.length,pI r8.1.tree.next,ow 1233 r8.1.tasks.length,pI r8.1.next]),(1232,ob0 (Ac r8.1.tree.nodes)),(1233,ob0 (Af r8.1.tasks))] (an (Bm 4 r8 hr8) tv) ?_)
    obtain rfl := sj hm
    exact DW.ret (Ai [Ac r8.1.tree.nodes,Af r8.1.tasks] [1232,1233] (.tup [.agg [ow 0 r8.1.tree.nodes.length,pI r8.1.tree.next,ow 1 r8.1.tasks.length,pI r8.1.next],pI r8.2]))
   ·intro h7 hm
    refine Sk ?_
    obtain ⟨r9,hr9,hm⟩ := bo hm
    refine Sq (Sq (RD hnt (nn 2 (o110 [] true r9 :: .no :: [])) [28] [(9,pI r9)] [] [] (an (Yh p0 p2 r9 hr9) tv) ?_))
    refine Sq (RD hnt (nn 2 []) [] [(36,pB (r9 != 0))] [] [] tv ?_)
    refine Ah hm ?_ ?_
    ·intro h10 hm
     obtain ⟨r11,hr11,hm⟩ := bo hm
     refine Sq (RK hnt (.no :: Tg [] true r11 :: nn 4 []) [(6,rr 1048),(7,pI r11.2)] [(1048,bx [ow 1304 r11.1.tree.nodes.length,pI r11.1.tree.next,ow 1305 r11.1.tasks.length,pI r11.1.next]),(1304,ob0 (Ac r11.1.tree.nodes)),(1305,ob0 (Af r11.1.tasks))] (an (Bm r9 r11 hr11) tv) ?_)
     obtain rfl := sj hm
     exact DW.ret (Ai [Ac r11.1.tree.nodes,Af r11.1.tasks] [1304,1305] (.tup [.agg [ow 0 r11.1.tree.nodes.length,pI r11.1.tree.next,ow 1 r11.1.tasks.length,pI r11.1.next],pI r11.2]))
    ·intro h10 hm
     refine Sk ?_
     obtain ⟨g12,hm⟩ := go1 hm
     obtain ⟨r13,hr13,hm⟩ := bo hm
     obtain ⟨r14,hr14,hm⟩ := bo hm
     refine Sq (Sq (RD hnt (nn 8 (o83 [] true r13 :: nn 3 (o83 [] true r14 :: .no :: []))) [9,36] [(54,pB (r13 != r14))] [] [] (an g12.1 (an g12.2 (an (Nl p0.tree (p0.tasks.getD (Int.toNat r4) Ba).group r13 hr13) (an (Nl p0.tree p2 r14 hr14) tv)))) ?_))
     refine Ah hm ?_ ?_
     ·intro h15 hm
      obtain ⟨r16,hr16,hm⟩ := bo hm
      refine Sq (RK hnt (Tg [] true r16 :: nn 4 []) [(6,rr 1048),(7,pI r16.2)] [(1048,bx [ow 1440 r16.1.tree.nodes.length,pI r16.1.tree.next,ow 1441 r16.1.tasks.length,pI r16.1.next]),(1440,ob0 (Ac r16.1.tree.nodes)),(1441,ob0 (Af r16.1.tasks))] (an (Bm 9 r16 hr16) tv) ?_)
      obtain rfl := sj hm
      exact DW.ret (Ai [Ac r16.1.tree.nodes,Af r16.1.tasks] [1440,1441] (.tup [.agg [ow 0 r16.1.tree.nodes.length,pI r16.1.tree.next,ow 1 r16.1.tasks.length,pI r16.1.next],pI r16.2]))
     ·intro h15 hm
      refine Sk ?_
      obtain ⟨r17,hr17,hm⟩ := bo hm
      refine Sq (RD hnt (.no :: o95 [] true r17 :: nn 2 []) [3,54] [(10,rr 1080)] [1024] [(1080,bx [ow 1472 r17.tree.nodes.length,pI r17.tree.next,ow 1473 r17.tasks.length,pI r17.next]),(1472,ob0 (Ac r17.tree.nodes)),(1473,ob0 (Af r17.tasks))] (an (Nw p0 r17 hr17) tv) ?_)
      obtain ⟨g18,g19,hm⟩ := go2 hm
      refine Sq (RN hnt (nn 7 []) [(6,rr 1048),(10,rr 1080)] [(c147e2),(1080,bx [ow 1472 r17.tree.nodes.length,pI r17.tree.next,ow 1473 (Afo r17 r4 p2).length,pI r17.next]),(1472,ob0 (Ac r17.tree.nodes)),(1473,ob0 (Af (Afo r17 r4 p2)))] [] [(1080,.box [ow 1472 r17.tree.nodes.length,pI r17.tree.next,ow 1473 r17.tasks.length,pI r17.next]),(1473,.row 4 r17.tasks.length (c147e3 r17 r4 p2))] (an g18.1 (an g18.2 (an g19 tv))) (by kernel_rfl) .nil (.cons rfl (.box (.cons .rfl (.cons .rfl (.cons (MLe.ownLen (enc := Ao) (d := Ba) (f := (c147e3 r17 r4 p2)) (RowIs.upd RowIs.elems (c147e1 r17 r4 p2) rfl)) (.cons .rfl .nil))))) (.cons rfl (BLe.typed (RowIs.upd RowIs.elems (c147e1 r17 r4 p2) rfl)) .nil)) ?_)
      refine Sq (RD hnt (nn 3 []) [10] [(7,pI 0)] [1080] [(1048,bx [ow 1472 r17.tree.nodes.length,pI r17.tree.next,ow 1473 (Afo r17 r4 p2).length,pI r17.next])] tv ?_)
      obtain rfl := sj hm
      exact DW.ret (Ai [Ac r17.tree.nodes,Af (Afo r17 r4 p2)] [1472,1473] (.tup [.agg [ow 0 r17.tree.nodes.length,pI r17.tree.next,ow 1 (Afo r17 r4 p2).length,pI r17.next],pI 0]))
  ·rcases bt (decide (r4 < 0)) with h5 | h5
   ·replace hm := Ay h5 hm
    refine RD hnt (nn 3 (sk 5 (pT :: []))) [] [(28,pB true)] [] [] (an6 h5 tv) ?_
    exact jD true hm Conv.eqK
   ·replace hm := Az h5 hm
    obtain ⟨r6,hr6,hm⟩ := bo hm
    refine RD hnt (nn 6 (o30 [] true r6 :: .no :: pF :: [])) [] [(28,pB (decide (r6 < 0)))] [] [] (an4 h5 (an (Fs p0.tree p2 r6 hr6) (an2 h5 tv))) ?_
    exact jD (decide (r6 < 0)) hm Conv.eqK
abbrev o147 (ks : List Nat) (b : Bool) (RES : Aa × Int) : Orc := .call 64 ks b (.tup [.agg [ow 0 RES.1.tree.nodes.length,pI RES.1.tree.next,ow 1 RES.1.tasks.length,pI RES.1.next],pI RES.2]) [] [Ac RES.1.tree.nodes,Af RES.1.tasks]

abbrev c146e1 : Nat × Obj := (1064,bx [.p (.sl .nil 0 0 (fun _ => [])),pI 0,.p (.sl .nil 0 0 (fun _ => [])),pI 0])
theorem AbS (p0 : Aa) (p1 : Int) (p2 : Int) (p3 : Int) (RES : Aa × Int) (hm : Jv p0 p1 p2 p3 = some RES) : Spec Tryz.prog 22 [.p (.agg (Ab p0)),pI p1,pI p2,pI p3] [] (.tup [.agg [ow 0 RES.1.tree.nodes.length,pI RES.1.tree.next,ow 1 RES.1.tasks.length,pI RES.1.next],pI RES.2]) [] [Ac RES.1.tree.nodes,Af RES.1.tasks] := by
 unfold Jv at hm
 refine SO Tryz.func22 rfl rfl [(0,.p (.agg (Ab p0))),(1,pI p1),(2,pI p2),(3,pI p3)] [] ?_
 intro cx hnt
 refine Sq (RD hnt (nn 3 []) [0] [(4,rr 1032),(8,rr 1064)] [] [(1032,bx (pm (Ab p0))),(c146e1)] tv ?_)
 obtain ⟨r1,hr1,hm⟩ := bo hm
 refine Sq (Sq ?_)
 refine Jn (ι := Bool) (fun (y1 : Bool) => Al [(1,pI p1),(2,pI p2),(3,pI p3),(4,rr 1032),(8,rr 1064),(18,pB y1)] [(1032,bx (pm (Ab p0))),(c146e1)]) (fun y1 => (Ik p0 p1 p2 p3) y1 = some RES) ?_ ?_
 ·intro y1 hm
  unfold Ik at hm
  refine Ah hm ?_ ?_
  ·intro h4 hm
   obtain ⟨r5,hr5,hm⟩ := bo hm
   refine Sq (RK hnt (o100 [] true r5 :: nn 4 []) [(8,rr 1064),(9,pI r5.2)] [(1064,bx [ow 1152 r5.1.tree.nodes.length,pI r5.1.tree.next,ow 1153 r5.1.tasks.length,pI r5.1.next]),(1152,ob0 (Ac r5.1.tree.nodes)),(1153,ob0 (Af r5.1.tasks))] (an (Dr 1 r5 hr5) tv) ?_)
   obtain rfl := sj hm
   exact DW.ret (Ai [Ac r5.1.tree.nodes,Af r5.1.tasks] [1152,1153] (.tup [.agg [ow 0 r5.1.tree.nodes.length,pI r5.1.tree.next,ow 1 r5.1.tasks.length,pI r5.1.next],pI r5.2]))
  ·intro h4 hm
   refine Sk ?_
   obtain ⟨r6,hr6,hm⟩ := bo hm
   refine Sq (Sq (RD hnt (nn 2 (o54 [] true r6 :: .no :: [])) [18] [(25,pB (decide (r6 < 0)))] [] [] (an (AcO p0 p2 r6 hr6) tv) ?_))
   refine Ah hm ?_ ?_
   ·intro h7 hm
    obtain ⟨r8,hr8,hm⟩ := bo hm
    refine Sq (RK hnt (o100 [] true r8 :: nn 4 []) [(8,rr 1064),(9,pI r8.2)] [(1064,bx [ow 1208 r8.1.tree.nodes.length,pI r8.1.tree.next,ow 1209 r8.1.tasks.length,pI r8.1.next]),(1208,ob0 (Ac r8.1.tree.nodes)),(1209,ob0 (Af r8.1.tasks))] (an (Dr 4 r8 hr8) tv) ?_)
    obtain rfl := sj hm
    exact DW.ret (Ai [Ac r8.1.tree.nodes,Af r8.1.tasks] [1208,1209] (.tup [.agg [ow 0 r8.1.tree.nodes.length,pI r8.1.tree.next,ow 1 r8.1.tasks.length,pI r8.1.next],pI r8.2]))
   ·intro h7 hm
    refine Sk ?_
    obtain ⟨r9,hr9,hm⟩ := bo hm
    refine Sq (Sq (RD hnt (nn 5 (o104 [] true r9 :: .no :: [])) [1,25] [(10,pI r9)] [] [] (an (Spec.args (xs := [.p (.agg (Ab p0)),pI p1,pI p3,.p (.sl .unk 1 1 (cut 1 [vi p2]))]) (Aah p0 p1 p3 [p2] r9 hr9) (.cons .rfl (.cons .rfl (.cons .rfl (.cons (.p (PLe.typed (RowIs.lit (enc := Cl) (d := 0) (n := 1) (f := (cut 1 [vi p2])) [p2] rfl (fun | 0,_ => rfl | n + 1,h => absurd h (by omega))))) .nil))))) tv) ?_))
    refine Sq (RD hnt (nn 2 []) [] [(36,pB (r9 != 0))] [] [] tv ?_)
    refine Ah hm ?_ ?_
    ·intro h10 hm
     obtain ⟨r11,hr11,hm⟩ := bo hm
     refine Sq (RK hnt (.no :: o100 [] true r11 :: nn 4 []) [(8,rr 1064),(9,pI r11.2)] [(1064,bx [ow 1304 r11.1.tree.nodes.length,pI r11.1.tree.next,ow 1305 r11.1.tasks.length,pI r11.1.next]),(1304,ob0 (Ac r11.1.tree.nodes)),(1305,ob0 (Af r11.1.tasks))] (an (Dr r9 r11 hr11) tv) ?_)
     obtain rfl := sj hm
     exact DW.ret (Ai [Ac r11.1.tree.nodes,Af r11.1.tasks] [1304,1305] (.tup [.agg [ow 0 r11.1.tree.nodes.length,pI r11.1.tree.next,ow 1 r11.1.tasks.length,pI r11.1.next],pI r11.2]))
    ·intro h10 hm
     refine Sk ?_
     obtain ⟨r12,hr12,hm⟩ := bo hm
     refine Sq (RK hnt (nn 3 (o147 [] true r12 :: nn 4 [])) [(8,rr 1064),(9,pI r12.2)] [(1064,bx [ow 1352 r12.1.tree.nodes.length,pI r12.1.tree.next,ow 1353 r12.1.tasks.length,pI r12.1.next]),(1352,ob0 (Ac r12.1.tree.nodes)),(1353,ob0 (Af r12.1.tasks))] (an (AaL p0 p2 p3 r12 hr12) tv) ?_)
     obtain rfl := sj hm
     exact DW.ret (Ai [Ac r12.1.tree.nodes,Af r12.1.tasks] [1352,1353] (.tup [.agg [ow 0 r12.1.tree.nodes.length,pI r12.1.tree.next,ow 1 r12.1.tasks.length,pI r12.1.next],pI r12.2]))
 ·rcases bt (!r1) with h2 | h2
  ·replace hm := Ay h2 hm
   refine RD hnt (.no :: o38 [] true r1 :: nn 2 (sk 3 (pT :: []))) [] [(18,pB true)] [] [] (an (Bp p1 r1 hr1) (an4 h2 tv)) ?_
   exact jD true hm Conv.eqK
  ·replace hm := Az h2 hm
   obtain ⟨r3,hr3,hm⟩ := bo hm
   refine RD hnt (.no :: o38 [] true r1 :: nn 3 (o49 [] true r3 :: .no :: pF :: [])) [] [(18,pB (!r3))] [] [] (an (Bp p1 r1 hr1) (an2 h2 (an (Dh p0 r3 hr3) (an2 h2 tv)))) ?_
   exact jD (!r3) hm Conv.eqK
abbrev o146 (ks : List Nat) (b : Bool) (RES : Aa × Int) : Orc := .call 22 ks b (.tup [.agg [ow 0 RES.1.tree.nodes.length,pI RES.1.tree.next,ow 1 RES.1.tasks.length,pI RES.1.next],pI RES.2]) [] [Ac RES.1.tree.nodes,Af RES.1.tasks]

theorem Vt (p0 : Int) (RES : Bool) (hm : Wf p0 = some RES) : Spec Tryz.prog 70 [pI p0] [] (pB RES) [] [] := by
 unfold Wf at hm
 refine SO Tryz.func70 rfl rfl [(0,pI p0)] [] ?_
 intro cx hnt
 refine Sq (RK hnt (.no :: []) [(0,pI p0)] [] tv ?_)
 refine Sq (DW.regJ (sl2 := [(2,pB ((decide (p0 ≥ 0)) && (decide (p0 ≤ 1048576))))]) (ob2 := []) ?_ ?_)
 ·rcases bt (decide (p0 ≥ 0)) with h1 | h1
  ·exact RT hnt (nn 5 (pT :: .no :: [])) [(2,pB (decide (p0 ≤ 1048576)))] (an3 h1 tv) (by kernel_rfl) (.cons rfl (.of_eq (by rw [h1]; try rfl)) .nil)
  ·exact RT hnt (nn 3 (sk 2 (pF :: .no :: []))) [(2,pB false)] (an3 h1 tv) (by kernel_rfl) (.cons rfl (.of_eq (by rw [h1]; try rfl)) .nil)
 ·refine DW.ret ?_
  obtain rfl := sj hm
  exact Ai [] [] (pB ((decide (p0 ≥ 0)) && (decide (p0 ≤ 1048576))))
abbrev o150 (ks : List Nat) (b : Bool) (RES : Bool) : Orc := .call 70 ks b (pB RES) [] []

theorem Gv (p0 : Ae) (p1 : Int) (p2 : Int) (RES : Bool) (hm : Wg p0 p1 p2 = some RES) : Spec Tryz.prog 28 [.p (.agg (Aj p0)),pI p1,pI p2] [] (pB RES) [] [] := by
 unfold Wg at hm
 refine SO Tryz.func28 rfl rfl [(0,.p (.agg (Aj p0))),(1,pI p1),(2,pI p2)] [] ?_
 intro cx hnt
 refine Sq (RD hnt (nn 2 []) [0] [(3,rr 1024)] [] [(1024,bx (pm (Aj p0)))] tv ?_)
 obtain ⟨r1,hr1,hm⟩ := bo hm
 refine Sq (RD hnt (nn 2 (o22 [] true r1 :: .no :: [])) [2] [(7,ow 1104 r1.length)] [] [(1104,ob0 (roI r1))] (an (Tb p0 p2 r1 hr1) tv) ?_)
 refine Sq (Sq ?_)
 refine Jn (ι := Bool) (fun (y1 : Bool) => Al [(1,pI p1),(3,rr 1024),(7,ow 1104 r1.length),(21,pB y1)] [(1024,bx (pm (Aj p0))),(1104,ob0 (roI r1))]) (fun y1 => (Rw p0 p1 r1) y1 = some RES) ?_ ?_
 ·intro y1 hm
  unfold Rw at hm
  refine Ah hm ?_ ?_
  ·intro h4 hm
   refine Sq (RK hnt (.no :: []) [(6,pB false)] [] tv ?_)
   obtain rfl := sj hm
   exact DW.ret (Ai [] [] (pB false))
  ·intro h4 hm
   refine Sk ?_
   refine Sq (Sq (RD hnt (nn 2 []) [21] [(23,pB (p1 == 0))] [] [] tv ?_))
   refine Ah hm ?_ ?_
   ·intro h5 hm
    refine Sq (RK hnt (.no :: []) [(6,pB true)] [] tv ?_)
    obtain rfl := sj hm
    exact DW.ret (Ai [] [] (pB true))
   ·intro h5 hm
    refine Sk ?_
    refine Sq (Sq (RD hnt (.no :: []) [23] [(8,pI 1)] [] [] tv ?_))
    refine Bk ?_
    obtain ⟨hc1,hm⟩ := go1 hm
    refine DW.forO (fun (k1 : Int) (s1 : Unit) => Al [(1,pI p1),(3,rr 1024),(7,ow 1104 r1.length),(8,pI k1)] [(1024,bx (pm (Aj p0))),(1104,ob0 (roI r1))]) (lo := 1) (hi := ((r1.length : Nat) : Int)) hm Conv.eqK ?_
    intro k1 s1 n1 hk1 hs1 he1
    refine Sq (Sq (RD hnt (nn 4 []) [] [(27,pB (decide (k1 < ((r1.length : Nat) : Int))))] [] [] tv ?_))
    refine Bx (decide (k1 < ((r1.length : Nat) : Int))) ?_ ?_
    ·intro h16
     have hlt1 : k1 < ((r1.length : Nat) : Int) := by have := of_decide_eq_true h16; omega
     have hm := hs1 hlt1
     unfold AcG at hm
     refine Sk ?_
     refine Sq (Bk ?_)
     obtain ⟨g17,g18,hm⟩ := go2 hm
     obtain ⟨r19,hr19,hm⟩ := bo hm
     refine Sq (RD hnt (nn 5 (o16 [] true r19 :: nn 6 [])) [27] [(9,rr 1072)] [] [(1072,bx (pm (Ak r19.1)))] (an g17.1 (an g17.2 (an g18 (an (Cg p0 (r1.getD (Int.toNat k1) 0) r19 hr19) tv)))) ?_)
     refine Sq (RD hnt (nn 4 []) [9] [(42,pB (r19.1.owner == p1))] [1072] [] tv ?_)
     refine Ah hm ?_ ?_
     ·intro h20 hm
      refine Sq (RK hnt (.no :: []) [(6,pB true)] [] tv ?_)
      obtain rfl := sj hm
      exact DW.ret (Ai [] [] (pB true))
     ·intro h20 hm
      refine Sk ?_
      refine DW.done ?_
      show DW _ _ _ _ _
      refine RD hnt (nn 3 []) [42] [(8,pI (w64 (k1 + 1)))] [] [] tv ?_
      exact jD () ⟨hlt1,hm⟩ (Conv.tp [(8,pI (w64 (k1 + 1)))] [] (by kernel_rfl) (.cons rfl (.of_eq (congrArg pI (Rr (lo := 1) (hi := ((r1.length : Nat) : Int)) (by omega) hk1 hlt1 (by omega)))) .nil) .nil)
    ·intro h16
     have hge1 : ¬ k1 < ((r1.length : Nat) : Int) := by have := of_decide_eq_false h16; omega
     have hm := he1 hge1
     unfold Agk at hm
     refine DW.exit ?_
     refine Ap ?_
     refine Au ?_
     refine An ?_
     show DW _ _ _ _ _
     refine Sq (RK hnt (.no :: []) [(6,pB false)] [] tv ?_)
     obtain rfl := sj hm
     exact DW.ret (Ai [] [] (pB false))
 ·rcases bt (((r1.length : Nat) : Int) == 0) with h2 | h2
  ·replace hm := Ay h2 hm
   refine RD hnt (nn 4 (sk 3 (pT :: []))) [] [(21,pB true)] [] [] (an4 h2 tv) ?_
   exact jD true hm Conv.eqK
  ·replace hm := Az h2 hm
   obtain ⟨r3,hr3,hm⟩ := bo hm
   refine RD hnt (nn 5 (o150 [] true r3 :: .no :: pF :: [])) [] [(21,pB (!r3))] [] [] (an2 h2 (an (Vt p1 r3 hr3) (an2 h2 tv))) ?_
   exact jD (!r3) hm Conv.eqK
abbrev o149 (ks : List Nat) (b : Bool) (RES : Bool) : Orc := .call 28 ks b (pB RES) [] []

theorem Tr (p0 : Ae) (p1 : Int) (p2 : Int) (RES : Bool) (hm : Xb p0 p1 p2 = some RES) : Spec Tryz.prog 25 [.p (.agg (Aj p0)),pI p1,pI p2] [] (pB RES) [] [] := by
 unfold Xb at hm
 refine SO Tryz.func25 rfl rfl [(0,.p (.agg (Aj p0))),(1,pI p1),(2,pI p2)] [] ?_
 intro cx hnt
 refine Sq (RD hnt (nn 2 []) [0] [(3,rr 1024)] [] [(1024,bx (pm (Aj p0)))] tv ?_)
 obtain ⟨r1,hr1,hm⟩ := bo hm
 refine Sq (RD hnt (nn 2 (o16 [] true r1 :: nn 6 [])) [] [(7,rr 1056),(8,pB r1.2)] [] [(1056,bx (pm (Ak r1.1)))] (an (Cg p0 p2 r1 hr1) tv) ?_)
 refine Sq ?_
 refine Jn (ι := Bool) (fun (y1 : Bool) => Al [(6,pB y1)] []) (fun y1 => Kp y1 = some RES) ?_ ?_
 ·intro y1 hm
  unfold Kp at hm
  obtain rfl := sj hm
  exact DW.ret (Ai [] [] (pB y1))
 ·rcases bt r1.2 with h2 | h2
  ·replace hm := Ay h2 hm
   obtain ⟨r3,hr3,hm⟩ := bo hm
   rcases bt r3 with h4 | h4
   ·replace hm := Ay h4 hm
    refine RK hnt (nn 5 (o149 [] true r3 :: .no :: sk 12 (pT :: pT :: .no :: []))) [(6,pB true)] [] (an4 h2 (an (Gv p0 p1 p2 r3 hr3) (an h2 (an6 h4 (an h2 (an h4 (an h2 tv))))))) ?_
    exact jD true hm .refl
   ·replace hm := Az h4 hm
    obtain ⟨r5,hr5,hm⟩ := bo hm
    rcases bt r5 with h6 | h6
    ·replace hm := Ay h6 hm
     rcases bt (p1 != 0) with h7 | h7
     ·replace hm := Ay h7 hm
      refine RK hnt (nn 5 (o149 [] true r3 :: nn 2 (o150 [] true r5 :: nn 3 (pT :: nn 5 (pT :: pF :: pT :: .no :: []))))) [(6,pB (r1.1.owner == p1))] [] (an4 h2 (an (Gv p0 p1 p2 r3 hr3) (an h2 (an2 h4 (an (Vt p1 r5 hr5) (an h4 (an2 h6 (an h4 (an h6 (an h4 (an4 h7 (an h4 (an h7 (an h2 (an h4 (an h2 tv)))))))))))))))) ?_
      exact jD (r1.1.owner == p1) hm .refl
     ·replace hm := Az h7 hm
      refine RK hnt (nn 5 (o149 [] true r3 :: nn 2 (o150 [] true r5 :: nn 3 (pT :: .no :: sk 4 (pF :: pF :: pT :: .no :: []))))) [(6,pB false)] [] (an4 h2 (an (Gv p0 p1 p2 r3 hr3) (an h2 (an2 h4 (an (Vt p1 r5 hr5) (an h4 (an2 h6 (an h4 (an h6 (an h4 (an4 h7 (an h4 (an h7 (an h2 (an h4 (an h2 tv)))))))))))))))) ?_
      exact jD false hm .refl
    ·replace hm := Az h6 hm
     refine RK hnt (nn 5 (o149 [] true r3 :: nn 2 (o150 [] true r5 :: .no :: sk 2 (pF :: .no :: sk 4 (pF :: pF :: pT :: .no :: []))))) [(6,pB false)] [] (an4 h2 (an (Gv p0 p1 p2 r3 hr3) (an h2 (an2 h4 (an (Vt p1 r5 hr5) (an h4 (an2 h6 (an h4 (an h6 (an h4 (an4 ff (an h4 (an ff (an h2 (an h4 (an h2 tv)))))))))))))))) ?_
     exact jD false hm .refl
  ·replace hm := Az h2 hm
   refine RK hnt (nn 2 (sk 18 (pF :: .no :: []))) [(6,pB false)] [] (an h2 (an6 h2 tv)) ?_
   exact jD false hm .refl
abbrev o148 (ks : List Nat) (b : Bool) (RES : Bool) : Orc := .call 25 ks b (pB RES) [] []

theorem AiP (p0 : List Int) (p1 : List Int) (RES : Bool) (hm : Zw p0 p1 = some RES) : Spec Tryz.prog 26 [.p (slI p0),.p (slI p1)] [] (pB RES) [] [] := by
 unfold Zw at hm
 refine SO Tryz.func26 rfl rfl [(0,.p (slI p0)),(1,.p (slI p1))] [] ?_
 intro cx hnt
 refine Sq (RD hnt (.no :: []) [] [] [] [] tv ?_)
 refine Sq (Sq (RD hnt (nn 5 []) [] [(10,pB (((p0.length : Nat) : Int) != ((p1.length : Nat) : Int)))] [] [] tv ?_))
 refine Ah hm ?_ ?_
 ·intro h1 hm
  refine Sq (RK hnt (.no :: []) [(4,pB false)] [] tv ?_)
  obtain rfl := sj hm
  exact DW.ret (Ai [] [] (pB false))
 ·intro h1 hm
  refine Sk ?_
  refine Sq (Sq (RD hnt (.no :: []) [10] [(5,pI 0)] [] [] tv ?_))
  refine Bk ?_
  obtain ⟨hc1,hm⟩ := go1 hm
  refine DW.rangeO (fun (k1 : Nat) (s1 : Unit) => Al [(0,.p (slI p0)),(1,.p (slI p1)),(5,pI ((k1 : Nat) : Int))] []) 0 hm Conv.eqK ?_
  intro k1 s1 n1 hk1 hs1 he1
  refine Sq (Sq (RD hnt (nn 4 []) [] [(14,pB (decide (((k1 : Nat) : Int) < ((p0.length : Nat) : Int))))] [] [] tv ?_))
  refine Bx (decide (((k1 : Nat) : Int) < ((p0.length : Nat) : Int))) ?_ ?_
  ·intro h10
   have hlt1 : k1 < p0.length := by have := of_decide_eq_true h10; omega
   have hm := hs1 hlt1
   unfold AcL at hm
   refine Sk ?_
   refine Sq (Bk ?_)
   obtain ⟨g11,hm⟩ := go1 hm
   refine Sq (RD hnt (nn 9 []) [14] [(25,pB ((p0.getD k1 0) != (p1.getD k1 0)))] [] [] (an (nn0 k1) (an (ltc hlt1) (an (nn0 k1) (an (ltc g11) tv)))) ?_)
   refine Ah hm ?_ ?_
   ·intro h12 hm
    refine Sq (RK hnt (.no :: []) [(4,pB false)] [] tv ?_)
    obtain rfl := sj hm
    exact DW.ret (Ai [] [] (pB false))
   ·intro h12 hm
    refine Sk ?_
    refine DW.done ?_
    show DW _ _ _ _ _
    refine RD hnt (nn 3 []) [25] [(5,pI (w64 (((k1 : Nat) : Int) + 1)))] [] [] tv ?_
    exact jD () ⟨hlt1,hm⟩ (Conv.tp [(5,pI (w64 (((k1 : Nat) : Int) + 1)))] [] (by kernel_rfl) (.cons rfl (.of_eq (congrArg pI (Bj hlt1 hc1))) .nil) .nil)
  ·intro h10
   have hge1 : ¬ k1 < p0.length := by have := of_decide_eq_false h10; omega
   have hm := he1 hge1
   unfold Agb at hm
   refine DW.exit ?_
   refine Ap ?_
   refine Au ?_
   refine An ?_
   show DW _ _ _ _ _
   refine Sq (RK hnt (.no :: []) [(4,pB true)] [] tv ?_)
   obtain rfl := sj hm
   exact DW.ret (Ai [] [] (pB true))
abbrev o151 (ks : List Nat) (b : Bool) (RES : Bool) : Orc := .call 26 ks b (pB RES) [] []
end Go.Dm


/- Go functions compute their models, printed by a program. -/
namespace Go.Dm
open Go.Proofs
set_option linter.unusedVariables false
abbrev Np (r5 : Aa × At) (k10 : Nat) := (r5.1.tree.nodes.getD k10 (default : Ag))
abbrev Aan (r5 : Aa × At) : Nat × Obj := (1032,bx (pm (Ab r5.1)))
abbrev c1e3 (s1 : Aa × At) : Nat × Obj := (1048,bx (pm (Ab s1.1)))
abbrev c1e4 (r5 : Aa × At) : Nat × MV := (133,pI ((r5.1.tree.nodes.length : Nat) : Int))
theorem AaB (p0 : List Int) (RES : Bool) (hm : Is p0 = some RES) : Spec Tryz.prog 4 [.p (slI p0)] [] (pB RES) [] [] := by
 unfold Is at hm
 refine SO Tryz.func4 rfl rfl [(0,.p (slI p0))] [] ?_
 intro cx hnt
 refine Sq (RK hnt (.no :: []) [(0,.p (slI p0))] [] tv ?_)
 obtain ⟨r1,hr1,hm⟩ := bo hm
 refine Sq (Sq (RD hnt (.no :: o2 [] true r1 :: .no :: []) [] [(19,pB (!r1))] [] [] (an (AhL p0 r1 hr1) tv) ?_))
 refine Ah hm ?_ ?_
 ·intro h2 hm
  obtain ⟨r3,hr3,hm⟩ := bo hm
  refine Sq (RK hnt (o3 [] true r3 :: .no :: []) [(2,pB r3)] [] (an (Aee r3 hr3) tv) ?_)
  obtain rfl := sj hm
  exact DW.ret (Ai [] [] (pB r3))
 ·intro h2 hm
  refine Sk ?_
  obtain ⟨r4,hr4,hm⟩ := bo hm
  refine Sq (RK hnt (.no :: o111 [] true r4 :: .no :: []) [(3,rr 1176)] [(1176,bx (pm (Aq r4)))] (an (AiW p0 r4 hr4) tv) ?_)
  obtain ⟨r5,hr5,hm⟩ := bo hm
  refine Sq (RK hnt (.no :: o112 [1176] true r5 :: nn 2 []) [(3,rr 1176),(4,rr 1032)] [(Aan r5),(1176,bx (pm (Aq r5.2)))] (an (AbR r4 7 8 r5 hr5) (an tv tv)) ?_)
  obtain ⟨r6,hr6,hm⟩ := bo hm
  refine Sq (RD hnt (.no :: Tn [1176] true r6 :: nn 2 []) [] [(5,pI (w64 (1 + r6.1)))] [] [(1176,bx (pm (Aq r6.2)))] (an (Bo r5.2 2 r6 hr6) (an tv tv)) ?_)
  refine Sq (RD hnt (nn 3 []) [] [(6,rr 1048)] [] [(1048,bx (pm (Ab r5.1)))] tv ?_)
  refine Sq (Sq (RD hnt (.no :: []) [] [(7,pI 0)] [] [] tv ?_))
  refine Bk ?_
  refine DW.forO (fun (k1 : Int) (s1 : Aa × At) => Al [(3,rr 1176),(4,rr 1032),(5,pI (w64 (1 + r6.1))),(6,rr 1048),(7,pI k1)] [(Aan r5),(c1e3 s1),(1176,bx (pm (Aq s1.2)))]) (lo := 0) (hi := 8) hm Conv.eqK ?_
  intro k1 s1 n1 hk1 hs1 he1
  refine Sq (Sq (RD hnt (nn 2 []) [] [(30,pB (decide (k1 < 8)))] [] [] tv ?_))
  refine Bx (decide (k1 < 8)) ?_ ?_
  ·intro h274
   have hlt1 : k1 < 8 := by have := of_decide_eq_true h274; omega
   have hm := hs1 hlt1
   unfold Js at hm
   refine Sk ?_
   refine Sq ?_
   refine Jn (ι := Aa × At) (fun (y34 : Aa × At) => Al [(3,rr 1176),(4,rr 1032),(5,pI (w64 (1 + r6.1))),(6,rr 1048),(7,pI k1)] [(Aan r5),(1048,bx (pm (Ab y34.1))),(1176,bx (pm (Aq y34.2)))]) (fun y34 => (Gt n1) y34 = some RES) ?_ ?_
   ·intro y34 hm
    unfold Gt at hm
    refine RD hnt (nn 3 []) [] [(7,pI (w64 (k1 + 1)))] [] [] tv ?_
    exact jD (y34.1,y34.2) ⟨hlt1,hm⟩ (Conv.tp [(7,pI (w64 (k1 + 1)))] [] (by kernel_rfl) (.cons rfl (.of_eq (congrArg pI (Rr (lo := 0) (hi := 8) (by omega) hk1 hlt1 (by omega)))) .nil) .nil)
   ·refine Bk ?_
    obtain ⟨r275,hr275,hm⟩ := bo hm
    obtain ⟨r276,hr276,hm⟩ := bo hm
    refine Sq (RD hnt (nn 3 (o119 [1176] true r275 :: nn 2 (o127 [1176] true r276 :: nn 2 []))) [30] [(8,pI r275.1),(9,pI r276.1)] [] [(1176,bx (pm (Aq r276.2)))] (an (Nn s1.2 s1.1.tree r275 hr275) (an tv (an (Oi r275.2 s1.1 r276 hr276) (an tv tv)))) ?_)
    refine Sq (RD hnt (nn 4 []) [] [(10,rr 1080),(11,pI 0)] [] [(1080,bx (pm (Ab s1.1)))] tv ?_)
    obtain ⟨r277,hr277,hm⟩ := bo hm
    refine Sq (Sq (RD hnt (.no :: Tn [1176] true r277 :: []) [] [(42,pI r277.1)] [] [(1176,bx (pm (Aq r277.2)))] (an (Bo r276.2 7 r277 hr277) (an tv tv)) ?_))
    refine Jn (ι := Aa × At × Int) (fun (y35 : Aa × At × Int) => Al [(3,rr 1176),(4,rr 1032),(5,pI (w64 (1 + r6.1))),(6,rr 1048),(7,pI k1),(10,rr 1080),(11,pI y35.2.2)] [(Aan r5),(c1e3 s1),(1080,bx (pm (Ab y35.1))),(1176,bx (pm (Aq y35.2.1)))]) (fun y35 => (Bs s1 n1) y35 = some RES) ?_ ?_
    ·intro y35 hm
     unfold Bs at hm
     refine Sq (RD hnt (nn 2 []) [11] [(116,pB (y35.2.2 == 0))] [] [] tv ?_)
     refine Ah hm ?_ ?_
     ·intro h295 hm
      refine RD hnt (nn 2 []) [10,116] [] [1080] [(1048,bx (pm (Ab y35.1)))] tv ?_
      exact bD (y35.1,y35.2.1) hm Conv.eqK
     ·intro h295 hm
      refine Sk ?_
      exact bD (s1.1,y35.2.1) hm Conv.t0
    ·refine Bk ?_
     refine Sq (RD hnt (nn 2 []) [] [(43,pB (r277.1 == 0))] [] [] tv ?_)
     refine Ah hm ?_ ?_
     ·intro h278 hm
      obtain ⟨r279,hr279,hm⟩ := bo hm
      obtain ⟨r280,hr280,hm⟩ := bo hm
      refine RD hnt (nn 4 (o115 [1176] true r279 :: o47 [] true r280 :: nn 6 [])) [8,9,42,43] [(11,pI r280.2.2)] [] [(1080,bx [ow 1408 r280.1.tree.nodes.length,pI r280.1.tree.next,ow 1409 r280.1.tasks.length,pI r280.1.next]),(1176,bx (pm (Aq r279.2))),(1408,ob0 (Ac r280.1.tree.nodes)),(1409,ob0 (Af r280.1.tasks))] (an (Aaf r277.2 r279 hr279) (an tv (an (Yg s1.1 (w64 (1 + r6.1)) r275.1 r279.1 r280 hr280) tv))) ?_
      exact bD (r280.1,r279.2,r280.2.2) hm (Conv.frz [1408,1409])
     ·intro h278 hm
      refine Sq (RD hnt (nn 2 []) [43] [(55,pB (r277.1 == 1))] [] [] tv ?_)
      refine Ah hm ?_ ?_
      ·intro h281 hm
       obtain ⟨r282,hr282,hm⟩ := bo hm
       refine RD hnt (nn 3 (o132 [] true r282 :: nn 5 [])) [8,9,42,55] [(11,pI r282.2)] [] [(1080,bx [.p (Bf r282.1.tree.nodes),pI r282.1.tree.next,ow 1488 r282.1.tasks.length,pI r282.1.next]),(1488,ob0 (Af r282.1.tasks))] (an (Aeo s1.1 (w64 (1 + r6.1)) r275.1 r282 hr282) tv) ?_
       exact bD (r282.1,r277.2,r282.2) hm (Conv.frz [1488])
      ·intro h281 hm
       refine Sq (RD hnt (nn 2 []) [55] [(64,pB (r277.1 == 2))] [] [] tv ?_)
       refine Ah hm ?_ ?_
       ·intro h283 hm
        obtain ⟨r284,hr284,hm⟩ := bo hm
        obtain ⟨r285,hr285,hm⟩ := bo hm
        refine RD hnt (nn 4 (o120 [1176] true r284 :: o138 [] true r285 :: nn 5 [])) [8,9,42,64] [(11,pI r285.2)] [] [(1080,bx [ow 1576 r285.1.tree.nodes.length,pI r285.1.tree.next,ow 1577 r285.1.tasks.length,pI r285.1.next]),(1176,bx (pm (Aq r284.2))),(1576,ob0 (Ac r285.1.tree.nodes)),(1577,ob0 (Af r285.1.tasks))] (an (Ma r277.2 r284 hr284) (an tv (an (Yb s1.1 (w64 (1 + r6.1)) r275.1 r284.1 0 r285 hr285) tv))) ?_
        exact bD (r285.1,r284.2,r285.2) hm (Conv.frz [1576,1577])
       ·intro h283 hm
        refine Sq (RD hnt (nn 2 []) [64] [(75,pB (r277.1 == 3))] [] [] tv ?_)
        refine Ah hm ?_ ?_
        ·intro h286 hm
         obtain ⟨r287,hr287,hm⟩ := bo hm
         refine RK hnt (nn 3 (o142 [] true r287 :: nn 5 [])) [(3,rr 1176),(4,rr 1032),(5,pI (w64 (1 + r6.1))),(6,rr 1048),(7,pI k1),(10,rr 1080),(11,pI r287.2)] [(Aan r5),(c1e3 s1),(1080,bx [ow 1648 r287.1.tree.nodes.length,pI r287.1.tree.next,ow 1649 r287.1.tasks.length,pI r287.1.next]),(1176,bx (pm (Aq r277.2))),(1648,ob0 (Ac r287.1.tree.nodes)),(1649,ob0 (Af r287.1.tasks))] (an (AdN s1.1 (w64 (1 + r6.1)) r275.1 r287 hr287) tv) ?_
         exact bD (r287.1,r277.2,r287.2) hm (Conv.frz [1648,1649])
        ·intro h286 hm
         refine Sq (RK hnt (nn 2 []) [(3,rr 1176),(4,rr 1032),(5,pI (w64 (1 + r6.1))),(6,rr 1048),(7,pI k1),(8,pI r275.1),(9,pI r276.1),(10,rr 1080),(11,pI 0),(42,pI r277.1),(84,pB (r277.1 == 4))] [(Aan r5),(c1e3 s1),(1080,bx (pm (Ab s1.1))),(1176,bx (pm (Aq r277.2)))] tv ?_)
         refine Ah hm ?_ ?_
         ·intro h288 hm
          obtain ⟨r289,hr289,hm⟩ := bo hm
          obtain ⟨r290,hr290,hm⟩ := bo hm
          refine RD hnt (nn 4 (o120 [1176] true r289 :: o138 [] true r290 :: nn 5 [])) [8,9,42,84] [(11,pI r290.2)] [] [(1080,bx [ow 1736 r290.1.tree.nodes.length,pI r290.1.tree.next,ow 1737 r290.1.tasks.length,pI r290.1.next]),(1176,bx (pm (Aq r289.2))),(1736,ob0 (Ac r290.1.tree.nodes)),(1737,ob0 (Af r290.1.tasks))] (an (Ma r277.2 r289 hr289) (an tv (an (Yb s1.1 (w64 (1 + r6.1)) r275.1 0 r289.1 r290 hr290) tv))) ?_
          exact bD (r290.1,r289.2,r290.2) hm (Conv.frz [1736,1737])
         ·intro h288 hm
          refine Sq (RD hnt (nn 2 []) [84] [(95,pB (r277.1 == 5))] [] [] tv ?_)
          refine Ah hm ?_ ?_
          ·intro h291 hm
           obtain ⟨r292,hr292,hm⟩ := bo hm
           refine RD hnt (nn 4 (o99 [] true r292 :: nn 5 [])) [8,9,42,95] [(11,pI r292.2)] [] [(1080,bx [ow 1816 r292.1.tree.nodes.length,pI r292.1.tree.next,ow 1817 r292.1.tasks.length,pI r292.1.next]),(1816,ob0 (Ac r292.1.tree.nodes)),(1817,ob0 (Af r292.1.tasks))] (an (Ur s1.1 (w64 (1 + r6.1)) r276.1 r275.1 r292 hr292) tv) ?_
           exact bD (r292.1,r277.2,r292.2) hm (Conv.frz [1816,1817])
          ·intro h291 hm
           refine Sq (RD hnt (nn 2 []) [42,95] [(105,pB (r277.1 == 6))] [] [] tv ?_)
           refine Ah hm ?_ ?_
           ·intro h293 hm
            obtain ⟨r294,hr294,hm⟩ := bo hm
            refine RD hnt (nn 4 (o146 [] true r294 :: nn 5 [])) [8,9,105] [(11,pI r294.2)] [] [(1080,bx [ow 1896 r294.1.tree.nodes.length,pI r294.1.tree.next,ow 1897 r294.1.tasks.length,pI r294.1.next]),(1896,ob0 (Ac r294.1.tree.nodes)),(1897,ob0 (Af r294.1.tasks))] (an (AbS s1.1 (w64 (1 + r6.1)) r276.1 r275.1 r294 hr294) tv) ?_
            exact bD (r294.1,r277.2,r294.2) hm (Conv.frz [1896,1897])
           ·intro h293 hm
            refine Sk ?_
            exact bD (s1.1,r277.2,0) hm Conv.t0
  ·intro h274
   have hge1 : ¬ k1 < 8 := by have := of_decide_eq_false h274; omega
   have hm := he1 hge1
   unfold Ns at hm
   refine DW.exit ?_
   refine Ap ?_
   refine Au ?_
   refine An ?_
   show DW _ _ _ _ _
   obtain ⟨r296,hr296,hm⟩ := bo hm
   refine Sq (Sq ?_)
   refine Jn (ι := Bool) (fun (y36 : Bool) => Al [(4,rr 1032),(5,pI (w64 (1 + r6.1))),(6,rr 1048),(129,pB y36)] [(Aan r5),(c1e3 s1)]) (fun y36 => (Gs r5 r6 s1) y36 = some RES) ?_ ?_
   ·intro y36 hm
    unfold Gs at hm
    refine Ah hm ?_ ?_
    ·intro h298 hm
     refine Sq (RK hnt (.no :: []) [(2,pB false)] [] tv ?_)
     obtain rfl := sj hm
     exact DW.ret (Ai [] [] (pB false))
    ·intro h298 hm
     refine Sk ?_
     refine Sq (Sq (RD hnt (nn 5 []) [129] [(c1e4 r5),(134,pI 0)] [] [] tv ?_))
     refine Bk ?_
     obtain ⟨hc10,hm⟩ := go1 hm
     refine DW.rangeO (fun (k10 : Nat) (s10 : Unit) => Al [(4,rr 1032),(5,pI (w64 (1 + r6.1))),(6,rr 1048),(c1e4 r5),(134,pI ((k10 : Nat) : Int))] [(Aan r5),(c1e3 s1)]) Ar hm Conv.eqK ?_
     intro k10 s10 n10 hk10 hs10 he10
     refine Sq (RD hnt (.no :: []) [] [(135,pB (decide (((k10 : Nat) : Int) < ((r5.1.tree.nodes.length : Nat) : Int))))] [] [] tv ?_)
     refine Sq (Bx (decide (((k10 : Nat) : Int) < ((r5.1.tree.nodes.length : Nat) : Int))) ?_ ?_)
     ·intro h373
      have hlt10 : k10 < r5.1.tree.nodes.length := by have := of_decide_eq_true h373; omega
      have hm := hs10 hlt10
      unfold Mw at hm
      refine Sk ?_
      refine Sq (Bk ?_)
      refine Sq (RD hnt (nn 2 []) [135] [(12,pI ((k10 : Nat) : Int))] [] [] tv ?_)
      refine Sq (RD hnt (nn 8 []) [12] [(13,rr 1104)] [] [(1104,bx (pm (Ak (Np r5 k10))))] (an (nn0 k10) (an (ltc hlt10) tv)) ?_)
      obtain ⟨r374,hr374,hm⟩ := bo hm
      refine Sq (RD hnt (nn 4 (o16 [] true r374 :: nn 6 [])) [] [(14,rr 1112),(15,pB r374.2)] [] [(1112,bx (pm (Ak r374.1)))] (an (Cg s1.1.tree (Np r5 k10).id r374 hr374) tv) ?_)
      obtain ⟨r375,hr375,hm⟩ := bo hm
      refine Sq (Sq ?_)
      refine Jn (ι := Bool) (fun (y47 : Bool) => Al [(4,rr 1032),(5,pI (w64 (1 + r6.1))),(6,rr 1048),(13,rr 1104),(14,rr 1112),(15,pB r374.2),(c1e4 r5),(134,pI ((k10 : Nat) : Int)),(178,pB y47)] [(Aan r5),(c1e3 s1),(1104,bx (pm (Ak (Np r5 k10)))),(1112,bx (pm (Ak r374.1)))]) (fun y47 => (De r5 r6 (Np r5 k10) n10 r374) y47 = some RES) ?_ ?_
      ·intro y47 hm
       unfold De at hm
       refine Ah hm ?_ ?_
       ·intro h382 hm
        refine Sq (RK hnt (.no :: []) [(2,pB false)] [] tv ?_)
        obtain rfl := sj hm
        exact DW.ret (Ai [] [] (pB false))
       ·intro h382 hm
        refine Sk ?_
        obtain ⟨r383,hr383,hm⟩ := bo hm
        refine Sq ?_
        refine Jn (ι := Bool) (fun (y48 : Bool) => Al [(4,rr 1032),(5,pI (w64 (1 + r6.1))),(6,rr 1048),(c1e4 r5),(134,pI ((k10 : Nat) : Int)),(217,pB y48)] [(Aan r5),(c1e3 s1)]) (fun y48 => (Cq n10) y48 = some RES) ?_ ?_
        ·intro y48 hm
         unfold Cq at hm
         refine Ah hm ?_ ?_
         ·intro h389 hm
          refine Sq (RK hnt (.no :: []) [(2,pB false)] [] tv ?_)
          obtain rfl := sj hm
          exact DW.ret (Ai [] [] (pB false))
         ·intro h389 hm
          refine Sk ?_
          refine DW.done ?_
          show DW _ _ _ _ _
          refine RD hnt (nn 2 []) [217] [(134,pI (w64 (((k10 : Nat) : Int) + 1)))] [] [] tv ?_
          exact jD () ⟨hlt10,hm⟩ (Conv.tp [(134,pI (w64 (((k10 : Nat) : Int) + 1)))] [] (by kernel_rfl) (.cons rfl (.of_eq (congrArg pI (Bj hlt10 hc10))) .nil) .nil)
        ·rcases bt (!r383) with h384 | h384
         ·replace hm := Ay h384 hm
          rcases bt (!r374.2) with h385 | h385
          ·replace hm := Ay h385 hm
           refine RD hnt (nn 5 (o149 [] true r383 :: nn 5 (sk 5 (pT :: .no :: sk 5 (pT :: .no :: sk 5 (pT :: .no :: sk 5 (pT :: pT :: []))))))) [13,14,15,178] [(217,pB true)] [1104,1112] [] (an (Gv r5.1.tree (w64 (1 + r6.1)) (Np r5 k10).id r383 hr383) (an3 h384 (an5 h385 (an h384 (an h385 (an h384 (an5 tt (an h384 (an tt (an h384 (an5 tt (an h384 (an tt (an h384 (an5 tt (an h384 (an tt (an h384 tv)))))))))))))))))) ?_
           exact jD true hm Conv.eqK
          ·replace hm := Az h385 hm
           rcases bt (!(Co (Np r5 k10).name r374.1.name)) with h386 | h386
           ·replace hm := Ay h386 hm
            refine RD hnt (nn 5 (o149 [] true r383 :: nn 10 (pF :: .no :: sk 5 (pT :: .no :: sk 5 (pT :: .no :: sk 5 (pT :: pT :: [])))))) [13,14,15,178] [(217,pB true)] [1104,1112] [] (an (Gv r5.1.tree (w64 (1 + r6.1)) (Np r5 k10).id r383 hr383) (an3 h384 (an5 h385 (an h384 (an h385 (an h384 (an5 h386 (an h384 (an h386 (an h384 (an5 tt (an h384 (an tt (an h384 (an5 tt (an h384 (an tt (an h384 tv)))))))))))))))))) ?_
            exact jD true hm Conv.eqK
           ·replace hm := Az h386 hm
            rcases bt ((Np r5 k10).kind != r374.1.kind) with h387 | h387
            ·replace hm := Ay h387 hm
             refine RD hnt (nn 5 (o149 [] true r383 :: nn 10 (pF :: nn 6 (pF :: .no :: sk 5 (pT :: .no :: sk 5 (pT :: pT :: [])))))) [13,14,15,178] [(217,pB true)] [1104,1112] [] (an (Gv r5.1.tree (w64 (1 + r6.1)) (Np r5 k10).id r383 hr383) (an3 h384 (an5 h385 (an h384 (an h385 (an h384 (an5 h386 (an h384 (an h386 (an h384 (an5 h387 (an h384 (an h387 (an h384 (an5 tt (an h384 (an tt (an h384 tv)))))))))))))))))) ?_
             exact jD true hm Conv.eqK
            ·replace hm := Az h387 hm
             rcases bt ((Np r5 k10).owner != r374.1.owner) with h388 | h388
             ·replace hm := Ay h388 hm
              refine RD hnt (nn 5 (o149 [] true r383 :: nn 10 (pF :: nn 6 (pF :: nn 6 (pF :: .no :: sk 5 (pT :: pT :: [])))))) [13,14,15,178] [(217,pB true)] [1104,1112] [] (an (Gv r5.1.tree (w64 (1 + r6.1)) (Np r5 k10).id r383 hr383) (an3 h384 (an5 h385 (an h384 (an h385 (an h384 (an5 h386 (an h384 (an h386 (an h384 (an5 h387 (an h384 (an h387 (an h384 (an5 h388 (an h384 (an h388 (an h384 tv)))))))))))))))))) ?_
              exact jD true hm Conv.eqK
             ·replace hm := Az h388 hm
              refine RD hnt (nn 5 (o149 [] true r383 :: nn 10 (pF :: nn 6 (pF :: nn 6 (pF :: nn 6 (pF :: pT :: [])))))) [13,14,15,178] [(217,pB ((Np r5 k10).parent != r374.1.parent))] [1104,1112] [] (an (Gv r5.1.tree (w64 (1 + r6.1)) (Np r5 k10).id r383 hr383) (an3 h384 (an5 h385 (an h384 (an h385 (an h384 (an5 h386 (an h384 (an h386 (an h384 (an5 h387 (an h384 (an h387 (an h384 (an5 h388 (an h384 (an h388 (an h384 tv)))))))))))))))))) ?_
              exact jD ((Np r5 k10).parent != r374.1.parent) hm Conv.eqK
         ·replace hm := Az h384 hm
          refine RD hnt (nn 5 (o149 [] true r383 :: nn 2 (sk 30 (pF :: [])))) [13,14,15,178] [(217,pB false)] [1104,1112] [] (an (Gv r5.1.tree (w64 (1 + r6.1)) (Np r5 k10).id r383 hr383) (an5 h384 (an6 h384 tv))) ?_
          exact jD false hm Conv.eqK
      ·rcases bt (!r375) with h376 | h376
       ·replace hm := Ay h376 hm
        rcases bt (!r374.2) with h377 | h377
        ·replace hm := Ay h377 hm
         refine RD hnt (nn 5 (o148 [] true r375 :: nn 5 (sk 3 (pT :: .no :: sk 10 (pT :: pT :: []))))) [] [(178,pB true)] [] [] (an (Tr r5.1.tree (w64 (1 + r6.1)) (Np r5 k10).id r375 hr375) (an3 h376 (an3 h377 (an h376 (an h377 (an h376 (an4 tt (an6 tt (an h376 (an tt (an h376 tv))))))))))) ?_
         exact jD true hm Conv.eqK
        ·replace hm := Az h377 hm
         rcases bt (!(AgN (Np r5 k10) r374.1)) with h378 | h378
         ·replace hm := Ay h378 hm
          refine RD hnt (nn 5 (o148 [] true r375 :: nn 8 (pF :: .no :: sk 10 (pT :: pT :: [])))) [] [(178,pB true)] [] [] (an (Tr r5.1.tree (w64 (1 + r6.1)) (Np r5 k10).id r375 hr375) (an3 h376 (an3 h377 (an h376 (an h377 (an h376 (an4 h378 (an6 h378 (an h376 (an h378 (an h376 tv))))))))))) ?_
          exact jD true hm Conv.eqK
         ·replace hm := Az h378 hm
          obtain ⟨r379,hr379,hm⟩ := bo hm
          obtain ⟨r380,hr380,hm⟩ := bo hm
          obtain ⟨r381,hr381,hm⟩ := bo hm
          refine RD hnt (nn 5 (o148 [] true r375 :: nn 8 (pF :: nn 4 (o19 [] true r379 :: nn 3 (o19 [] true r380 :: o151 [] true r381 :: .no :: pF :: pT :: []))))) [] [(178,pB (!r381))] [] [] (an (Tr r5.1.tree (w64 (1 + r6.1)) (Np r5 k10).id r375 hr375) (an3 h376 (an3 h377 (an h376 (an h377 (an h376 (an4 h378 (an (Jz r5.1 (Np r5 k10).id r379 hr379) (an4 h378 (an (Jz s1.1 (Np r5 k10).id r380 hr380) (an h378 (an (AiP r379 r380 r381 hr381) (an h378 (an h376 (an h378 (an h376 tv)))))))))))))))) ?_
          exact jD (!r381) hm Conv.eqK
       ·replace hm := Az h376 hm
        refine RD hnt (nn 5 (o148 [] true r375 :: nn 2 (sk 19 (pF :: [])))) [] [(178,pB false)] [] [] (an (Tr r5.1.tree (w64 (1 + r6.1)) (Np r5 k10).id r375 hr375) (an h376 (an6 h376 tv))) ?_
        exact jD false hm Conv.eqK
     ·intro h373
      have hge10 : ¬ k10 < r5.1.tree.nodes.length := by have := of_decide_eq_false h373; omega
      have hm := he10 hge10
      unfold Nj at hm
      refine DW.exit ?_
      refine Ap ?_
      refine Au ?_
      refine An ?_
      show DW _ _ _ _ _
      refine Sq (Sq (RD hnt (nn 4 []) [133,134,135] [(221,pI ((r5.1.tasks.length : Nat) : Int)),(222,pI 0)] [] [] tv ?_))
      refine Bk ?_
      obtain ⟨hc13,hm⟩ := go1 hm
      refine DW.rangeO (fun (k13 : Nat) (s13 : Unit) => Al [(4,rr 1032),(5,pI (w64 (1 + r6.1))),(6,rr 1048),(221,pI ((r5.1.tasks.length : Nat) : Int)),(222,pI ((k13 : Nat) : Int))] [(Aan r5),(c1e3 s1)]) Ba hm Conv.eqK ?_
      intro k13 s13 n13 hk13 hs13 he13
      refine Sq (RD hnt (.no :: []) [] [(223,pB (decide (((k13 : Nat) : Int) < ((r5.1.tasks.length : Nat) : Int))))] [] [] tv ?_)
      refine Sq (Bx (decide (((k13 : Nat) : Int) < ((r5.1.tasks.length : Nat) : Int))) ?_ ?_)
      ·intro h404
       have hlt13 : k13 < r5.1.tasks.length := by have := of_decide_eq_true h404; omega
       have hm := hs13 hlt13
       unfold Nd at hm
       refine Sk ?_
       refine Sq (Bk ?_)
       refine Sq (RD hnt (nn 2 []) [223] [(16,pI ((k13 : Nat) : Int))] [] [] tv ?_)
       refine Sq ?_
       refine Jn (ι := Bool) (fun (y51 : Bool) => Al [(4,rr 1032),(5,pI (w64 (1 + r6.1))),(6,rr 1048),(221,pI ((r5.1.tasks.length : Nat) : Int)),(222,pI ((k13 : Nat) : Int)),(245,pB y51)] [(Aan r5),(c1e3 s1)]) (fun y51 => (Gl n13) y51 = some RES) ?_ ?_
       ·intro y51 hm
        unfold Gl at hm
        refine Ah hm ?_ ?_
        ·intro h407 hm
         refine Sq (RK hnt (.no :: []) [(2,pB false)] [] tv ?_)
         obtain rfl := sj hm
         exact DW.ret (Ai [] [] (pB false))
        ·intro h407 hm
         refine Sk ?_
         refine DW.done ?_
         show DW _ _ _ _ _
         refine RD hnt (nn 2 []) [245] [(222,pI (w64 (((k13 : Nat) : Int) + 1)))] [] [] tv ?_
         exact jD () ⟨hlt13,hm⟩ (Conv.tp [(222,pI (w64 (((k13 : Nat) : Int) + 1)))] [] (by kernel_rfl) (.cons rfl (.of_eq (congrArg pI (Bj hlt13 hc13))) .nil) .nil)
       ·rcases bt ((r5.1.tasks.getD k13 (default : Am)).user != (w64 (1 + r6.1))) with h405 | h405
        ·replace hm := Ay h405 hm
         obtain ⟨g406,hm⟩ := go1 hm
         refine RD hnt (nn 20 (pT :: [])) [16] [(245,pB (!(AeT (s1.1.tasks.getD k13 Ba) (r5.1.tasks.getD k13 (default : Am)))))] [] [] (an (nn0 k13) (an (ltc hlt13) (an4 h405 (an (nn0 k13) (an (ltc g406) (an5 h405 (an (nn0 k13) (an (ltc hlt13) (an3 h405 tv))))))))) ?_
         exact jD (!(AeT (s1.1.tasks.getD k13 Ba) (r5.1.tasks.getD k13 (default : Am)))) hm Conv.eqK
        ·replace hm := Az h405 hm
         refine RD hnt (nn 9 (sk 11 (pF :: []))) [16] [(245,pB false)] [] [] (an (nn0 k13) (an (ltc hlt13) (an6 h405 (an6 h405 tv)))) ?_
         exact jD false hm Conv.eqK
      ·intro h404
       have hge13 : ¬ k13 < r5.1.tasks.length := by have := of_decide_eq_false h404; omega
       have hm := he13 hge13
       unfold Ti at hm
       refine DW.exit ?_
       refine Ap ?_
       refine Au ?_
       refine An ?_
       show DW _ _ _ _ _
       obtain ⟨r408,hr408,hm⟩ := bo hm
       refine Sq (RK hnt (o3 [] true r408 :: .no :: []) [(2,pB r408)] [] (an (Aee r408 hr408) tv) ?_)
       obtain rfl := sj hm
       exact DW.ret (Ai [] [] (pB r408))
   ·rcases bt (!r296) with h297 | h297
    ·replace hm := Ay h297 hm
     refine RD hnt (.no :: o7 [] true r296 :: nn 2 (sk 7 (pT :: []))) [3,7,30] [(129,pB true)] [1176] [] (an (Ia s1.1 r296 hr296) (an2 h297 (an6 h297 tv))) ?_
     exact jD true hm Conv.eqK
    ·replace hm := Az h297 hm
     refine RD hnt (.no :: o7 [] true r296 :: nn 9 (pF :: [])) [3,7,30] [(129,pB (((s1.1.tasks.length : Nat) : Int) != ((r5.1.tasks.length : Nat) : Int)))] [1176] [] (an (Ia s1.1 r296 hr296) (an2 h297 (an6 h297 tv))) ?_
     exact jD (((s1.1.tasks.length : Nat) : Int) != ((r5.1.tasks.length : Nat) : Int)) hm Conv.eqK
abbrev o1 (ks : List Nat) (b : Bool) (RES : Bool) : Orc := .call 4 ks b (pB RES) [] []
end Go.Dm

