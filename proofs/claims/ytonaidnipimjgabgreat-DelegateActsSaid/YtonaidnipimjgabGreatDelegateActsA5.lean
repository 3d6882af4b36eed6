/- Texts of the proof of DelegateActs: the data machine, the models of the Go functions, their contracts. -/
import Derived.Test.YtonaidnipimjgabGreatDelegateActsA4
set_option linter.unusedVariables false
set_option linter.unusedSimpArgs false
/- Go functions compute their models, printed by a program. -/
namespace Go.Dm
open Go.Proofs
set_option linter.unusedVariables false
theorem AhX (p0 : Aa) (p1 : Int) (RES : List Int) (hm : Uk p0 p1 = some RES) : Spec Tryz.prog 61 [.p (.agg (Ab p0)),pI p1] [] (.p (slI RES)) [] [] := by
 unfold Uk at hm
 refine SO Tryz.func61 rfl rfl [(0,.p (.agg (Ab p0))),(1,pI p1)] [] ?_
 intro cx hnt
 refine Sq (RK hnt (nn 3 []) [(2,rr 1016),(3,rr 1024)] [(1016,bx (pm (Ab p0))),(1024,bx [pI p1])] tv ?_)
 obtain ⟨r1,hr1,hm⟩ := bo hm
 refine Sq (RK hnt (nn 2 (.call 107 [1024] true (.p (slI r1)) [.box [pI p1]] [] :: .no :: [])) [(4,.p (slI r1))] [] (an (Tw p0 p1 r1 hr1) (an tv tv)) ?_)
 obtain rfl := sj hm
 exact DW.ret (Ai [] [] (.p (slI r1)))
abbrev o101 (ks : List Nat) (b : Bool) (RES : List Int) : Orc := .call 61 ks b (.p (slI RES)) [] []

theorem AeC (p0 : List Int) (p1 : Int) (RES : Int) (hm : Sa p0 p1 = some RES) : Spec Tryz.prog 151 [.p (slI p0),pI p1] [] (pI RES) [] [] := by
 unfold Sa at hm
 refine SO Tryz.func151 rfl rfl [(0,.p (slI p0)),(1,pI p1)] [] ?_
 intro cx hnt
 refine Sq (RD hnt (.no :: []) [] [] [] [] tv ?_)
 refine Sq (Sq (RD hnt (nn 3 []) [] [(7,pI ((p0.length : Nat) : Int)),(8,pI 0)] [] [] tv ?_))
 refine Bk ?_
 obtain ⟨hc1,hm⟩ := go1 hm
 refine DW.rangeO (fun (k1 : Nat) (s1 : Unit) => Am [(0,.p (slI p0)),(1,pI p1),(7,pI ((p0.length : Nat) : Int)),(8,pI ((k1 : Nat) : Int))] []) 0 hm Conv.eqK ?_
 intro k1 s1 n1 hk1 hs1 he1
 refine Sq (RD hnt (.no :: []) [] [(9,pB (decide (((k1 : Nat) : Int) < ((p0.length : Nat) : Int))))] [] [] tv ?_)
 refine Sq (Bx (decide (((k1 : Nat) : Int) < ((p0.length : Nat) : Int))) ?_ ?_)
 ·intro h7
  have hlt1 : k1 < p0.length := by have := of_decide_eq_true h7; omega
  have hm := hs1 hlt1
  unfold AaG at hm
  refine Sk ?_
  refine Sq (Bk ?_)
  refine Sq (RD hnt (nn 2 []) [9] [(5,pI ((k1 : Nat) : Int))] [] [] tv ?_)
  refine Sq (RD hnt (nn 6 []) [] [(16,pB (p1 == (p0.getD k1 0)))] [] [] (an (nn0 k1) (an (ltc hlt1) tv)) ?_)
  refine Ag hm ?_ ?_
  ·intro h8 hm
   refine Sq (RK hnt (nn 2 []) [(4,pI ((k1 : Nat) : Int))] [] tv ?_)
   obtain rfl := sj hm
   exact DW.ret (Ai [] [] (pI ((k1 : Nat) : Int)))
  ·intro h8 hm
   refine Sk ?_
   refine DW.done ?_
   show DW _ _ _ _ _
   refine RD hnt (nn 2 []) [5,16] [(8,pI (w64 (((k1 : Nat) : Int) + 1)))] [] [] tv ?_
   exact jD () ⟨hlt1,hm⟩ (Conv.tp [(8,pI (w64 (((k1 : Nat) : Int) + 1)))] [] (by kernel_rfl) (.cons rfl (.of_eq (congrArg pI (Bl hlt1 hc1))) .nil) .nil)
 ·intro h7
  have hge1 : ¬ k1 < p0.length := by have := of_decide_eq_false h7; omega
  have hm := he1 hge1
  unfold AaA at hm
  refine DW.exit ?_
  refine Ar ?_
  refine Au ?_
  refine Ap ?_
  show DW _ _ _ _ _
  refine Sq (RK hnt (.no :: []) [(4,pI (-1))] [] tv ?_)
  obtain rfl := sj hm
  exact DW.ret (Ai [] [] (pI (-1)))
abbrev o107 (ks : List Nat) (b : Bool) (RES : Int) : Orc := .call 151 ks b (pI RES) [] []

theorem AcK (p0 : List Int) (p1 : Int) (RES : Bool) (hm : Ki p0 p1 = some RES) : Spec Tryz.prog 142 [.p (slI p0),pI p1] [] (pB RES) [] [] := by
 unfold Ki at hm
 refine SO Tryz.func142 rfl rfl [(0,.p (slI p0)),(1,pI p1)] [] ?_
 intro cx hnt
 refine Sq (RD hnt (.no :: []) [] [] [] [] tv ?_)
 obtain ⟨r1,hr1,hm⟩ := bo hm
 refine Sq (RK hnt (nn 2 (o107 [] true r1 :: nn 2 [])) [(4,pB (decide (r1 ≥ 0)))] [] (an (AeC p0 p1 r1 hr1) tv) ?_)
 obtain rfl := sj hm
 exact DW.ret (Ai [] [] (pB (decide (r1 ≥ 0))))
abbrev o106 (ks : List Nat) (b : Bool) (RES : Bool) : Orc := .call 142 ks b (pB RES) [] []

theorem Ahf (p0 : Af) (p1 : Int) (p2 : Int) (RES : Int × Bool) (hm : Sl p0 p1 p2 = some RES) : Spec Tryz.prog 106 [.p (.agg (Aj p0)),pI p1,pI p2] [] (.p (.tup [vi RES.1,vb RES.2])) [] [] := by
 unfold Sl at hm
 refine SO Tryz.func106 rfl rfl [(0,.p (.agg (Aj p0))),(1,pI p1),(2,pI p2)] [] ?_
 intro cx hnt
 refine Sq (RD hnt (nn 3 []) [0] [(3,rr 1024)] [] [(1024,bx (pm (Aj p0)))] tv ?_)
 obtain ⟨r1,hr1,hm⟩ := bo hm
 refine Sq (RD hnt (nn 2 (o40 [] true r1 :: .no :: [])) [2] [(8,ow 1104 r1.length)] [] [(1104,ob0 (roI r1))] (an (Fw p0 p2 r1 hr1) tv) ?_)
 obtain ⟨r2,hr2,hm⟩ := bo hm
 refine Sq (Sq (RD hnt (nn 2 (o40 [] true r2 :: nn 2 [])) [1,3] [(16,ow 1128 r2.length),(17,pI ((r2.length : Nat) : Int)),(18,pI 0)] [1024] [(1128,ob0 (roI r2))] (an (Fw p0 p1 r2 hr2) tv) ?_))
 refine Bk ?_
 obtain ⟨hc1,hm⟩ := go1 hm
 refine DW.rangeO (fun (k1 : Nat) (s1 : Unit) => Am [(8,ow 1104 r1.length),(16,ow 1128 r2.length),(17,pI ((r2.length : Nat) : Int)),(18,pI ((k1 : Nat) : Int))] [(1104,ob0 (roI r1)),(1128,ob0 (roI r2))]) 0 hm Conv.eqK ?_
 intro k1 s1 n1 hk1 hs1 he1
 refine Sq (RD hnt (.no :: []) [] [(19,pB (decide (((k1 : Nat) : Int) < ((r2.length : Nat) : Int))))] [] [] tv ?_)
 refine Sq (Bx (decide (((k1 : Nat) : Int) < ((r2.length : Nat) : Int))) ?_ ?_)
 ·intro h13
  have hlt1 : k1 < r2.length := by have := of_decide_eq_true h13; omega
  have hm := hs1 hlt1
  unfold Xt at hm
  refine Sk ?_
  refine Sq (Bk ?_)
  refine Sq (RD hnt (nn 3 []) [19] [(10,pI (r2.getD k1 0))] [] [] (an (nn0 k1) (an (ltc hlt1) (an (by omega : k1 < r2.length) tv))) ?_)
  obtain ⟨r14,hr14,hm⟩ := bo hm
  refine Sq (RD hnt (nn 2 (o106 [] true r14 :: [])) [] [(24,pB r14)] [] [] (an (AcK r1 (r2.getD k1 0) r14 hr14) tv) ?_)
  refine Ag hm ?_ ?_
  ·intro h15 hm
   refine Sq (RK hnt (nn 3 []) [(6,pI (r2.getD k1 0)),(7,pB true)] [] tv ?_)
   obtain rfl := sj hm
   exact DW.ret (Ai [] [] (.p (.tup [vi (r2.getD k1 0),vb true])))
  ·intro h15 hm
   refine Sk ?_
   refine DW.done ?_
   show DW _ _ _ _ _
   refine RD hnt (nn 2 []) [10,24] [(18,pI (w64 (((k1 : Nat) : Int) + 1)))] [] [] tv ?_
   exact jD () ⟨hlt1,hm⟩ (Conv.tp [(18,pI (w64 (((k1 : Nat) : Int) + 1)))] [] (by kernel_rfl) (.cons rfl (.of_eq (congrArg pI (Bl hlt1 hc1))) .nil) .nil)
 ·intro h13
  have hge1 : ¬ k1 < r2.length := by have := of_decide_eq_false h13; omega
  have hm := he1 hge1
  unfold Adg at hm
  refine DW.exit ?_
  refine Ar ?_
  refine Au ?_
  refine Ap ?_
  show DW _ _ _ _ _
  refine Sq (RK hnt (nn 2 []) [(6,pI 0),(7,pB false)] [] tv ?_)
  obtain rfl := sj hm
  exact DW.ret (Ai [] [] (.p (.tup [vi 0,vb false])))
abbrev o105 (ks : List Nat) (b : Bool) (RES : Int × Bool) : Orc := .call 106 ks b (.p (.tup [vi RES.1,vb RES.2])) [] []

theorem AaM (p0 : Aa) (p1 : Int) (p2 : Int) (p3 : List Int) (RES : Int) (hm : Ng p0 p1 p2 p3 = some RES) : Spec Tryz.prog 60 [.p (.agg (Ab p0)),pI p1,pI p2,.p (slI p3)] [] (pI RES) [] [] := by
 unfold Ng at hm
 refine SO Tryz.func60 rfl rfl [(0,.p (.agg (Ab p0))),(1,pI p1),(2,pI p2),(3,.p (slI p3))] [] ?_
 intro cx hnt
 refine Sq (RD hnt (nn 2 []) [0] [(4,rr 1032)] [] [(1032,bx (pm (Ab p0)))] tv ?_)
 obtain ⟨r1,hr1,hm⟩ := bo hm
 refine Sq (Sq (RD hnt (nn 3 (o30 [] true r1 :: .no :: [])) [] [(19,pB (decide (r1 < 0)))] [] [] (an (Fz p0.tree p2 r1 hr1) tv) ?_))
 refine Ag hm ?_ ?_
 ·intro h2 hm
  refine Sq (RK hnt (.no :: []) [(8,pI 4)] [] tv ?_)
  obtain rfl := sj hm
  exact DW.ret (Ai [] [] (pI 4))
 ·intro h2 hm
  refine Sk ?_
  obtain ⟨r3,hr3,hm⟩ := bo hm
  refine Sq (Sq (RD hnt (nn 4 (o86 [] true r3 :: .no :: [])) [19] [(25,pB (!r3))] [] [] (an (Pm p0.tree p1 p2 r3 hr3) tv) ?_))
  refine Ag hm ?_ ?_
  ·intro h4 hm
   refine Sq (RK hnt (.no :: []) [(8,pI 8)] [] tv ?_)
   obtain rfl := sj hm
   exact DW.ret (Ai [] [] (pI 8))
  ·intro h4 hm
   refine Sk ?_
   refine Sq (Sq (RD hnt (nn 3 []) [3,25] [(26,.p (slI p3)),(27,pI ((p3.length : Nat) : Int)),(28,pI 0)] [] [] tv ?_))
   refine Bk ?_
   obtain ⟨hc1,hm⟩ := go1 hm
   refine DW.rangeO (fun (k1 : Nat) (s1 : Unit) => Am [(1,pI p1),(2,pI p2),(4,rr 1032),(26,.p (slI p3)),(27,pI ((p3.length : Nat) : Int)),(28,pI ((k1 : Nat) : Int))] [(1032,bx (pm (Ab p0)))]) 0 hm Conv.eqK ?_
   intro k1 s1 n1 hk1 hs1 he1
   refine Sq (RD hnt (.no :: []) [] [(29,pB (decide (((k1 : Nat) : Int) < ((p3.length : Nat) : Int))))] [] [] tv ?_)
   refine Sq (Bx (decide (((k1 : Nat) : Int) < ((p3.length : Nat) : Int))) ?_ ?_)
   ·intro h23
    have hlt1 : k1 < p3.length := by have := of_decide_eq_true h23; omega
    have hm := hs1 hlt1
    unfold Xi at hm
    refine Sk ?_
    refine Sq (Bk ?_)
    refine Sq (RD hnt (nn 3 []) [29] [(10,pI (p3.getD k1 0))] [] [] (an (nn0 k1) (an (ltc hlt1) tv)) ?_)
    obtain ⟨r24,hr24,hm⟩ := bo hm
    refine Sq (RD hnt (nn 2 (o53 [] true r24 :: nn 6 [])) [10] [(11,rr 1088)] [] [(1088,bx (pm (Ao r24.1)))] (an (Wx p0 (p3.getD k1 0) r24 hr24) tv) ?_)
    obtain ⟨r25,hr25,hm⟩ := bo hm
    refine Sq (RD hnt (nn 5 (o105 [] true r25 :: nn 5 [])) [] [(13,pI r25.1)] [] [] (an (Ahf p0.tree p2 r24.1.group r25 hr25) tv) ?_)
    refine Sq ?_
    refine Jn (ι := Bool) (fun (y3 : Bool) => Am [(1,pI p1),(2,pI p2),(4,rr 1032),(26,.p (slI p3)),(27,pI ((p3.length : Nat) : Int)),(28,pI ((k1 : Nat) : Int)),(62,pB y3)] [(1032,bx (pm (Ab p0)))]) (fun y3 => (Ko n1) y3 = some RES) ?_ ?_
    ·intro y3 hm
     unfold Ko at hm
     refine Ag hm ?_ ?_
     ·intro h30 hm
      refine Sq (RK hnt (.no :: []) [(8,pI 8)] [] tv ?_)
      obtain rfl := sj hm
      exact DW.ret (Ai [] [] (pI 8))
     ·intro h30 hm
      refine Sk ?_
      refine DW.done ?_
      show DW _ _ _ _ _
      refine RD hnt (nn 2 []) [62] [(28,pI (w64 (((k1 : Nat) : Int) + 1)))] [] [] tv ?_
      exact jD () ⟨hlt1,hm⟩ (Conv.tp [(28,pI (w64 (((k1 : Nat) : Int) + 1)))] [] (by kernel_rfl) (.cons rfl (.of_eq (congrArg pI (Bl hlt1 hc1))) .nil) .nil)
    ·rcases bt (p1 != 0) with h26 | h26
     ·replace hm := Ba h26 hm
      rcases bt (r24.1.user != p1) with h27 | h27
      ·replace hm := Ba h27 hm
       refine RD hnt (nn 7 (pT :: .no :: sk 6 (pT :: []))) [11,13] [(62,pB true)] [1088] [] (an5 h26 (an h27 (an6 h27 tv))) ?_
       exact jD true hm Conv.eqK
      ·replace hm := Bb h27 hm
       obtain ⟨r28,hr28,hm⟩ := bo hm
       refine RD hnt (nn 7 (pT :: nn 5 (o86 [] true r28 :: .no :: pF :: []))) [11,13] [(62,pB (!r28))] [1088] [] (an5 h26 (an5 h27 (an (Pm p0.tree p1 r25.1 r28 hr28) (an2 h27 tv)))) ?_
       exact jD (!r28) hm Conv.eqK
     ·replace hm := Bb h26 hm
      obtain ⟨r29,hr29,hm⟩ := bo hm
      refine RD hnt (nn 3 (sk 4 (pF :: nn 5 (o86 [] true r29 :: .no :: pF :: [])))) [11,13] [(62,pB (!r29))] [1088] [] (an5 h26 (an5 ff (an (Pm p0.tree p1 r25.1 r29 hr29) (an2 ff tv)))) ?_
      exact jD (!r29) hm Conv.eqK
   ·intro h23
    have hge1 : ¬ k1 < p3.length := by have := of_decide_eq_false h23; omega
    have hm := he1 hge1
    unfold Aci at hm
    refine DW.exit ?_
    refine Ar ?_
    refine Au ?_
    refine Ap ?_
    show DW _ _ _ _ _
    refine Sq (RK hnt (.no :: []) [(8,pI 0)] [] tv ?_)
    obtain rfl := sj hm
    exact DW.ret (Ai [] [] (pI 0))
abbrev o104 (ks : List Nat) (b : Bool) (RES : Int) : Orc := .call 60 ks b (pI RES) [] []

theorem Br (p0 : Int) (RES : Aa × Int) (hm : Bj p0 = some RES) : Spec Tryz.prog 99 [pI p0] [] (.tup [.agg [ow 0 RES.1.tree.nodes.length,pI RES.1.tree.next,ow 1 RES.1.tasks.length,pI RES.1.next],pI RES.2]) [] [Ac RES.1.tree.nodes,Ae RES.1.tasks] := by
 unfold Bj at hm
 refine SO Tryz.func99 rfl rfl [(0,pI p0)] [] ?_
 intro cx hnt
 refine Sq (RK hnt (nn 2 []) [(0,pI p0),(2,rr 1016)] [(1016,bx [.p (.sl .nil 0 0 (fun _ => [])),pI 0,.p (.sl .nil 0 0 (fun _ => [])),pI 0])] tv ?_)
 refine Sq (RD hnt (nn 4 []) [0] [(3,pI p0)] [] [] tv ?_)
 refine DW.cv [] [] [] [(1016,bx [ow 100000 0,pI 0,ow 100001 0,pI 0]),(100000,ob0 (Ac [])),(100001,ob0 (Ae []))] (Conv.ads [(.o 1016 0,100000,6,elems Ak As []),(.o 1016 2,100001,4,elems Ao Ax [])]) ?_
 obtain rfl := sj hm
 exact DW.ret (Ai [Ac [],Ae []] [100000,100001] (.tup [.agg [ow 0 0,pI 0,ow 1 0,pI 0],pI p0]))
abbrev Uc (ks : List Nat) (b : Bool) (RES : Aa × Int) : Orc := .call 99 ks b (.tup [.agg [ow 0 RES.1.tree.nodes.length,pI RES.1.tree.next,ow 1 RES.1.tasks.length,pI RES.1.next],pI RES.2]) [] [Ac RES.1.tree.nodes,Ae RES.1.tasks]

theorem Zh (p0 : Aa) (p1 : Int) (RES : Int) (hm : Ls p0 p1 = some RES) : Spec Tryz.prog 110 [.p (.agg (Ab p0)),pI p1] [] (pI RES) [] [] := by
 unfold Ls at hm
 refine SO Tryz.func110 rfl rfl [(0,.p (.agg (Ab p0))),(1,pI p1)] [] ?_
 intro cx hnt
 refine Sq (RK hnt (nn 2 []) [(1,pI p1),(2,rr 1016)] [(1016,bx (pm (Ab p0)))] tv ?_)
 obtain ⟨r1,hr1,hm⟩ := bo hm
 refine Sq (RD hnt (nn 3 (o41 [] true r1 :: nn 6 [])) [] [(5,rr 1040),(6,pB r1.2)] [] [(1040,bx (pm (Ak r1.1)))] (an (Fi p0.tree p1 r1 hr1) tv) ?_)
 refine Sq (Bk ?_)
 refine Sq (RD hnt (nn 3 []) [6] [(14,pB (!r1.2))] [] [] tv ?_)
 refine Ag hm ?_ ?_
 ·intro h2 hm
  refine Sq (RK hnt (.no :: []) [(4,pI 4)] [] tv ?_)
  obtain rfl := sj hm
  exact DW.ret (Ai [] [] (pI 4))
 ·intro h2 hm
  refine Sq ?_
  refine Jn (ι := Bool) (fun (y1 : Bool) => Am [(1,pI p1),(5,rr 1040),(17,pB y1)] [(1040,bx (pm (Ak r1.1)))]) (fun y1 => (Mo p1 r1) y1 = some RES) ?_ ?_
  ·intro y1 hm
   unfold Mo at hm
   refine Ag hm ?_ ?_
   ·intro h5 hm
    refine Sq (RK hnt (.no :: []) [(4,pI 10)] [] tv ?_)
    obtain rfl := sj hm
    exact DW.ret (Ai [] [] (pI 10))
   ·intro h5 hm
    refine Sq (DW.regJ (sl2 := [(27,pB ((p1 != 1) && ((kand .i64 r1.1.control 6) != 0)))]) (ob2 := []) ?_ ?_)
    ·rcases bt (p1 != 1) with h6 | h6
     ·exact RT hnt (nn 7 (pT :: .no :: [])) [(27,pB ((kand .i64 r1.1.control 6) != 0))] (an5 h6 tv) (by kernel_rfl) (.cons rfl (.of_eq (by rw [h6]; try rfl)) .nil)
     ·exact RT hnt (nn 3 (sk 4 (pF :: .no :: []))) [(27,pB false)] (an5 h6 tv) (by kernel_rfl) (.cons rfl (.of_eq (by rw [h6]; try rfl)) .nil)
    ·refine Ag hm ?_ ?_
     ·intro h7 hm
      refine Sq (RK hnt (.no :: []) [(4,pI 6)] [] tv ?_)
      obtain rfl := sj hm
      exact DW.ret (Ai [] [] (pI 6))
     ·intro h7 hm
      refine Sk ?_
      refine DW.done ?_
      show DW _ _ _ _ _
      refine Sq (RK hnt (.no :: []) [(4,pI 0)] [] tv ?_)
      obtain rfl := sj hm
      exact DW.ret (Ai [] [] (pI 0))
  ·rcases bt (r1.1.kind != 1) with h3 | h3
   ·replace hm := Ba h3 hm
    obtain ⟨r4,hr4,hm⟩ := bo hm
    refine RD hnt (nn 7 (o85 [] true r4 :: pT :: .no :: [])) [2,14] [(17,pB r4)] [1016] [] (an4 h3 (an (Ha p0.tree p1 r4 hr4) (an h3 tv))) ?_
    exact jD r4 hm Conv.eqK
   ·replace hm := Bb h3 hm
    refine RD hnt (nn 4 (sk 4 (pF :: .no :: []))) [2,14] [(17,pB false)] [1016] [] (an5 h3 tv) ?_
    exact jD false hm Conv.eqK
abbrev o110 (ks : List Nat) (b : Bool) (RES : Int) : Orc := .call 110 ks b (pI RES) [] []

abbrev AbR (s1 : List An) (k1 : Int) (p2 : Int) := ({ id := (s1.getD (Int.toNat k1) Ax).id,process := (s1.getD (Int.toNat k1) Ax).process,group := p2,user := (s1.getD (Int.toNat k1) Ax).user } : An)
abbrev Agy : Nat × Obj := (1048,bx [.p (.sl .nil 0 0 (fun _ => [])),pI 0,.p (.sl .nil 0 0 (fun _ => [])),pI 0])
abbrev c108e3 (s1 : List An) (k1 : Int) (p2 : Int) := (Bs (Kj s1) (Int.toNat k1) [vi (s1.getD (Int.toNat k1) Ax).id,vi (s1.getD (Int.toNat k1) Ax).process,vi p2,vi (s1.getD (Int.toNat k1) Ax).user])
abbrev Ajh (r15 : Aa) : Nat × MV := (71,pI ((r15.tasks.length : Nat) : Int))
theorem Afp (p0 : Aa) (p1 : Int) (p2 : Int) (RES : Aa × Int) (hm : Pj p0 p1 p2 = some RES) : Spec Tryz.prog 62 [.p (.agg (Ab p0)),pI p1,pI p2] [] (.tup [.agg [ow 0 RES.1.tree.nodes.length,pI RES.1.tree.next,ow 1 RES.1.tasks.length,pI RES.1.next],pI RES.2]) [] [Ac RES.1.tree.nodes,Ae RES.1.tasks] := by
 unfold Pj at hm
 refine SO Tryz.func62 rfl rfl [(0,.p (.agg (Ab p0))),(1,pI p1),(2,pI p2)] [] ?_
 intro cx hnt
 refine Sq (RD hnt (nn 3 []) [0] [(3,rr 1024),(6,rr 1048)] [] [(1024,bx (pm (Ab p0))),(Agy)] tv ?_)
 obtain ⟨r1,hr1,hm⟩ := bo hm
 refine Sq (Sq (RD hnt (.no :: o49 [] true r1 :: .no :: []) [] [(18,pB (!r1))] [] [] (an (Dk p0 r1 hr1) tv) ?_))
 refine Ag hm ?_ ?_
 ·intro h2 hm
  obtain ⟨r3,hr3,hm⟩ := bo hm
  refine Sq (RK hnt (Uc [] true r3 :: nn 4 []) [(6,rr 1048),(7,pI r3.2)] [(1048,bx [ow 1152 r3.1.tree.nodes.length,pI r3.1.tree.next,ow 1153 r3.1.tasks.length,pI r3.1.next]),(1152,ob0 (Ac r3.1.tree.nodes)),(1153,ob0 (Ae r3.1.tasks))] (an (Br 1 r3 hr3) tv) ?_)
  obtain rfl := sj hm
  exact DW.ret (Ai [Ac r3.1.tree.nodes,Ae r3.1.tasks] [1152,1153] (.tup [.agg [ow 0 r3.1.tree.nodes.length,pI r3.1.tree.next,ow 1 r3.1.tasks.length,pI r3.1.next],pI r3.2]))
 ·intro h2 hm
  refine Sk ?_
  obtain ⟨r4,hr4,hm⟩ := bo hm
  refine Sq (RD hnt (nn 2 (o53 [] true r4 :: nn 6 [])) [18] [(8,rr 1064),(9,pB r4.2)] [] [(1064,bx (pm (Ao r4.1)))] (an (Wx p0 p1 r4 hr4) tv) ?_)
  obtain ⟨r5,hr5,hm⟩ := bo hm
  refine Sq (RD hnt (nn 3 (o41 [] true r5 :: nn 6 [])) [] [(10,rr 1080),(11,pB r5.2)] [] [(1080,bx (pm (Ak r5.1)))] (an (Fi p0.tree p2 r5 hr5) tv) ?_)
  refine Sq (Bk ?_)
  refine Sq (DW.regJ (sl2 := [(1,pI p1),(2,pI p2),(3,rr 1024),(6,rr 1048),(10,rr 1080),(35,pB (((!r4.2) || (r4.1.process != p1)) || (!r5.2)))]) (ob2 := [(1024,bx (pm (Ab p0))),(Agy),(1080,bx (pm (Ak r5.1)))]) ?_ ?_)
  ·rcases bt (!r4.2) with h6 | h6
   ·exact RT hnt (nn 3 (sk 4 (pT :: .no :: sk 2 (pT :: .no :: [])))) [(35,pB true)] (an5 h6 (an3 tt tv)) (by kernel_rfl) (.cons rfl (.of_eq (by rw [h6]; try rfl)) .nil)
   ·rcases bt (r4.1.process != p1) with h7 | h7
    ·exact RT hnt (nn 7 (pF :: .no :: sk 2 (pT :: .no :: []))) [(35,pB true)] (an5 h6 (an3 h7 tv)) (by kernel_rfl) (.cons rfl (.of_eq (by rw [h6,h7]; try rfl)) .nil)
    ·exact RT hnt (nn 7 (pF :: nn 3 (pF :: .no :: []))) [(35,pB (!r5.2))] (an5 h6 (an3 h7 tv)) (by kernel_rfl) (.cons rfl (.of_eq (by rw [h6,h7]; try rfl)) .nil)
  ·refine Ag hm ?_ ?_
   ·intro h8 hm
    obtain ⟨r9,hr9,hm⟩ := bo hm
    refine Sq (RK hnt (Uc [] true r9 :: nn 4 []) [(6,rr 1048),(7,pI r9.2)] [(1048,bx [ow 1384 r9.1.tree.nodes.length,pI r9.1.tree.next,ow 1385 r9.1.tasks.length,pI r9.1.next]),(1384,ob0 (Ac r9.1.tree.nodes)),(1385,ob0 (Ae r9.1.tasks))] (an (Br 4 r9 hr9) tv) ?_)
    obtain rfl := sj hm
    exact DW.ret (Ai [Ac r9.1.tree.nodes,Ae r9.1.tasks] [1384,1385] (.tup [.agg [ow 0 r9.1.tree.nodes.length,pI r9.1.tree.next,ow 1 r9.1.tasks.length,pI r9.1.next],pI r9.2]))
   ·intro h8 hm
    refine Sq (RD hnt (nn 4 []) [10,35] [(51,pB (r5.1.kind == 1))] [1080] [] tv ?_)
    refine Ag hm ?_ ?_
    ·intro h10 hm
     obtain ⟨r11,hr11,hm⟩ := bo hm
     refine Sq (RK hnt (Uc [] true r11 :: nn 4 []) [(6,rr 1048),(7,pI r11.2)] [(1048,bx [ow 1440 r11.1.tree.nodes.length,pI r11.1.tree.next,ow 1441 r11.1.tasks.length,pI r11.1.next]),(1440,ob0 (Ac r11.1.tree.nodes)),(1441,ob0 (Ae r11.1.tasks))] (an (Br 10 r11 hr11) tv) ?_)
     obtain rfl := sj hm
     exact DW.ret (Ai [Ac r11.1.tree.nodes,Ae r11.1.tasks] [1440,1441] (.tup [.agg [ow 0 r11.1.tree.nodes.length,pI r11.1.tree.next,ow 1 r11.1.tasks.length,pI r11.1.next],pI r11.2]))
    ·intro h10 hm
     refine Sk ?_
     refine DW.done ?_
     show DW _ _ _ _ _
     obtain ⟨r12,hr12,hm⟩ := bo hm
     refine Sq (Sq (RD hnt (nn 2 (o110 [] true r12 :: .no :: [])) [51] [(12,pI r12)] [] [] (an (Zh p0 p2 r12 hr12) tv) ?_))
     refine Sq (RD hnt (nn 2 []) [] [(62,pB (r12 != 0))] [] [] tv ?_)
     refine Ag hm ?_ ?_
     ·intro h13 hm
      obtain ⟨r14,hr14,hm⟩ := bo hm
      refine Sq (RK hnt (.no :: Uc [] true r14 :: nn 4 []) [(6,rr 1048),(7,pI r14.2)] [(1048,bx [ow 1512 r14.1.tree.nodes.length,pI r14.1.tree.next,ow 1513 r14.1.tasks.length,pI r14.1.next]),(1512,ob0 (Ac r14.1.tree.nodes)),(1513,ob0 (Ae r14.1.tasks))] (an (Br r12 r14 hr14) tv) ?_)
      obtain rfl := sj hm
      exact DW.ret (Ai [Ac r14.1.tree.nodes,Ae r14.1.tasks] [1512,1513] (.tup [.agg [ow 0 r14.1.tree.nodes.length,pI r14.1.tree.next,ow 1 r14.1.tasks.length,pI r14.1.next],pI r14.2]))
     ·intro h13 hm
      refine Sk ?_
      obtain ⟨r15,hr15,hm⟩ := bo hm
      refine Sq (RD hnt (.no :: o95 [] true r15 :: nn 2 []) [3,12,62] [(13,rr 1104)] [1024] [(1104,bx [ow 1544 r15.tree.nodes.length,pI r15.tree.next,ow 1545 r15.tasks.length,pI r15.next]),(1544,ob0 (Ac r15.tree.nodes)),(1545,ob0 (Ae r15.tasks))] (an (Ou p0 r15 hr15) tv) ?_)
      refine Sq (Sq (RD hnt (nn 4 []) [] [(70,ow 1545 r15.tasks.length),(Ajh r15),(72,pI 0)] [] [] tv ?_))
      refine Bk ?_
      obtain ⟨hc1,hm⟩ := go1 hm
      refine DW.forO (fun (k1 : Int) (s1 : List An) => Am [(1,pI p1),(2,pI p2),(6,rr 1048),(13,rr 1104),(70,ow 1545 s1.length),(Ajh r15),(72,pI k1)] [(Agy),(1104,bx [ow 1544 r15.tree.nodes.length,pI r15.tree.next,ow 1545 s1.length,pI r15.next]),(1544,ob0 (Ac r15.tree.nodes)),(1545,ob0 (Ae s1))]) (lo := 0) (hi := ((r15.tasks.length : Nat) : Int)) hm Conv.eqK ?_
      intro k1 s1 n1 hk1 hs1 he1
      refine Sq (RD hnt (.no :: []) [] [(73,pB (decide (k1 < ((r15.tasks.length : Nat) : Int))))] [] [] tv ?_)
      refine Sq (Bx (decide (k1 < ((r15.tasks.length : Nat) : Int))) ?_ ?_)
      ·intro h28
       have hlt1 : k1 < ((r15.tasks.length : Nat) : Int) := by have := of_decide_eq_true h28; omega
       have hm := hs1 hlt1
       unfold Vw at hm
       refine Sk ?_
       refine Sq ?_
       refine Jn (ι := List An) (fun (y3 : List An) => Am [(1,pI p1),(2,pI p2),(6,rr 1048),(13,rr 1104),(70,ow 1545 y3.length),(Ajh r15),(72,pI k1)] [(Agy),(1104,bx [ow 1544 r15.tree.nodes.length,pI r15.tree.next,ow 1545 y3.length,pI r15.next]),(1544,ob0 (Ac r15.tree.nodes)),(1545,ob0 (Ae y3))]) (fun y3 => (Mj n1) y3 = some RES) ?_ ?_
       ·intro y3 hm
        unfold Mj at hm
        refine RD hnt (nn 2 []) [] [(72,pI (w64 (k1 + 1)))] [] [] tv ?_
        exact jD y3 ⟨hlt1,hm⟩ (Conv.tp [(72,pI (w64 (k1 + 1)))] [] (by kernel_rfl) (.cons rfl (.of_eq (congrArg pI (Su (lo := 0) (hi := ((r15.tasks.length : Nat) : Int)) (by omega) hk1 hlt1 (by omega)))) .nil) .nil)
       ·refine Bk ?_
        obtain ⟨g29,g30,hm⟩ := go2 hm
        refine Sq (RD hnt (nn 6 []) [73] [(14,pI k1),(15,rr 1120)] [] [(1120,bx (pm (Ao (s1.getD (Int.toNat k1) Ax))))] (an g29.1 (an g29.2 (an g30 tv))) ?_)
        refine Sq (RD hnt (nn 4 []) [15] [(80,pB ((s1.getD (Int.toNat k1) Ax).process == p1))] [1120] [] tv ?_)
        refine Ag hm ?_ ?_
        ·intro h31 hm
         obtain ⟨g32,g33,hm⟩ := go2 hm
         refine RN hnt (nn 7 []) [(1,pI p1),(2,pI p2),(6,rr 1048),(13,rr 1104),(70,ow 1545 (s1.set (Int.toNat k1) (AbR s1 k1 p2)).length),(Ajh r15),(72,pI k1)] [(Agy),(1104,bx [ow 1544 r15.tree.nodes.length,pI r15.tree.next,ow 1545 (s1.set (Int.toNat k1) (AbR s1 k1 p2)).length,pI r15.next]),(1544,ob0 (Ac r15.tree.nodes)),(1545,ob0 (Ae (s1.set (Int.toNat k1) (AbR s1 k1 p2))))] [(70,ow 1545 s1.length)] [(1104,.box [ow 1544 r15.tree.nodes.length,pI r15.tree.next,ow 1545 s1.length,pI r15.next]),(1545,.row 4 s1.length (c108e3 s1 k1 p2))] (an g32.1 (an g32.2 (an g33 tv))) (by kernel_rfl) (.cons rfl (MLe.ownLen (enc := Ao) (d := Ax) (f := (c108e3 s1 k1 p2)) (RowIs.upd RowIs.elems (AbR s1 k1 p2) rfl)) .nil) (.cons rfl (.box (.cons .rfl (.cons .rfl (.cons (MLe.ownLen (enc := Ao) (d := Ax) (f := (c108e3 s1 k1 p2)) (RowIs.upd RowIs.elems (AbR s1 k1 p2) rfl)) (.cons .rfl .nil))))) (.cons rfl (BLe.typed (RowIs.upd RowIs.elems (AbR s1 k1 p2) rfl)) .nil)) ?_
         exact bD (s1.set (Int.toNat k1) (AbR s1 k1 p2)) hm .refl
        ·intro h31 hm
         refine Sk ?_
         exact bD s1 hm Conv.t0
      ·intro h28
       have hge1 : ¬ k1 < ((r15.tasks.length : Nat) : Int) := by have := of_decide_eq_false h28; omega
       have hm := he1 hge1
       unfold Abj at hm
       refine DW.exit ?_
       refine Ar ?_
       refine Au ?_
       refine Ap ?_
       show DW _ _ _ _ _
       refine Sq (RD hnt (nn 3 []) [1,2,13,70,71,72,73] [(7,pI 0)] [1104] [(1048,bx [ow 1544 r15.tree.nodes.length,pI r15.tree.next,ow 1545 s1.length,pI r15.next])] tv ?_)
       obtain rfl := sj hm
       exact DW.ret (Ai [Ac r15.tree.nodes,Ae s1] [1544,1545] (.tup [.agg [ow 0 r15.tree.nodes.length,pI r15.tree.next,ow 1 s1.length,pI r15.next],pI 0]))
abbrev o108 (ks : List Nat) (b : Bool) (RES : Aa × Int) : Orc := .call 62 ks b (.tup [.agg [ow 0 RES.1.tree.nodes.length,pI RES.1.tree.next,ow 1 RES.1.tasks.length,pI RES.1.next],pI RES.2]) [] [Ac RES.1.tree.nodes,Ae RES.1.tasks]

abbrev c99e1 : Nat × Obj := (1064,bx [.p (.sl .nil 0 0 (fun _ => [])),pI 0,.p (.sl .nil 0 0 (fun _ => [])),pI 0])
theorem Wf (p0 : Aa) (p1 : Int) (p2 : Int) (p3 : Int) (RES : Aa × Int) (hm : Hz p0 p1 p2 p3 = some RES) : Spec Tryz.prog 21 [.p (.agg (Ab p0)),pI p1,pI p2,pI p3] [] (.tup [.agg [ow 0 RES.1.tree.nodes.length,pI RES.1.tree.next,ow 1 RES.1.tasks.length,pI RES.1.next],pI RES.2]) [] [Ac RES.1.tree.nodes,Ae RES.1.tasks] := by
 unfold Hz at hm
 refine SO Tryz.func21 rfl rfl [(0,.p (.agg (Ab p0))),(1,pI p1),(2,pI p2),(3,pI p3)] [] ?_
 intro cx hnt
 refine Sq (RD hnt (nn 3 []) [0] [(4,rr 1032),(8,rr 1064)] [] [(1032,bx (pm (Ab p0))),(c99e1)] tv ?_)
 obtain ⟨r1,hr1,hm⟩ := bo hm
 refine Sq (Sq ?_)
 refine Jn (ι := Bool) (fun (y1 : Bool) => Am [(1,pI p1),(2,pI p2),(3,pI p3),(4,rr 1032),(8,rr 1064),(20,pB y1)] [(1032,bx (pm (Ab p0))),(c99e1)]) (fun y1 => (Pe p0 p1 p2 p3) y1 = some RES) ?_ ?_
 ·intro y1 hm
  unfold Pe at hm
  refine Ag hm ?_ ?_
  ·intro h4 hm
   obtain ⟨r5,hr5,hm⟩ := bo hm
   refine Sq (RK hnt (o100 [] true r5 :: nn 4 []) [(8,rr 1064),(9,pI r5.2)] [(1064,bx [ow 1168 r5.1.tree.nodes.length,pI r5.1.tree.next,ow 1169 r5.1.tasks.length,pI r5.1.next]),(1168,ob0 (Ac r5.1.tree.nodes)),(1169,ob0 (Ae r5.1.tasks))] (an (Eb 1 r5 hr5) tv) ?_)
   obtain rfl := sj hm
   exact DW.ret (Ai [Ac r5.1.tree.nodes,Ae r5.1.tasks] [1168,1169] (.tup [.agg [ow 0 r5.1.tree.nodes.length,pI r5.1.tree.next,ow 1 r5.1.tasks.length,pI r5.1.next],pI r5.2]))
  ·intro h4 hm
   refine Sk ?_
   obtain ⟨r6,hr6,hm⟩ := bo hm
   refine Sq (Sq (RD hnt (nn 2 (o53 [] true r6 :: nn 6 [])) [20] [(10,rr 1080),(11,pB r6.2)] [] [(1080,bx (pm (Ao r6.1)))] (an (Wx p0 p2 r6 hr6) tv) ?_))
   refine Sq (DW.regJ (sl2 := [(1,pI p1),(2,pI p2),(3,pI p3),(4,rr 1032),(8,rr 1064),(37,pB ((!r6.2) || (r6.1.process != p2)))]) (ob2 := [(1032,bx (pm (Ab p0))),(c99e1)]) ?_ ?_)
   ·rcases bt (!r6.2) with h7 | h7
    ·exact RT hnt (nn 3 (sk 4 (pT :: []))) [(37,pB true)] (an5 h7 tv) (by kernel_rfl) (.cons rfl (.of_eq (by rw [h7]; try rfl)) .nil)
    ·exact RT hnt (nn 7 (pF :: [])) [(37,pB (r6.1.process != p2))] (an5 h7 tv) (by kernel_rfl) (.cons rfl (.of_eq (by rw [h7]; try rfl)) .nil)
   ·refine Ag hm ?_ ?_
    ·intro h8 hm
     obtain ⟨r9,hr9,hm⟩ := bo hm
     refine Sq (RK hnt (o100 [] true r9 :: nn 4 []) [(8,rr 1064),(9,pI r9.2)] [(1064,bx [ow 1304 r9.1.tree.nodes.length,pI r9.1.tree.next,ow 1305 r9.1.tasks.length,pI r9.1.next]),(1304,ob0 (Ac r9.1.tree.nodes)),(1305,ob0 (Ae r9.1.tasks))] (an (Eb 4 r9 hr9) tv) ?_)
     obtain rfl := sj hm
     exact DW.ret (Ai [Ac r9.1.tree.nodes,Ae r9.1.tasks] [1304,1305] (.tup [.agg [ow 0 r9.1.tree.nodes.length,pI r9.1.tree.next,ow 1 r9.1.tasks.length,pI r9.1.next],pI r9.2]))
    ·intro h8 hm
     refine Sk ?_
     obtain ⟨r10,hr10,hm⟩ := bo hm
     obtain ⟨r11,hr11,hm⟩ := bo hm
     refine Sq (Sq (RD hnt (nn 5 (o101 [] true r10 :: o104 [] true r11 :: .no :: [])) [1,37] [(12,pI r11)] [] [] (an (AhX p0 p2 r10 hr10) (an (AaM p0 p1 p3 r10 r11 hr11) tv)) ?_))
     refine Sq (RD hnt (nn 2 []) [] [(49,pB (r11 != 0))] [] [] tv ?_)
     refine Ag hm ?_ ?_
     ·intro h12 hm
      obtain ⟨r13,hr13,hm⟩ := bo hm
      refine Sq (RK hnt (.no :: o100 [] true r13 :: nn 4 []) [(8,rr 1064),(9,pI r13.2)] [(1064,bx [ow 1408 r13.1.tree.nodes.length,pI r13.1.tree.next,ow 1409 r13.1.tasks.length,pI r13.1.next]),(1408,ob0 (Ac r13.1.tree.nodes)),(1409,ob0 (Ae r13.1.tasks))] (an (Eb r11 r13 hr13) tv) ?_)
      obtain rfl := sj hm
      exact DW.ret (Ai [Ac r13.1.tree.nodes,Ae r13.1.tasks] [1408,1409] (.tup [.agg [ow 0 r13.1.tree.nodes.length,pI r13.1.tree.next,ow 1 r13.1.tasks.length,pI r13.1.next],pI r13.2]))
     ·intro h12 hm
      refine Sk ?_
      obtain ⟨r14,hr14,hm⟩ := bo hm
      refine Sq (RK hnt (nn 3 (o108 [] true r14 :: nn 4 [])) [(8,rr 1064),(9,pI r14.2)] [(1064,bx [ow 1456 r14.1.tree.nodes.length,pI r14.1.tree.next,ow 1457 r14.1.tasks.length,pI r14.1.next]),(1456,ob0 (Ac r14.1.tree.nodes)),(1457,ob0 (Ae r14.1.tasks))] (an (Afp p0 p2 p3 r14 hr14) tv) ?_)
      obtain rfl := sj hm
      exact DW.ret (Ai [Ac r14.1.tree.nodes,Ae r14.1.tasks] [1456,1457] (.tup [.agg [ow 0 r14.1.tree.nodes.length,pI r14.1.tree.next,ow 1 r14.1.tasks.length,pI r14.1.next],pI r14.2]))
 ·rcases bt (!r1) with h2 | h2
  ·replace hm := Ba h2 hm
   refine RD hnt (.no :: o38 [] true r1 :: nn 2 (sk 3 (pT :: []))) [] [(20,pB true)] [] [] (an (Bu p1 r1 hr1) (an4 h2 tv)) ?_
   exact jD true hm Conv.eqK
  ·replace hm := Bb h2 hm
   obtain ⟨r3,hr3,hm⟩ := bo hm
   refine RD hnt (.no :: o38 [] true r1 :: nn 3 (o49 [] true r3 :: .no :: pF :: [])) [] [(20,pB (!r3))] [] [] (an (Bu p1 r1 hr1) (an2 h2 (an (Dk p0 r3 hr3) (an2 h2 tv)))) ?_
   exact jD (!r3) hm Conv.eqK
abbrev o99 (ks : List Nat) (b : Bool) (RES : Aa × Int) : Orc := .call 21 ks b (.tup [.agg [ow 0 RES.1.tree.nodes.length,pI RES.1.tree.next,ow 1 RES.1.tasks.length,pI RES.1.next],pI RES.2]) [] [Ac RES.1.tree.nodes,Ae RES.1.tasks]

theorem Afe (RES : Bool) (hm : Xp = some RES) : Spec Tryz.prog 6 [] [] (pB RES) [] [] := by
 unfold Xp at hm
 refine SO Tryz.func6 rfl rfl [] [] ?_
 intro cx hnt
 refine Sq (RK hnt (.no :: []) [] [] tv ?_)
 obtain ⟨r1,hr1,hm⟩ := bo hm
 obtain ⟨r2,hr2,hm⟩ := bo hm
 refine Sq (RK hnt (o4 [] true r1 :: o6 [] false r2 :: nn 8 []) [(1,rr 1008),(2,pI r2.2.1)] [(1008,bx [ow 1144 r2.1.tree.nodes.length,pI r2.1.tree.next,ow 1145 r2.1.tasks.length,pI r2.1.next]),(1144,ob0 (Ac r2.1.tree.nodes)),(1145,ob0 (Ae r2.1.tasks))] (an (AfU r1 hr1) (an (Adp r1 1 (bs [97]) r2 hr2) tv)) ?_)
 refine Sq (DW.cv [] [] [1144] [(1008,bx [.p (Bg r2.1.tree.nodes),pI r2.1.tree.next,ow 1145 r2.1.tasks.length,pI r2.1.next])] (Conv.frz [1144]) ?_)
 obtain ⟨r4,hr4,hm⟩ := bo hm
 refine RD hnt (nn 3 (o29 [] true r4 :: nn 6 [])) [] [(4,rr 1032),(5,pI r4.2)] [] [(1032,bx [ow 1208 r4.1.nodes.length,pI r4.1.next]),(1208,ob0 (Ac r4.1.nodes))] (an (Agg r2.1.tree 0 r2.2.1 7 r4 hr4) tv) ?_
 refine Sq (RD hnt (nn 3 []) [4] [] [1032] [(1008,bx [ow 1208 r4.1.nodes.length,pI r4.1.next,ow 1145 r2.1.tasks.length,pI r2.1.next])] tv ?_)
 refine Sq (DW.cv [] [] [1208] [(1008,bx [.p (Bg r4.1.nodes),pI r4.1.next,ow 1145 r2.1.tasks.length,pI r2.1.next])] (Conv.frz [1208]) ?_)
 refine DW.cv [] [] [1145] [(1008,bx [.p (Bg r4.1.nodes),pI r4.1.next,.p (Dh r2.1.tasks),pI r2.1.next])] (Conv.frz [1145]) ?_
 obtain ⟨r7,hr7,hm⟩ := bo hm
 refine RD hnt (nn 2 (o47 [] true r7 :: nn 7 [])) [] [(6,pI r7.2.1),(7,pI r7.2.2)] [] [(1008,bx [ow 1272 r7.1.tree.nodes.length,pI r7.1.tree.next,ow 1273 r7.1.tasks.length,pI r7.1.next]),(1272,ob0 (Ac r7.1.tree.nodes)),(1273,ob0 (Ae r7.1.tasks))] (an (Zj ({ tree := r4.1,tasks := r2.1.tasks,next := r2.1.next } : Aa) 7 r2.2.1 (bs [98]) r7 hr7) tv) ?_
 refine Sq (DW.cv [] [] [1272] [(1008,bx [.p (Bg r7.1.tree.nodes),pI r7.1.tree.next,ow 1273 r7.1.tasks.length,pI r7.1.next])] (Conv.frz [1272]) ?_)
 refine DW.cv [] [] [1273] [(1008,bx (pm (Ab r7.1)))] (Conv.frz [1273]) ?_
 obtain ⟨r10,hr10,hm⟩ := bo hm
 refine RK hnt (.no :: o97 [] true r10 :: nn 7 []) [(1,rr 1008),(2,pI r2.2.1),(5,pI r4.2),(6,pI r7.2.1),(7,pI r7.2.2),(8,pI r10.2.1)] [(1008,bx [ow 1320 r10.1.tree.nodes.length,pI r10.1.tree.next,ow 1321 r10.1.tasks.length,pI r10.1.next]),(1320,ob0 (Ac r10.1.tree.nodes)),(1321,ob0 (Ae r10.1.tasks))] (an (Zm r7.1 1 7 r10 hr10) tv) ?_
 refine Sq (DW.cv [] [] [1320] [(1008,bx [.p (Bg r10.1.tree.nodes),pI r10.1.tree.next,ow 1321 r10.1.tasks.length,pI r10.1.next])] (Conv.frz [1320]) ?_)
 refine DW.cv [] [] [1321] [(1008,bx (pm (Ab r10.1)))] (Conv.frz [1321]) ?_
 obtain ⟨r13,hr13,hm⟩ := bo hm
 refine RD hnt (nn 2 (o97 [] true r13 :: nn 7 [])) [] [(10,pI r13.2.1)] [] [(1008,bx [ow 1376 r13.1.tree.nodes.length,pI r13.1.tree.next,ow 1377 r13.1.tasks.length,pI r13.1.next]),(1376,ob0 (Ac r13.1.tree.nodes)),(1377,ob0 (Ae r13.1.tasks))] (an (Zm r10.1 r2.2.1 7 r13 hr13) tv) ?_
 refine Sq (DW.cv [] [] [1376] [(1008,bx [.p (Bg r13.1.tree.nodes),pI r13.1.tree.next,ow 1377 r13.1.tasks.length,pI r13.1.next])] (Conv.frz [1376]) ?_)
 refine DW.cv [] [] [1377] [(1008,bx (pm (Ab r13.1)))] (Conv.frz [1377]) ?_
 obtain ⟨r16,hr16,hm⟩ := bo hm
 refine RD hnt (nn 3 (o99 [] true r16 :: nn 6 [])) [2,8] [(13,pI r16.2)] [] [] (an (Wf r13.1 7 r10.2.1 r2.2.1 r16 hr16) tv) ?_
 obtain ⟨r17,hr17,hm⟩ := bo hm
 refine Sq (RD hnt (nn 3 (o99 [] true r17 :: nn 6 [])) [1,6,10] [(15,pI r17.2)] [1008] [] (an (Wf r13.1 7 r13.2.1 r7.2.1 r17 hr17) tv) ?_)
 refine Sq (DW.regJ (sl2 := [(0,pB ((((r4.2 == 0) && (r7.2.2 == 0)) && (r16.2 == 8)) && (r17.2 == 0)))]) (ob2 := []) ?_ ?_)
 ·rcases bt (r4.2 == 0) with h18 | h18
  ·rcases bt (r7.2.2 == 0) with h19 | h19
   ·rcases bt (r16.2 == 8) with h20 | h20
    ·exact RT hnt (nn 5 (pT :: nn 3 (pT :: nn 3 (pT :: .no :: [])))) [(0,pB (r17.2 == 0))] (an3 h18 (an3 h19 (an3 h20 tv))) (by kernel_rfl) (.cons rfl (.of_eq (by rw [h18,h19,h20]; try rfl)) .nil)
    ·exact RT hnt (nn 5 (pT :: nn 3 (pT :: .no :: sk 2 (pF :: .no :: [])))) [(0,pB false)] (an3 h18 (an3 h19 (an3 h20 tv))) (by kernel_rfl) (.cons rfl (.of_eq (by rw [h18,h19,h20]; try rfl)) .nil)
   ·exact RT hnt (nn 5 (pT :: .no :: sk 2 (pF :: .no :: sk 2 (pF :: .no :: [])))) [(0,pB false)] (an3 h18 (an3 h19 (an3 ff tv))) (by kernel_rfl) (.cons rfl (.of_eq (by rw [h18,h19]; try rfl)) .nil)
  ·exact RT hnt (nn 3 (sk 2 (pF :: .no :: sk 2 (pF :: .no :: sk 2 (pF :: .no :: []))))) [(0,pB false)] (an3 h18 (an6 ff tv)) (by kernel_rfl) (.cons rfl (.of_eq (by rw [h18]; try rfl)) .nil)
 ·refine DW.ret ?_
  obtain rfl := sj hm
  exact Ai [] [] (pB ((((r4.2 == 0) && (r7.2.2 == 0)) && (r16.2 == 8)) && (r17.2 == 0)))
abbrev o3 (ks : List Nat) (b : Bool) (RES : Bool) : Orc := .call 6 ks b (pB RES) [] []

theorem AkQ (p0 : List Int) (RES : Aq) (hm : AfJ p0 = some RES) : Spec Tryz.prog 7 [.p (slI p0)] [] (rr 0) [] [.box (pm (Al RES))] := by
 unfold AfJ at hm
 refine SO Tryz.func7 rfl rfl [(0,.p (slI p0))] [] ?_
 intro cx hnt
 refine Sq (RK hnt (.no :: []) [(0,.p (slI p0))] [] tv ?_)
 refine Sq (RK hnt (nn 4 []) [(2,rr 1040)] [(1040,bx [.p (slI p0),pI 0])] tv ?_)
 obtain rfl := sj hm
 exact DW.ret (Ai [.box [.p (slI p0),pI 0]] [1040] (rr 0))
abbrev o111 (ks : List Nat) (b : Bool) (RES : Aq) : Orc := .call 7 ks b (rr 0) [] [.box (pm (Al RES))]

abbrev AgD (p0 : Aq) := (p0.l.getD (Int.toNat (w64 ((w64 (p0.atF + 1)) - 1))) 0)
theorem Aw (p0 : Aq) (p1 : Int) (RES : Int × Aq) (hm : Ay p0 p1 = some RES) : Spec Tryz.prog 11 [rr 0,pI p1] [.box (pm (Al p0))] (pI RES.1) [.box (pm (Al RES.2))] [] := by
 unfold Ay at hm
 refine SO Tryz.func11 rfl rfl [(0,rr 0),(1,pI p1)] [(0,bx (pm (Al p0)))] ?_
 intro cx hnt
 refine Sq (RD hnt (.no :: []) [] [] [] [] tv ?_)
 refine Sq (Sq (DW.regJ (sl2 := [(0,rr 0),(1,pI p1),(19,pB ((decide (p0.atF ≥ ((p0.l.length : Nat) : Int))) || (decide (p1 < 1))))]) (ob2 := [(0,bx (pm (Al p0)))]) ?_ ?_))
 ·rcases bt (decide (p0.atF ≥ ((p0.l.length : Nat) : Int))) with h1 | h1
  ·exact RT hnt (nn 11 (sk 2 (pT :: []))) [(19,pB true)] (an3 h1 tv) (by kernel_rfl) (.cons rfl (.of_eq (by rw [h1]; try rfl)) .nil)
  ·exact RT hnt (nn 13 (pF :: [])) [(19,pB (decide (p1 < 1)))] (an3 h1 tv) (by kernel_rfl) (.cons rfl (.of_eq (by rw [h1]; try rfl)) .nil)
 ·refine Ag hm ?_ ?_
  ·intro h2 hm
   refine Sq (RD hnt (.no :: []) [0,1,19] [(4,pI 0)] [] [] tv ?_)
   obtain rfl := sj hm
   exact DW.ret (Ai [.box (pm (Al p0))] [] (pI 0))
  ·intro h2 hm
   refine Sk ?_
   refine Sq (RD hnt (nn 8 []) [19] [] [] [(0,bx [.p (slI p0.l),pI (w64 (p0.atF + 1))])] tv ?_)
   obtain ⟨g3,g4,hm⟩ := go2 hm
   refine Sq (RD hnt (nn 14 []) [0] [(5,pI (Int.tmod (AgD p0) p1))] [] [] (an g3.1 (an g3.2 (an g4 tv))) ?_)
   refine Sq (Sq (RD hnt (nn 2 []) [] [(41,pB (decide ((Int.tmod (AgD p0) p1) < 0)))] [] [] tv ?_))
   refine Jn (ι := Int) (fun (y1 : Int) => Am [(5,pI y1)] [(0,bx [.p (slI p0.l),pI (w64 (p0.atF + 1))])]) (fun y1 => (Nq p0) y1 = some RES) ?_ ?_
   ·intro y1 hm
    unfold Nq at hm
    refine Sq (RD hnt (nn 2 []) [5] [(4,pI y1)] [] [] tv ?_)
    obtain rfl := sj hm
    exact DW.ret (Ai [.box [.p (slI p0.l),pI (w64 (p0.atF + 1))]] [] (pI y1))
   ·refine Ag hm ?_ ?_
    ·intro h5 hm
     refine RD hnt (nn 4 []) [1,41] [(5,pI (w64 ((Int.tmod (AgD p0) p1) + p1)))] [] [] tv ?_
     exact jD (w64 ((Int.tmod (AgD p0) p1) + p1)) hm Conv.eqK
    ·intro h5 hm
     refine Sk ?_
     exact jD (Int.tmod (AgD p0) p1) hm Conv.t0
abbrev Hi (ks : List Nat) (b : Bool) (RES : Int × Aq) : Orc := .call 11 ks b (pI RES.1) [.box (pm (Al RES.2))] []

theorem AaP (p0 : Aq) (RES : ByteArray × Aq) (hm : Nh p0 = some RES) : Spec Tryz.prog 16 [rr 0] [.box (pm (Al p0))] (pS RES.1) [.box (pm (Al RES.2))] [] := by
 unfold Nh at hm
 refine SO Tryz.func16 rfl rfl [(0,rr 0)] [(0,bx (pm (Al p0)))] ?_
 intro cx hnt
 refine Sq (RD hnt (.no :: []) [] [] [] [] tv ?_)
 obtain ⟨r3,hr3,hm⟩ := bo hm
 obtain ⟨g4,g5,hm⟩ := go2 hm
 refine Sq (RK hnt (.asR (ow 1024 [(bs [97]),(bs [98]),(bs [99]),(bs [119,101,98]),(bs [100,98,45,49]),(bs [88,95,57])].length) [(bs [97]),(bs [98]),(bs [99]),(bs [119,101,98]),(bs [100,98,45,49]),(bs [88,95,57])].length (elems encS ByteArray.empty [(bs [97]),(bs [98]),(bs [99]),(bs [119,101,98]),(bs [100,98,45,49]),(bs [88,95,57])]) :: .no :: Hi [0] true r3 :: nn 3 []) [(2,pS ([(bs [97]),(bs [98]),(bs [99]),(bs [119,101,98]),(bs [100,98,45,49]),(bs [88,95,57])].getD (Int.toNat r3.1) ByteArray.empty))] [(0,bx (pm (Al r3.2)))] (an (congrArg (MV.own 1024 0 0) (RowIs.asP (enc := encS) (d := ByteArray.empty) (L := [(bs [97]),(bs [98]),(bs [99]),(bs [119,101,98]),(bs [100,98,45,49]),(bs [88,95,57])]) (RowIs.lit (enc := encS) (d := ByteArray.empty) (n := 6) (f := (cut 1 [vs (bs [97]),vs (bs [98]),vs (bs [99]),vs (bs [119,101,98]),vs (bs [100,98,45,49]),vs (bs [88,95,57])])) [(bs [97]),(bs [98]),(bs [99]),(bs [119,101,98]),(bs [100,98,45,49]),(bs [88,95,57])] rfl (fun | 0,_ => rfl | 1,_ => rfl | 2,_ => rfl | 3,_ => rfl | 4,_ => rfl | 5,_ => rfl | n + 6,h => absurd h (by omega)))).1) (an (RowIs.asP (enc := encS) (d := ByteArray.empty) (L := [(bs [97]),(bs [98]),(bs [99]),(bs [119,101,98]),(bs [100,98,45,49]),(bs [88,95,57])]) (RowIs.lit (enc := encS) (d := ByteArray.empty) (n := 6) (f := (cut 1 [vs (bs [97]),vs (bs [98]),vs (bs [99]),vs (bs [119,101,98]),vs (bs [100,98,45,49]),vs (bs [88,95,57])])) [(bs [97]),(bs [98]),(bs [99]),(bs [119,101,98]),(bs [100,98,45,49]),(bs [88,95,57])] rfl (fun | 0,_ => rfl | 1,_ => rfl | 2,_ => rfl | 3,_ => rfl | 4,_ => rfl | 5,_ => rfl | n + 6,h => absurd h (by omega)))) (an (Aw p0 6 r3 hr3) (an tv (an g4.1 (an g4.2 (an g5 tv))))))) ?_)
 obtain rfl := sj hm
 exact DW.ret (Ai [.box (pm (Al r3.2))] [] (pS ([(bs [97]),(bs [98]),(bs [99]),(bs [119,101,98]),(bs [100,98,45,49]),(bs [88,95,57])].getD (Int.toNat r3.1) ByteArray.empty)))
abbrev o115 (ks : List Nat) (b : Bool) (RES : ByteArray × Aq) : Orc := .call 16 ks b (pS RES.1) [.box (pm (Al RES.2))] []

theorem El (p0 : Aq) (p1 : Int) (RES : Bool × Aq) (hm : Fe p0 p1 = some RES) : Spec Tryz.prog 36 [rr 0,pI p1] [.box (pm (Al p0))] (pB RES.1) [.box (pm (Al RES.2))] [] := by
 unfold Fe at hm
 refine SO Tryz.func36 rfl rfl [(0,rr 0),(1,pI p1)] [(0,bx (pm (Al p0)))] ?_
 intro cx hnt
 refine Sq (RD hnt (.no :: []) [] [] [] [] tv ?_)
 obtain ⟨r1,hr1,hm⟩ := bo hm
 refine Sq (RK hnt (nn 2 (Hi [0] true r1 :: nn 4 [])) [(4,pB (r1.1 == (w64 (p1 - 1))))] [(0,bx (pm (Al r1.2)))] (an (Aw p0 p1 r1 hr1) (an tv tv)) ?_)
 obtain rfl := sj hm
 exact DW.ret (Ai [.box (pm (Al r1.2))] [] (pB (r1.1 == (w64 (p1 - 1)))))
abbrev o116 (ks : List Nat) (b : Bool) (RES : Bool × Aq) : Orc := .call 36 ks b (pB RES.1) [.box (pm (Al RES.2))] []

abbrev Ef (p0 : Af) (k1 : Nat) := (p0.nodes.getD k1 (default : Ah))
abbrev Ajn : Nat × Obj := (1032,bx [.p (.sl .nil 0 0 (fun _ => [])),pI 0])
abbrev AiA : Nat × Obj := (1032,bx [ow 100000 0,pI 0])
theorem Adt (p0 : Af) (p1 : Int) (RES : Af × Int) (hm : Td p0 p1 = some RES) : Spec Tryz.prog 80 [.p (.agg (Aj p0)),pI p1] [] (.tup [.agg [ow 0 RES.1.nodes.length,pI RES.1.next],pI RES.2]) [] [Ac RES.1.nodes] := by
 unfold Td at hm
 refine SO Tryz.func80 rfl rfl [(0,.p (.agg (Aj p0))),(1,pI p1)] [] ?_
 intro cx hnt
 refine Sq (RK hnt (nn 3 []) [(1,pI p1),(2,rr 1016),(4,rr 1032)] [(1016,bx (pm (Aj p0))),(Ajn)] tv ?_)
 refine Sq (Bk ?_)
 obtain ⟨r1,hr1,hm⟩ := bo hm
 refine Sq (RD hnt (.no :: o10 [] true r1 :: nn 2 []) [] [(8,pB (!r1))] [] [] (an (Gd p0 r1 hr1) tv) ?_)
 refine Ag hm ?_ ?_
 ·intro h2 hm
  refine Sq (RD hnt (nn 3 []) [1,2,8] [(5,pI 1)] [1016] [] tv ?_)
  refine DW.cv [] [] [] [(AiA),(100000,ob0 (Ac []))] (Conv.ads [(.o 1032 0,100000,6,elems Ak As [])]) ?_
  obtain rfl := sj hm
  exact DW.ret (Ai [Ac []] [100000] (.tup [.agg [ow 0 0,pI 0],pI 1]))
 ·intro h2 hm
  obtain ⟨r3,hr3,hm⟩ := bo hm
  refine Sq (RD hnt (nn 2 (o15 [] true r3 :: nn 2 [])) [8] [(13,pB (!r3))] [] [] (an (Cf p0 p1 r3 hr3) tv) ?_)
  refine Ag hm ?_ ?_
  ·intro h4 hm
   refine Sq (RD hnt (nn 3 []) [1,2,13] [(5,pI 4)] [1016] [] tv ?_)
   refine DW.cv [] [] [] [(AiA),(100000,ob0 (Ac []))] (Conv.ads [(.o 1032 0,100000,6,elems Ak As [])]) ?_
   obtain rfl := sj hm
   exact DW.ret (Ai [Ac []] [100000] (.tup [.agg [ow 0 0,pI 0],pI 4]))
  ·intro h4 hm
   refine Sq (RD hnt (nn 3 []) [13] [(19,pB (p1 == 1))] [] [] tv ?_)
   refine Ag hm ?_ ?_
   ·intro h5 hm
    refine Sq (RD hnt (nn 3 []) [1,2,19] [(5,pI 9)] [1016] [] tv ?_)
    refine DW.cv [] [] [] [(AiA),(100000,ob0 (Ac []))] (Conv.ads [(.o 1032 0,100000,6,elems Ak As [])]) ?_
    obtain rfl := sj hm
    exact DW.ret (Ai [Ac []] [100000] (.tup [.agg [ow 0 0,pI 0],pI 9]))
   ·intro h5 hm
    obtain ⟨r6,hr6,hm⟩ := bo hm
    refine Sq (RD hnt (nn 2 (o24 [] true r6 :: nn 3 [])) [19] [(23,pB (decide (((r6.length : Nat) : Int) > 0)))] [] [] (an (Wb p0 p1 r6 hr6) tv) ?_)
    refine Ag hm ?_ ?_
    ·intro h7 hm
     refine Sq (RD hnt (nn 3 []) [1,2,23] [(5,pI 6)] [1016] [] tv ?_)
     refine DW.cv [] [] [] [(AiA),(100000,ob0 (Ac []))] (Conv.ads [(.o 1032 0,100000,6,elems Ak As [])]) ?_
     obtain rfl := sj hm
     exact DW.ret (Ai [Ac []] [100000] (.tup [.agg [ow 0 0,pI 0],pI 6]))
    ·intro h7 hm
     refine Sk ?_
     refine DW.done ?_
     show DW _ _ _ _ _
     refine Sq (RD hnt (nn 5 []) [23] [(6,rr 1048)] [] [(1048,bx [.p (.sl .nil 0 0 (fun _ => [])),pI p0.next])] tv ?_)
     refine Sq (Sq (RD hnt (.no :: []) [] [(7,pI 0)] [] [] tv ?_))
     refine Bk ?_
     obtain ⟨hc1,hm⟩ := go1 hm
     refine DW.rangeO (fun (k1 : Nat) (s1 : List Ah) => Am [(1,pI p1),(2,rr 1016),(4,rr 1032),(6,rr 1048),(7,pI ((k1 : Nat) : Int))] [(1016,bx (pm (Aj p0))),(Ajn),(1048,bx [ow 1448 s1.length,pI p0.next]),(1448,ob0 (Ac s1))]) As hm (Conv.ads [(.o 1048 0,1448,6,elems Ak As [])]) ?_
     intro k1 s1 n1 hk1 hs1 he1
     refine Sq (Sq (RD hnt (nn 5 []) [] [(37,pB (decide (((k1 : Nat) : Int) < ((p0.nodes.length : Nat) : Int))))] [] [] tv ?_))
     refine Bx (decide (((k1 : Nat) : Int) < ((p0.nodes.length : Nat) : Int))) ?_ ?_
     ·intro h17
      have hlt1 : k1 < p0.nodes.length := by have := of_decide_eq_true h17; omega
      have hm := hs1 hlt1
      unfold Xa at hm
      refine Sk ?_
      refine Sq ?_
      refine Jn (ι := List Ah) (fun (y3 : List Ah) => Am [(1,pI p1),(2,rr 1016),(4,rr 1032),(6,rr 1048),(7,pI ((k1 : Nat) : Int))] [(1016,bx (pm (Aj p0))),(Ajn),(1048,bx [ow 1448 y3.length,pI p0.next]),(1448,ob0 (Ac y3))]) (fun y3 => (Sf n1) y3 = some RES) ?_ ?_
      ·intro y3 hm
       unfold Sf at hm
       refine RD hnt (nn 3 []) [] [(7,pI (w64 (((k1 : Nat) : Int) + 1)))] [] [] tv ?_
       exact jD y3 ⟨hlt1,hm⟩ (Conv.tp [(7,pI (w64 (((k1 : Nat) : Int) + 1)))] [] (by kernel_rfl) (.cons rfl (.of_eq (congrArg pI (Bl hlt1 hc1))) .nil) .nil)
      ·refine Bk ?_
       refine Sq (RD hnt (nn 8 []) [37] [(47,pB ((Ef p0 k1).id != p1))] [] [] (an (nn0 k1) (an (ltc hlt1) tv)) ?_)
       refine Ag hm ?_ ?_
       ·intro h18 hm
        obtain ⟨g19,hm⟩ := go1 hm
        refine RN hnt (nn 11 []) [(1,pI p1),(2,rr 1016),(4,rr 1032),(6,rr 1048),(7,pI ((k1 : Nat) : Int))] [(1016,bx (pm (Aj p0))),(Ajn),(1048,bx [ow 1448 (s1 ++ [(Ef p0 k1)]).length,pI p0.next]),(1448,ob0 (Ac (s1 ++ [(Ef p0 k1)])))] [] [(1048,.box [ow 1448 (s1.length + 1),pI p0.next]),(1448,.row 6 (s1.length + 1) (Dw s1.length (Ey s1) (cut 6 [vi (Ef p0 k1).id,vi (Ef p0 k1).parent,vs (Ef p0 k1).name,vi (Ef p0 k1).control,vi (Ef p0 k1).kind,vi (Ef p0 k1).owner])))] (an (nn0 k1) (an (ltc hlt1) (an (by omega : (s1.length + 1) * 56 ≤ 140737488355328) tv))) (by kernel_rfl) .nil (.cons rfl (.box (.cons (MLe.ownLen (enc := Ak) (d := As) (f := (Dw s1.length (Ey s1) (cut 6 [vi (Ef p0 k1).id,vi (Ef p0 k1).parent,vs (Ef p0 k1).name,vi (Ef p0 k1).control,vi (Ef p0 k1).kind,vi (Ef p0 k1).owner]))) (RowIs.cat RowIs.elems (RowIs.lit (enc := Ak) (d := As) (n := 1) (f := (cut 6 [vi (Ef p0 k1).id,vi (Ef p0 k1).parent,vs (Ef p0 k1).name,vi (Ef p0 k1).control,vi (Ef p0 k1).kind,vi (Ef p0 k1).owner])) [(Ef p0 k1)] rfl (fun | 0,_ => rfl | n + 1,h => absurd h (by omega))))) (.cons .rfl .nil))) (.cons rfl (BLe.typed (RowIs.cat RowIs.elems (RowIs.lit (enc := Ak) (d := As) (n := 1) (f := (cut 6 [vi (Ef p0 k1).id,vi (Ef p0 k1).parent,vs (Ef p0 k1).name,vi (Ef p0 k1).control,vi (Ef p0 k1).kind,vi (Ef p0 k1).owner])) [(Ef p0 k1)] rfl (fun | 0,_ => rfl | n + 1,h => absurd h (by omega))))) .nil)) ?_
        exact bD (s1 ++ [(Ef p0 k1)]) hm .refl
       ·intro h18 hm
        refine Sk ?_
        exact bD s1 hm Conv.t0
     ·intro h17
      have hge1 : ¬ k1 < p0.nodes.length := by have := of_decide_eq_false h17; omega
      have hm := he1 hge1
      unfold Xc at hm
      refine DW.exit ?_
      refine Ar ?_
      refine Au ?_
      refine Ap ?_
      show DW _ _ _ _ _
      refine Sq (RK hnt (nn 3 []) [(4,rr 1032),(5,pI 0)] [(1032,bx [ow 1448 s1.length,pI p0.next]),(1448,ob0 (Ac s1))] tv ?_)
      obtain rfl := sj hm
      exact DW.ret (Ai [Ac s1] [1448] (.tup [.agg [ow 0 s1.length,pI p0.next],pI 0]))
abbrev o117 (ks : List Nat) (b : Bool) (RES : Af × Int) : Orc := .call 80 ks b (.tup [.agg [ow 0 RES.1.nodes.length,pI RES.1.next],pI RES.2]) [] [Ac RES.1.nodes]

abbrev Aja : Nat × Obj := (1032,bx [.p (.sl .nil 0 0 (fun _ => [])),pI 0])
theorem AfO (p0 : Aq) (p1 : Int) (RES : Af × Aq) (hm : Rh p0 p1 = some RES) : Spec Tryz.prog 33 [rr 0,pI p1] [.box (pm (Al p0))] (.p (.agg (Aj RES.1))) [.box (pm (Al RES.2))] [] := by
 unfold Rh at hm
 refine SO Tryz.func33 rfl rfl [(0,rr 0),(1,pI p1)] [(0,bx (pm (Al p0)))] ?_
 intro cx hnt
 refine Sq (RD hnt (.no :: []) [] [(4,rr 1032)] [] [(Aja)] tv ?_)
 obtain ⟨r1,hr1,hm⟩ := bo hm
 refine Sq (RD hnt (o5 [] true r1 :: nn 2 []) [] [(5,rr 1040)] [] [(1040,bx [ow 1104 r1.nodes.length,pI r1.next]),(1104,ob0 (Ac r1.nodes))] (an (AgJ r1 hr1) tv) ?_)
 obtain ⟨r2,hr2,hm⟩ := bo hm
 refine Sq (Sq (RD hnt (nn 3 (Hi [0] true r2 :: .no :: [])) [1] [(6,pI r2.1)] [] [(0,bx (pm (Al r2.2)))] (an (Aw p0 (w64 (p1 + 1)) r2 hr2) (an tv tv)) ?_))
 refine Bk ?_
 refine DW.whileO (fun (s1 : Aq × Af × Int) => Am [(0,rr 0),(4,rr 1032),(5,rr 1040),(6,pI s1.2.2)] [(0,bx (pm (Al s1.1))),(Aja),(1040,bx (pm (Aj s1.2.1)))]) hm (Conv.frz [1104]) ?_
 intro s1 n1 hm
 unfold Xh at hm
 refine Sq (Sq (RD hnt (nn 2 []) [] [(19,pB (decide (s1.2.2 > 0)))] [] [] tv ?_))
 refine Ag hm ?_ ?_
 ·intro h18 hm
  refine Sk ?_
  refine Sq ?_
  refine Jn (ι := Aq × Af) (fun (y3 : Aq × Af) => Am [(0,rr 0),(4,rr 1032),(5,rr 1040),(6,pI s1.2.2)] [(0,bx (pm (Al y3.1))),(Aja),(1040,bx (pm (Aj y3.2)))]) (fun y3 => (Ik s1 n1) y3 = some RES) ?_ ?_
  ·intro y3 hm
   unfold Ik at hm
   refine RD hnt (nn 3 []) [] [(6,pI (w64 (s1.2.2 - 1)))] [] [] tv ?_
   exact jD (y3.1,y3.2,(w64 (s1.2.2 - 1))) hm Conv.eqK
  ·refine Bk ?_
   obtain ⟨r19,hr19,hm⟩ := bo hm
   obtain ⟨g20,hm⟩ := go1 hm
   refine Sq (RD hnt (nn 6 (Hi [0] true r19 :: nn 4 [])) [19] [(7,pI (s1.2.1.nodes.getD (Int.toNat r19.1) As).id)] [] [(0,bx (pm (Al r19.2)))] (an (Aw s1.1 ((s1.2.1.nodes.length : Nat) : Int) r19 hr19) (an tv (an g20.1 (an g20.2 tv)))) ?_)
   obtain ⟨r21,hr21,hm⟩ := bo hm
   obtain ⟨r22,hr22,hm⟩ := bo hm
   refine Sq (Sq (RD hnt (nn 3 (o115 [0] true r21 :: o25 [] true r22 :: nn 8 [])) [7] [(8,rr 1064),(10,pI r22.2.2)] [] [(0,bx (pm (Al r21.2))),(1064,bx [ow 1296 r22.1.nodes.length,pI r22.1.next]),(1296,ob0 (Ac r22.1.nodes))] (an (AaP r19.2 r21 hr21) (an tv (an (Agf s1.2.1 (s1.2.1.nodes.getD (Int.toNat r19.1) As).id r21.1 r22 hr22) tv))) ?_))
   refine Sq (RD hnt (nn 2 []) [10] [(42,pB (r22.2.2 == 0))] [] [] tv ?_)
   refine Jn (ι := Af) (fun (y4 : Af) => Am [(0,rr 0),(4,rr 1032),(5,rr 1040),(6,pI s1.2.2)] [(0,bx (pm (Al r21.2))),(Aja),(1040,bx (pm (Aj y4)))]) (fun y4 => (Kl s1 n1 r21) y4 = some RES) ?_ ?_
   ·intro y4 hm
    unfold Kl at hm
    obtain ⟨r24,hr24,hm⟩ := bo hm
    refine Sq (RD hnt (.no :: o116 [0] true r24 :: []) [] [(45,pB r24.1)] [] [(0,bx (pm (Al r24.2)))] (an (El r21.2 6 r24 hr24) (an tv tv)) ?_)
    refine Ag hm ?_ ?_
    ·intro h25 hm
     obtain ⟨r26,hr26,hm⟩ := bo hm
     obtain ⟨g27,hm⟩ := go1 hm
     obtain ⟨r28,hr28,hm⟩ := bo hm
     refine Sq (RD hnt (nn 7 (Hi [0] true r26 :: nn 3 (o117 [] true r28 :: nn 6 []))) [45] [(11,rr 1088),(12,pI r28.2)] [] [(0,bx (pm (Al r26.2))),(1088,bx [ow 1464 r28.1.nodes.length,pI r28.1.next]),(1464,ob0 (Ac r28.1.nodes))] (an (Aw r24.2 ((y4.nodes.length : Nat) : Int) r26 hr26) (an tv (an g27.1 (an g27.2 (an (Adt y4 (y4.nodes.getD (Int.toNat r26.1) As).id r28 hr28) tv))))) ?_)
     refine Sq (RD hnt (nn 2 []) [12] [(62,pB (r28.2 == 0))] [] [] tv ?_)
     refine Ag hm ?_ ?_
     ·intro h29 hm
      refine RD hnt (nn 2 []) [11,62] [] [1088] [(1040,bx [ow 1464 r28.1.nodes.length,pI r28.1.next])] tv ?_
      exact bD (r26.2,r28.1) hm (Conv.frz [1464])
     ·intro h29 hm
      refine Sk ?_
      exact bD (r26.2,y4) hm Conv.t0
    ·intro h25 hm
     refine Sk ?_
     exact bD (r24.2,y4) hm Conv.t0
   ·refine Ag hm ?_ ?_
    ·intro h23 hm
     refine RD hnt (nn 2 []) [8,42] [] [1064] [(1040,bx [ow 1296 r22.1.nodes.length,pI r22.1.next])] tv ?_
     exact jD r22.1 hm (Conv.frz [1296])
    ·intro h23 hm
     refine Sk ?_
     exact jD s1.2.1 hm Conv.t0
 ·intro h18 hm
  refine DW.exit ?_
  refine Ar ?_
  refine Au ?_
  refine Ap ?_
  show DW _ _ _ _ _
  refine Sq (RD hnt (nn 2 []) [0,5,6,19] [] [1040] [(1032,bx (pm (Aj s1.2.1)))] tv ?_)
  obtain rfl := sj hm
  exact DW.ret (Ai [.box (pm (Al s1.1))] [] (.p (.agg (Aj s1.2.1))))
abbrev o113 (ks : List Nat) (b : Bool) (RES : Af × Aq) : Orc := .call 33 ks b (.p (.agg (Aj RES.1))) [.box (pm (Al RES.2))] []

theorem Od (p0 : Aq) (p1 : Af) (RES : Int × Aq) (hm : Ho p0 p1 = some RES) : Spec Tryz.prog 13 [rr 0,.p (.agg (Aj p1))] [.box (pm (Al p0))] (pI RES.1) [.box (pm (Al RES.2))] [] := by
 unfold Ho at hm
 refine SO Tryz.func13 rfl rfl [(0,rr 0),(1,.p (.agg (Aj p1)))] [(0,bx (pm (Al p0)))] ?_
 intro cx hnt
 refine Sq (RD hnt (nn 2 []) [1] [(3,rr 1024)] [] [(1024,bx (pm (Aj p1)))] tv ?_)
 obtain ⟨r1,hr1,hm⟩ := bo hm
 refine Sq (Sq ?_)
 refine Jn (ι := Bool) (fun (y1 : Bool) => Am [(0,rr 0),(3,rr 1024),(12,pB y1)] [(0,bx (pm (Al r1.2))),(1024,bx (pm (Aj p1)))]) (fun y1 => (Ka p1 r1) y1 = some RES) ?_ ?_
 ·intro y1 hm
  unfold Ka at hm
  refine Ag hm ?_ ?_
  ·intro h3 hm
   obtain ⟨r4,hr4,hm⟩ := bo hm
   refine Sq (RK hnt (.no :: Hi [0] true r4 :: nn 2 []) [(4,pI (w64 (r4.1 - 1)))] [(0,bx (pm (Al r4.2)))] (an (Aw r1.2 9 r4 hr4) (an tv tv)) ?_)
   obtain rfl := sj hm
   exact DW.ret (Ai [.box (pm (Al r4.2))] [] (pI (w64 (r4.1 - 1))))
  ·intro h3 hm
   refine Sk ?_
   obtain ⟨r5,hr5,hm⟩ := bo hm
   obtain ⟨g6,hm⟩ := go1 hm
   refine Sq (RK hnt (nn 6 (Hi [0] true r5 :: nn 4 [])) [(4,pI (p1.nodes.getD (Int.toNat r5.1) As).id)] [(0,bx (pm (Al r5.2)))] (an (Aw r1.2 ((p1.nodes.length : Nat) : Int) r5 hr5) (an tv (an g6.1 (an g6.2 tv)))) ?_)
   obtain rfl := sj hm
   exact DW.ret (Ai [.box (pm (Al r5.2))] [] (pI (p1.nodes.getD (Int.toNat r5.1) As).id))
 ·rcases bt r1.1 with h2 | h2
  ·replace hm := Ba h2 hm
   refine RD hnt (.no :: o116 [0] true r1 :: .no :: sk 4 (pT :: [])) [] [(12,pB true)] [] [(0,bx (pm (Al r1.2)))] (an (El p0 15 r1 hr1) (an tv (an5 h2 tv))) ?_
   exact jD true hm Conv.eqK
  ·replace hm := Bb h2 hm
   refine RD hnt (.no :: o116 [0] true r1 :: nn 5 (pF :: [])) [] [(12,pB (((p1.nodes.length : Nat) : Int) == 0))] [] [(0,bx (pm (Al r1.2)))] (an (El p0 15 r1 hr1) (an tv (an5 h2 tv))) ?_
   exact jD (((p1.nodes.length : Nat) : Int) == 0) hm Conv.eqK
abbrev o119 (ks : List Nat) (b : Bool) (RES : Int × Aq) : Orc := .call 13 ks b (pI RES.1) [.box (pm (Al RES.2))] []

theorem Ja (p0 : Aq) (RES : Int × Aq) (hm : Ec p0 = some RES) : Spec Tryz.prog 19 [rr 0] [.box (pm (Al p0))] (pI RES.1) [.box (pm (Al RES.2))] [] := by
 unfold Ec at hm
 refine SO Tryz.func19 rfl rfl [(0,rr 0)] [(0,bx (pm (Al p0)))] ?_
 intro cx hnt
 refine Sq (RD hnt (.no :: []) [] [] [] [] tv ?_)
 obtain ⟨r3,hr3,hm⟩ := bo hm
 obtain ⟨g4,g5,hm⟩ := go2 hm
 refine Sq (RK hnt (.asR (ow 1024 [1,9,31,2,25,4,0,32,(-1)].length) [1,9,31,2,25,4,0,32,(-1)].length (elems Bw 0 [1,9,31,2,25,4,0,32,(-1)]) :: .no :: Hi [0] true r3 :: nn 3 []) [(2,pI ([1,9,31,2,25,4,0,32,(-1)].getD (Int.toNat r3.1) 0))] [(0,bx (pm (Al r3.2)))] (an (congrArg (MV.own 1024 0 0) (RowIs.asP (enc := Bw) (d := 0) (L := [1,9,31,2,25,4,0,32,(-1)]) (RowIs.lit (enc := Bw) (d := 0) (n := 9) (f := (cut 1 [vi 1,vi 9,vi 31,vi 2,vi 25,vi 4,vi 0,vi 32,vi (-1)])) [1,9,31,2,25,4,0,32,(-1)] rfl (fun | 0,_ => rfl | 1,_ => rfl | 2,_ => rfl | 3,_ => rfl | 4,_ => rfl | 5,_ => rfl | 6,_ => rfl | 7,_ => rfl | 8,_ => rfl | n + 9,h => absurd h (by omega)))).1) (an (RowIs.asP (enc := Bw) (d := 0) (L := [1,9,31,2,25,4,0,32,(-1)]) (RowIs.lit (enc := Bw) (d := 0) (n := 9) (f := (cut 1 [vi 1,vi 9,vi 31,vi 2,vi 25,vi 4,vi 0,vi 32,vi (-1)])) [1,9,31,2,25,4,0,32,(-1)] rfl (fun | 0,_ => rfl | 1,_ => rfl | 2,_ => rfl | 3,_ => rfl | 4,_ => rfl | 5,_ => rfl | 6,_ => rfl | 7,_ => rfl | 8,_ => rfl | n + 9,h => absurd h (by omega)))) (an (Aw p0 9 r3 hr3) (an tv (an g4.1 (an g4.2 (an g5 tv))))))) ?_)
 obtain rfl := sj hm
 exact DW.ret (Ai [.box (pm (Al r3.2))] [] (pI ([1,9,31,2,25,4,0,32,(-1)].getD (Int.toNat r3.1) 0)))
abbrev o120 (ks : List Nat) (b : Bool) (RES : Int × Aq) : Orc := .call 19 ks b (pI RES.1) [.box (pm (Al RES.2))] []

theorem Uv (p0 : Int) (RES : Bool) (hm : Zk p0 = some RES) : Spec Tryz.prog 146 [pI p0] [] (pB RES) [] [] := by
 unfold Zk at hm
 refine SO Tryz.func146 rfl rfl [(0,pI p0)] [] ?_
 intro cx hnt
 refine Sq (RK hnt (.no :: []) [(0,pI p0)] [] tv ?_)
 refine Sq (DW.regJ (sl2 := [(2,pB ((decide (p0 ≥ 0)) && (decide (p0 ≤ 31))))]) (ob2 := []) ?_ ?_)
 ·rcases bt (decide (p0 ≥ 0)) with h1 | h1
  ·exact RT hnt (nn 5 (pT :: .no :: [])) [(2,pB (decide (p0 ≤ 31)))] (an3 h1 tv) (by kernel_rfl) (.cons rfl (.of_eq (by rw [h1]; try rfl)) .nil)
  ·exact RT hnt (nn 3 (sk 2 (pF :: .no :: []))) [(2,pB false)] (an3 h1 tv) (by kernel_rfl) (.cons rfl (.of_eq (by rw [h1]; try rfl)) .nil)
 ·refine DW.ret ?_
  obtain rfl := sj hm
  exact Ai [] [] (pB ((decide (p0 ≥ 0)) && (decide (p0 ≤ 31))))
abbrev o123 (ks : List Nat) (b : Bool) (RES : Bool) : Orc := .call 146 ks b (pB RES) [] []

abbrev Aiz : Nat × Obj := (1032,bx [.p (.sl .nil 0 0 (fun _ => [])),pI 0])
theorem Acu (p0 : Af) (p1 : Ah) (RES : Af) (hm : Xl p0 p1 = some RES) : Spec Tryz.prog 83 [.p (.agg (Aj p0)),.p (.agg (Ak p1))] [] (.agg [ow 0 RES.nodes.length,pI RES.next]) [] [Ac RES.nodes] := by
 unfold Xl at hm
 refine SO Tryz.func83 rfl rfl [(0,.p (.agg (Aj p0))),(1,.p (.agg (Ak p1)))] [] ?_
 intro cx hnt
 refine Sq (RK hnt (nn 3 []) [(2,rr 1016),(3,rr 1024),(4,rr 1032)] [(1016,bx (pm (Aj p0))),(1024,bx (pm (Ak p1))),(Aiz)] tv ?_)
 obtain ⟨r1,hr1,hm⟩ := bo hm
 refine Sq (RD hnt (.no :: o27 [] true r1 :: nn 2 []) [2] [(5,rr 1040)] [1016] [(1040,bx [ow 1064 r1.nodes.length,pI r1.next]),(1064,ob0 (Ac r1.nodes))] (an (Xe p0 r1 hr1) tv) ?_)
 refine Sq (Sq (RD hnt (.no :: []) [] [(6,pI 0)] [] [] tv ?_))
 refine Bk ?_
 refine DW.whileO (fun (s1 : (List Ah) × Int) => Am [(3,rr 1024),(4,rr 1032),(5,rr 1040),(6,pI s1.2)] [(1024,bx (pm (Ak p1))),(Aiz),(1040,bx [ow 1064 s1.1.length,pI r1.next]),(1064,ob0 (Ac s1.1))]) hm Conv.eqK ?_
 intro s1 n1 hm
 unfold AeD at hm
 refine Sq (Sq (RD hnt (nn 5 []) [] [(13,pB (decide (s1.2 < ((s1.1.length : Nat) : Int))))] [] [] tv ?_))
 refine Ag hm ?_ ?_
 ·intro h8 hm
  refine Sk ?_
  refine Sq ?_
  refine Jn (ι := List Ah) (fun (y2 : List Ah) => Am [(3,rr 1024),(4,rr 1032),(5,rr 1040),(6,pI s1.2)] [(1024,bx (pm (Ak p1))),(Aiz),(1040,bx [ow 1064 y2.length,pI r1.next]),(1064,ob0 (Ac y2))]) (fun y2 => (Ym s1 n1) y2 = some RES) ?_ ?_
  ·intro y2 hm
   unfold Ym at hm
   refine RD hnt (nn 3 []) [] [(6,pI (w64 (s1.2 + 1)))] [] [] tv ?_
   exact jD (y2,(w64 (s1.2 + 1))) hm Conv.eqK
  ·refine Bk ?_
   obtain ⟨g9,g10,hm⟩ := go2 hm
   refine Sq (RD hnt (nn 9 []) [13] [(24,pB ((s1.1.getD (Int.toNat s1.2) As).id == p1.id))] [] [] (an g9.1 (an g9.2 (an g10 tv))) ?_)
   refine Ag hm ?_ ?_
   ·intro h11 hm
    obtain ⟨g12,g13,hm⟩ := go2 hm
    refine RN hnt (nn 6 []) [(3,rr 1024),(4,rr 1032),(5,rr 1040),(6,pI s1.2)] [(1024,bx (pm (Ak p1))),(Aiz),(1040,bx [ow 1064 (s1.1.set (Int.toNat s1.2) p1).length,pI r1.next]),(1064,ob0 (Ac (s1.1.set (Int.toNat s1.2) p1)))] [] [(1040,.box [ow 1064 s1.1.length,pI r1.next]),(1064,.row 6 s1.1.length (Bs (Ey s1.1) (Int.toNat s1.2) [vi p1.id,vi p1.parent,vs p1.name,vi p1.control,vi p1.kind,vi p1.owner]))] (an g12.1 (an g12.2 (an g13 tv))) (by kernel_rfl) .nil (.cons rfl (.box (.cons (MLe.ownLen (enc := Ak) (d := As) (f := (Bs (Ey s1.1) (Int.toNat s1.2) [vi p1.id,vi p1.parent,vs p1.name,vi p1.control,vi p1.kind,vi p1.owner])) (RowIs.upd RowIs.elems p1 rfl)) (.cons .rfl .nil))) (.cons rfl (BLe.typed (RowIs.upd RowIs.elems p1 rfl)) .nil)) ?_
    exact bD (s1.1.set (Int.toNat s1.2) p1) hm .refl
   ·intro h11 hm
    refine Sk ?_
    exact bD s1.1 hm Conv.t0
 ·intro h8 hm
  refine DW.exit ?_
  refine Ar ?_
  refine Au ?_
  refine Ap ?_
  show DW _ _ _ _ _
  refine Sq (RD hnt (nn 2 []) [3,5,6,13] [] [1024,1040] [(1032,bx [ow 1064 s1.1.length,pI r1.next])] tv ?_)
  obtain rfl := sj hm
  exact DW.ret (Ai [Ac s1.1] [1064] (.agg [ow 0 s1.1.length,pI r1.next]))
abbrev o124 (ks : List Nat) (b : Bool) (RES : Af) : Orc := .call 83 ks b (.agg [ow 0 RES.nodes.length,pI RES.next]) [] [Ac RES.nodes]

abbrev AiN : Nat × Obj := (1064,bx [.p (.sl .nil 0 0 (fun _ => [])),pI 0,.p (.sl .nil 0 0 (fun _ => [])),pI 0])
abbrev AfV : Nat × Obj := (1064,bx [ow 100000 0,pI 0,ow 100001 0,pI 0])
abbrev c122e3 (r8 : Ah × Bool) (p3 : Int) (p2 : Int) : Nat × Obj := (1080,bx [pI r8.1.id,pI r8.1.parent,pS r8.1.name,pI (kor .i64 (Az .i64 r8.1.control p3) p2),pI r8.1.kind,pI r8.1.owner])
theorem AjK (p0 : Aa) (p1 : Int) (p2 : Int) (p3 : Int) (RES : Aa × Int) (hm : Rq p0 p1 p2 p3 = some RES) : Spec Tryz.prog 124 [.p (.agg (Ab p0)),pI p1,pI p2,pI p3] [] (.tup [.agg [ow 0 RES.1.tree.nodes.length,pI RES.1.tree.next,ow 1 RES.1.tasks.length,pI RES.1.next],pI RES.2]) [] [Ac RES.1.tree.nodes,Ae RES.1.tasks] := by
 unfold Rq at hm
 refine SO Tryz.func124 rfl rfl [(0,.p (.agg (Ab p0))),(1,pI p1),(2,pI p2),(3,pI p3)] [] ?_
 intro cx hnt
 refine Sq (RD hnt (nn 3 []) [0] [(4,rr 1032),(8,rr 1064)] [] [(1032,bx (pm (Ab p0))),(AiN)] tv ?_)
 obtain ⟨r1,hr1,hm⟩ := bo hm
 refine Sq (Sq ?_)
 refine Jn (ι := Bool) (fun (y1 : Bool) => Am [(1,pI p1),(2,pI p2),(3,pI p3),(4,rr 1032),(8,rr 1064),(37,pB y1)] [(1032,bx (pm (Ab p0))),(AiN)]) (fun y1 => (Ht p0 p1 p2 p3) y1 = some RES) ?_ ?_
 ·intro y1 hm
  unfold Ht at hm
  refine Ag hm ?_ ?_
  ·intro h7 hm
   refine Sq (RD hnt (nn 3 []) [1,2,3,4,37] [(9,pI 1)] [1032] [] tv ?_)
   refine DW.cv [] [] [] [(AfV),(100000,ob0 (Ac [])),(100001,ob0 (Ae []))] (Conv.ads [(.o 1064 0,100000,6,elems Ak As []),(.o 1064 2,100001,4,elems Ao Ax [])]) ?_
   obtain rfl := sj hm
   exact DW.ret (Ai [Ac [],Ae []] [100000,100001] (.tup [.agg [ow 0 0,pI 0,ow 1 0,pI 0],pI 1]))
  ·intro h7 hm
   refine Sk ?_
   obtain ⟨r8,hr8,hm⟩ := bo hm
   refine Sq (RD hnt (nn 3 (o16 [] true r8 :: nn 6 [])) [37] [(10,rr 1080),(11,pB r8.2)] [] [(1080,bx (pm (Ak r8.1)))] (an (Cu p0.tree p1 r8 hr8) tv) ?_)
   refine Sq (Sq (RD hnt (nn 2 []) [11] [(47,pB (!r8.2))] [] [] tv ?_))
   refine Ag hm ?_ ?_
   ·intro h9 hm
    refine Sq (RD hnt (nn 3 []) [1,2,3,4,10,47] [(9,pI 4)] [1032,1080] [] tv ?_)
    refine DW.cv [] [] [] [(AfV),(100000,ob0 (Ac [])),(100001,ob0 (Ae []))] (Conv.ads [(.o 1064 0,100000,6,elems Ak As []),(.o 1064 2,100001,4,elems Ao Ax [])]) ?_
    obtain rfl := sj hm
    exact DW.ret (Ai [Ac [],Ae []] [100000,100001] (.tup [.agg [ow 0 0,pI 0,ow 1 0,pI 0],pI 4]))
   ·intro h9 hm
    refine Sk ?_
    obtain ⟨r10,hr10,hm⟩ := bo hm
    refine Sq (Sq (RD hnt (nn 4 (o17 [] true r10 :: nn 2 [])) [47] [(55,pB ((Az .i64 p2 r10) != 0))] [] [] (an (Lk p0.tree p1 r10 hr10) tv) ?_))
    refine Ag hm ?_ ?_
    ·intro h11 hm
     refine Sq (RD hnt (nn 3 []) [1,2,3,4,10,55] [(9,pI 9)] [1032,1080] [] tv ?_)
     refine DW.cv [] [] [] [(AfV),(100000,ob0 (Ac [])),(100001,ob0 (Ae []))] (Conv.ads [(.o 1064 0,100000,6,elems Ak As []),(.o 1064 2,100001,4,elems Ao Ax [])]) ?_
     obtain rfl := sj hm
     exact DW.ret (Ai [Ac [],Ae []] [100000,100001] (.tup [.agg [ow 0 0,pI 0,ow 1 0,pI 0],pI 9]))
    ·intro h11 hm
     refine Sk ?_
     obtain ⟨r12,hr12,hm⟩ := bo hm
     refine Sq (RD hnt (nn 3 (o24 [] true r12 :: .no :: [])) [55] [(12,ow 1480 r12.length)] [] [(1480,ob0 (roI r12))] (an (Wb p0.tree p1 r12 hr12) tv) ?_)
     refine Sq (Sq (RD hnt (.no :: []) [] [(13,pI 0)] [] [] tv ?_))
     refine Bk ?_
     obtain ⟨hc1,hm⟩ := go1 hm
     refine DW.rangeO (fun (k1 : Nat) (s1 : Unit) => Am [(1,pI p1),(2,pI p2),(3,pI p3),(4,rr 1032),(8,rr 1064),(10,rr 1080),(12,ow 1480 r12.length),(13,pI ((k1 : Nat) : Int))] [(1032,bx (pm (Ab p0))),(AiN),(1080,bx (pm (Ak r8.1))),(1480,ob0 (roI r12))]) 0 hm Conv.eqK ?_
     intro k1 s1 n1 hk1 hs1 he1
     refine Sq (Sq (RD hnt (nn 4 []) [] [(64,pB (decide (((k1 : Nat) : Int) < ((r12.length : Nat) : Int))))] [] [] tv ?_))
     refine Bx (decide (((k1 : Nat) : Int) < ((r12.length : Nat) : Int))) ?_ ?_
     ·intro h35
      have hlt1 : k1 < r12.length := by have := of_decide_eq_true h35; omega
      have hm := hs1 hlt1
      unfold Yb at hm
      refine Sk ?_
      refine Sq (Bk ?_)
      obtain ⟨r36,hr36,hm⟩ := bo hm
      refine Sq (RD hnt (nn 6 (o16 [] true r36 :: nn 6 [])) [64] [(14,rr 1112)] [] [(1112,bx (pm (Ak r36.1)))] (an (nn0 k1) (an (ltc hlt1) (an (by omega : k1 < r12.length) (an (Cu p0.tree (r12.getD k1 0) r36 hr36) tv)))) ?_)
      refine Sq (RD hnt (nn 5 []) [14] [(81,pB ((kand .i64 r36.1.control p3) != 0))] [1112] [] tv ?_)
      refine Ag hm ?_ ?_
      ·intro h37 hm
       refine Sq (RD hnt (nn 3 []) [1,2,3,4,10,12,13,81] [(9,pI 9)] [1032,1080,1480] [] tv ?_)
       refine DW.cv [] [] [] [(AfV),(100000,ob0 (Ac [])),(100001,ob0 (Ae []))] (Conv.ads [(.o 1064 0,100000,6,elems Ak As []),(.o 1064 2,100001,4,elems Ao Ax [])]) ?_
       obtain rfl := sj hm
       exact DW.ret (Ai [Ac [],Ae []] [100000,100001] (.tup [.agg [ow 0 0,pI 0,ow 1 0,pI 0],pI 9]))
      ·intro h37 hm
       refine Sk ?_
       refine DW.done ?_
       show DW _ _ _ _ _
       refine RD hnt (nn 3 []) [81] [(13,pI (w64 (((k1 : Nat) : Int) + 1)))] [] [] tv ?_
       exact jD () ⟨hlt1,hm⟩ (Conv.tp [(13,pI (w64 (((k1 : Nat) : Int) + 1)))] [] (by kernel_rfl) (.cons rfl (.of_eq (congrArg pI (Bl hlt1 hc1))) .nil) .nil)
     ·intro h35
      have hge1 : ¬ k1 < r12.length := by have := of_decide_eq_false h35; omega
      have hm := he1 hge1
      unfold Uf at hm
      refine DW.exit ?_
      refine Ar ?_
      refine Au ?_
      refine Ap ?_
      show DW _ _ _ _ _
      refine Sq (RD hnt (nn 3 []) [12,13,64] [(16,pI r8.1.control)] [1480] [] tv ?_)
      refine Sq (RD hnt (nn 7 []) [2,3] [] [] [(c122e3 r8 p3 p2)] tv ?_)
      refine Sq (Sq (RD hnt (nn 4 []) [] [(17,pI (kand .i64 (kor .i64 (Az .i64 r8.1.control p3) p2) 6))] [] [] tv ?_))
      refine Sq ?_
      refine Jn (ι := Bool) (fun (y4 : Bool) => Am [(4,rr 1032),(8,rr 1064),(10,rr 1080),(108,pB y4)] [(1032,bx (pm (Ab p0))),(AiN),(c122e3 r8 p3 p2)]) (fun y4 => (Ji p0 p2 p3 r8) y4 = some RES) ?_ ?_
      ·intro y4 hm
       unfold Ji at hm
       refine Ag hm ?_ ?_
       ·intro h41 hm
        refine Sq (RD hnt (nn 3 []) [4,10,108] [(9,pI 6)] [1032,1080] [] tv ?_)
        refine DW.cv [] [] [] [(AfV),(100000,ob0 (Ac [])),(100001,ob0 (Ae []))] (Conv.ads [(.o 1064 0,100000,6,elems Ak As []),(.o 1064 2,100001,4,elems Ao Ax [])]) ?_
        obtain rfl := sj hm
        exact DW.ret (Ai [Ac [],Ae []] [100000,100001] (.tup [.agg [ow 0 0,pI 0,ow 1 0,pI 0],pI 6]))
       ·intro h41 hm
        refine Sk ?_
        obtain ⟨r42,hr42,hm⟩ := bo hm
        refine Sq (RD hnt (.no :: o28 [] true r42 :: nn 2 []) [108] [(18,rr 1144)] [] [(1144,bx [ow 1888 r42.tree.nodes.length,pI r42.tree.next,ow 1889 r42.tasks.length,pI r42.next]),(1888,ob0 (Ac r42.tree.nodes)),(1889,ob0 (Ae r42.tasks))] (an (Mb p0 r42 hr42) tv) ?_)
        obtain ⟨r43,hr43,hm⟩ := bo hm
        refine Sq (RD hnt (nn 3 (o124 [] true r43 :: nn 2 [])) [4,10] [] [1032,1080,1888] [(1144,bx [ow 1920 r43.nodes.length,pI r43.next,ow 1889 r42.tasks.length,pI r42.next]),(1920,ob0 (Ac r43.nodes))] (an (Acu p0.tree ({ id := r8.1.id,parent := r8.1.parent,name := r8.1.name,control := (kor .i64 (Az .i64 r8.1.control p3) p2),kind := r8.1.kind,owner := r8.1.owner } : Ah) r43 hr43) tv) ?_)
        refine Sq (RD hnt (nn 3 []) [18] [(9,pI 0)] [1144] [(1064,bx [ow 1920 r43.nodes.length,pI r43.next,ow 1889 r42.tasks.length,pI r42.next])] tv ?_)
        obtain rfl := sj hm
        exact DW.ret (Ai [Ac r43.nodes,Ae r42.tasks] [1920,1889] (.tup [.agg [ow 0 r43.nodes.length,pI r43.next,ow 1 r42.tasks.length,pI r42.next],pI 0]))
      ·rcases bt ((Az .i64 (kand .i64 (kor .i64 (Az .i64 r8.1.control p3) p2) 6) r8.1.control) != 0) with h38 | h38
       ·replace hm := Ba h38 hm
        rcases bt (p1 != 1) with h39 | h39
        ·replace hm := Ba h39 hm
         obtain ⟨r40,hr40,hm⟩ := bo hm
         refine RD hnt (nn 7 (pT :: nn 3 (o19 [] true r40 :: nn 2 (pT :: [])))) [1,16,17] [(108,pB (decide (((r40.length : Nat) : Int) > 0)))] [] [] (an3 h38 (an3 h39 (an (Nd p0 p1 r40 hr40) (an3 h39 tv)))) ?_
         exact jD (decide (((r40.length : Nat) : Int) > 0)) hm Conv.eqK
        ·replace hm := Bb h39 hm
         refine RD hnt (nn 7 (pT :: .no :: sk 5 (pF :: []))) [1,16,17] [(108,pB false)] [] [] (an3 h38 (an6 h39 tv)) ?_
         exact jD false hm Conv.eqK
       ·replace hm := Bb h38 hm
        refine RD hnt (nn 5 (sk 2 (pF :: .no :: sk 5 (pF :: [])))) [1,16,17] [(108,pB false)] [] [] (an3 h38 (an6 ff tv)) ?_
        exact jD false hm Conv.eqK
 ·rcases bt (!r1) with h2 | h2
  ·replace hm := Ba h2 hm
   refine RD hnt (.no :: o8 [] true r1 :: nn 2 (sk 3 (pT :: .no :: sk 3 (pT :: .no :: sk 4 (pT :: []))))) [] [(37,pB true)] [] [] (an (Qn p0 r1 hr1) (an4 h2 (an3 tt (an6 tt tv)))) ?_
   exact jD true hm Conv.eqK
  ·replace hm := Bb h2 hm
   obtain ⟨r3,hr3,hm⟩ := bo hm
   rcases bt (!r3) with h4 | h4
   ·replace hm := Ba h4 hm
    refine RD hnt (.no :: o8 [] true r1 :: nn 3 (o123 [] true r3 :: .no :: pF :: .no :: sk 3 (pT :: .no :: sk 4 (pT :: [])))) [] [(37,pB true)] [] [] (an (Qn p0 r1 hr1) (an2 h2 (an (Uv p2 r3 hr3) (an2 h2 (an4 h4 (an5 tt tv)))))) ?_
    exact jD true hm Conv.eqK
   ·replace hm := Bb h4 hm
    obtain ⟨r5,hr5,hm⟩ := bo hm
    rcases bt (!r5) with h6 | h6
    ·replace hm := Ba h6 hm
     refine RD hnt (.no :: o8 [] true r1 :: nn 3 (o123 [] true r3 :: .no :: pF :: nn 2 (o123 [] true r5 :: .no :: pF :: .no :: sk 4 (pT :: [])))) [] [(37,pB true)] [] [] (an (Qn p0 r1 hr1) (an2 h2 (an (Uv p2 r3 hr3) (an2 h2 (an2 h4 (an (Uv p3 r5 hr5) (an2 h4 (an5 h6 tv)))))))) ?_
     exact jD true hm Conv.eqK
    ·replace hm := Bb h6 hm
     refine RD hnt (.no :: o8 [] true r1 :: nn 3 (o123 [] true r3 :: .no :: pF :: nn 2 (o123 [] true r5 :: .no :: pF :: nn 5 (pF :: [])))) [] [(37,pB ((kand .i64 p2 p3) != 0))] [] [] (an (Qn p0 r1 hr1) (an2 h2 (an (Uv p2 r3 hr3) (an2 h2 (an2 h4 (an (Uv p3 r5 hr5) (an2 h4 (an5 h6 tv)))))))) ?_
     exact jD ((kand .i64 p2 p3) != 0) hm Conv.eqK
abbrev o122 (ks : List Nat) (b : Bool) (RES : Aa × Int) : Orc := .call 124 ks b (.tup [.agg [ow 0 RES.1.tree.nodes.length,pI RES.1.tree.next,ow 1 RES.1.tasks.length,pI RES.1.next],pI RES.2]) [] [Ac RES.1.tree.nodes,Ae RES.1.tasks]

abbrev c121e1 : Nat × Obj := (1064,bx [ow 100000 0,pI 0,ow 100001 0,pI 0])
theorem AcU (p0 : Aa) (p1 : Int) (p2 : Int) (p3 : Int) (RES : Aa × Int) (hm : Mu p0 p1 p2 p3 = some RES) : Spec Tryz.prog 81 [.p (.agg (Ab p0)),pI p1,pI p2,pI p3] [] (.tup [.agg [ow 0 RES.1.tree.nodes.length,pI RES.1.tree.next,ow 1 RES.1.tasks.length,pI RES.1.next],pI RES.2]) [] [Ac RES.1.tree.nodes,Ae RES.1.tasks] := by
 unfold Mu at hm
 refine SO Tryz.func81 rfl rfl [(0,.p (.agg (Ab p0))),(1,pI p1),(2,pI p2),(3,pI p3)] [] ?_
 intro cx hnt
 refine Sq (RD hnt (nn 3 []) [0] [(4,rr 1032),(8,rr 1064)] [] [(1032,bx (pm (Ab p0))),(1064,bx [.p (.sl .nil 0 0 (fun _ => [])),pI 0,.p (.sl .nil 0 0 (fun _ => [])),pI 0])] tv ?_)
 obtain ⟨r1,hr1,hm⟩ := bo hm
 refine Sq (Sq (RD hnt (.no :: o7 [] true r1 :: .no :: []) [] [(14,pB (!r1))] [] [] (an (Ib p0 r1 hr1) tv) ?_))
 refine Ag hm ?_ ?_
 ·intro h2 hm
  refine Sq (RD hnt (nn 3 []) [1,2,3,4,14] [(9,pI 1)] [1032] [] tv ?_)
  refine DW.cv [] [] [] [(c121e1),(100000,ob0 (Ac [])),(100001,ob0 (Ae []))] (Conv.ads [(.o 1064 0,100000,6,elems Ak As []),(.o 1064 2,100001,4,elems Ao Ax [])]) ?_
  obtain rfl := sj hm
  exact DW.ret (Ai [Ac [],Ae []] [100000,100001] (.tup [.agg [ow 0 0,pI 0,ow 1 0,pI 0],pI 1]))
 ·intro h2 hm
  refine Sk ?_
  obtain ⟨r3,hr3,hm⟩ := bo hm
  refine Sq (RD hnt (nn 4 (o122 [] true r3 :: nn 6 [])) [1,2,3,4,14] [(10,rr 1080),(11,pI r3.2)] [1032] [(1080,bx [ow 1168 r3.1.tree.nodes.length,pI r3.1.tree.next,ow 1169 r3.1.tasks.length,pI r3.1.next]),(1168,ob0 (Ac r3.1.tree.nodes)),(1169,ob0 (Ae r3.1.tasks))] (an (AjK p0 p1 p2 p3 r3 hr3) tv) ?_)
  refine Sq (Sq (RD hnt (nn 2 []) [] [(25,pB (r3.2 != 0))] [] [] tv ?_))
  refine Ag hm ?_ ?_
  ·intro h4 hm
   refine Sq (RD hnt (nn 4 []) [10,11,25] [(9,pI r3.2)] [1080,1168,1169] [] tv ?_)
   refine DW.cv [] [] [] [(c121e1),(100000,ob0 (Ac [])),(100001,ob0 (Ae []))] (Conv.ads [(.o 1064 0,100000,6,elems Ak As []),(.o 1064 2,100001,4,elems Ao Ax [])]) ?_
   obtain rfl := sj hm
   exact DW.ret (Ai [Ac [],Ae []] [100000,100001] (.tup [.agg [ow 0 0,pI 0,ow 1 0,pI 0],pI r3.2]))
  ·intro h4 hm
   refine Sk ?_
   obtain ⟨r5,hr5,hm⟩ := bo hm
   refine Sq (Sq (RD hnt (.no :: o7 [] true r5 :: .no :: []) [11,25] [(30,pB (!r5))] [] [] (an (Ib r3.1 r5 hr5) tv) ?_))
   refine Ag hm ?_ ?_
   ·intro h6 hm
    refine Sq (RD hnt (nn 3 []) [10,30] [(9,pI 10)] [1080,1168,1169] [] tv ?_)
    refine DW.cv [] [] [] [(c121e1),(100000,ob0 (Ac [])),(100001,ob0 (Ae []))] (Conv.ads [(.o 1064 0,100000,6,elems Ak As []),(.o 1064 2,100001,4,elems Ao Ax [])]) ?_
    obtain rfl := sj hm
    exact DW.ret (Ai [Ac [],Ae []] [100000,100001] (.tup [.agg [ow 0 0,pI 0,ow 1 0,pI 0],pI 10]))
   ·intro h6 hm
    refine Sk ?_
    refine Sq (RD hnt (nn 3 []) [10,30] [(9,pI 0)] [1080] [(1064,bx [ow 1168 r3.1.tree.nodes.length,pI r3.1.tree.next,ow 1169 r3.1.tasks.length,pI r3.1.next])] tv ?_)
    obtain rfl := sj hm
    exact DW.ret (Ai [Ac r3.1.tree.nodes,Ae r3.1.tasks] [1168,1169] (.tup [.agg [ow 0 r3.1.tree.nodes.length,pI r3.1.tree.next,ow 1 r3.1.tasks.length,pI r3.1.next],pI 0]))
abbrev o121 (ks : List Nat) (b : Bool) (RES : Aa × Int) : Orc := .call 81 ks b (.tup [.agg [ow 0 RES.1.tree.nodes.length,pI RES.1.tree.next,ow 1 RES.1.tasks.length,pI RES.1.next],pI RES.2]) [] [Ac RES.1.tree.nodes,Ae RES.1.tasks]

abbrev Ajo : Nat × Obj := (1032,bx [.p (.sl .nil 0 0 (fun _ => [])),pI 0,.p (.sl .nil 0 0 (fun _ => [])),pI 0])
abbrev Aem : Nat × Obj := (1032,bx [ow 100000 0,pI 0,ow 100001 0,pI 0])
theorem Acs (p0 : Aa) (p1 : Int) (RES : Aa × Int) (hm : Lo p0 p1 = some RES) : Spec Tryz.prog 82 [.p (.agg (Ab p0)),pI p1] [] (.tup [.agg [ow 0 RES.1.tree.nodes.length,pI RES.1.tree.next,ow 1 RES.1.tasks.length,pI RES.1.next],pI RES.2]) [] [Ac RES.1.tree.nodes,Ae RES.1.tasks] := by
 unfold Lo at hm
 refine SO Tryz.func82 rfl rfl [(0,.p (.agg (Ab p0))),(1,pI p1)] [] ?_
 intro cx hnt
 refine Sq (RK hnt (nn 3 []) [(1,pI p1),(2,rr 1016),(4,rr 1032)] [(1016,bx (pm (Ab p0))),(Ajo)] tv ?_)
 obtain ⟨r1,hr1,hm⟩ := bo hm
 refine Sq (Sq (RD hnt (.no :: o7 [] true r1 :: .no :: []) [] [(13,pB (!r1))] [] [] (an (Ib p0 r1 hr1) tv) ?_))
 refine Ag hm ?_ ?_
 ·intro h2 hm
  refine Sq (RD hnt (nn 3 []) [1,2,13] [(5,pI 1)] [1016] [] tv ?_)
  refine DW.cv [] [] [] [(Aem),(100000,ob0 (Ac [])),(100001,ob0 (Ae []))] (Conv.ads [(.o 1032 0,100000,6,elems Ak As []),(.o 1032 2,100001,4,elems Ao Ax [])]) ?_
  obtain rfl := sj hm
  exact DW.ret (Ai [Ac [],Ae []] [100000,100001] (.tup [.agg [ow 0 0,pI 0,ow 1 0,pI 0],pI 1]))
 ·intro h2 hm
  refine Sk ?_
  obtain ⟨r3,hr3,hm⟩ := bo hm
  refine Sq (RD hnt (nn 3 (o16 [] true r3 :: nn 6 [])) [13] [(6,rr 1048),(7,pB r3.2)] [] [(1048,bx (pm (Ak r3.1)))] (an (Cu p0.tree p1 r3 hr3) tv) ?_)
  refine Sq (Sq (RD hnt (nn 2 []) [7] [(23,pB (!r3.2))] [] [] tv ?_))
  refine Ag hm ?_ ?_
  ·intro h4 hm
   refine Sq (RD hnt (nn 3 []) [1,2,6,23] [(5,pI 4)] [1016,1048] [] tv ?_)
   refine DW.cv [] [] [] [(Aem),(100000,ob0 (Ac [])),(100001,ob0 (Ae []))] (Conv.ads [(.o 1032 0,100000,6,elems Ak As []),(.o 1032 2,100001,4,elems Ao Ax [])]) ?_
   obtain rfl := sj hm
   exact DW.ret (Ai [Ac [],Ae []] [100000,100001] (.tup [.agg [ow 0 0,pI 0,ow 1 0,pI 0],pI 4]))
  ·intro h4 hm
   refine Sk ?_
   refine Sq (Sq (DW.regJ (sl2 := [(1,pI p1),(2,rr 1016),(4,rr 1032),(6,rr 1048),(31,pB ((p1 == 1) || (r3.1.kind == 1)))]) (ob2 := [(1016,bx (pm (Ab p0))),(Ajo),(1048,bx (pm (Ak r3.1)))]) ?_ ?_))
   ·rcases bt (p1 == 1) with h5 | h5
    ·exact RT hnt (nn 3 (sk 3 (pT :: []))) [(31,pB true)] (an4 h5 tv) (by kernel_rfl) (.cons rfl (.of_eq (by rw [h5]; try rfl)) .nil)
    ·exact RT hnt (nn 6 (pF :: [])) [(31,pB (r3.1.kind == 1))] (an4 h5 tv) (by kernel_rfl) (.cons rfl (.of_eq (by rw [h5]; try rfl)) .nil)
   ·refine Ag hm ?_ ?_
    ·intro h6 hm
     refine Sq (RD hnt (nn 3 []) [1,2,6,31] [(5,pI 9)] [1016,1048] [] tv ?_)
     refine DW.cv [] [] [] [(Aem),(100000,ob0 (Ac [])),(100001,ob0 (Ae []))] (Conv.ads [(.o 1032 0,100000,6,elems Ak As []),(.o 1032 2,100001,4,elems Ao Ax [])]) ?_
     obtain rfl := sj hm
     exact DW.ret (Ai [Ac [],Ae []] [100000,100001] (.tup [.agg [ow 0 0,pI 0,ow 1 0,pI 0],pI 9]))
    ·intro h6 hm
     refine Sk ?_
     obtain ⟨r7,hr7,hm⟩ := bo hm
     refine Sq (RD hnt (nn 4 (o16 [] true r7 :: nn 6 [])) [31] [(8,rr 1064)] [] [(1064,bx (pm (Ak r7.1)))] (an (Cu p0.tree r3.1.parent r7 hr7) tv) ?_)
     obtain ⟨r8,hr8,hm⟩ := bo hm
     refine Sq (Sq ?_)
     refine Jn (ι := Bool) (fun (y1 : Bool) => Am [(1,pI p1),(2,rr 1016),(4,rr 1032),(6,rr 1048),(57,pB y1)] [(1016,bx (pm (Ab p0))),(Ajo),(1048,bx (pm (Ak r3.1)))]) (fun y1 => (Hg p0 p1 r3) y1 = some RES) ?_ ?_
     ·intro y1 hm
      unfold Hg at hm
      refine Ag hm ?_ ?_
      ·intro h11 hm
       refine Sq (RD hnt (nn 3 []) [1,2,6,57] [(5,pI 10)] [1016,1048] [] tv ?_)
       refine DW.cv [] [] [] [(Aem),(100000,ob0 (Ac [])),(100001,ob0 (Ae []))] (Conv.ads [(.o 1032 0,100000,6,elems Ak As []),(.o 1032 2,100001,4,elems Ao Ax [])]) ?_
       obtain rfl := sj hm
       exact DW.ret (Ai [Ac [],Ae []] [100000,100001] (.tup [.agg [ow 0 0,pI 0,ow 1 0,pI 0],pI 10]))
      ·intro h11 hm
       refine Sk ?_
       refine Sq (Sq (RD hnt (nn 4 []) [57] [(62,pB ((kand .i64 r3.1.control 6) != 0))] [] [] tv ?_))
       refine Ag hm ?_ ?_
       ·intro h12 hm
        refine Sq (RD hnt (nn 3 []) [1,2,6,62] [(5,pI 9)] [1016,1048] [] tv ?_)
        refine DW.cv [] [] [] [(Aem),(100000,ob0 (Ac [])),(100001,ob0 (Ae []))] (Conv.ads [(.o 1032 0,100000,6,elems Ak As []),(.o 1032 2,100001,4,elems Ao Ax [])]) ?_
        obtain rfl := sj hm
        exact DW.ret (Ai [Ac [],Ae []] [100000,100001] (.tup [.agg [ow 0 0,pI 0,ow 1 0,pI 0],pI 9]))
       ·intro h12 hm
        refine Sk ?_
        refine Sq (RD hnt (nn 2 []) [62] [] [] [(1048,bx [pI r3.1.id,pI r3.1.parent,pS r3.1.name,pI r3.1.control,pI 1,pI r3.1.owner])] tv ?_)
        obtain ⟨r13,hr13,hm⟩ := bo hm
        refine Sq (RD hnt (.no :: o28 [] true r13 :: nn 2 []) [] [(10,rr 1080)] [] [(1080,bx [ow 1528 r13.tree.nodes.length,pI r13.tree.next,ow 1529 r13.tasks.length,pI r13.next]),(1528,ob0 (Ac r13.tree.nodes)),(1529,ob0 (Ae r13.tasks))] (an (Mb p0 r13 hr13) tv) ?_)
        obtain ⟨r14,hr14,hm⟩ := bo hm
        refine Sq (RD hnt (nn 3 (o124 [] true r14 :: nn 2 [])) [6] [] [1048,1528] [(1080,bx [ow 1560 r14.nodes.length,pI r14.next,ow 1529 r13.tasks.length,pI r13.next]),(1560,ob0 (Ac r14.nodes))] (an (Acu p0.tree ({ id := r3.1.id,parent := r3.1.parent,name := r3.1.name,control := r3.1.control,kind := 1,owner := r3.1.owner } : Ah) r14 hr14) tv) ?_)
        obtain ⟨r15,hr15,hm⟩ := bo hm
        refine Sq (Sq ?_)
        refine Jn (ι := Bool) (fun (y2 : Bool) => Am [(4,rr 1032),(10,rr 1080),(81,pB y2)] [(Ajo),(1080,bx [ow 1560 r14.nodes.length,pI r14.next,ow 1529 r13.tasks.length,pI r13.next]),(1529,ob0 (Ae r13.tasks)),(1560,ob0 (Ac r14.nodes))]) (fun y2 => (Ni r13 r14) y2 = some RES) ?_ ?_
        ·intro y2 hm
         unfold Ni at hm
         refine Ag hm ?_ ?_
         ·intro h18 hm
          refine Sq (RD hnt (nn 3 []) [10,81] [(5,pI 6)] [1080,1529,1560] [] tv ?_)
          refine DW.cv [] [] [] [(Aem),(100000,ob0 (Ac [])),(100001,ob0 (Ae []))] (Conv.ads [(.o 1032 0,100000,6,elems Ak As []),(.o 1032 2,100001,4,elems Ao Ax [])]) ?_
          obtain rfl := sj hm
          exact DW.ret (Ai [Ac [],Ae []] [100000,100001] (.tup [.agg [ow 0 0,pI 0,ow 1 0,pI 0],pI 6]))
         ·intro h18 hm
          refine Sk ?_
          refine Sq (RD hnt (nn 3 []) [10,81] [(5,pI 0)] [1080] [(1032,bx [ow 1560 r14.nodes.length,pI r14.next,ow 1529 r13.tasks.length,pI r13.next])] tv ?_)
          obtain rfl := sj hm
          exact DW.ret (Ai [Ac r14.nodes,Ae r13.tasks] [1560,1529] (.tup [.agg [ow 0 r14.nodes.length,pI r14.next,ow 1 r13.tasks.length,pI r13.next],pI 0]))
        ·rcases bt (decide (((r15.length : Nat) : Int) > 0)) with h16 | h16
         ·replace hm := Ba h16 hm
          refine RD hnt (nn 2 (o19 [] true r15 :: nn 3 (sk 3 (pT :: [])))) [1,2] [(81,pB true)] [1016] [] (an (Nd p0 p1 r15 hr15) (an4 h16 tv)) ?_
          exact jD true hm Conv.eqK
         ·replace hm := Bb h16 hm
          obtain ⟨r17,hr17,hm⟩ := bo hm
          refine RD hnt (nn 2 (o19 [] true r15 :: nn 4 (o7 [] true r17 :: .no :: pF :: []))) [1,2] [(81,pB (!r17))] [1016] [] (an (Nd p0 p1 r15 hr15) (an2 h16 (an (Ib ({ tree := r14,tasks := r13.tasks,next := r13.next } : Aa) r17 hr17) (an2 h16 tv)))) ?_
          exact jD (!r17) hm Conv.eqK
     ·rcases bt (r8 == 3) with h9 | h9
      ·replace hm := Ba h9 hm
       refine RD hnt (nn 4 (o23 [] true r8 :: nn 2 (sk 9 (pT :: [])))) [8] [(57,pB true)] [1064] [] (an (Gy p0.tree r7.1.id r8 hr8) (an6 h9 tv)) ?_
       exact jD true hm Conv.eqK
      ·replace hm := Bb h9 hm
       rcases bt (r7.1.id != 1) with h10 | h10
       ·replace hm := Ba h10 hm
        refine RD hnt (nn 4 (o23 [] true r8 :: nn 10 (pT :: pF :: []))) [8] [(57,pB ((kand .i64 r7.1.control 6) != 0))] [1064] [] (an (Gy p0.tree r7.1.id r8 hr8) (an4 h9 (an4 h10 (an h9 (an h10 (an h9 tv)))))) ?_
        exact jD ((kand .i64 r7.1.control 6) != 0) hm Conv.eqK
       ·replace hm := Bb h10 hm
        refine RD hnt (nn 4 (o23 [] true r8 :: nn 6 (sk 4 (pF :: pF :: [])))) [8] [(57,pB false)] [1064] [] (an (Gy p0.tree r7.1.id r8 hr8) (an4 h9 (an4 h10 (an h9 (an h10 (an h9 tv)))))) ?_
        exact jD false hm Conv.eqK
abbrev o125 (ks : List Nat) (b : Bool) (RES : Aa × Int) : Orc := .call 82 ks b (.tup [.agg [ow 0 RES.1.tree.nodes.length,pI RES.1.tree.next,ow 1 RES.1.tasks.length,pI RES.1.next],pI RES.2]) [] [Ac RES.1.tree.nodes,Ae RES.1.tasks]

abbrev Aii : Nat × Obj := (1032,bx [.p (.sl .nil 0 0 (fun _ => [])),pI 0,.p (.sl .nil 0 0 (fun _ => [])),pI 0])
theorem AfZ (p0 : Aq) (p1 : Aa) (RES : Aa × Aq) (hm : Rd p0 p1 = some RES) : Spec Tryz.prog 34 [rr 0,.p (.agg (Ab p1))] [.box (pm (Al p0))] (.p (.agg (Ab RES.1))) [.box (pm (Al RES.2))] [] := by
 unfold Rd at hm
 refine SO Tryz.func34 rfl rfl [(0,rr 0),(1,.p (.agg (Ab p1)))] [(0,bx (pm (Al p0)))] ?_
 intro cx hnt
 refine Sq (RD hnt (nn 2 []) [1] [(3,rr 1024),(4,rr 1032)] [] [(1024,bx (pm (Ab p1))),(Aii)] tv ?_)
 obtain ⟨r1,hr1,hm⟩ := bo hm
 refine Sq (RD hnt (nn 3 (o119 [0] true r1 :: .no :: [])) [] [(5,pI r1.1)] [] [(0,bx (pm (Al r1.2)))] (an (Od p0 p1.tree r1 hr1) (an tv tv)) ?_)
 obtain ⟨r2,hr2,hm⟩ := bo hm
 refine Sq (Sq (RD hnt (.no :: Hi [0] true r2 :: []) [] [(17,pI r2.1)] [] [(0,bx (pm (Al r2.2)))] (an (Aw r1.2 5 r2 hr2) (an tv tv)) ?_))
 refine Jn (ι := Aq × Aa) (fun (y1 : Aq × Aa) => Am [(3,rr 1024),(4,rr 1032)] [(0,bx (pm (Al y1.1))),(1024,bx (pm (Ab y1.2))),(Aii)]) (fun y1 => Gu y1 = some RES) ?_ ?_
 ·intro y1 hm
  unfold Gu at hm
  refine Sq (RD hnt (nn 2 []) [3] [] [1024] [(1032,bx (pm (Ab y1.2)))] tv ?_)
  obtain rfl := sj hm
  exact DW.ret (Ai [.box (pm (Al y1.1))] [] (.p (.agg (Ab y1.2))))
 ·refine Bk ?_
  refine Sq (Sq (RD hnt (nn 2 []) [] [(18,pB (r2.1 == 0))] [] [] tv ?_))
  refine Jn (ι := Bool) (fun (y2 : Bool) => Am [(0,rr 0),(3,rr 1024),(4,rr 1032),(5,pI r1.1),(17,pI r2.1),(18,pB y2)] [(0,bx (pm (Al r2.2))),(1024,bx (pm (Ab p1))),(Aii)]) (fun y2 => (Ks p1 r1 r2) y2 = some RES) ?_ ?_
  ·intro y2 hm
   unfold Ks at hm
   refine Ag hm ?_ ?_
   ·intro h4 hm
    obtain ⟨r5,hr5,hm⟩ := bo hm
    obtain ⟨r6,hr6,hm⟩ := bo hm
    refine Sq (RD hnt (nn 3 (o120 [0] true r5 :: o121 [] true r6 :: nn 6 [])) [0,5,17,18] [(6,rr 1048),(7,pI r6.2)] [] [(0,bx (pm (Al r5.2))),(1048,bx [ow 1208 r6.1.tree.nodes.length,pI r6.1.tree.next,ow 1209 r6.1.tasks.length,pI r6.1.next]),(1208,ob0 (Ac r6.1.tree.nodes)),(1209,ob0 (Ae r6.1.tasks))] (an (Ja r2.2 r5 hr5) (an tv (an (AcU p1 r1.1 r5.1 0 r6 hr6) tv))) ?_)
    refine Sq (RD hnt (nn 2 []) [7] [(30,pB (r6.2 == 0))] [] [] tv ?_)
    refine Ag hm ?_ ?_
    ·intro h7 hm
     refine Sq (RD hnt (nn 2 []) [3,6,30] [] [1024,1048] [(1032,bx [ow 1208 r6.1.tree.nodes.length,pI r6.1.tree.next,ow 1209 r6.1.tasks.length,pI r6.1.next])] tv ?_)
     obtain rfl := sj hm
     exact DW.ret (Ai [.box (pm (Al r5.2))] [] (.p (.agg (Ab r6.1))))
    ·intro h7 hm
     refine Sk ?_
     exact bD (r5.2,p1) hm Conv.t0
   ·intro h4 hm
    refine Sq (RD hnt (nn 2 []) [18] [(32,pB (r2.1 == 2))] [] [] tv ?_)
    refine Ag hm ?_ ?_
    ·intro h8 hm
     obtain ⟨r9,hr9,hm⟩ := bo hm
     refine Sq (RD hnt (nn 2 (o125 [] true r9 :: nn 6 [])) [0,5,17,32] [(8,rr 1064),(9,pI r9.2)] [] [(1064,bx [ow 1296 r9.1.tree.nodes.length,pI r9.1.tree.next,ow 1297 r9.1.tasks.length,pI r9.1.next]),(1296,ob0 (Ac r9.1.tree.nodes)),(1297,ob0 (Ae r9.1.tasks))] (an (Acs p1 r1.1 r9 hr9) tv) ?_)
     refine Sq (RD hnt (nn 2 []) [9] [(41,pB (r9.2 == 0))] [] [] tv ?_)
     refine Ag hm ?_ ?_
     ·intro h10 hm
      refine Sq (RD hnt (nn 2 []) [3,8,41] [] [1024,1064] [(1032,bx [ow 1296 r9.1.tree.nodes.length,pI r9.1.tree.next,ow 1297 r9.1.tasks.length,pI r9.1.next])] tv ?_)
      obtain rfl := sj hm
      exact DW.ret (Ai [.box (pm (Al r2.2))] [] (.p (.agg (Ab r9.1))))
     ·intro h10 hm
      refine Sk ?_
      exact bD (r2.2,p1) hm Conv.t0
    ·intro h8 hm
     refine Sq (RD hnt (nn 2 []) [17,32] [(43,pB (r2.1 == 3))] [] [] tv ?_)
     refine Ag hm ?_ ?_
     ·intro h11 hm
      obtain ⟨r12,hr12,hm⟩ := bo hm
      refine Sq (RD hnt (nn 3 (o16 [] true r12 :: nn 6 [])) [43] [(10,rr 1080),(11,pB r12.2)] [] [(1080,bx (pm (Ak r12.1)))] (an (Cu p1.tree r1.1 r12 hr12) tv) ?_)
      refine Sq (DW.regJ (sl2 := [(0,rr 0),(3,rr 1024),(4,rr 1032),(10,rr 1080),(56,pB (r12.2 && (r1.1 != 1)))]) (ob2 := [(0,bx (pm (Al r2.2))),(1024,bx (pm (Ab p1))),(Aii),(1080,bx (pm (Ak r12.1)))]) ?_ ?_)
      ·rcases bt r12.2 with h13 | h13
       ·exact RT hnt (nn 4 (pT :: [])) [(56,pB (r1.1 != 1))] (an3 h13 tv) (by kernel_rfl) (.cons rfl (.of_eq (by rw [h13]; try rfl)) .nil)
       ·exact RT hnt (nn 2 (sk 2 (pF :: []))) [(56,pB false)] (an3 h13 tv) (by kernel_rfl) (.cons rfl (.of_eq (by rw [h13]; try rfl)) .nil)
      ·refine Ag hm ?_ ?_
       ·intro h14 hm
        obtain ⟨r15,hr15,hm⟩ := bo hm
        refine Sq (RD hnt (.no :: Hi [0] true r15 :: nn 2 []) [0,56] [] [] [(0,bx (pm (Al r15.2))),(1080,bx [pI r12.1.id,pI r12.1.parent,pS r12.1.name,pI r12.1.control,pI r12.1.kind,pI r15.1])] (an (Aw r2.2 3 r15 hr15) (an tv tv)) ?_)
        obtain ⟨r16,hr16,hm⟩ := bo hm
        refine RD hnt (nn 3 (o124 [] true r16 :: nn 2 [])) [10] [] [1080] [(1024,bx [ow 1504 r16.nodes.length,pI r16.next,.p (Dh p1.tasks),pI p1.next]),(1504,ob0 (Ac r16.nodes))] (an (Acu p1.tree ({ id := r12.1.id,parent := r12.1.parent,name := r12.1.name,control := r12.1.control,kind := r12.1.kind,owner := r15.1 } : Ah) r16 hr16) tv) ?_
        exact bD (r15.2,({ tree := r16,tasks := p1.tasks,next := p1.next } : Aa)) hm (Conv.frz [1504])
       ·intro h14 hm
        refine Sk ?_
        exact bD (r2.2,p1) hm Conv.t0
     ·intro h11 hm
      refine Sk ?_
      exact bD (r2.2,p1) hm Conv.t0
  ·refine Ag hm ?_ ?_
   ·intro h3 hm
    refine Sk ?_
    exact jD (r2.1 == 0) hm Conv.eqK
   ·intro h3 hm
    refine RD hnt (nn 2 []) [] [(18,pB (r2.1 == 1))] [] [] tv ?_
    exact jD (r2.1 == 1) hm Conv.eqK
abbrev o118 (ks : List Nat) (b : Bool) (RES : Aa × Aq) : Orc := .call 34 ks b (.p (.agg (Ab RES.1))) [.box (pm (Al RES.2))] []

theorem Yd (p0 : Aa) (p1 : Int) (RES : Int) (hm : Lb p0 p1 = some RES) : Spec Tryz.prog 35 [.p (.agg (Ab p0)),pI p1] [] (pI RES) [] [] := by
 unfold Lb at hm
 refine SO Tryz.func35 rfl rfl [(0,.p (.agg (Ab p0))),(1,pI p1)] [] ?_
 intro cx hnt
 refine Sq (RK hnt (nn 2 []) [(1,pI p1),(2,rr 1016)] [(1016,bx (pm (Ab p0)))] tv ?_)
 obtain ⟨r1,hr1,hm⟩ := bo hm
 refine Sq (Sq (RD hnt (.no :: o7 [] true r1 :: .no :: []) [] [(9,pB (!r1))] [] [] (an (Ib p0 r1 hr1) tv) ?_))
 refine Ag hm ?_ ?_
 ·intro h2 hm
  refine Sq (RK hnt (.no :: []) [(4,pI 1)] [] tv ?_)
  obtain rfl := sj hm
  exact DW.ret (Ai [] [] (pI 1))
 ·intro h2 hm
  refine Sk ?_
  obtain ⟨r3,hr3,hm⟩ := bo hm
  refine Sq (RD hnt (nn 3 (o16 [] true r3 :: nn 6 [])) [9] [(5,rr 1040),(6,pB r3.2)] [] [(1040,bx (pm (Ak r3.1)))] (an (Cu p0.tree p1 r3 hr3) tv) ?_)
  refine Sq (Bk ?_)
  refine Sq (RD hnt (nn 3 []) [6] [(17,pB (!r3.2))] [] [] tv ?_)
  refine Ag hm ?_ ?_
  ·intro h4 hm
   refine Sq (RK hnt (.no :: []) [(4,pI 4)] [] tv ?_)
   obtain rfl := sj hm
   exact DW.ret (Ai [] [] (pI 4))
  ·intro h4 hm
   obtain ⟨r5,hr5,hm⟩ := bo hm
   refine Sq (RD hnt (nn 3 (o23 [] true r5 :: nn 2 [])) [2,17] [(20,pB (r5 == 3))] [1016] [] (an (Gy p0.tree p1 r5 hr5) tv) ?_)
   refine Ag hm ?_ ?_
   ·intro h6 hm
    refine Sq (RK hnt (.no :: []) [(4,pI 10)] [] tv ?_)
    obtain rfl := sj hm
    exact DW.ret (Ai [] [] (pI 10))
   ·intro h6 hm
    refine Sq (DW.regJ (sl2 := [(26,pB ((p1 != 1) && ((kand .i64 r3.1.control 6) != 0)))]) (ob2 := []) ?_ ?_)
    ·rcases bt (p1 != 1) with h7 | h7
     ·exact RT hnt (nn 7 (pT :: .no :: [])) [(26,pB ((kand .i64 r3.1.control 6) != 0))] (an5 h7 tv) (by kernel_rfl) (.cons rfl (.of_eq (by rw [h7]; try rfl)) .nil)
     ·exact RT hnt (nn 3 (sk 4 (pF :: .no :: []))) [(26,pB false)] (an5 h7 tv) (by kernel_rfl) (.cons rfl (.of_eq (by rw [h7]; try rfl)) .nil)
    ·refine Ag hm ?_ ?_
     ·intro h8 hm
      refine Sq (RK hnt (.no :: []) [(4,pI 6)] [] tv ?_)
      obtain rfl := sj hm
      exact DW.ret (Ai [] [] (pI 6))
     ·intro h8 hm
      refine Sk ?_
      refine DW.done ?_
      show DW _ _ _ _ _
      refine Sq (RK hnt (.no :: []) [(4,pI 0)] [] tv ?_)
      obtain rfl := sj hm
      exact DW.ret (Ai [] [] (pI 0))
abbrev o126 (ks : List Nat) (b : Bool) (RES : Int) : Orc := .call 35 ks b (pI RES) [] []

theorem Pf (p0 : Aq) (p1 : Aa) (RES : Int × Aq) (hm : Is p0 p1 = some RES) : Spec Tryz.prog 14 [rr 0,.p (.agg (Ab p1))] [.box (pm (Al p0))] (pI RES.1) [.box (pm (Al RES.2))] [] := by
 unfold Is at hm
 refine SO Tryz.func14 rfl rfl [(0,rr 0),(1,.p (.agg (Ab p1)))] [(0,bx (pm (Al p0)))] ?_
 intro cx hnt
 refine Sq (RD hnt (nn 2 []) [1] [(3,rr 1024)] [] [(1024,bx (pm (Ab p1)))] tv ?_)
 obtain ⟨r1,hr1,hm⟩ := bo hm
 refine Sq (Sq ?_)
 refine Jn (ι := Bool) (fun (y1 : Bool) => Am [(0,rr 0),(3,rr 1024),(12,pB y1)] [(0,bx (pm (Al r1.2))),(1024,bx (pm (Ab p1)))]) (fun y1 => (Kv p1 r1) y1 = some RES) ?_ ?_
 ·intro y1 hm
  unfold Kv at hm
  refine Ag hm ?_ ?_
  ·intro h3 hm
   obtain ⟨r4,hr4,hm⟩ := bo hm
   refine Sq (RK hnt (.no :: Hi [0] true r4 :: nn 2 []) [(4,pI (w64 (r4.1 - 1)))] [(0,bx (pm (Al r4.2)))] (an (Aw r1.2 9 r4 hr4) (an tv tv)) ?_)
   obtain rfl := sj hm
   exact DW.ret (Ai [.box (pm (Al r4.2))] [] (pI (w64 (r4.1 - 1))))
  ·intro h3 hm
   refine Sk ?_
   obtain ⟨r5,hr5,hm⟩ := bo hm
   obtain ⟨g6,hm⟩ := go1 hm
   refine Sq (RK hnt (nn 6 (Hi [0] true r5 :: nn 4 [])) [(4,pI (p1.tasks.getD (Int.toNat r5.1) Ax).id)] [(0,bx (pm (Al r5.2)))] (an (Aw r1.2 ((p1.tasks.length : Nat) : Int) r5 hr5) (an tv (an g6.1 (an g6.2 tv)))) ?_)
   obtain rfl := sj hm
   exact DW.ret (Ai [.box (pm (Al r5.2))] [] (pI (p1.tasks.getD (Int.toNat r5.1) Ax).id))
 ·rcases bt r1.1 with h2 | h2
  ·replace hm := Ba h2 hm
   refine RD hnt (.no :: o116 [0] true r1 :: .no :: sk 4 (pT :: [])) [] [(12,pB true)] [] [(0,bx (pm (Al r1.2)))] (an (El p0 15 r1 hr1) (an tv (an5 h2 tv))) ?_
   exact jD true hm Conv.eqK
  ·replace hm := Bb h2 hm
   refine RD hnt (.no :: o116 [0] true r1 :: nn 5 (pF :: [])) [] [(12,pB (((p1.tasks.length : Nat) : Int) == 0))] [] [(0,bx (pm (Al r1.2)))] (an (El p0 15 r1 hr1) (an tv (an5 h2 tv))) ?_
   exact jD (((p1.tasks.length : Nat) : Int) == 0) hm Conv.eqK
abbrev o127 (ks : List Nat) (b : Bool) (RES : Int × Aq) : Orc := .call 14 ks b (pI RES.1) [.box (pm (Al RES.2))] []

theorem AjE (p0 : Aa) (p1 : Int) (RES : Aa × Int × Int) (hm : Ya p0 p1 = some RES) : Spec Tryz.prog 37 [.p (.agg (Ab p0)),pI p1] [] (.tup [.agg [ow 0 RES.1.tree.nodes.length,pI RES.1.tree.next,ow 1 RES.1.tasks.length,pI RES.1.next],pI RES.2.1,pI RES.2.2]) [] [Ac RES.1.tree.nodes,Ae RES.1.tasks] := by
 unfold Ya at hm
 refine SO Tryz.func37 rfl rfl [(0,.p (.agg (Ab p0))),(1,pI p1)] [] ?_
 intro cx hnt
 refine Sq (RK hnt (nn 4 []) [(1,pI p1),(2,rr 1016),(4,rr 1032)] [(1016,bx (pm (Ab p0))),(1032,bx [.p (.sl .nil 0 0 (fun _ => [])),pI 0,.p (.sl .nil 0 0 (fun _ => [])),pI 0])] tv ?_)
 obtain ⟨r1,hr1,hm⟩ := bo hm
 refine Sq (Sq (RD hnt (.no :: o9 [] true r1 :: .no :: []) [] [(11,pB (!r1))] [] [] (an (Fc p0 r1 hr1) tv) ?_))
 refine Ag hm ?_ ?_
 ·intro h2 hm
  refine Sq (RD hnt (nn 4 []) [1,2,11] [(5,pI 0),(6,pI 1)] [1016] [] tv ?_)
  refine DW.cv [] [] [] [(1032,bx [ow 100000 0,pI 0,ow 100001 0,pI 0]),(100000,ob0 (Ac [])),(100001,ob0 (Ae []))] (Conv.ads [(.o 1032 0,100000,6,elems Ak As []),(.o 1032 2,100001,4,elems Ao Ax [])]) ?_
  obtain rfl := sj hm
  exact DW.ret (Ai [Ac [],Ae []] [100000,100001] (.tup [.agg [ow 0 0,pI 0,ow 1 0,pI 0],pI 0,pI 1]))
 ·intro h2 hm
  refine Sk ?_
  obtain ⟨r3,hr3,hm⟩ := bo hm
  refine Sq (RD hnt (nn 2 (o20 [] true r3 :: nn 6 [])) [1,11] [(7,rr 1056),(8,pB r3.2)] [] [(1056,bx (pm (Ao r3.1)))] (an (Ih p0 p1 r3 hr3) tv) ?_)
  refine Sq (Sq (RD hnt (nn 2 []) [8] [(20,pB (!r3.2))] [] [] tv ?_))
  refine Ag hm ?_ ?_
  ·intro h4 hm
   refine Sq (RD hnt (nn 4 []) [2,7,20] [(5,pI 0),(6,pI 4)] [1016,1056] [] tv ?_)
   refine DW.cv [] [] [] [(1032,bx [ow 100000 0,pI 0,ow 100001 0,pI 0]),(100000,ob0 (Ac [])),(100001,ob0 (Ae []))] (Conv.ads [(.o 1032 0,100000,6,elems Ak As []),(.o 1032 2,100001,4,elems Ao Ax [])]) ?_
   obtain rfl := sj hm
   exact DW.ret (Ai [Ac [],Ae []] [100000,100001] (.tup [.agg [ow 0 0,pI 0,ow 1 0,pI 0],pI 0,pI 4]))
  ·intro h4 hm
   refine Sk ?_
   obtain ⟨r5,hr5,hm⟩ := bo hm
   refine Sq (RK hnt (nn 2 (o98 [] true r5 :: nn 6 [])) [(4,rr 1032),(5,pI r5.2.1),(6,pI r5.2.2)] [(1032,bx [ow 1192 r5.1.tree.nodes.length,pI r5.1.tree.next,ow 1193 r5.1.tasks.length,pI r5.1.next]),(1192,ob0 (Ac r5.1.tree.nodes)),(1193,ob0 (Ae r5.1.tasks))] (an (AfK p0 r3.1 r5 hr5) tv) ?_)
   obtain rfl := sj hm
   exact DW.ret (Ai [Ac r5.1.tree.nodes,Ae r5.1.tasks] [1192,1193] (.tup [.agg [ow 0 r5.1.tree.nodes.length,pI r5.1.tree.next,ow 1 r5.1.tasks.length,pI r5.1.next],pI r5.2.1,pI r5.2.2]))
abbrev o128 (ks : List Nat) (b : Bool) (RES : Aa × Int × Int) : Orc := .call 37 ks b (.tup [.agg [ow 0 RES.1.tree.nodes.length,pI RES.1.tree.next,ow 1 RES.1.tasks.length,pI RES.1.next],pI RES.2.1,pI RES.2.2]) [] [Ac RES.1.tree.nodes,Ae RES.1.tasks]

abbrev Agr (s1 : (List An) × Int) (p2 : Int) := ({ id := (s1.1.getD (Int.toNat s1.2) Ax).id,process := (s1.1.getD (Int.toNat s1.2) Ax).process,group := p2,user := (s1.1.getD (Int.toNat s1.2) Ax).user } : An)
abbrev Afx : Nat × Obj := (1048,bx [.p (.sl .nil 0 0 (fun _ => [])),pI 0,.p (.sl .nil 0 0 (fun _ => [])),pI 0])
abbrev c130e3 (s1 : (List An) × Int) (p2 : Int) := (Bs (Kj s1.1) (Int.toNat s1.2) [vi (s1.1.getD (Int.toNat s1.2) Ax).id,vi (s1.1.getD (Int.toNat s1.2) Ax).process,vi p2,vi (s1.1.getD (Int.toNat s1.2) Ax).user])
theorem AdY (p0 : Aa) (p1 : Int) (p2 : Int) (RES : Aa × Int) (hm : Vl p0 p1 p2 = some RES) : Spec Tryz.prog 84 [.p (.agg (Ab p0)),pI p1,pI p2] [] (.tup [.agg [ow 0 RES.1.tree.nodes.length,pI RES.1.tree.next,ow 1 RES.1.tasks.length,pI RES.1.next],pI RES.2]) [] [Ac RES.1.tree.nodes,Ae RES.1.tasks] := by
 unfold Vl at hm
 refine SO Tryz.func84 rfl rfl [(0,.p (.agg (Ab p0))),(1,pI p1),(2,pI p2)] [] ?_
 intro cx hnt
 refine Sq (RD hnt (nn 3 []) [0] [(3,rr 1024),(6,rr 1048)] [] [(1024,bx (pm (Ab p0))),(Afx)] tv ?_)
 obtain ⟨r1,hr1,hm⟩ := bo hm
 refine Sq (Sq (RD hnt (.no :: o9 [] true r1 :: .no :: []) [] [(14,pB (!r1))] [] [] (an (Fc p0 r1 hr1) tv) ?_))
 refine Ag hm ?_ ?_
 ·intro h2 hm
  refine Sq (RD hnt (nn 3 []) [1,2,3,14] [(7,pI 1)] [1024] [] tv ?_)
  refine DW.cv [] [] [] [(1048,bx [ow 100000 0,pI 0,ow 100001 0,pI 0]),(100000,ob0 (Ac [])),(100001,ob0 (Ae []))] (Conv.ads [(.o 1048 0,100000,6,elems Ak As []),(.o 1048 2,100001,4,elems Ao Ax [])]) ?_
  obtain rfl := sj hm
  exact DW.ret (Ai [Ac [],Ae []] [100000,100001] (.tup [.agg [ow 0 0,pI 0,ow 1 0,pI 0],pI 1]))
 ·intro h2 hm
  refine Sk ?_
  obtain ⟨r3,hr3,hm⟩ := bo hm
  refine Sq (Sq (RD hnt (nn 2 (o20 [] true r3 :: nn 6 [])) [14] [(9,pB r3.2)] [] [] (an (Ih p0 p1 r3 hr3) tv) ?_))
  refine Sq ?_
  refine Jn (ι := Bool) (fun (y1 : Bool) => Am [(1,pI p1),(2,pI p2),(3,rr 1024),(6,rr 1048),(30,pB y1)] [(1024,bx (pm (Ab p0))),(Afx)]) (fun y1 => (Um p0 p1 p2) y1 = some RES) ?_ ?_
  ·intro y1 hm
   unfold Um at hm
   refine Ag hm ?_ ?_
   ·intro h6 hm
    refine Sq (RD hnt (nn 3 []) [1,2,3,30] [(7,pI 4)] [1024] [] tv ?_)
    refine DW.cv [] [] [] [(1048,bx [ow 100000 0,pI 0,ow 100001 0,pI 0]),(100000,ob0 (Ac [])),(100001,ob0 (Ae []))] (Conv.ads [(.o 1048 0,100000,6,elems Ak As []),(.o 1048 2,100001,4,elems Ao Ax [])]) ?_
    obtain rfl := sj hm
    exact DW.ret (Ai [Ac [],Ae []] [100000,100001] (.tup [.agg [ow 0 0,pI 0,ow 1 0,pI 0],pI 4]))
   ·intro h6 hm
    refine Sk ?_
    obtain ⟨r7,hr7,hm⟩ := bo hm
    refine Sq (RD hnt (.no :: o28 [] true r7 :: nn 2 []) [3,30] [(10,rr 1080)] [1024] [(1080,bx [ow 1264 r7.tree.nodes.length,pI r7.tree.next,ow 1265 r7.tasks.length,pI r7.next]),(1264,ob0 (Ac r7.tree.nodes)),(1265,ob0 (Ae r7.tasks))] (an (Mb p0 r7 hr7) tv) ?_)
    refine Sq (Sq (RD hnt (.no :: []) [] [(11,pI 0)] [] [] tv ?_))
    refine Bk ?_
    refine DW.whileO (fun (s1 : (List An) × Int) => Am [(1,pI p1),(2,pI p2),(6,rr 1048),(10,rr 1080),(11,pI s1.2)] [(Afx),(1080,bx [ow 1264 r7.tree.nodes.length,pI r7.tree.next,ow 1265 s1.1.length,pI r7.next]),(1264,ob0 (Ac r7.tree.nodes)),(1265,ob0 (Ae s1.1))]) hm Conv.eqK ?_
    intro s1 n1 hm
    unfold Ue at hm
    refine Sq (Sq (RD hnt (nn 5 []) [] [(38,pB (decide (s1.2 < ((s1.1.length : Nat) : Int))))] [] [] tv ?_))
    refine Ag hm ?_ ?_
    ·intro h14 hm
     refine Sk ?_
     refine Sq ?_
     refine Jn (ι := List An) (fun (y3 : List An) => Am [(1,pI p1),(2,pI p2),(6,rr 1048),(10,rr 1080),(11,pI s1.2)] [(Afx),(1080,bx [ow 1264 r7.tree.nodes.length,pI r7.tree.next,ow 1265 y3.length,pI r7.next]),(1264,ob0 (Ac r7.tree.nodes)),(1265,ob0 (Ae y3))]) (fun y3 => (Ui s1 n1) y3 = some RES) ?_ ?_
     ·intro y3 hm
      unfold Ui at hm
      refine RD hnt (nn 3 []) [] [(11,pI (w64 (s1.2 + 1)))] [] [] tv ?_
      exact jD (y3,(w64 (s1.2 + 1))) hm Conv.eqK
     ·refine Bk ?_
      obtain ⟨g15,g16,hm⟩ := go2 hm
      refine Sq (RD hnt (nn 8 []) [38] [(48,pB ((s1.1.getD (Int.toNat s1.2) Ax).id == p1))] [] [] (an g15.1 (an g15.2 (an g16 tv))) ?_)
      refine Ag hm ?_ ?_
      ·intro h17 hm
       obtain ⟨g18,g19,hm⟩ := go2 hm
       refine RN hnt (nn 7 []) [(1,pI p1),(2,pI p2),(6,rr 1048),(10,rr 1080),(11,pI s1.2)] [(Afx),(1080,bx [ow 1264 r7.tree.nodes.length,pI r7.tree.next,ow 1265 (s1.1.set (Int.toNat s1.2) (Agr s1 p2)).length,pI r7.next]),(1264,ob0 (Ac r7.tree.nodes)),(1265,ob0 (Ae (s1.1.set (Int.toNat s1.2) (Agr s1 p2))))] [] [(1080,.box [ow 1264 r7.tree.nodes.length,pI r7.tree.next,ow 1265 s1.1.length,pI r7.next]),(1265,.row 4 s1.1.length (c130e3 s1 p2))] (an g18.1 (an g18.2 (an g19 tv))) (by kernel_rfl) .nil (.cons rfl (.box (.cons .rfl (.cons .rfl (.cons (MLe.ownLen (enc := Ao) (d := Ax) (f := (c130e3 s1 p2)) (RowIs.upd RowIs.elems (Agr s1 p2) rfl)) (.cons .rfl .nil))))) (.cons rfl (BLe.typed (RowIs.upd RowIs.elems (Agr s1 p2) rfl)) .nil)) ?_
       exact bD (s1.1.set (Int.toNat s1.2) (Agr s1 p2)) hm .refl
      ·intro h17 hm
       refine Sk ?_
       exact bD s1.1 hm Conv.t0
    ·intro h14 hm
     refine DW.exit ?_
     refine Ar ?_
     refine Au ?_
     refine Ap ?_
     show DW _ _ _ _ _
     refine Sq (RD hnt (nn 3 []) [1,2,10,11,38] [(7,pI 0)] [1080] [(1048,bx [ow 1264 r7.tree.nodes.length,pI r7.tree.next,ow 1265 s1.1.length,pI r7.next])] tv ?_)
     obtain rfl := sj hm
     exact DW.ret (Ai [Ac r7.tree.nodes,Ae s1.1] [1264,1265] (.tup [.agg [ow 0 r7.tree.nodes.length,pI r7.tree.next,ow 1 s1.1.length,pI r7.next],pI 0]))
  ·rcases bt (!r3.2) with h4 | h4
   ·replace hm := Ba h4 hm
    refine RD hnt (nn 3 (sk 5 (pT :: []))) [9] [(30,pB true)] [] [] (an6 h4 tv) ?_
    exact jD true hm Conv.eqK
   ·replace hm := Bb h4 hm
    obtain ⟨r5,hr5,hm⟩ := bo hm
    refine RD hnt (nn 6 (o15 [] true r5 :: .no :: pF :: [])) [9] [(30,pB (!r5))] [] [] (an4 h4 (an (Cf p0.tree p2 r5 hr5) (an2 h4 tv))) ?_
    exact jD (!r5) hm Conv.eqK
abbrev o130 (ks : List Nat) (b : Bool) (RES : Aa × Int) : Orc := .call 84 ks b (.tup [.agg [ow 0 RES.1.tree.nodes.length,pI RES.1.tree.next,ow 1 RES.1.tasks.length,pI RES.1.next],pI RES.2]) [] [Ac RES.1.tree.nodes,Ae RES.1.tasks]

abbrev AiD : Nat × Obj := (1048,bx [ow 100000 0,pI 0,ow 100001 0,pI 0])
abbrev c129e2 : Nat × Obj := (1048,bx [.p (.sl .nil 0 0 (fun _ => [])),pI 0,.p (.sl .nil 0 0 (fun _ => [])),pI 0])
theorem Xo (p0 : Aa) (p1 : Int) (p2 : Int) (RES : Aa × Int) (hm : Gf p0 p1 p2 = some RES) : Spec Tryz.prog 38 [.p (.agg (Ab p0)),pI p1,pI p2] [] (.tup [.agg [ow 0 RES.1.tree.nodes.length,pI RES.1.tree.next,ow 1 RES.1.tasks.length,pI RES.1.next],pI RES.2]) [] [Ac RES.1.tree.nodes,Ae RES.1.tasks] := by
 unfold Gf at hm
 refine SO Tryz.func38 rfl rfl [(0,.p (.agg (Ab p0))),(1,pI p1),(2,pI p2)] [] ?_
 intro cx hnt
 refine Sq (RD hnt (nn 3 []) [0] [(3,rr 1024),(6,rr 1048)] [] [(1024,bx (pm (Ab p0))),(c129e2)] tv ?_)
 obtain ⟨r1,hr1,hm⟩ := bo hm
 refine Sq (Sq (RD hnt (.no :: o7 [] true r1 :: .no :: []) [] [(17,pB (!r1))] [] [] (an (Ib p0 r1 hr1) tv) ?_))
 refine Ag hm ?_ ?_
 ·intro h2 hm
  refine Sq (RD hnt (nn 3 []) [1,2,3,17] [(7,pI 1)] [1024] [] tv ?_)
  refine DW.cv [] [] [] [(AiD),(100000,ob0 (Ac [])),(100001,ob0 (Ae []))] (Conv.ads [(.o 1048 0,100000,6,elems Ak As []),(.o 1048 2,100001,4,elems Ao Ax [])]) ?_
  obtain rfl := sj hm
  exact DW.ret (Ai [Ac [],Ae []] [100000,100001] (.tup [.agg [ow 0 0,pI 0,ow 1 0,pI 0],pI 1]))
 ·intro h2 hm
  refine Sk ?_
  obtain ⟨r3,hr3,hm⟩ := bo hm
  refine Sq (RD hnt (nn 2 (o20 [] true r3 :: nn 6 [])) [17] [(8,rr 1064),(9,pB r3.2)] [] [(1064,bx (pm (Ao r3.1)))] (an (Ih p0 p1 r3 hr3) tv) ?_)
  refine Sq (Sq ?_)
  refine Jn (ι := Bool) (fun (y1 : Bool) => Am [(1,pI p1),(2,pI p2),(3,rr 1024),(6,rr 1048),(8,rr 1064),(33,pB y1)] [(1024,bx (pm (Ab p0))),(c129e2),(1064,bx (pm (Ao r3.1)))]) (fun y1 => (Gi p0 p1 p2 r3) y1 = some RES) ?_ ?_
  ·intro y1 hm
   unfold Gi at hm
   refine Ag hm ?_ ?_
   ·intro h6 hm
    refine Sq (RD hnt (nn 3 []) [1,2,3,8,33] [(7,pI 4)] [1024,1064] [] tv ?_)
    refine DW.cv [] [] [] [(AiD),(100000,ob0 (Ac [])),(100001,ob0 (Ae []))] (Conv.ads [(.o 1048 0,100000,6,elems Ak As []),(.o 1048 2,100001,4,elems Ao Ax [])]) ?_
    obtain rfl := sj hm
    exact DW.ret (Ai [Ac [],Ae []] [100000,100001] (.tup [.agg [ow 0 0,pI 0,ow 1 0,pI 0],pI 4]))
   ·intro h6 hm
    refine Sk ?_
    obtain ⟨r7,hr7,hm⟩ := bo hm
    refine Sq (Sq (RD hnt (nn 2 (o126 [] true r7 :: .no :: [])) [33] [(10,pI r7)] [] [] (an (Yd p0 p2 r7 hr7) tv) ?_))
    refine Sq (RD hnt (nn 2 []) [] [(39,pB (r7 != 0))] [] [] tv ?_)
    refine Ag hm ?_ ?_
    ·intro h8 hm
     refine Sq (RD hnt (nn 4 []) [1,2,3,8,10,39] [(7,pI r7)] [1024,1064] [] tv ?_)
     refine DW.cv [] [] [] [(AiD),(100000,ob0 (Ac [])),(100001,ob0 (Ae []))] (Conv.ads [(.o 1048 0,100000,6,elems Ak As []),(.o 1048 2,100001,4,elems Ao Ax [])]) ?_
     obtain rfl := sj hm
     exact DW.ret (Ai [Ac [],Ae []] [100000,100001] (.tup [.agg [ow 0 0,pI 0,ow 1 0,pI 0],pI r7]))
    ·intro h8 hm
     refine Sk ?_
     obtain ⟨r9,hr9,hm⟩ := bo hm
     refine Sq (RD hnt (nn 3 (o21 [] true r9 :: nn 5 [])) [10,39] [(11,pI r9.1)] [] [] (an (To p0.tree p2 r9 hr9) tv) ?_)
     obtain ⟨r10,hr10,hm⟩ := bo hm
     refine Sq (Sq (RD hnt (nn 4 (o21 [] true r10 :: nn 5 [])) [8] [(13,pI r10.1)] [1064] [] (an (To p0.tree r3.1.group r10 hr10) tv) ?_))
     refine Sq (RD hnt (nn 3 []) [11,13] [(59,pB (r9.1 != r10.1))] [] [] tv ?_)
     refine Ag hm ?_ ?_
     ·intro h11 hm
      refine Sq (RD hnt (nn 3 []) [1,2,3,59] [(7,pI 9)] [1024] [] tv ?_)
      refine DW.cv [] [] [] [(AiD),(100000,ob0 (Ac [])),(100001,ob0 (Ae []))] (Conv.ads [(.o 1048 0,100000,6,elems Ak As []),(.o 1048 2,100001,4,elems Ao Ax [])]) ?_
      obtain rfl := sj hm
      exact DW.ret (Ai [Ac [],Ae []] [100000,100001] (.tup [.agg [ow 0 0,pI 0,ow 1 0,pI 0],pI 9]))
     ·intro h11 hm
      refine Sk ?_
      obtain ⟨r12,hr12,hm⟩ := bo hm
      refine Sq (RK hnt (nn 3 (o130 [] true r12 :: nn 4 [])) [(6,rr 1048),(7,pI r12.2)] [(1048,bx [ow 1512 r12.1.tree.nodes.length,pI r12.1.tree.next,ow 1513 r12.1.tasks.length,pI r12.1.next]),(1512,ob0 (Ac r12.1.tree.nodes)),(1513,ob0 (Ae r12.1.tasks))] (an (AdY p0 p1 p2 r12 hr12) tv) ?_)
      obtain rfl := sj hm
      exact DW.ret (Ai [Ac r12.1.tree.nodes,Ae r12.1.tasks] [1512,1513] (.tup [.agg [ow 0 r12.1.tree.nodes.length,pI r12.1.tree.next,ow 1 r12.1.tasks.length,pI r12.1.next],pI r12.2]))
  ·rcases bt (!r3.2) with h4 | h4
   ·replace hm := Ba h4 hm
    refine RD hnt (nn 3 (sk 5 (pT :: []))) [9] [(33,pB true)] [] [] (an6 h4 tv) ?_
    exact jD true hm Conv.eqK
   ·replace hm := Bb h4 hm
    obtain ⟨r5,hr5,hm⟩ := bo hm
    refine RD hnt (nn 6 (o15 [] true r5 :: .no :: pF :: [])) [9] [(33,pB (!r5))] [] [] (an4 h4 (an (Cf p0.tree p2 r5 hr5) (an2 h4 tv))) ?_
    exact jD (!r5) hm Conv.eqK
abbrev o129 (ks : List Nat) (b : Bool) (RES : Aa × Int) : Orc := .call 38 ks b (.tup [.agg [ow 0 RES.1.tree.nodes.length,pI RES.1.tree.next,ow 1 RES.1.tasks.length,pI RES.1.next],pI RES.2]) [] [Ac RES.1.tree.nodes,Ae RES.1.tasks]
end Go.Dm


/- Go functions compute their models, printed by a program. -/
namespace Go.Dm
open Go.Proofs
set_option linter.unusedVariables false
abbrev Fd (p0 : Aa) (k1 : Nat) := (p0.tasks.getD k1 (default : An))
abbrev Agu : Nat × Obj := (1032,bx [.p (.sl .nil 0 0 (fun _ => [])),pI 0,.p (.sl .nil 0 0 (fun _ => [])),pI 0])
abbrev AfY (p0 : Aa) : Nat × Obj := (1016,bx (pm (Ab p0)))
theorem Akx (p0 : Aa) (p1 : Int) (RES : Aa × Int) (hm : Aaz p0 p1 = some RES) : Spec Tryz.prog 39 [.p (.agg (Ab p0)),pI p1] [] (.tup [.agg [ow 0 RES.1.tree.nodes.length,pI RES.1.tree.next,ow 1 RES.1.tasks.length,pI RES.1.next],pI RES.2]) [] [Ac RES.1.tree.nodes,Ae RES.1.tasks] := by
 unfold Aaz at hm
 refine SO Tryz.func39 rfl rfl [(0,.p (.agg (Ab p0))),(1,pI p1)] [] ?_
 intro cx hnt
 refine Sq (RK hnt (nn 3 []) [(1,pI p1),(2,rr 1016),(4,rr 1032)] [(AfY p0),(Agu)] tv ?_)
 obtain ⟨r1,hr1,hm⟩ := bo hm
 refine Sq (Sq (RD hnt (.no :: o9 [] true r1 :: .no :: []) [] [(13,pB (!r1))] [] [] (an (Fc p0 r1 hr1) tv) ?_))
 refine Ag hm ?_ ?_
 ·intro h2 hm
  refine Sq (RD hnt (nn 3 []) [1,2,13] [(5,pI 1)] [1016] [] tv ?_)
  refine DW.cv [] [] [] [(1032,bx [ow 100000 0,pI 0,ow 100001 0,pI 0]),(100000,ob0 (Ac [])),(100001,ob0 (Ae []))] (Conv.ads [(.o 1032 0,100000,6,elems Ak As []),(.o 1032 2,100001,4,elems Ao Ax [])]) ?_
  obtain rfl := sj hm
  exact DW.ret (Ai [Ac [],Ae []] [100000,100001] (.tup [.agg [ow 0 0,pI 0,ow 1 0,pI 0],pI 1]))
 ·intro h2 hm
  refine Sk ?_
  obtain ⟨r3,hr3,hm⟩ := bo hm
  refine Sq (Sq (RD hnt (nn 2 (o20 [] true r3 :: nn 6 [])) [13] [(7,pB r3.2)] [] [] (an (Ih p0 p1 r3 hr3) tv) ?_))
  refine Sq (RD hnt (nn 2 []) [7] [(22,pB (!r3.2))] [] [] tv ?_)
  refine Ag hm ?_ ?_
  ·intro h4 hm
   refine Sq (RD hnt (nn 3 []) [1,2,22] [(5,pI 4)] [1016] [] tv ?_)
   refine DW.cv [] [] [] [(1032,bx [ow 100000 0,pI 0,ow 100001 0,pI 0]),(100000,ob0 (Ac [])),(100001,ob0 (Ae []))] (Conv.ads [(.o 1032 0,100000,6,elems Ak As []),(.o 1032 2,100001,4,elems Ao Ax [])]) ?_
   obtain rfl := sj hm
   exact DW.ret (Ai [Ac [],Ae []] [100000,100001] (.tup [.agg [ow 0 0,pI 0,ow 1 0,pI 0],pI 4]))
  ·intro h4 hm
   refine Sk ?_
   obtain ⟨r5,hr5,hm⟩ := bo hm
   refine Sq (RD hnt (nn 2 (o27 [] true r5 :: nn 5 [])) [22] [(8,rr 1064)] [] [(1064,bx [ow 1208 r5.nodes.length,pI r5.next,.p (.sl .nil 0 0 (fun _ => [])),pI p0.next]),(1208,ob0 (Ac r5.nodes))] (an (Xe p0.tree r5 hr5) tv) ?_)
   refine Sq (Sq (RD hnt (.no :: []) [] [(9,pI 0)] [] [] tv ?_))
   refine Bk ?_
   obtain ⟨hc1,hm⟩ := go1 hm
   refine DW.rangeO (fun (k1 : Nat) (s1 : List An) => Am [(1,pI p1),(2,rr 1016),(4,rr 1032),(8,rr 1064),(9,pI ((k1 : Nat) : Int))] [(AfY p0),(Agu),(1064,bx [ow 1208 r5.nodes.length,pI r5.next,ow 1448 s1.length,pI p0.next]),(1208,ob0 (Ac r5.nodes)),(1448,ob0 (Ae s1))]) Ax hm (Conv.ads [(.o 1064 2,1448,4,elems Ao Ax [])]) ?_
   intro k1 s1 n1 hk1 hs1 he1
   refine Sq (Sq (RD hnt (nn 5 []) [] [(34,pB (decide (((k1 : Nat) : Int) < ((p0.tasks.length : Nat) : Int))))] [] [] tv ?_))
   refine Bx (decide (((k1 : Nat) : Int) < ((p0.tasks.length : Nat) : Int))) ?_ ?_
   ·intro h15
    have hlt1 : k1 < p0.tasks.length := by have := of_decide_eq_true h15; omega
    have hm := hs1 hlt1
    unfold Aaj at hm
    refine Sk ?_
    refine Sq ?_
    refine Jn (ι := List An) (fun (y3 : List An) => Am [(1,pI p1),(2,rr 1016),(4,rr 1032),(8,rr 1064),(9,pI ((k1 : Nat) : Int))] [(AfY p0),(Agu),(1064,bx [ow 1208 r5.nodes.length,pI r5.next,ow 1448 y3.length,pI p0.next]),(1208,ob0 (Ac r5.nodes)),(1448,ob0 (Ae y3))]) (fun y3 => (Wn n1) y3 = some RES) ?_ ?_
    ·intro y3 hm
     unfold Wn at hm
     refine RD hnt (nn 3 []) [] [(9,pI (w64 (((k1 : Nat) : Int) + 1)))] [] [] tv ?_
     exact jD y3 ⟨hlt1,hm⟩ (Conv.tp [(9,pI (w64 (((k1 : Nat) : Int) + 1)))] [] (by kernel_rfl) (.cons rfl (.of_eq (congrArg pI (Bl hlt1 hc1))) .nil) .nil)
    ·refine Bk ?_
     refine Sq (RD hnt (nn 7 []) [34] [(10,rr 1080)] [] [(1080,bx (pm (Ao (Fd p0 k1))))] (an (nn0 k1) (an (ltc hlt1) tv)) ?_)
     refine Sq (DW.regJ (sl2 := [(1,pI p1),(2,rr 1016),(4,rr 1032),(8,rr 1064),(9,pI ((k1 : Nat) : Int)),(10,rr 1080),(51,pB (((Fd p0 k1).id != p1) && ((Fd p0 k1).process != p1)))]) (ob2 := [(AfY p0),(Agu),(1064,bx [ow 1208 r5.nodes.length,pI r5.next,ow 1448 s1.length,pI p0.next]),(1080,bx (pm (Ao (Fd p0 k1)))),(1208,ob0 (Ac r5.nodes)),(1448,ob0 (Ae s1))]) ?_ ?_)
     ·rcases bt ((Fd p0 k1).id != p1) with h16 | h16
      ·exact RT hnt (nn 9 (pT :: [])) [(51,pB ((Fd p0 k1).process != p1))] (an5 h16 tv) (by kernel_rfl) (.cons rfl (.of_eq (by rw [h16]; try rfl)) .nil)
      ·exact RT hnt (nn 5 (sk 4 (pF :: []))) [(51,pB false)] (an5 h16 tv) (by kernel_rfl) (.cons rfl (.of_eq (by rw [h16]; try rfl)) .nil)
     ·refine Ag hm ?_ ?_
      ·intro h17 hm
       obtain ⟨g18,hm⟩ := go1 hm
       refine RN hnt (nn 7 []) [(1,pI p1),(2,rr 1016),(4,rr 1032),(8,rr 1064),(9,pI ((k1 : Nat) : Int))] [(AfY p0),(Agu),(1064,bx [ow 1208 r5.nodes.length,pI r5.next,ow 1448 (s1 ++ [(Fd p0 k1)]).length,pI p0.next]),(1208,ob0 (Ac r5.nodes)),(1448,ob0 (Ae (s1 ++ [(Fd p0 k1)])))] [] [(1064,.box [ow 1208 r5.nodes.length,pI r5.next,ow 1448 (s1.length + 1),pI p0.next]),(1448,.row 4 (s1.length + 1) (Dw s1.length (Kj s1) (cut 4 [vi (Fd p0 k1).id,vi (Fd p0 k1).process,vi (Fd p0 k1).group,vi (Fd p0 k1).user])))] (an (by omega : (s1.length + 1) * 32 ≤ 140737488355328) tv) (by kernel_rfl) .nil (.cons rfl (.box (.cons .rfl (.cons .rfl (.cons (MLe.ownLen (enc := Ao) (d := Ax) (f := (Dw s1.length (Kj s1) (cut 4 [vi (Fd p0 k1).id,vi (Fd p0 k1).process,vi (Fd p0 k1).group,vi (Fd p0 k1).user]))) (RowIs.cat RowIs.elems (RowIs.lit (enc := Ao) (d := Ax) (n := 1) (f := (cut 4 [vi (Fd p0 k1).id,vi (Fd p0 k1).process,vi (Fd p0 k1).group,vi (Fd p0 k1).user])) [(Fd p0 k1)] rfl (fun | 0,_ => rfl | n + 1,h => absurd h (by omega))))) (.cons .rfl .nil))))) (.cons rfl (BLe.typed (RowIs.cat RowIs.elems (RowIs.lit (enc := Ao) (d := Ax) (n := 1) (f := (cut 4 [vi (Fd p0 k1).id,vi (Fd p0 k1).process,vi (Fd p0 k1).group,vi (Fd p0 k1).user])) [(Fd p0 k1)] rfl (fun | 0,_ => rfl | n + 1,h => absurd h (by omega))))) .nil)) ?_
       exact bD (s1 ++ [(Fd p0 k1)]) hm .refl
      ·intro h17 hm
       refine Sk ?_
       exact bD s1 hm Conv.t0
   ·intro h15
    have hge1 : ¬ k1 < p0.tasks.length := by have := of_decide_eq_false h15; omega
    have hm := he1 hge1
    unfold Aae at hm
    refine DW.exit ?_
    refine Ar ?_
    refine Au ?_
    refine Ap ?_
    show DW _ _ _ _ _
    refine Sq (RD hnt (nn 3 []) [1,2,8,9,34] [(5,pI 0)] [1016,1064] [(1032,bx [ow 1208 r5.nodes.length,pI r5.next,ow 1448 s1.length,pI p0.next])] tv ?_)
    obtain rfl := sj hm
    exact DW.ret (Ai [Ac r5.nodes,Ae s1] [1208,1448] (.tup [.agg [ow 0 r5.nodes.length,pI r5.next,ow 1 s1.length,pI p0.next],pI 0]))
abbrev o131 (ks : List Nat) (b : Bool) (RES : Aa × Int) : Orc := .call 39 ks b (.tup [.agg [ow 0 RES.1.tree.nodes.length,pI RES.1.tree.next,ow 1 RES.1.tasks.length,pI RES.1.next],pI RES.2]) [] [Ac RES.1.tree.nodes,Ae RES.1.tasks]

abbrev AbW : Nat × Obj := (1048,bx [.p (.sl .nil 0 0 (fun _ => [])),pI 0,.p (.sl .nil 0 0 (fun _ => [])),pI 0])
theorem AcI (p0 : Aq) (p1 : Int) (p2 : Int) (RES : Aa × Aq) (hm : Kh p0 p1 p2 = some RES) : Spec Tryz.prog 8 [rr 0,pI p1,pI p2] [.box (pm (Al p0))] (.p (.agg (Ab RES.1))) [.box (pm (Al RES.2))] [] := by
 unfold Kh at hm
 refine SO Tryz.func8 rfl rfl [(0,rr 0),(1,pI p1),(2,pI p2)] [(0,bx (pm (Al p0)))] ?_
 intro cx hnt
 refine Sq (RD hnt (.no :: []) [] [(6,rr 1048)] [] [(AbW)] tv ?_)
 obtain ⟨r1,hr1,hm⟩ := bo hm
 refine Sq (RD hnt (o4 [] true r1 :: nn 2 []) [] [(7,rr 1056)] [] [(1056,bx [ow 1168 r1.tree.nodes.length,pI r1.tree.next,ow 1169 r1.tasks.length,pI r1.next]),(1168,ob0 (Ac r1.tree.nodes)),(1169,ob0 (Ae r1.tasks))] (an (AfU r1 hr1) tv) ?_)
 obtain ⟨r2,hr2,hm⟩ := bo hm
 refine Sq (RD hnt (nn 2 (o113 [0] true r2 :: nn 2 [])) [] [] [1168] [(0,bx (pm (Al r2.2))),(1056,bx [.p (Bg r2.1.nodes),pI r2.1.next,ow 1169 r1.tasks.length,pI r1.next])] (an (AfO p0 p1 r2 hr2) (an tv tv)) ?_)
 obtain ⟨r3,hr3,hm⟩ := bo hm
 refine Sq (Sq (RD hnt (nn 3 (Hi [0] true r3 :: .no :: [])) [1] [(8,pI r3.1)] [] [(0,bx (pm (Al r3.2)))] (an (Aw r2.2 (w64 (p1 + 3)) r3 hr3) (an tv tv)) ?_))
 refine Bk ?_
 refine DW.whileO (fun (s1 : Aq × Aa × Int) => Am [(0,rr 0),(2,pI p2),(6,rr 1048),(7,rr 1056),(8,pI s1.2.2)] [(0,bx (pm (Al s1.1))),(AbW),(1056,bx (pm (Ab s1.2.1)))]) hm (Conv.frz [1169]) ?_
 intro s1 n1 hm
 unfold Ro at hm
 refine Sq (Sq (RD hnt (nn 2 []) [] [(31,pB (decide (s1.2.2 > 0)))] [] [] tv ?_))
 refine Ag hm ?_ ?_
 ·intro h56 hm
  refine Sk ?_
  refine Sq (Bk ?_)
  obtain ⟨r57,hr57,hm⟩ := bo hm
  refine RD hnt (nn 2 (o118 [0] true r57 :: .no :: [])) [31] [] [] [(0,bx (pm (Al r57.2))),(1056,bx (pm (Ab r57.1)))] (an (AfZ s1.1 s1.2.1 r57 hr57) (an tv tv)) ?_
  refine DW.done ?_
  show DW _ _ _ _ _
  refine RD hnt (nn 3 []) [] [(8,pI (w64 (s1.2.2 - 1)))] [] [] tv ?_
  exact jD (r57.2,r57.1,(w64 (s1.2.2 - 1))) hm Conv.eqK
 ·intro h56 hm
  refine DW.exit ?_
  refine Ar ?_
  refine Au ?_
  refine Ap ?_
  show DW _ _ _ _ _
  obtain ⟨r58,hr58,hm⟩ := bo hm
  refine Sq (Sq (RD hnt (nn 3 (Hi [0] true r58 :: .no :: [])) [2,8,31] [(9,pI r58.1)] [] [(0,bx (pm (Al r58.2)))] (an (Aw s1.1 (w64 (p2 + 1)) r58 hr58) (an tv tv)) ?_))
  refine Bk ?_
  refine DW.whileO (fun (s3 : Aq × Aa × Int) => Am [(0,rr 0),(6,rr 1048),(7,rr 1056),(9,pI s3.2.2)] [(0,bx (pm (Al s3.1))),(AbW),(1056,bx (pm (Ab s3.2.1)))]) hm Conv.eqK ?_
  intro s3 n3 hm
  unfold Qy at hm
  refine Sq (Sq (RD hnt (nn 2 []) [] [(42,pB (decide (s3.2.2 > 0)))] [] [] tv ?_))
  refine Ag hm ?_ ?_
  ·intro h82 hm
   refine Sk ?_
   refine Sq ?_
   refine Jn (ι := Aq × Aa) (fun (y13 : Aq × Aa) => Am [(0,rr 0),(6,rr 1048),(7,rr 1056),(9,pI s3.2.2)] [(0,bx (pm (Al y13.1))),(AbW),(1056,bx (pm (Ab y13.2)))]) (fun y13 => (Dq s3 n3) y13 = some RES) ?_ ?_
   ·intro y13 hm
    unfold Dq at hm
    refine RD hnt (nn 3 []) [] [(9,pI (w64 (s3.2.2 - 1)))] [] [] tv ?_
    exact jD (y13.1,y13.2,(w64 (s3.2.2 - 1))) hm Conv.eqK
   ·refine Bk ?_
    obtain ⟨r83,hr83,hm⟩ := bo hm
    refine Sq (RD hnt (nn 3 (o119 [0] true r83 :: .no :: [])) [42] [(10,pI r83.1)] [] [(0,bx (pm (Al r83.2)))] (an (Od s3.1 s3.2.1.tree r83 hr83) (an tv tv)) ?_)
    obtain ⟨r84,hr84,hm⟩ := bo hm
    refine Sq (Sq (RD hnt (nn 2 (o126 [] true r84 :: .no :: [])) [] [(52,pB (r84 != 0))] [] [] (an (Yd s3.2.1 r83.1 r84 hr84) tv) ?_))
    refine Ag hm ?_ ?_
    ·intro h85 hm
     refine DW.exit ?_
     exact Ap (joinKQ (r83.2,s3.2.1) hm Conv.t0)
    ·intro h85 hm
     refine Sk ?_
     obtain ⟨r86,hr86,hm⟩ := bo hm
     obtain ⟨r87,hr87,hm⟩ := bo hm
     refine Sq (Sq (RD hnt (nn 3 (Hi [0] true r86 :: o97 [] true r87 :: nn 8 [])) [10,52] [(11,rr 1088),(13,pI r87.2.2)] [] [(0,bx (pm (Al r86.2))),(1088,bx [ow 1464 r87.1.tree.nodes.length,pI r87.1.tree.next,ow 1465 r87.1.tasks.length,pI r87.1.next]),(1464,ob0 (Ac r87.1.tree.nodes)),(1465,ob0 (Ae r87.1.tasks))] (an (Aw r83.2 3 r86 hr86) (an tv (an (Zm s3.2.1 r83.1 r86.1 r87 hr87) tv))) ?_))
     refine Sq (RD hnt (nn 2 []) [13] [(63,pB (r87.2.2 == 0))] [] [] tv ?_)
     refine Jn (ι := Aa) (fun (y14 : Aa) => Am [(0,rr 0),(6,rr 1048),(7,rr 1056),(9,pI s3.2.2)] [(0,bx (pm (Al r86.2))),(AbW),(1056,bx (pm (Ab y14)))]) (fun y14 => (Gc s3 n3 r86) y14 = some RES) ?_ ?_
     ·intro y14 hm
      unfold Gc at hm
      obtain ⟨r89,hr89,hm⟩ := bo hm
      refine Sq (Sq (RD hnt (.no :: o116 [0] true r89 :: []) [] [(66,pB r89.1)] [] [(0,bx (pm (Al r89.2)))] (an (El r86.2 3 r89 hr89) (an tv tv)) ?_))
      refine Jn (ι := Aq × Aa) (fun (y15 : Aq × Aa) => Am [(0,rr 0),(6,rr 1048),(7,rr 1056),(9,pI s3.2.2)] [(0,bx (pm (Al y15.1))),(AbW),(1056,bx (pm (Ab y15.2)))]) (fun y15 => (Et s3 n3) y15 = some RES) ?_ ?_
      ·intro y15 hm
       unfold Et at hm
       obtain ⟨r94,hr94,hm⟩ := bo hm
       refine Sq (Sq (RD hnt (.no :: o116 [0] true r94 :: []) [] [(80,pB r94.1)] [] [(0,bx (pm (Al r94.2)))] (an (El y15.1 4 r94 hr94) (an tv tv)) ?_))
       refine Jn (ι := Aq × Aa) (fun (y16 : Aq × Aa) => Am [(0,rr 0),(6,rr 1048),(7,rr 1056),(9,pI s3.2.2)] [(0,bx (pm (Al y16.1))),(AbW),(1056,bx (pm (Ab y16.2)))]) (fun y16 => (Es s3 n3) y16 = some RES) ?_ ?_
       ·intro y16 hm
        unfold Es at hm
        obtain ⟨r100,hr100,hm⟩ := bo hm
        refine Sq (RD hnt (.no :: o116 [0] true r100 :: []) [] [(97,pB r100.1)] [] [(0,bx (pm (Al r100.2)))] (an (El y16.1 8 r100 hr100) (an tv tv)) ?_)
        refine Ag hm ?_ ?_
        ·intro h101 hm
         obtain ⟨r102,hr102,hm⟩ := bo hm
         obtain ⟨r103,hr103,hm⟩ := bo hm
         refine Sq (RD hnt (nn 3 (o127 [0] true r102 :: o131 [] true r103 :: nn 6 [])) [97] [(19,rr 1152),(20,pI r103.2)] [] [(0,bx (pm (Al r102.2))),(1152,bx [ow 1824 r103.1.tree.nodes.length,pI r103.1.tree.next,ow 1825 r103.1.tasks.length,pI r103.1.next]),(1824,ob0 (Ac r103.1.tree.nodes)),(1825,ob0 (Ae r103.1.tasks))] (an (Pf r100.2 y16.2 r102 hr102) (an tv (an (Akx y16.2 r102.1 r103 hr103) tv))) ?_)
         refine Sq (RD hnt (nn 2 []) [20] [(107,pB (r103.2 == 0))] [] [] tv ?_)
         refine Ag hm ?_ ?_
         ·intro h104 hm
          refine RD hnt (nn 2 []) [19,107] [] [1152] [(1056,bx [ow 1824 r103.1.tree.nodes.length,pI r103.1.tree.next,ow 1825 r103.1.tasks.length,pI r103.1.next])] tv ?_
          exact bD (r102.2,r103.1) hm (Conv.frz [1824,1825])
         ·intro h104 hm
          refine Sk ?_
          exact bD (r102.2,y16.2) hm Conv.t0
        ·intro h101 hm
         refine Sk ?_
         exact bD (r100.2,y16.2) hm Conv.t0
       ·refine Ag hm ?_ ?_
        ·intro h95 hm
         obtain ⟨r96,hr96,hm⟩ := bo hm
         obtain ⟨r97,hr97,hm⟩ := bo hm
         obtain ⟨r98,hr98,hm⟩ := bo hm
         refine Sq (RD hnt (nn 3 (o127 [0] true r96 :: nn 3 (o119 [0] true r97 :: o129 [] true r98 :: nn 6 []))) [80] [(17,rr 1136),(18,pI r98.2)] [] [(0,bx (pm (Al r97.2))),(1136,bx [ow 1720 r98.1.tree.nodes.length,pI r98.1.tree.next,ow 1721 r98.1.tasks.length,pI r98.1.next]),(1720,ob0 (Ac r98.1.tree.nodes)),(1721,ob0 (Ae r98.1.tasks))] (an (Pf r94.2 y15.2 r96 hr96) (an tv (an (Od r96.2 y15.2.tree r97 hr97) (an tv (an (Xo y15.2 r96.1 r97.1 r98 hr98) tv))))) ?_)
         refine Sq (RD hnt (nn 2 []) [18] [(94,pB (r98.2 == 0))] [] [] tv ?_)
         refine Ag hm ?_ ?_
         ·intro h99 hm
          refine RD hnt (nn 2 []) [17,94] [] [1136] [(1056,bx [ow 1720 r98.1.tree.nodes.length,pI r98.1.tree.next,ow 1721 r98.1.tasks.length,pI r98.1.next])] tv ?_
          exact jD (r97.2,r98.1) hm (Conv.frz [1720,1721])
         ·intro h99 hm
          refine Sk ?_
          exact jD (r97.2,y15.2) hm Conv.t0
        ·intro h95 hm
         refine Sk ?_
         exact jD (r94.2,y15.2) hm Conv.t0
      ·refine Ag hm ?_ ?_
       ·intro h90 hm
        obtain ⟨r91,hr91,hm⟩ := bo hm
        obtain ⟨r92,hr92,hm⟩ := bo hm
        refine Sq (RD hnt (nn 3 (o127 [0] true r91 :: o128 [] true r92 :: nn 8 [])) [66] [(14,rr 1112),(16,pI r92.2.2)] [] [(0,bx (pm (Al r91.2))),(1112,bx [ow 1576 r92.1.tree.nodes.length,pI r92.1.tree.next,ow 1577 r92.1.tasks.length,pI r92.1.next]),(1576,ob0 (Ac r92.1.tree.nodes)),(1577,ob0 (Ae r92.1.tasks))] (an (Pf r89.2 y14 r91 hr91) (an tv (an (AjE y14 r91.1 r92 hr92) tv))) ?_)
        refine Sq (RD hnt (nn 2 []) [16] [(77,pB (r92.2.2 == 0))] [] [] tv ?_)
        refine Ag hm ?_ ?_
        ·intro h93 hm
         refine RD hnt (nn 2 []) [14,77] [] [1112] [(1056,bx [ow 1576 r92.1.tree.nodes.length,pI r92.1.tree.next,ow 1577 r92.1.tasks.length,pI r92.1.next])] tv ?_
         exact jD (r91.2,r92.1) hm (Conv.frz [1576,1577])
        ·intro h93 hm
         refine Sk ?_
         exact jD (r91.2,y14) hm Conv.t0
       ·intro h90 hm
        refine Sk ?_
        exact jD (r89.2,y14) hm Conv.t0
     ·refine Ag hm ?_ ?_
      ·intro h88 hm
       refine RD hnt (nn 2 []) [11,63] [] [1088] [(1056,bx [ow 1464 r87.1.tree.nodes.length,pI r87.1.tree.next,ow 1465 r87.1.tasks.length,pI r87.1.next])] tv ?_
       exact jD r87.1 hm (Conv.frz [1464,1465])
      ·intro h88 hm
       refine Sk ?_
       exact jD s3.2.1 hm Conv.t0
  ·intro h82 hm
   refine DW.exit ?_
   refine Ar ?_
   refine Au ?_
   refine Ap ?_
   show DW _ _ _ _ _
   refine Sq (RD hnt (nn 2 []) [0,7,9,42] [] [1056] [(1048,bx (pm (Ab s3.2.1)))] tv ?_)
   obtain rfl := sj hm
   exact DW.ret (Ai [.box (pm (Al s3.1))] [] (.p (.agg (Ab s3.2.1))))
abbrev o112 (ks : List Nat) (b : Bool) (RES : Aa × Aq) : Orc := .call 8 ks b (.p (.agg (Ab RES.1))) [.box (pm (Al RES.2))] []

theorem Uj (p0 : Aq) (RES : Int × Aq) (hm : Ku p0 = some RES) : Spec Tryz.prog 10 [rr 0] [.box (pm (Al p0))] (pI RES.1) [.box (pm (Al RES.2))] [] := by
 unfold Ku at hm
 refine SO Tryz.func10 rfl rfl [(0,rr 0)] [(0,bx (pm (Al p0)))] ?_
 intro cx hnt
 refine Sq (RD hnt (.no :: []) [] [] [] [] tv ?_)
 obtain ⟨r3,hr3,hm⟩ := bo hm
 obtain ⟨g4,g5,hm⟩ := go2 hm
 refine Sq (RK hnt (.asR (ow 1024 [0,1,2,1,7,(-1),1048576,1048577].length) [0,1,2,1,7,(-1),1048576,1048577].length (elems Bw 0 [0,1,2,1,7,(-1),1048576,1048577]) :: .no :: Hi [0] true r3 :: nn 3 []) [(2,pI ([0,1,2,1,7,(-1),1048576,1048577].getD (Int.toNat r3.1) 0))] [(0,bx (pm (Al r3.2)))] (an (congrArg (MV.own 1024 0 0) (RowIs.asP (enc := Bw) (d := 0) (L := [0,1,2,1,7,(-1),1048576,1048577]) (RowIs.lit (enc := Bw) (d := 0) (n := 8) (f := (cut 1 [vi 0,vi 1,vi 2,vi 1,vi 7,vi (-1),vi 1048576,vi 1048577])) [0,1,2,1,7,(-1),1048576,1048577] rfl (fun | 0,_ => rfl | 1,_ => rfl | 2,_ => rfl | 3,_ => rfl | 4,_ => rfl | 5,_ => rfl | 6,_ => rfl | 7,_ => rfl | n + 8,h => absurd h (by omega)))).1) (an (RowIs.asP (enc := Bw) (d := 0) (L := [0,1,2,1,7,(-1),1048576,1048577]) (RowIs.lit (enc := Bw) (d := 0) (n := 8) (f := (cut 1 [vi 0,vi 1,vi 2,vi 1,vi 7,vi (-1),vi 1048576,vi 1048577])) [0,1,2,1,7,(-1),1048576,1048577] rfl (fun | 0,_ => rfl | 1,_ => rfl | 2,_ => rfl | 3,_ => rfl | 4,_ => rfl | 5,_ => rfl | 6,_ => rfl | 7,_ => rfl | n + 8,h => absurd h (by omega)))) (an (Aw p0 8 r3 hr3) (an tv (an g4.1 (an g4.2 (an g5 tv))))))) ?_)
 obtain rfl := sj hm
 exact DW.ret (Ai [.box (pm (Al r3.2))] [] (pI ([0,1,2,1,7,(-1),1048576,1048577].getD (Int.toNat r3.1) 0)))
abbrev o132 (ks : List Nat) (b : Bool) (RES : Int × Aq) : Orc := .call 10 ks b (pI RES.1) [.box (pm (Al RES.2))] []

theorem On (p0 : Int) (RES : Bool) (hm : Py p0 = some RES) : Spec Tryz.prog 70 [pI p0] [] (pB RES) [] [] := by
 unfold Py at hm
 refine SO Tryz.func70 rfl rfl [(0,pI p0)] [] ?_
 intro cx hnt
 refine Sq (RK hnt (.no :: []) [(0,pI p0)] [] tv ?_)
 refine Sq (DW.regJ (sl2 := [(2,pB ((decide (p0 ≥ 0)) && (decide (p0 ≤ 1048576))))]) (ob2 := []) ?_ ?_)
 ·rcases bt (decide (p0 ≥ 0)) with h1 | h1
  ·exact RT hnt (nn 5 (pT :: .no :: [])) [(2,pB (decide (p0 ≤ 1048576)))] (an3 h1 tv) (by kernel_rfl) (.cons rfl (.of_eq (by rw [h1]; try rfl)) .nil)
  ·exact RT hnt (nn 3 (sk 2 (pF :: .no :: []))) [(2,pB false)] (an3 h1 tv) (by kernel_rfl) (.cons rfl (.of_eq (by rw [h1]; try rfl)) .nil)
 ·refine DW.ret ?_
  obtain rfl := sj hm
  exact Ai [] [] (pB ((decide (p0 ≥ 0)) && (decide (p0 ≤ 1048576))))
abbrev o137 (ks : List Nat) (b : Bool) (RES : Bool) : Orc := .call 70 ks b (pB RES) [] []

theorem Oq (p0 : Af) (p1 : Int) (p2 : Int) (RES : Bool) (hm : Mt p0 p1 p2 = some RES) : Spec Tryz.prog 28 [.p (.agg (Aj p0)),pI p1,pI p2] [] (pB RES) [] [] := by
 unfold Mt at hm
 refine SO Tryz.func28 rfl rfl [(0,.p (.agg (Aj p0))),(1,pI p1),(2,pI p2)] [] ?_
 intro cx hnt
 refine Sq (RD hnt (nn 2 []) [0] [(3,rr 1024)] [] [(1024,bx (pm (Aj p0)))] tv ?_)
 obtain ⟨r1,hr1,hm⟩ := bo hm
 refine Sq (RD hnt (nn 2 (o22 [] true r1 :: .no :: [])) [2] [(7,ow 1104 r1.length)] [] [(1104,ob0 (roI r1))] (an (Ln p0 p2 r1 hr1) tv) ?_)
 refine Sq (Sq ?_)
 refine Jn (ι := Bool) (fun (y1 : Bool) => Am [(1,pI p1),(3,rr 1024),(7,ow 1104 r1.length),(21,pB y1)] [(1024,bx (pm (Aj p0))),(1104,ob0 (roI r1))]) (fun y1 => (Ss p0 p1 r1) y1 = some RES) ?_ ?_
 ·intro y1 hm
  unfold Ss at hm
  refine Ag hm ?_ ?_
  ·intro h4 hm
   refine Sq (RK hnt (.no :: []) [(6,pB false)] [] tv ?_)
   obtain rfl := sj hm
   exact DW.ret (Ai [] [] (pB false))
  ·intro h4 hm
   refine Sk ?_
   refine Sq (Sq (RD hnt (nn 2 []) [21] [(23,pB (p1 == 0))] [] [] tv ?_))
   refine Ag hm ?_ ?_
   ·intro h5 hm
    refine Sq (RK hnt (.no :: []) [(6,pB true)] [] tv ?_)
    obtain rfl := sj hm
    exact DW.ret (Ai [] [] (pB true))
   ·intro h5 hm
    refine Sk ?_
    refine Sq (Sq (RD hnt (.no :: []) [23] [(8,pI 1)] [] [] tv ?_))
    refine Bk ?_
    obtain ⟨hc1,hm⟩ := go1 hm
    refine DW.forO (fun (k1 : Int) (s1 : Unit) => Am [(1,pI p1),(3,rr 1024),(7,ow 1104 r1.length),(8,pI k1)] [(1024,bx (pm (Aj p0))),(1104,ob0 (roI r1))]) (lo := 1) (hi := ((r1.length : Nat) : Int)) hm Conv.eqK ?_
    intro k1 s1 n1 hk1 hs1 he1
    refine Sq (Sq (RD hnt (nn 4 []) [] [(27,pB (decide (k1 < ((r1.length : Nat) : Int))))] [] [] tv ?_))
    refine Bx (decide (k1 < ((r1.length : Nat) : Int))) ?_ ?_
    ·intro h16
     have hlt1 : k1 < ((r1.length : Nat) : Int) := by have := of_decide_eq_true h16; omega
     have hm := hs1 hlt1
     unfold AdE at hm
     refine Sk ?_
     refine Sq (Bk ?_)
     obtain ⟨g17,g18,hm⟩ := go2 hm
     obtain ⟨r19,hr19,hm⟩ := bo hm
     refine Sq (RD hnt (nn 5 (o16 [] true r19 :: nn 6 [])) [27] [(9,rr 1072)] [] [(1072,bx (pm (Ak r19.1)))] (an g17.1 (an g17.2 (an g18 (an (Cu p0 (r1.getD (Int.toNat k1) 0) r19 hr19) tv)))) ?_)
     refine Sq (RD hnt (nn 4 []) [9] [(42,pB (r19.1.owner == p1))] [1072] [] tv ?_)
     refine Ag hm ?_ ?_
     ·intro h20 hm
      refine Sq (RK hnt (.no :: []) [(6,pB true)] [] tv ?_)
      obtain rfl := sj hm
      exact DW.ret (Ai [] [] (pB true))
     ·intro h20 hm
      refine Sk ?_
      refine DW.done ?_
      show DW _ _ _ _ _
      refine RD hnt (nn 3 []) [42] [(8,pI (w64 (k1 + 1)))] [] [] tv ?_
      exact jD () ⟨hlt1,hm⟩ (Conv.tp [(8,pI (w64 (k1 + 1)))] [] (by kernel_rfl) (.cons rfl (.of_eq (congrArg pI (Su (lo := 1) (hi := ((r1.length : Nat) : Int)) (by omega) hk1 hlt1 (by omega)))) .nil) .nil)
    ·intro h16
     have hge1 : ¬ k1 < ((r1.length : Nat) : Int) := by have := of_decide_eq_false h16; omega
     have hm := he1 hge1
     unfold AhC at hm
     refine DW.exit ?_
     refine Ar ?_
     refine Au ?_
     refine Ap ?_
     show DW _ _ _ _ _
     refine Sq (RK hnt (.no :: []) [(6,pB false)] [] tv ?_)
     obtain rfl := sj hm
     exact DW.ret (Ai [] [] (pB false))
 ·rcases bt (((r1.length : Nat) : Int) == 0) with h2 | h2
  ·replace hm := Ba h2 hm
   refine RD hnt (nn 4 (sk 3 (pT :: []))) [] [(21,pB true)] [] [] (an4 h2 tv) ?_
   exact jD true hm Conv.eqK
  ·replace hm := Bb h2 hm
   obtain ⟨r3,hr3,hm⟩ := bo hm
   refine RD hnt (nn 5 (o137 [] true r3 :: .no :: pF :: [])) [] [(21,pB (!r3))] [] [] (an2 h2 (an (On p1 r3 hr3) (an2 h2 tv))) ?_
   exact jD (!r3) hm Conv.eqK
abbrev o136 (ks : List Nat) (b : Bool) (RES : Bool) : Orc := .call 28 ks b (pB RES) [] []

theorem Iy (p0 : Af) (p1 : Int) (p2 : Int) (RES : Bool) (hm : Gz p0 p1 p2 = some RES) : Spec Tryz.prog 25 [.p (.agg (Aj p0)),pI p1,pI p2] [] (pB RES) [] [] := by
 unfold Gz at hm
 refine SO Tryz.func25 rfl rfl [(0,.p (.agg (Aj p0))),(1,pI p1),(2,pI p2)] [] ?_
 intro cx hnt
 refine Sq (RD hnt (nn 2 []) [0] [(3,rr 1024)] [] [(1024,bx (pm (Aj p0)))] tv ?_)
 obtain ⟨r1,hr1,hm⟩ := bo hm
 refine Sq (RD hnt (nn 2 (o16 [] true r1 :: nn 6 [])) [] [(7,rr 1056),(8,pB r1.2)] [] [(1056,bx (pm (Ak r1.1)))] (an (Cu p0 p2 r1 hr1) tv) ?_)
 refine Sq ?_
 refine Jn (ι := Bool) (fun (y1 : Bool) => Am [(6,pB y1)] []) (fun y1 => Lf y1 = some RES) ?_ ?_
 ·intro y1 hm
  unfold Lf at hm
  obtain rfl := sj hm
  exact DW.ret (Ai [] [] (pB y1))
 ·rcases bt r1.2 with h2 | h2
  ·replace hm := Ba h2 hm
   obtain ⟨r3,hr3,hm⟩ := bo hm
   rcases bt r3 with h4 | h4
   ·replace hm := Ba h4 hm
    refine RK hnt (nn 5 (o136 [] true r3 :: .no :: sk 12 (pT :: pT :: .no :: []))) [(6,pB true)] [] (an4 h2 (an (Oq p0 p1 p2 r3 hr3) (an h2 (an6 h4 (an h2 (an h4 (an h2 tv))))))) ?_
    exact jD true hm .refl
   ·replace hm := Bb h4 hm
    obtain ⟨r5,hr5,hm⟩ := bo hm
    rcases bt r5 with h6 | h6
    ·replace hm := Ba h6 hm
     rcases bt (p1 != 0) with h7 | h7
     ·replace hm := Ba h7 hm
      refine RK hnt (nn 5 (o136 [] true r3 :: nn 2 (o137 [] true r5 :: nn 3 (pT :: nn 5 (pT :: pF :: pT :: .no :: []))))) [(6,pB (r1.1.owner == p1))] [] (an4 h2 (an (Oq p0 p1 p2 r3 hr3) (an h2 (an2 h4 (an (On p1 r5 hr5) (an h4 (an2 h6 (an h4 (an h6 (an h4 (an4 h7 (an h4 (an h7 (an h2 (an h4 (an h2 tv)))))))))))))))) ?_
      exact jD (r1.1.owner == p1) hm .refl
     ·replace hm := Bb h7 hm
      refine RK hnt (nn 5 (o136 [] true r3 :: nn 2 (o137 [] true r5 :: nn 3 (pT :: .no :: sk 4 (pF :: pF :: pT :: .no :: []))))) [(6,pB false)] [] (an4 h2 (an (Oq p0 p1 p2 r3 hr3) (an h2 (an2 h4 (an (On p1 r5 hr5) (an h4 (an2 h6 (an h4 (an h6 (an h4 (an4 h7 (an h4 (an h7 (an h2 (an h4 (an h2 tv)))))))))))))))) ?_
      exact jD false hm .refl
    ·replace hm := Bb h6 hm
     refine RK hnt (nn 5 (o136 [] true r3 :: nn 2 (o137 [] true r5 :: .no :: sk 2 (pF :: .no :: sk 4 (pF :: pF :: pT :: .no :: []))))) [(6,pB false)] [] (an4 h2 (an (Oq p0 p1 p2 r3 hr3) (an h2 (an2 h4 (an (On p1 r5 hr5) (an h4 (an2 h6 (an h4 (an h6 (an h4 (an4 ff (an h4 (an ff (an h2 (an h4 (an h2 tv)))))))))))))))) ?_
     exact jD false hm .refl
  ·replace hm := Bb h2 hm
   refine RK hnt (nn 2 (sk 18 (pF :: .no :: []))) [(6,pB false)] [] (an h2 (an6 h2 tv)) ?_
   exact jD false hm .refl
abbrev o135 (ks : List Nat) (b : Bool) (RES : Bool) : Orc := .call 25 ks b (pB RES) [] []

theorem Nl (p0 : Aa) (p1 : Int) (p2 : Int) (p3 : Bool) (RES : Int) (hm : Ig p0 p1 p2 p3 = some RES) : Spec Tryz.prog 86 [.p (.agg (Ab p0)),pI p1,pI p2,pB p3] [] (pI RES) [] [] := by
 unfold Ig at hm
 refine SO Tryz.func86 rfl rfl [(0,.p (.agg (Ab p0))),(1,pI p1),(2,pI p2),(3,pB p3)] [] ?_
 intro cx hnt
 refine Sq (RD hnt (nn 2 []) [0] [(4,rr 1032)] [] [(1032,bx (pm (Ab p0)))] tv ?_)
 refine Sq (Bk ?_)
 obtain ⟨r1,hr1,hm⟩ := bo hm
 refine Sq ?_
 refine Jn (ι := Bool) (fun (y1 : Bool) => Am [(2,pI p2),(3,pB p3),(4,rr 1032),(9,pB y1)] [(1032,bx (pm (Ab p0)))]) (fun y1 => (Qw p0 p2 p3) y1 = some RES) ?_ ?_
 ·intro y1 hm
  unfold Qw at hm
  refine Ag hm ?_ ?_
  ·intro h4 hm
   refine Sq (RK hnt (.no :: []) [(8,pI 1)] [] tv ?_)
   obtain rfl := sj hm
   exact DW.ret (Ai [] [] (pI 1))
  ·intro h4 hm
   obtain ⟨r5,hr5,hm⟩ := bo hm
   refine Sq (RK hnt (nn 3 (o15 [] true r5 :: nn 2 [])) [(3,pB p3),(18,pB (!r5))] [] (an (Cf p0.tree p2 r5 hr5) tv) ?_)
   refine Ag hm ?_ ?_
   ·intro h6 hm
    refine Sq (RK hnt (.no :: []) [(8,pI 4)] [] tv ?_)
    obtain rfl := sj hm
    exact DW.ret (Ai [] [] (pI 4))
   ·intro h6 hm
    refine Sq (RK hnt (nn 3 []) [(24,pB (!p3))] [] tv ?_)
    refine Ag hm ?_ ?_
    ·intro h7 hm
     refine Sq (RK hnt (.no :: []) [(8,pI 8)] [] tv ?_)
     obtain rfl := sj hm
     exact DW.ret (Ai [] [] (pI 8))
    ·intro h7 hm
     refine Sk ?_
     refine DW.done ?_
     show DW _ _ _ _ _
     refine Sq (RK hnt (.no :: []) [(8,pI 0)] [] tv ?_)
     obtain rfl := sj hm
     exact DW.ret (Ai [] [] (pI 0))
 ·rcases bt (!r1) with h2 | h2
  ·replace hm := Ba h2 hm
   refine RD hnt (.no :: o137 [] true r1 :: nn 2 (sk 3 (pT :: .no :: []))) [1] [(9,pB true)] [] [] (an (On p1 r1 hr1) (an4 h2 tv)) ?_
   exact jD true hm Conv.eqK
  ·replace hm := Bb h2 hm
   obtain ⟨r3,hr3,hm⟩ := bo hm
   refine RD hnt (.no :: o137 [] true r1 :: nn 3 (o7 [] true r3 :: .no :: pF :: .no :: [])) [1] [(9,pB (!r3))] [] [] (an (On p1 r1 hr1) (an2 h2 (an (Ib p0 r3 hr3) (an2 h2 tv)))) ?_
   exact jD (!r3) hm Conv.eqK
abbrev o138 (ks : List Nat) (b : Bool) (RES : Int) : Orc := .call 86 ks b (pI RES) [] []

theorem AiX (p0 : Aa) (p1 : Int) (p2 : Int) (p3 : ByteArray) (RES : Aa × Int × Int) (hm : Qf p0 p1 p2 p3 = some RES) : Spec Tryz.prog 40 [.p (.agg (Ab p0)),pI p1,pI p2,pS p3] [] (.tup [.agg [ow 0 RES.1.tree.nodes.length,pI RES.1.tree.next,ow 1 RES.1.tasks.length,pI RES.1.next],pI RES.2.1,pI RES.2.2]) [] [Ac RES.1.tree.nodes,Ae RES.1.tasks] := by
 unfold Qf at hm
 refine SO Tryz.func40 rfl rfl [(0,.p (.agg (Ab p0))),(1,pI p1),(2,pI p2),(3,pS p3)] [] ?_
 intro cx hnt
 refine Sq (RD hnt (nn 4 []) [0] [(4,rr 1032),(8,rr 1064)] [] [(1032,bx (pm (Ab p0))),(1064,bx [.p (.sl .nil 0 0 (fun _ => [])),pI 0,.p (.sl .nil 0 0 (fun _ => [])),pI 0])] tv ?_)
 obtain ⟨r1,hr1,hm⟩ := bo hm
 obtain ⟨r2,hr2,hm⟩ := bo hm
 refine Sq (Sq (RD hnt (nn 7 (o135 [] true r1 :: o138 [] true r2 :: .no :: [])) [1] [(11,pI r2)] [] [] (an (Iy p0.tree p1 p2 r1 hr1) (an (Nl p0 p1 p2 r1 r2 hr2) tv)) ?_))
 refine Sq (RD hnt (nn 2 []) [] [(22,pB (r2 != 0))] [] [] tv ?_)
 refine Ag hm ?_ ?_
 ·intro h3 hm
  refine Sq (RD hnt (nn 5 []) [2,3,4,11,22] [(9,pI 0),(10,pI r2)] [1032] [] tv ?_)
  refine DW.cv [] [] [] [(1064,bx [ow 100000 0,pI 0,ow 100001 0,pI 0]),(100000,ob0 (Ac [])),(100001,ob0 (Ae []))] (Conv.ads [(.o 1064 0,100000,6,elems Ak As []),(.o 1064 2,100001,4,elems Ao Ax [])]) ?_
  obtain rfl := sj hm
  exact DW.ret (Ai [Ac [],Ae []] [100000,100001] (.tup [.agg [ow 0 0,pI 0,ow 1 0,pI 0],pI 0,pI r2]))
 ·intro h3 hm
  refine Sk ?_
  obtain ⟨r4,hr4,hm⟩ := bo hm
  refine Sq (RK hnt (nn 3 (o6 [] true r4 :: nn 6 [])) [(8,rr 1064),(9,pI r4.2.1),(10,pI r4.2.2)] [(1064,bx [ow 1224 r4.1.tree.nodes.length,pI r4.1.tree.next,ow 1225 r4.1.tasks.length,pI r4.1.next]),(1224,ob0 (Ac r4.1.tree.nodes)),(1225,ob0 (Ae r4.1.tasks))] (an (Adp p0 p2 p3 r4 hr4) tv) ?_)
  obtain rfl := sj hm
  exact DW.ret (Ai [Ac r4.1.tree.nodes,Ae r4.1.tasks] [1224,1225] (.tup [.agg [ow 0 r4.1.tree.nodes.length,pI r4.1.tree.next,ow 1 r4.1.tasks.length,pI r4.1.next],pI r4.2.1,pI r4.2.2]))
abbrev o134 (ks : List Nat) (b : Bool) (RES : Aa × Int × Int) : Orc := .call 40 ks b (.tup [.agg [ow 0 RES.1.tree.nodes.length,pI RES.1.tree.next,ow 1 RES.1.tasks.length,pI RES.1.next],pI RES.2.1,pI RES.2.2]) [] [Ac RES.1.tree.nodes,Ae RES.1.tasks]

theorem Pt (p0 : Aa) (p1 : Int) (p2 : Int) (RES : Int) (hm : Cy p0 p1 p2 = some RES) : Spec Tryz.prog 49 [.p (.agg (Ab p0)),pI p1,pI p2,.p (.fn 52 [])] [] (pI RES) [] [] := by
 unfold Cy at hm
 refine SO Tryz.func49 rfl rfl [(0,.p (.agg (Ab p0))),(1,pI p1),(2,pI p2),(3,.p (.fn 52 []))] [] ?_
 intro cx hnt
 refine Sq (RD hnt (nn 2 []) [0] [(4,rr 1032)] [] [(1032,bx (pm (Ab p0)))] tv ?_)
 obtain ⟨r1,hr1,hm⟩ := bo hm
 refine Sq (Sq ?_)
 refine Jn (ι := Bool) (fun (y1 : Bool) => Am [(1,pI p1),(2,pI p2),(3,.p (.fn 52 [])),(4,rr 1032),(16,pB y1)] [(1032,bx (pm (Ab p0)))]) (fun y1 => (Ds p0 p1 p2) y1 = some RES) ?_ ?_
 ·intro y1 hm
  unfold Ds at hm
  refine Ag hm ?_ ?_
  ·intro h4 hm
   refine Sq (RK hnt (.no :: []) [(8,pI 1)] [] tv ?_)
   obtain rfl := sj hm
   exact DW.ret (Ai [] [] (pI 1))
  ·intro h4 hm
   refine Sk ?_
   obtain ⟨r5,hr5,hm⟩ := bo hm
   refine Sq (Sq (RD hnt (nn 3 (o30 [] true r5 :: .no :: [])) [16] [(21,pB (decide (r5 < 0)))] [] [] (an (Fz p0.tree p2 r5 hr5) tv) ?_))
   refine Ag hm ?_ ?_
   ·intro h6 hm
    refine Sq (RK hnt (.no :: []) [(8,pI 4)] [] tv ?_)
    obtain rfl := sj hm
    exact DW.ret (Ai [] [] (pI 4))
   ·intro h6 hm
    refine Sk ?_
    obtain ⟨r7,hr7,hm⟩ := bo hm
    refine Sq (Sq (RK hnt (nn 5 (o39 [] true r7 :: .no :: [])) [(28,pB (!r7))] [] (an (Kb p0.tree p1 p2 r7 hr7) tv) ?_))
    refine Ag hm ?_ ?_
    ·intro h8 hm
     refine Sq (RK hnt (.no :: []) [(8,pI 8)] [] tv ?_)
     obtain rfl := sj hm
     exact DW.ret (Ai [] [] (pI 8))
    ·intro h8 hm
     refine Sk ?_
     refine Sq (RK hnt (.no :: []) [(8,pI 0)] [] tv ?_)
     obtain rfl := sj hm
     exact DW.ret (Ai [] [] (pI 0))
 ·rcases bt (!r1) with h2 | h2
  ·replace hm := Ba h2 hm
   refine RD hnt (.no :: o38 [] true r1 :: nn 2 (sk 3 (pT :: []))) [] [(16,pB true)] [] [] (an (Bu p1 r1 hr1) (an4 h2 tv)) ?_
   exact jD true hm Conv.eqK
  ·replace hm := Bb h2 hm
   obtain ⟨r3,hr3,hm⟩ := bo hm
   refine RD hnt (.no :: o38 [] true r1 :: nn 3 (o49 [] true r3 :: .no :: pF :: [])) [] [(16,pB (!r3))] [] [] (an (Bu p1 r1 hr1) (an2 h2 (an (Dk p0 r3 hr3) (an2 h2 tv)))) ?_
   exact jD (!r3) hm Conv.eqK
abbrev o140 (ks : List Nat) (b : Bool) (RES : Int) : Orc := .call 49 ks b (pI RES) [] []

abbrev Uu (p0 : Af) (k1 : Nat) := (p0.nodes.getD k1 (default : Ah))
abbrev Ajp (p0 : Af) : Nat × MV := (10,pI ((p0.nodes.length : Nat) : Int))
theorem Afw (p0 : Af) (p1 : Int) (RES : List Int) (hm : Ph p0 p1 = some RES) : Spec Tryz.prog 135 [.p (.agg (Aj p0)),pI p1] [] (ow 0 RES.length) [] [roI RES] := by
 unfold Ph at hm
 refine SO Tryz.func135 rfl rfl [(0,.p (.agg (Aj p0))),(1,pI p1)] [] ?_
 intro cx hnt
 refine Sq (RK hnt (nn 2 []) [(1,pI p1),(2,rr 1016)] [(1016,bx (pm (Aj p0)))] tv ?_)
 refine Sq (RD hnt (.no :: []) [] [(5,.p (.sl .nil 0 0 (fun _ => [])))] [] [] tv ?_)
 refine Sq (Sq (RD hnt (nn 4 []) [2] [(9,.p (Bg p0.nodes)),(Ajp p0),(11,pI 0)] [1016] [] tv ?_))
 refine Bk ?_
 obtain ⟨hc1,hm⟩ := go1 hm
 refine DW.rangeO (fun (k1 : Nat) (s1 : List Int) => Am [(1,pI p1),(5,ow 1184 s1.length),(9,.p (Bg p0.nodes)),(Ajp p0),(11,pI ((k1 : Nat) : Int))] [(1184,ob0 (roI s1))]) As hm (Conv.ads [(.s 5,1184,1,elems Bw 0 [])]) ?_
 intro k1 s1 n1 hk1 hs1 he1
 refine Sq (RD hnt (.no :: []) [] [(12,pB (decide (((k1 : Nat) : Int) < ((p0.nodes.length : Nat) : Int))))] [] [] tv ?_)
 refine Sq (Bx (decide (((k1 : Nat) : Int) < ((p0.nodes.length : Nat) : Int))) ?_ ?_)
 ·intro h8
  have hlt1 : k1 < p0.nodes.length := by have := of_decide_eq_true h8; omega
  have hm := hs1 hlt1
  unfold Vy at hm
  refine Sk ?_
  refine Sq ?_
  refine Jn (ι := List Int) (fun (y3 : List Int) => Am [(1,pI p1),(5,ow 1184 y3.length),(9,.p (Bg p0.nodes)),(Ajp p0),(11,pI ((k1 : Nat) : Int))] [(1184,ob0 (roI y3))]) (fun y3 => (Ml n1) y3 = some RES) ?_ ?_
  ·intro y3 hm
   unfold Ml at hm
   refine RD hnt (nn 2 []) [] [(11,pI (w64 (((k1 : Nat) : Int) + 1)))] [] [] tv ?_
   exact jD y3 ⟨hlt1,hm⟩ (Conv.tp [(11,pI (w64 (((k1 : Nat) : Int) + 1)))] [] (by kernel_rfl) (.cons rfl (.of_eq (congrArg pI (Bl hlt1 hc1))) .nil) .nil)
  ·refine Bk ?_
   refine Sq (RD hnt (nn 4 []) [12] [(7,rr 1056)] [] [(1056,bx (pm (Ak (Uu p0 k1))))] (an (nn0 k1) (an (ltc hlt1) tv)) ?_)
   refine Sq (RD hnt (nn 4 []) [] [(18,pB ((Uu p0 k1).parent == p1))] [] [] tv ?_)
   refine Ag hm ?_ ?_
   ·intro h9 hm
    obtain ⟨g10,hm⟩ := go1 hm
    refine RN hnt (nn 6 []) [(1,pI p1),(5,ow 1184 (s1 ++ [(Uu p0 k1).id]).length),(9,.p (Bg p0.nodes)),(Ajp p0),(11,pI ((k1 : Nat) : Int))] [(1184,ob0 (roI (s1 ++ [(Uu p0 k1).id])))] [(5,ow 1184 (s1.length + 1))] [(1184,.row 1 (s1.length + 1) (Dw s1.length (elI s1) (cut 1 [vi (Uu p0 k1).id])))] (an (by omega : (s1.length + 1) * 8 ≤ 140737488355328) tv) (by kernel_rfl) (.cons rfl (MLe.ownLen (enc := Bw) (d := 0) (f := (Dw s1.length (elI s1) (cut 1 [vi (Uu p0 k1).id]))) (RowIs.cat RowIs.elems (RowIs.lit (enc := Bw) (d := 0) (n := 1) (f := (cut 1 [vi (Uu p0 k1).id])) [(Uu p0 k1).id] rfl (fun | 0,_ => rfl | n + 1,h => absurd h (by omega))))) .nil) (.cons rfl (BLe.typed (RowIs.cat RowIs.elems (RowIs.lit (enc := Bw) (d := 0) (n := 1) (f := (cut 1 [vi (Uu p0 k1).id])) [(Uu p0 k1).id] rfl (fun | 0,_ => rfl | n + 1,h => absurd h (by omega))))) .nil) ?_
    exact bD (s1 ++ [(Uu p0 k1).id]) hm .refl
   ·intro h9 hm
    refine Sk ?_
    exact bD s1 hm Conv.t0
 ·intro h8
  have hge1 : ¬ k1 < p0.nodes.length := by have := of_decide_eq_false h8; omega
  have hm := he1 hge1
  unfold Abh at hm
  refine DW.exit ?_
  refine Ar ?_
  refine Au ?_
  refine Ap ?_
  show DW _ _ _ _ _
  refine Sq (RK hnt (nn 2 []) [(4,ow 1184 s1.length)] [(1184,ob0 (roI s1))] tv ?_)
  obtain rfl := sj hm
  exact DW.ret (Ai [roI s1] [1184] (ow 0 s1.length))
abbrev o143 (ks : List Nat) (b : Bool) (RES : List Int) : Orc := .call 135 ks b (ow 0 RES.length) [] [roI RES]

abbrev c144e1 := ({ id := 0,parent := 0,name := ByteArray.empty,control := 0,kind := 0,owner := 0 } : Ah)
theorem AdG (p0 : List Ah) (p1 : Int) (p2 : Int) (RES : Nat × (List Ah)) (hm : Li p0 p1 p2 = some RES) : Spec Tryz.prog 136 [ow 0 p0.length,pI p1,pI p2] [Ac p0] (ow 0 RES.1) [Ac RES.2] [] := by
 unfold Li at hm
 refine SO Tryz.func136 rfl rfl [(0,ow 0 p0.length),(1,pI p1),(2,pI p2)] [(0,ob0 (Ac p0))] ?_
 intro cx hnt
 refine Sq (RD hnt (.no :: []) [] [] [] [] tv ?_)
 obtain ⟨g1,hm⟩ := go1 hm
 refine Sq (RD hnt (nn 6 []) [] [] [] [] (an g1.1 (an g1.2.1 (an g1.2.2.1 (an g1.2.2.2 tv)))) ?_)
 refine Sq (Sq (RD hnt (nn 3 []) [] [(16,pB (p1 == p2))] [] [] tv ?_))
 refine Ag hm ?_ ?_
 ·intro h2 hm
  refine Sq (RK hnt (nn 2 []) [(6,ow 0 p0.length)] [(0,ob0 (Ac p0))] tv ?_)
  obtain rfl := sj hm
  exact DW.ret (Ai [Ac p0] [] (ow 0 p0.length))
 ·intro h2 hm
  refine Sk ?_
  refine Sq (RD hnt (nn 3 []) [16] [(7,pI ((p0.length : Nat) : Int))] [] [] tv ?_)
  obtain ⟨g3,g4,g5,hm⟩ := go3 hm
  refine Sq (RN hnt (nn 8 []) [(0,ow 0 ((Int.toNat p1) + (Ci p0.length (Int.toNat p2)))),(7,pI ((p0.length : Nat) : Int))] [(0,ob0 (Ac (Ry p0 (0 + (Int.toNat p1)) (Ci p0.length (Int.toNat p2)) ((p0.drop (Int.toNat p2)).take (Ci p0.length (Int.toNat p2))))))] [] [(0,.row 6 p0.length (Oy (Ey p0) (0 + (Int.toNat p1)) (Ci p0.length (Int.toNat p2)) (shF (Int.toNat p2) (Ey p0))))] (an (by omega : (0 : Int) ≤ 0) (an (by omega : (0 : Int) ≤ p1) (an (by omega : p1 ≤ ((p0.length : Nat) : Int)) (an (by omega : (0 : Int) ≤ p2) (an (by omega : p2 ≤ ((p0.length : Nat) : Int)) (an (by omega : ((p0.length : Nat) : Int) ≤ ((p0.length : Nat) : Int)) (an g5.1 (an g5.2 tv)))))))) (by kernel_rfl) .nil (.cons rfl (BLe.typed (RowIs.over RowIs.elems (RowIs.sub RowIs.elems (by first | omega | (simp only [Vj,Vg] at *; omega))) (Nat.le_refl _) g5.1)) .nil) ?_)
  generalize (Ry p0 (0 + (Int.toNat p1)) (Ci p0.length (Int.toNat p2)) ((p0.drop (Int.toNat p2)).take (Ci p0.length (Int.toNat p2)))) = G1 at hm ⊢
  obtain ⟨g6,g7,hm⟩ := go2 hm
  refine Sq (RN hnt (nn 4 (pF :: .no :: [])) [(0,ow 0 ((Int.toNat p1) + (Ci p0.length (Int.toNat p2))))] [(0,ob0 (Ac (Tm G1 ((Int.toNat p1) + (Ci p0.length (Int.toNat p2))) (Ci p0.length ((Int.toNat p1) + (Ci p0.length (Int.toNat p2)))) (c144e1))))] [] [(0,.row 6 G1.length (Oy (Ey G1) ((Int.toNat p1) + (Ci p0.length (Int.toNat p2))) (Ci p0.length ((Int.toNat p1) + (Ci p0.length (Int.toNat p2)))) (fun _ => [vi 0,vi 0,vs ByteArray.empty,vi 0,vi 0,vi 0])))] (an g6.1 (an g6.2.1 (an g6.2.2 (an g7 tv)))) (by kernel_rfl) .nil (.cons rfl (BLe.typed (RowIs.fill RowIs.elems (c144e1) rfl (by first | exact g7 | omega))) .nil) ?_)
  refine Sq (RD hnt (nn 2 []) [0] [(6,ow 0 ((Int.toNat p1) + (Ci p0.length (Int.toNat p2))))] [] [] tv ?_)
  obtain rfl := sj hm
  exact DW.ret (Ai [Ac (Tm G1 ((Int.toNat p1) + (Ci p0.length (Int.toNat p2))) (Ci p0.length ((Int.toNat p1) + (Ci p0.length (Int.toNat p2)))) (c144e1))] [] (ow 0 ((Int.toNat p1) + (Ci p0.length (Int.toNat p2)))))
abbrev o144 (ks : List Nat) (b : Bool) (RES : Nat × (List Ah)) : Orc := .call 136 ks b (ow 0 RES.1) [Ac RES.2] []

abbrev AiC : Nat × Body := (1032,.box [.p (.sl .nil 0 0 (fun _ => [])),pI 0])
abbrev Aiw : Nat × Obj := (1032,bx [.p (Bg []),pI 0])
theorem Aiy (p0 : Af) (p1 : Int) (RES : Af × Int) (hm : Wo p0 p1 = some RES) : Spec Tryz.prog 97 [.p (.agg (Aj p0)),pI p1] [] (.p (.tup [.agg (Aj RES.1),vi RES.2])) [] [] := by
 unfold Wo at hm
 refine SO Tryz.func97 rfl rfl [(0,.p (.agg (Aj p0))),(1,pI p1)] [] ?_
 intro cx hnt
 refine Sq (RK hnt (nn 3 []) [(1,pI p1),(2,rr 1016),(4,rr 1032)] [(1016,bx (pm (Aj p0))),(1032,bx [.p (.sl .nil 0 0 (fun _ => [])),pI 0])] tv ?_)
 obtain ⟨r1,hr1,hm⟩ := bo hm
 refine Sq (RD hnt (nn 2 (o30 [] true r1 :: .no :: [])) [] [(6,pI r1)] [] [] (an (Fz p0 p1 r1 hr1) tv) ?_)
 refine Sq (Bk ?_)
 obtain ⟨r2,hr2,hm⟩ := bo hm
 refine Sq (RD hnt (.no :: o33 [] true r2 :: nn 2 []) [] [(11,pB (!r2))] [] [] (an (Ix p0 r2 hr2) tv) ?_)
 refine Ag hm ?_ ?_
 ·intro h3 hm
  refine Sq (RD hnt (nn 3 []) [1,2,6,11] [(5,pI 1)] [1016] [] tv ?_)
  refine DW.conv (τ := Am [(4,rr 1032),(5,pI 1)] [(Aiw)]) (Conv.tp [] [(AiC)] (by kernel_rfl) .nil (.cons rfl (.box (.cons MLe.nilL (.cons .rfl .nil))) .nil)) ?_
  obtain rfl := sj hm
  exact DW.ret (Ai [] [] (.p (.tup [.agg [Bg [],vi 0],vi 1])))
 ·intro h3 hm
  refine Sq (RD hnt (nn 3 []) [11] [(16,pB (decide (r1 < 0)))] [] [] tv ?_)
  refine Ag hm ?_ ?_
  ·intro h4 hm
   refine Sq (RD hnt (nn 3 []) [1,2,6,16] [(5,pI 4)] [1016] [] tv ?_)
   refine DW.conv (τ := Am [(4,rr 1032),(5,pI 4)] [(Aiw)]) (Conv.tp [] [(AiC)] (by kernel_rfl) .nil (.cons rfl (.box (.cons MLe.nilL (.cons .rfl .nil))) .nil)) ?_
   obtain rfl := sj hm
   exact DW.ret (Ai [] [] (.p (.tup [.agg [Bg [],vi 0],vi 4])))
  ·intro h4 hm
   refine Sq (RD hnt (nn 3 []) [16] [(20,pB (p1 == 1))] [] [] tv ?_)
   refine Ag hm ?_ ?_
   ·intro h5 hm
    refine Sq (RD hnt (nn 3 []) [1,2,6,20] [(5,pI 9)] [1016] [] tv ?_)
    refine DW.conv (τ := Am [(4,rr 1032),(5,pI 9)] [(Aiw)]) (Conv.tp [] [(AiC)] (by kernel_rfl) .nil (.cons rfl (.box (.cons MLe.nilL (.cons .rfl .nil))) .nil)) ?_
    obtain rfl := sj hm
    exact DW.ret (Ai [] [] (.p (.tup [.agg [Bg [],vi 0],vi 9])))
   ·intro h5 hm
    obtain ⟨r6,hr6,hm⟩ := bo hm
    refine Sq (RD hnt (nn 2 (o143 [] true r6 :: nn 3 [])) [1,20] [(24,pB (decide (((r6.length : Nat) : Int) > 0)))] [] [] (an (Afw p0 p1 r6 hr6) tv) ?_)
    refine Ag hm ?_ ?_
    ·intro h7 hm
     refine Sq (RD hnt (nn 3 []) [2,6,24] [(5,pI 6)] [1016] [] tv ?_)
     refine DW.conv (τ := Am [(4,rr 1032),(5,pI 6)] [(Aiw)]) (Conv.tp [] [(AiC)] (by kernel_rfl) .nil (.cons rfl (.box (.cons MLe.nilL (.cons .rfl .nil))) .nil)) ?_
     obtain rfl := sj hm
     exact DW.ret (Ai [] [] (.p (.tup [.agg [Bg [],vi 0],vi 6])))
    ·intro h7 hm
     refine Sk ?_
     refine DW.done ?_
     show DW _ _ _ _ _
     obtain ⟨r8,hr8,hm⟩ := bo hm
     refine Sq (RD hnt (.no :: o94 [] true r8 :: nn 2 []) [2,24] [(7,rr 1056)] [1016] [(1056,bx [ow 1256 r8.nodes.length,pI r8.next]),(1256,ob0 (Ac r8.nodes))] (an (AcS p0 r8 hr8) tv) ?_)
     obtain ⟨r9,hr9,hm⟩ := bo hm
     obtain ⟨g10,g11,hm⟩ := go2 hm
     refine Sq (RD hnt (nn 5 (o144 [1256] true r9 :: nn 2 [])) [6] [] [] [(1056,bx [ow 1256 r9.1,pI r8.next]),(1256,ob0 (Ac r9.2))] (an (AdG r8.nodes r1 (w64 (r1 + 1)) r9 hr9) (an (⟨rfl,g10⟩ : Body.same (Ac r8.nodes) (Ac r9.2)) tv)) ?_)
     refine Sq (RD hnt (nn 3 []) [7] [(5,pI 0)] [1056] [(1032,bx [ow 1256 r9.1,pI r8.next])] tv ?_)
     refine DW.conv (τ := Am [(4,rr 1032),(5,pI 0)] [(1032,bx [.p (Bg (r9.2.take r9.1)),pI r8.next])]) (Conv.trans (τ := Am [(4,rr 1032),(5,pI 0)] [(1032,bx [.p (.sl .unk 6 r9.1 (Ey r9.2)),pI r8.next])]) (Conv.frz [1256]) (Conv.tp [] [(1032,.box [.p (.sl .unk 6 r9.1 (Ey r9.2)),pI r8.next])] (by kernel_rfl) .nil (.cons rfl (.box (.cons (MLe.typed (RowIs.take RowIs.elems (by first | omega | (simp only [Vj,Vg] at *; omega)))) (.cons .rfl .nil))) .nil))) ?_
     obtain rfl := sj hm
     exact DW.ret (Ai [] [] (.p (.tup [.agg [Bg (r9.2.take r9.1),vi r8.next],vi 0])))
abbrev o142 (ks : List Nat) (b : Bool) (RES : Af × Int) : Orc := .call 97 ks b (.p (.tup [.agg (Aj RES.1),vi RES.2])) [] []

abbrev c141e1 : Nat × Body := (1032,.box [.p (.sl .nil 0 0 (fun _ => [])),pI 0,ow 100000 0,pI 0])
abbrev c141e2 : Nat × Obj := (1032,bx [.p (.sl .nil 0 0 (fun _ => [])),pI 0,ow 100000 0,pI 0])
abbrev c141e3 : Nat × Obj := (1032,bx [.p (Bg []),pI 0,ow 100000 0,pI 0])
theorem Ahc (p0 : Aa) (p1 : Int) (RES : Aa × Int) (hm : Se p0 p1 = some RES) : Spec Tryz.prog 54 [.p (.agg (Ab p0)),pI p1] [] (.tup [.agg [.p (Bg RES.1.tree.nodes),pI RES.1.tree.next,ow 0 RES.1.tasks.length,pI RES.1.next],pI RES.2]) [] [Ae RES.1.tasks] := by
 unfold Se at hm
 refine SO Tryz.func54 rfl rfl [(0,.p (.agg (Ab p0))),(1,pI p1)] [] ?_
 intro cx hnt
 refine Sq (RK hnt (nn 3 []) [(1,pI p1),(2,rr 1016),(4,rr 1032)] [(1016,bx (pm (Ab p0))),(1032,bx [.p (.sl .nil 0 0 (fun _ => [])),pI 0,.p (.sl .nil 0 0 (fun _ => [])),pI 0])] tv ?_)
 obtain ⟨r1,hr1,hm⟩ := bo hm
 refine Sq (Sq (RD hnt (.no :: o51 [] true r1 :: .no :: []) [] [(11,pB (!r1))] [] [] (an (Acq p0 r1 hr1) tv) ?_))
 refine Ag hm ?_ ?_
 ·intro h2 hm
  refine Sq (RD hnt (nn 3 []) [1,2,11] [(5,pI 1)] [1016] [] tv ?_)
  refine DW.conv (τ := Am [(4,rr 1032),(5,pI 1)] [(c141e3),(100000,ob0 (Ae []))]) (Conv.trans (τ := Am [(4,rr 1032),(5,pI 1)] [(c141e2),(100000,ob0 (Ae []))]) (Conv.ads [(.o 1032 2,100000,4,elems Ao Ax [])]) (Conv.tp [] [(c141e1)] (by kernel_rfl) .nil (.cons rfl (.box (.cons MLe.nilL (.cons .rfl (.cons .rfl (.cons .rfl .nil))))) .nil))) ?_
  obtain rfl := sj hm
  exact DW.ret (Ai [Ae []] [100000] (.tup [.agg [.p (Bg []),pI 0,ow 0 0,pI 0],pI 1]))
 ·intro h2 hm
  refine Sk ?_
  obtain ⟨r3,hr3,hm⟩ := bo hm
  refine Sq (RD hnt (nn 3 (o142 [] true r3 :: nn 6 [])) [11] [(6,rr 1048),(7,pI r3.2)] [] [(1048,bx (pm (Aj r3.1)))] (an (Aiy p0.tree p1 r3 hr3) tv) ?_)
  refine Sq (Sq (RD hnt (nn 2 []) [] [(21,pB (r3.2 != 0))] [] [] tv ?_))
  refine Ag hm ?_ ?_
  ·intro h4 hm
   refine Sq (RD hnt (nn 4 []) [1,2,6,7,21] [(5,pI r3.2)] [1016,1048] [] tv ?_)
   refine DW.conv (τ := Am [(4,rr 1032),(5,pI r3.2)] [(c141e3),(100000,ob0 (Ae []))]) (Conv.trans (τ := Am [(4,rr 1032),(5,pI r3.2)] [(c141e2),(100000,ob0 (Ae []))]) (Conv.ads [(.o 1032 2,100000,4,elems Ao Ax [])]) (Conv.tp [] [(c141e1)] (by kernel_rfl) .nil (.cons rfl (.box (.cons MLe.nilL (.cons .rfl (.cons .rfl (.cons .rfl .nil))))) .nil))) ?_
   obtain rfl := sj hm
   exact DW.ret (Ai [Ae []] [100000] (.tup [.agg [.p (Bg []),pI 0,ow 0 0,pI 0],pI r3.2]))
  ·intro h4 hm
   refine Sk ?_
   obtain ⟨r5,hr5,hm⟩ := bo hm
   refine Sq (Sq (RD hnt (nn 2 (o58 [] true r5 :: nn 2 [])) [1,7,21] [(28,pB (decide (((r5.length : Nat) : Int) > 0)))] [] [] (an (Nc p0 p1 r5 hr5) tv) ?_))
   refine Ag hm ?_ ?_
   ·intro h6 hm
    refine Sq (RD hnt (nn 3 []) [2,6,28] [(5,pI 6)] [1016,1048] [] tv ?_)
    refine DW.conv (τ := Am [(4,rr 1032),(5,pI 6)] [(c141e3),(100000,ob0 (Ae []))]) (Conv.trans (τ := Am [(4,rr 1032),(5,pI 6)] [(c141e2),(100000,ob0 (Ae []))]) (Conv.ads [(.o 1032 2,100000,4,elems Ao Ax [])]) (Conv.tp [] [(c141e1)] (by kernel_rfl) .nil (.cons rfl (.box (.cons MLe.nilL (.cons .rfl (.cons .rfl (.cons .rfl .nil))))) .nil))) ?_
    obtain rfl := sj hm
    exact DW.ret (Ai [Ae []] [100000] (.tup [.agg [.p (Bg []),pI 0,ow 0 0,pI 0],pI 6]))
   ·intro h6 hm
    refine Sk ?_
    obtain ⟨r7,hr7,hm⟩ := bo hm
    refine Sq (RD hnt (.no :: o95 [] true r7 :: nn 2 []) [2,28] [(8,rr 1064)] [1016] [(1064,bx [ow 1248 r7.tree.nodes.length,pI r7.tree.next,ow 1249 r7.tasks.length,pI r7.next]),(1248,ob0 (Ac r7.tree.nodes)),(1249,ob0 (Ae r7.tasks))] (an (Ou p0 r7 hr7) tv) ?_)
    refine Sq (RD hnt (nn 3 []) [6] [] [1048,1248] [(1064,bx [.p (Bg r3.1.nodes),pI r3.1.next,ow 1249 r7.tasks.length,pI r7.next])] tv ?_)
    refine Sq (RD hnt (nn 3 []) [8] [(5,pI 0)] [1064] [(1032,bx [.p (Bg r3.1.nodes),pI r3.1.next,ow 1249 r7.tasks.length,pI r7.next])] tv ?_)
    obtain rfl := sj hm
    exact DW.ret (Ai [Ae r7.tasks] [1249] (.tup [.agg [.p (Bg r3.1.nodes),pI r3.1.next,ow 0 r7.tasks.length,pI r7.next],pI 0]))
abbrev o141 (ks : List Nat) (b : Bool) (RES : Aa × Int) : Orc := .call 54 ks b (.tup [.agg [.p (Bg RES.1.tree.nodes),pI RES.1.tree.next,ow 0 RES.1.tasks.length,pI RES.1.next],pI RES.2]) [] [Ae RES.1.tasks]

theorem Afs (p0 : Aa) (p1 : Int) (p2 : Int) (RES : Aa × Int) (hm : Jm p0 p1 p2 = some RES) : Spec Tryz.prog 17 [.p (.agg (Ab p0)),pI p1,pI p2] [] (.tup [.agg [.p (Bg RES.1.tree.nodes),pI RES.1.tree.next,ow 0 RES.1.tasks.length,pI RES.1.next],pI RES.2]) [] [Ae RES.1.tasks] := by
 unfold Jm at hm
 refine SO Tryz.func17 rfl rfl [(0,.p (.agg (Ab p0))),(1,pI p1),(2,pI p2)] [] ?_
 intro cx hnt
 refine Sq (RD hnt (nn 3 []) [0] [(3,rr 1024),(6,rr 1048)] [] [(1024,bx (pm (Ab p0))),(1048,bx [.p (.sl .nil 0 0 (fun _ => [])),pI 0,.p (.sl .nil 0 0 (fun _ => [])),pI 0])] tv ?_)
 obtain ⟨r1,hr1,hm⟩ := bo hm
 refine Sq (Sq (RD hnt (nn 3 (o140 [] true r1 :: .no :: [])) [1] [(8,pI r1)] [] [] (an (Pt p0 p1 p2 r1 hr1) tv) ?_))
 refine Sq (RD hnt (nn 2 []) [] [(14,pB (r1 != 0))] [] [] tv ?_)
 refine Ag hm ?_ ?_
 ·intro h2 hm
  obtain ⟨r3,hr3,hm⟩ := bo hm
  refine Sq (RK hnt (.no :: o100 [] true r3 :: nn 4 []) [(6,rr 1048),(7,pI r3.2)] [(1048,bx [ow 1128 r3.1.tree.nodes.length,pI r3.1.tree.next,ow 1129 r3.1.tasks.length,pI r3.1.next]),(1128,ob0 (Ac r3.1.tree.nodes)),(1129,ob0 (Ae r3.1.tasks))] (an (Eb r1 r3 hr3) tv) ?_)
  obtain rfl := sj hm
  exact DW.ret (Ai [Ae r3.1.tasks] [1129] (.tup [.agg [.p (Bg r3.1.tree.nodes),pI r3.1.tree.next,ow 0 r3.1.tasks.length,pI r3.1.next],pI r3.2]))
 ·intro h2 hm
  refine Sk ?_
  obtain ⟨r4,hr4,hm⟩ := bo hm
  refine Sq (RK hnt (nn 2 (o141 [] true r4 :: nn 4 [])) [(6,rr 1048),(7,pI r4.2)] [(1048,bx [.p (Bg r4.1.tree.nodes),pI r4.1.tree.next,ow 1168 r4.1.tasks.length,pI r4.1.next]),(1168,ob0 (Ae r4.1.tasks))] (an (Ahc p0 p2 r4 hr4) tv) ?_)
  obtain rfl := sj hm
  exact DW.ret (Ai [Ae r4.1.tasks] [1168] (.tup [.agg [.p (Bg r4.1.tree.nodes),pI r4.1.tree.next,ow 0 r4.1.tasks.length,pI r4.1.next],pI r4.2]))
abbrev o139 (ks : List Nat) (b : Bool) (RES : Aa × Int) : Orc := .call 17 ks b (.tup [.agg [.p (Bg RES.1.tree.nodes),pI RES.1.tree.next,ow 0 RES.1.tasks.length,pI RES.1.next],pI RES.2]) [] [Ae RES.1.tasks]

abbrev c146e1 : Nat × Obj := (1032,bx [ow 100000 0,pI 0,ow 100001 0,pI 0])
theorem Ajb (p0 : Aa) (p1 : Int) (RES : Aa × Int) (hm : Wm p0 p1 = some RES) : Spec Tryz.prog 87 [.p (.agg (Ab p0)),pI p1] [] (.tup [.agg [ow 0 RES.1.tree.nodes.length,pI RES.1.tree.next,ow 1 RES.1.tasks.length,pI RES.1.next],pI RES.2]) [] [Ac RES.1.tree.nodes,Ae RES.1.tasks] := by
 unfold Wm at hm
 refine SO Tryz.func87 rfl rfl [(0,.p (.agg (Ab p0))),(1,pI p1)] [] ?_
 intro cx hnt
 refine Sq (RK hnt (nn 3 []) [(1,pI p1),(2,rr 1016),(4,rr 1032)] [(1016,bx (pm (Ab p0))),(1032,bx [.p (.sl .nil 0 0 (fun _ => [])),pI 0,.p (.sl .nil 0 0 (fun _ => [])),pI 0])] tv ?_)
 obtain ⟨r1,hr1,hm⟩ := bo hm
 refine Sq (Sq (RD hnt (.no :: o9 [] true r1 :: .no :: []) [] [(11,pB (!r1))] [] [] (an (Fc p0 r1 hr1) tv) ?_))
 refine Ag hm ?_ ?_
 ·intro h2 hm
  refine Sq (RD hnt (nn 3 []) [1,2,11] [(5,pI 1)] [1016] [] tv ?_)
  refine DW.cv [] [] [] [(c146e1),(100000,ob0 (Ac [])),(100001,ob0 (Ae []))] (Conv.ads [(.o 1032 0,100000,6,elems Ak As []),(.o 1032 2,100001,4,elems Ao Ax [])]) ?_
  obtain rfl := sj hm
  exact DW.ret (Ai [Ac [],Ae []] [100000,100001] (.tup [.agg [ow 0 0,pI 0,ow 1 0,pI 0],pI 1]))
 ·intro h2 hm
  refine Sk ?_
  obtain ⟨r3,hr3,hm⟩ := bo hm
  refine Sq (RD hnt (nn 3 (o117 [] true r3 :: nn 6 [])) [11] [(6,rr 1048),(7,pI r3.2)] [] [(1048,bx [ow 1136 r3.1.nodes.length,pI r3.1.next]),(1136,ob0 (Ac r3.1.nodes))] (an (Adt p0.tree p1 r3 hr3) tv) ?_)
  refine Sq (Sq (RD hnt (nn 2 []) [] [(21,pB (r3.2 != 0))] [] [] tv ?_))
  refine Ag hm ?_ ?_
  ·intro h4 hm
   refine Sq (RD hnt (nn 4 []) [1,2,6,7,21] [(5,pI r3.2)] [1016,1048,1136] [] tv ?_)
   refine DW.cv [] [] [] [(c146e1),(100000,ob0 (Ac [])),(100001,ob0 (Ae []))] (Conv.ads [(.o 1032 0,100000,6,elems Ak As []),(.o 1032 2,100001,4,elems Ao Ax [])]) ?_
   obtain rfl := sj hm
   exact DW.ret (Ai [Ac [],Ae []] [100000,100001] (.tup [.agg [ow 0 0,pI 0,ow 1 0,pI 0],pI r3.2]))
  ·intro h4 hm
   refine Sk ?_
   obtain ⟨r5,hr5,hm⟩ := bo hm
   refine Sq (Sq (RD hnt (nn 2 (o19 [] true r5 :: nn 2 [])) [1,7,21] [(28,pB (decide (((r5.length : Nat) : Int) > 0)))] [] [] (an (Nd p0 p1 r5 hr5) tv) ?_))
   refine Ag hm ?_ ?_
   ·intro h6 hm
    refine Sq (RD hnt (nn 3 []) [2,6,28] [(5,pI 6)] [1016,1048,1136] [] tv ?_)
    refine DW.cv [] [] [] [(c146e1),(100000,ob0 (Ac [])),(100001,ob0 (Ae []))] (Conv.ads [(.o 1032 0,100000,6,elems Ak As []),(.o 1032 2,100001,4,elems Ao Ax [])]) ?_
    obtain rfl := sj hm
    exact DW.ret (Ai [Ac [],Ae []] [100000,100001] (.tup [.agg [ow 0 0,pI 0,ow 1 0,pI 0],pI 6]))
   ·intro h6 hm
    refine Sk ?_
    obtain ⟨r7,hr7,hm⟩ := bo hm
    refine Sq (RD hnt (.no :: o28 [] true r7 :: nn 2 []) [2,28] [(8,rr 1064)] [1016] [(1064,bx [ow 1248 r7.tree.nodes.length,pI r7.tree.next,ow 1249 r7.tasks.length,pI r7.next]),(1248,ob0 (Ac r7.tree.nodes)),(1249,ob0 (Ae r7.tasks))] (an (Mb p0 r7 hr7) tv) ?_)
    refine Sq (RD hnt (nn 3 []) [6] [] [1048,1248] [(1064,bx [ow 1136 r3.1.nodes.length,pI r3.1.next,ow 1249 r7.tasks.length,pI r7.next])] tv ?_)
    refine Sq (RD hnt (nn 3 []) [8] [(5,pI 0)] [1064] [(1032,bx [ow 1136 r3.1.nodes.length,pI r3.1.next,ow 1249 r7.tasks.length,pI r7.next])] tv ?_)
    obtain rfl := sj hm
    exact DW.ret (Ai [Ac r3.1.nodes,Ae r7.tasks] [1136,1249] (.tup [.agg [ow 0 r3.1.nodes.length,pI r3.1.next,ow 1 r7.tasks.length,pI r7.next],pI 0]))
abbrev o146 (ks : List Nat) (b : Bool) (RES : Aa × Int) : Orc := .call 87 ks b (.tup [.agg [ow 0 RES.1.tree.nodes.length,pI RES.1.tree.next,ow 1 RES.1.tasks.length,pI RES.1.next],pI RES.2]) [] [Ac RES.1.tree.nodes,Ae RES.1.tasks]

theorem Ajf (p0 : Aa) (p1 : Int) (p2 : Int) (RES : Aa × Int) (hm : Qa p0 p1 p2 = some RES) : Spec Tryz.prog 41 [.p (.agg (Ab p0)),pI p1,pI p2] [] (.tup [.agg [ow 0 RES.1.tree.nodes.length,pI RES.1.tree.next,ow 1 RES.1.tasks.length,pI RES.1.next],pI RES.2]) [] [Ac RES.1.tree.nodes,Ae RES.1.tasks] := by
 unfold Qa at hm
 refine SO Tryz.func41 rfl rfl [(0,.p (.agg (Ab p0))),(1,pI p1),(2,pI p2)] [] ?_
 intro cx hnt
 refine Sq (RD hnt (nn 3 []) [0] [(3,rr 1024),(6,rr 1048)] [] [(1024,bx (pm (Ab p0))),(1048,bx [.p (.sl .nil 0 0 (fun _ => [])),pI 0,.p (.sl .nil 0 0 (fun _ => [])),pI 0])] tv ?_)
 obtain ⟨r1,hr1,hm⟩ := bo hm
 obtain ⟨r2,hr2,hm⟩ := bo hm
 refine Sq (Sq (RD hnt (nn 7 (o136 [] true r1 :: o138 [] true r2 :: .no :: [])) [1] [(8,pI r2)] [] [] (an (Oq p0.tree p1 p2 r1 hr1) (an (Nl p0 p1 p2 r1 r2 hr2) tv)) ?_))
 refine Sq (RD hnt (nn 2 []) [] [(19,pB (r2 != 0))] [] [] tv ?_)
 refine Ag hm ?_ ?_
 ·intro h3 hm
  refine Sq (RD hnt (nn 4 []) [2,3,8,19] [(7,pI r2)] [1024] [] tv ?_)
  refine DW.cv [] [] [] [(1048,bx [ow 100000 0,pI 0,ow 100001 0,pI 0]),(100000,ob0 (Ac [])),(100001,ob0 (Ae []))] (Conv.ads [(.o 1048 0,100000,6,elems Ak As []),(.o 1048 2,100001,4,elems Ao Ax [])]) ?_
  obtain rfl := sj hm
  exact DW.ret (Ai [Ac [],Ae []] [100000,100001] (.tup [.agg [ow 0 0,pI 0,ow 1 0,pI 0],pI r2]))
 ·intro h3 hm
  refine Sk ?_
  obtain ⟨r4,hr4,hm⟩ := bo hm
  refine Sq (RK hnt (nn 2 (o146 [] true r4 :: nn 4 [])) [(6,rr 1048),(7,pI r4.2)] [(1048,bx [ow 1192 r4.1.tree.nodes.length,pI r4.1.tree.next,ow 1193 r4.1.tasks.length,pI r4.1.next]),(1192,ob0 (Ac r4.1.tree.nodes)),(1193,ob0 (Ae r4.1.tasks))] (an (Ajb p0 p2 r4 hr4) tv) ?_)
  obtain rfl := sj hm
  exact DW.ret (Ai [Ac r4.1.tree.nodes,Ae r4.1.tasks] [1192,1193] (.tup [.agg [ow 0 r4.1.tree.nodes.length,pI r4.1.tree.next,ow 1 r4.1.tasks.length,pI r4.1.next],pI r4.2]))
abbrev o145 (ks : List Nat) (b : Bool) (RES : Aa × Int) : Orc := .call 41 ks b (.tup [.agg [ow 0 RES.1.tree.nodes.length,pI RES.1.tree.next,ow 1 RES.1.tasks.length,pI RES.1.next],pI RES.2]) [] [Ac RES.1.tree.nodes,Ae RES.1.tasks]

theorem Oz (p0 : Int) (RES : Bool) (hm : Sx p0 = some RES) : Spec Tryz.prog 138 [pI p0] [] (pB RES) [] [] := by
 unfold Sx at hm
 refine SO Tryz.func138 rfl rfl [(0,pI p0)] [] ?_
 intro cx hnt
 refine Sq (RK hnt (.no :: []) [(0,pI p0)] [] tv ?_)
 refine Sq (DW.regJ (sl2 := [(2,pB ((decide (p0 ≥ 0)) && ((Az .i64 p0 31) == 0)))]) (ob2 := []) ?_ ?_)
 ·rcases bt (decide (p0 ≥ 0)) with h1 | h1
  ·exact RT hnt (nn 6 (pT :: .no :: [])) [(2,pB ((Az .i64 p0 31) == 0))] (an4 h1 tv) (by kernel_rfl) (.cons rfl (.of_eq (by rw [h1]; try rfl)) .nil)
  ·exact RT hnt (nn 3 (sk 3 (pF :: .no :: []))) [(2,pB false)] (an4 h1 tv) (by kernel_rfl) (.cons rfl (.of_eq (by rw [h1]; try rfl)) .nil)
 ·refine DW.ret ?_
  obtain rfl := sj hm
  exact Ai [] [] (pB ((decide (p0 ≥ 0)) && ((Az .i64 p0 31) == 0)))
abbrev o150 (ks : List Nat) (b : Bool) (RES : Bool) : Orc := .call 138 ks b (pB RES) [] []

abbrev c149e1 (r42 : Aa) (r8 : Int) (p0 : Aa) (p3 : Int) (p2 : Int) := ({ id := (r42.tree.nodes.getD (Int.toNat r8) As).id,parent := (r42.tree.nodes.getD (Int.toNat r8) As).parent,name := (r42.tree.nodes.getD (Int.toNat r8) As).name,control := (kor .i64 (Az .i64 (p0.tree.nodes.getD (Int.toNat r8) As).control p3) p2),kind := (r42.tree.nodes.getD (Int.toNat r8) As).kind,owner := (r42.tree.nodes.getD (Int.toNat r8) As).owner } : Ah)
abbrev Aer : Nat × Obj := (1064,bx [.p (.sl .nil 0 0 (fun _ => [])),pI 0,.p (.sl .nil 0 0 (fun _ => [])),pI 0])
abbrev c149e3 (r42 : Aa) (r8 : Int) (p0 : Aa) (p3 : Int) (p2 : Int) := (Bs (Ey r42.tree.nodes) (Int.toNat r8) [vi (r42.tree.nodes.getD (Int.toNat r8) As).id,vi (r42.tree.nodes.getD (Int.toNat r8) As).parent,vs (r42.tree.nodes.getD (Int.toNat r8) As).name,vi (kor .i64 (Az .i64 (p0.tree.nodes.getD (Int.toNat r8) As).control p3) p2),vi (r42.tree.nodes.getD (Int.toNat r8) As).kind,vi (r42.tree.nodes.getD (Int.toNat r8) As).owner])
abbrev AfF : Nat × Obj := (1064,bx [ow 100000 0,pI 0,ow 100001 0,pI 0])
abbrev Aay (p0 : Aa) (r8 : Int) := (p0.tree.nodes.getD (Int.toNat r8) As)
abbrev AgG (p0 : Aa) (k1 : Nat) := (p0.tree.nodes.getD k1 (default : Ah))
abbrev Agp (p0 : Aa) : Nat × Obj := (1032,bx (pm (Ab p0)))
abbrev AfL (r42 : Aa) (r8 : Int) (p0 : Aa) (p3 : Int) (p2 : Int) := (r42.tree.nodes.set (Int.toNat r8) (c149e1 r42 r8 p0 p3 p2))
theorem Ahp (p0 : Aa) (p1 : Int) (p2 : Int) (p3 : Int) (RES : Aa × Int) (hm : Sg p0 p1 p2 p3 = some RES) : Spec Tryz.prog 100 [.p (.agg (Ab p0)),pI p1,pI p2,pI p3] [] (.tup [.agg [ow 0 RES.1.tree.nodes.length,pI RES.1.tree.next,ow 1 RES.1.tasks.length,pI RES.1.next],pI RES.2]) [] [Ac RES.1.tree.nodes,Ae RES.1.tasks] := by
 unfold Sg at hm
 refine SO Tryz.func100 rfl rfl [(0,.p (.agg (Ab p0))),(1,pI p1),(2,pI p2),(3,pI p3)] [] ?_
 intro cx hnt
 refine Sq (RD hnt (nn 3 []) [0] [(4,rr 1032),(8,rr 1064)] [] [(Agp p0),(Aer)] tv ?_)
 obtain ⟨r1,hr1,hm⟩ := bo hm
 refine Sq (Sq ?_)
 refine Jn (ι := Bool) (fun (y1 : Bool) => Am [(1,pI p1),(2,pI p2),(3,pI p3),(4,rr 1032),(8,rr 1064),(34,pB y1)] [(Agp p0),(Aer)]) (fun y1 => (Jj p0 p1 p2 p3) y1 = some RES) ?_ ?_
 ·intro y1 hm
  unfold Jj at hm
  refine Ag hm ?_ ?_
  ·intro h7 hm
   refine Sq (RD hnt (nn 3 []) [1,2,3,4,34] [(9,pI 1)] [1032] [] tv ?_)
   refine DW.cv [] [] [] [(AfF),(100000,ob0 (Ac [])),(100001,ob0 (Ae []))] (Conv.ads [(.o 1064 0,100000,6,elems Ak As []),(.o 1064 2,100001,4,elems Ao Ax [])]) ?_
   obtain rfl := sj hm
   exact DW.ret (Ai [Ac [],Ae []] [100000,100001] (.tup [.agg [ow 0 0,pI 0,ow 1 0,pI 0],pI 1]))
  ·intro h7 hm
   refine Sk ?_
   obtain ⟨r8,hr8,hm⟩ := bo hm
   refine Sq (RD hnt (nn 3 (o30 [] true r8 :: .no :: [])) [34] [(10,pI r8)] [] [] (an (Fz p0.tree p1 r8 hr8) tv) ?_)
   refine Sq (Sq (RD hnt (nn 2 []) [] [(41,pB (decide (r8 < 0)))] [] [] tv ?_))
   refine Ag hm ?_ ?_
   ·intro h9 hm
    refine Sq (RD hnt (nn 3 []) [1,2,3,4,10,41] [(9,pI 4)] [1032] [] tv ?_)
    refine DW.cv [] [] [] [(AfF),(100000,ob0 (Ac [])),(100001,ob0 (Ae []))] (Conv.ads [(.o 1064 0,100000,6,elems Ak As []),(.o 1064 2,100001,4,elems Ao Ax [])]) ?_
    obtain rfl := sj hm
    exact DW.ret (Ai [Ac [],Ae []] [100000,100001] (.tup [.agg [ow 0 0,pI 0,ow 1 0,pI 0],pI 4]))
   ·intro h9 hm
    refine Sk ?_
    obtain ⟨g10,hm⟩ := go1 hm
    refine Sq (RD hnt (nn 8 []) [41] [(11,rr 1088)] [] [(1088,bx (pm (Ak (Aay p0 r8))))] (an g10.1 (an g10.2 tv)) ?_)
    obtain ⟨r11,hr11,hm⟩ := bo hm
    refine Sq (Sq (RD hnt (nn 4 (o57 [] true r11 :: nn 2 [])) [] [(55,pB ((Az .i64 p2 r11) != 0))] [] [] (an (Acr p0.tree (Aay p0 r8) r11 hr11) tv) ?_))
    refine Ag hm ?_ ?_
    ·intro h12 hm
     refine Sq (RD hnt (nn 3 []) [1,2,3,4,10,11,55] [(9,pI 9)] [1032,1088] [] tv ?_)
     refine DW.cv [] [] [] [(AfF),(100000,ob0 (Ac [])),(100001,ob0 (Ae []))] (Conv.ads [(.o 1064 0,100000,6,elems Ak As []),(.o 1064 2,100001,4,elems Ao Ax [])]) ?_
     obtain rfl := sj hm
     exact DW.ret (Ai [Ac [],Ae []] [100000,100001] (.tup [.agg [ow 0 0,pI 0,ow 1 0,pI 0],pI 9]))
    ·intro h12 hm
     refine Sk ?_
     refine Sq (Sq (RD hnt (nn 5 []) [55] [(59,.p (Bg p0.tree.nodes)),(60,pI ((p0.tree.nodes.length : Nat) : Int)),(61,pI 0)] [] [] tv ?_))
     refine Bk ?_
     obtain ⟨hc1,hm⟩ := go1 hm
     refine DW.rangeO (fun (k1 : Nat) (s1 : Unit) => Am [(1,pI p1),(2,pI p2),(3,pI p3),(4,rr 1032),(8,rr 1064),(10,pI r8),(11,rr 1088),(59,.p (Bg p0.tree.nodes)),(60,pI ((p0.tree.nodes.length : Nat) : Int)),(61,pI ((k1 : Nat) : Int))] [(Agp p0),(Aer),(1088,bx (pm (Ak (Aay p0 r8))))]) As hm Conv.eqK ?_
     intro k1 s1 n1 hk1 hs1 he1
     refine Sq (RD hnt (.no :: []) [] [(62,pB (decide (((k1 : Nat) : Int) < ((p0.tree.nodes.length : Nat) : Int))))] [] [] tv ?_)
     refine Sq (Bx (decide (((k1 : Nat) : Int) < ((p0.tree.nodes.length : Nat) : Int))) ?_ ?_)
     ·intro h35
      have hlt1 : k1 < p0.tree.nodes.length := by have := of_decide_eq_true h35; omega
      have hm := hs1 hlt1
      unfold Adk at hm
      refine Sk ?_
      refine Sq (Bk ?_)
      refine Sq (RD hnt (nn 4 []) [62] [(13,rr 1104)] [] [(1104,bx (pm (Ak (AgG p0 k1))))] (an (nn0 k1) (an (ltc hlt1) tv)) ?_)
      refine Sq (DW.regJ (sl2 := [(1,pI p1),(2,pI p2),(3,pI p3),(4,rr 1032),(8,rr 1064),(10,pI r8),(11,rr 1088),(59,.p (Bg p0.tree.nodes)),(60,pI ((p0.tree.nodes.length : Nat) : Int)),(61,pI ((k1 : Nat) : Int)),(75,pB (((AgG p0 k1).parent == p1) && ((kand .i64 (AgG p0 k1).control p3) != 0)))]) (ob2 := [(Agp p0),(Aer),(1088,bx (pm (Ak (Aay p0 r8))))]) ?_ ?_)
      ·rcases bt ((AgG p0 k1).parent == p1) with h36 | h36
       ·exact RT hnt (nn 10 (pT :: [])) [(75,pB ((kand .i64 (AgG p0 k1).control p3) != 0))] (an6 h36 tv) (by kernel_rfl) (.cons rfl (.of_eq (by rw [h36]; try rfl)) .nil)
       ·exact RT hnt (nn 5 (sk 5 (pF :: []))) [(75,pB false)] (an6 h36 tv) (by kernel_rfl) (.cons rfl (.of_eq (by rw [h36]; try rfl)) .nil)
      ·refine Ag hm ?_ ?_
       ·intro h37 hm
        refine Sq (RD hnt (nn 3 []) [1,2,3,4,10,11,59,60,61,75] [(9,pI 9)] [1032,1088] [] tv ?_)
        refine DW.cv [] [] [] [(AfF),(100000,ob0 (Ac [])),(100001,ob0 (Ae []))] (Conv.ads [(.o 1064 0,100000,6,elems Ak As []),(.o 1064 2,100001,4,elems Ao Ax [])]) ?_
        obtain rfl := sj hm
        exact DW.ret (Ai [Ac [],Ae []] [100000,100001] (.tup [.agg [ow 0 0,pI 0,ow 1 0,pI 0],pI 9]))
       ·intro h37 hm
        refine Sk ?_
        refine DW.done ?_
        show DW _ _ _ _ _
        refine RD hnt (nn 2 []) [75] [(61,pI (w64 (((k1 : Nat) : Int) + 1)))] [] [] tv ?_
        exact jD () ⟨hlt1,hm⟩ (Conv.tp [(61,pI (w64 (((k1 : Nat) : Int) + 1)))] [] (by kernel_rfl) (.cons rfl (.of_eq (congrArg pI (Bl hlt1 hc1))) .nil) .nil)
     ·intro h35
      have hge1 : ¬ k1 < p0.tree.nodes.length := by have := of_decide_eq_false h35; omega
      have hm := he1 hge1
      unfold Tv at hm
      refine DW.exit ?_
      refine Ar ?_
      refine Au ?_
      refine Ap ?_
      show DW _ _ _ _ _
      refine Sq (RD hnt (nn 7 []) [2,3,59,60,61,62] [(14,pI (kor .i64 (Az .i64 (Aay p0 r8).control p3) p2))] [] [] tv ?_)
      refine Sq (Sq ?_)
      refine Jn (ι := Bool) (fun (y4 : Bool) => Am [(4,rr 1032),(8,rr 1064),(10,pI r8),(14,pI (kor .i64 (Az .i64 (Aay p0 r8).control p3) p2)),(100,pB y4)] [(Agp p0),(Aer)]) (fun y4 => (Jx p0 p2 p3 r8) y4 = some RES) ?_ ?_
      ·intro y4 hm
       unfold Jx at hm
       refine Ag hm ?_ ?_
       ·intro h41 hm
        refine Sq (RD hnt (nn 3 []) [4,10,14,100] [(9,pI 6)] [1032] [] tv ?_)
        refine DW.cv [] [] [] [(AfF),(100000,ob0 (Ac [])),(100001,ob0 (Ae []))] (Conv.ads [(.o 1064 0,100000,6,elems Ak As []),(.o 1064 2,100001,4,elems Ao Ax [])]) ?_
        obtain rfl := sj hm
        exact DW.ret (Ai [Ac [],Ae []] [100000,100001] (.tup [.agg [ow 0 0,pI 0,ow 1 0,pI 0],pI 6]))
       ·intro h41 hm
        refine Sk ?_
        obtain ⟨r42,hr42,hm⟩ := bo hm
        refine Sq (RD hnt (.no :: o95 [] true r42 :: nn 2 []) [4,100] [(15,rr 1120)] [1032] [(1120,bx [ow 1824 r42.tree.nodes.length,pI r42.tree.next,ow 1825 r42.tasks.length,pI r42.next]),(1824,ob0 (Ac r42.tree.nodes)),(1825,ob0 (Ae r42.tasks))] (an (Ou p0 r42 hr42) tv) ?_)
        obtain ⟨g43,g44,hm⟩ := go2 hm
        refine Sq (RN hnt (nn 8 []) [(8,rr 1064),(15,rr 1120)] [(Aer),(1120,bx [ow 1824 (AfL r42 r8 p0 p3 p2).length,pI r42.tree.next,ow 1825 r42.tasks.length,pI r42.next]),(1824,ob0 (Ac (AfL r42 r8 p0 p3 p2))),(1825,ob0 (Ae r42.tasks))] [] [(1120,.box [ow 1824 r42.tree.nodes.length,pI r42.tree.next,ow 1825 r42.tasks.length,pI r42.next]),(1824,.row 6 r42.tree.nodes.length (c149e3 r42 r8 p0 p3 p2))] (an g43.1 (an g43.2 (an g44 tv))) (by kernel_rfl) .nil (.cons rfl (.box (.cons (MLe.ownLen (enc := Ak) (d := As) (f := (c149e3 r42 r8 p0 p3 p2)) (RowIs.upd RowIs.elems (c149e1 r42 r8 p0 p3 p2) rfl)) (.cons .rfl (.cons .rfl (.cons .rfl .nil))))) (.cons rfl (BLe.typed (RowIs.upd RowIs.elems (c149e1 r42 r8 p0 p3 p2) rfl)) .nil)) ?_)
        refine Sq (RD hnt (nn 3 []) [15] [(9,pI 0)] [1120] [(1064,bx [ow 1824 (AfL r42 r8 p0 p3 p2).length,pI r42.tree.next,ow 1825 r42.tasks.length,pI r42.next])] tv ?_)
        obtain rfl := sj hm
        exact DW.ret (Ai [Ac (AfL r42 r8 p0 p3 p2),Ae r42.tasks] [1824,1825] (.tup [.agg [ow 0 (AfL r42 r8 p0 p3 p2).length,pI r42.tree.next,ow 1 r42.tasks.length,pI r42.next],pI 0]))
      ·rcases bt ((kand .i64 (Az .i64 (kor .i64 (Az .i64 (Aay p0 r8).control p3) p2) (Aay p0 r8).control) 6) != 0) with h38 | h38
       ·replace hm := Ba h38 hm
        rcases bt (p1 != 1) with h39 | h39
        ·replace hm := Ba h39 hm
         obtain ⟨r40,hr40,hm⟩ := bo hm
         refine RD hnt (nn 9 (pT :: nn 3 (o58 [] true r40 :: nn 2 (pT :: [])))) [1,11] [(100,pB (decide (((r40.length : Nat) : Int) > 0)))] [1088] [] (an3 h38 (an3 h39 (an (Nc p0 p1 r40 hr40) (an3 h39 tv)))) ?_
         exact jD (decide (((r40.length : Nat) : Int) > 0)) hm Conv.eqK
        ·replace hm := Bb h39 hm
         refine RD hnt (nn 9 (pT :: .no :: sk 5 (pF :: []))) [1,11] [(100,pB false)] [1088] [] (an3 h38 (an6 h39 tv)) ?_
         exact jD false hm Conv.eqK
       ·replace hm := Bb h38 hm
        refine RD hnt (nn 7 (sk 2 (pF :: .no :: sk 5 (pF :: [])))) [1,11] [(100,pB false)] [1088] [] (an3 h38 (an6 ff tv)) ?_
        exact jD false hm Conv.eqK
 ·rcases bt (!r1) with h2 | h2
  ·replace hm := Ba h2 hm
   refine RD hnt (.no :: o50 [] true r1 :: nn 2 (sk 3 (pT :: .no :: sk 3 (pT :: .no :: sk 4 (pT :: []))))) [] [(34,pB true)] [] [] (an (Mn p0 r1 hr1) (an4 h2 (an3 tt (an6 tt tv)))) ?_
   exact jD true hm Conv.eqK
  ·replace hm := Bb h2 hm
   obtain ⟨r3,hr3,hm⟩ := bo hm
   rcases bt (!r3) with h4 | h4
   ·replace hm := Ba h4 hm
    refine RD hnt (.no :: o50 [] true r1 :: nn 3 (o150 [] true r3 :: .no :: pF :: .no :: sk 3 (pT :: .no :: sk 4 (pT :: [])))) [] [(34,pB true)] [] [] (an (Mn p0 r1 hr1) (an2 h2 (an (Oz p2 r3 hr3) (an2 h2 (an4 h4 (an5 tt tv)))))) ?_
    exact jD true hm Conv.eqK
   ·replace hm := Bb h4 hm
    obtain ⟨r5,hr5,hm⟩ := bo hm
    rcases bt (!r5) with h6 | h6
    ·replace hm := Ba h6 hm
     refine RD hnt (.no :: o50 [] true r1 :: nn 3 (o150 [] true r3 :: .no :: pF :: nn 2 (o150 [] true r5 :: .no :: pF :: .no :: sk 4 (pT :: [])))) [] [(34,pB true)] [] [] (an (Mn p0 r1 hr1) (an2 h2 (an (Oz p2 r3 hr3) (an2 h2 (an2 h4 (an (Oz p3 r5 hr5) (an2 h4 (an5 h6 tv)))))))) ?_
     exact jD true hm Conv.eqK
    ·replace hm := Bb h6 hm
     refine RD hnt (.no :: o50 [] true r1 :: nn 3 (o150 [] true r3 :: .no :: pF :: nn 2 (o150 [] true r5 :: .no :: pF :: nn 5 (pF :: [])))) [] [(34,pB ((kand .i64 p2 p3) != 0))] [] [] (an (Mn p0 r1 hr1) (an2 h2 (an (Oz p2 r3 hr3) (an2 h2 (an2 h4 (an (Oz p3 r5 hr5) (an2 h4 (an5 h6 tv)))))))) ?_
     exact jD ((kand .i64 p2 p3) != 0) hm Conv.eqK
abbrev o149 (ks : List Nat) (b : Bool) (RES : Aa × Int) : Orc := .call 100 ks b (.tup [.agg [ow 0 RES.1.tree.nodes.length,pI RES.1.tree.next,ow 1 RES.1.tasks.length,pI RES.1.next],pI RES.2]) [] [Ac RES.1.tree.nodes,Ae RES.1.tasks]

theorem Aft (p0 : Aa) (p1 : Int) (p2 : Int) (p3 : Int) (RES : Aa × Int) (hm : Pd p0 p1 p2 p3 = some RES) : Spec Tryz.prog 55 [.p (.agg (Ab p0)),pI p1,pI p2,pI p3] [] (.tup [.agg [ow 0 RES.1.tree.nodes.length,pI RES.1.tree.next,ow 1 RES.1.tasks.length,pI RES.1.next],pI RES.2]) [] [Ac RES.1.tree.nodes,Ae RES.1.tasks] := by
 unfold Pd at hm
 refine SO Tryz.func55 rfl rfl [(0,.p (.agg (Ab p0))),(1,pI p1),(2,pI p2),(3,pI p3)] [] ?_
 intro cx hnt
 refine Sq (RD hnt (nn 3 []) [0] [(4,rr 1032),(8,rr 1064)] [] [(1032,bx (pm (Ab p0))),(1064,bx [.p (.sl .nil 0 0 (fun _ => [])),pI 0,.p (.sl .nil 0 0 (fun _ => [])),pI 0])] tv ?_)
 obtain ⟨r1,hr1,hm⟩ := bo hm
 refine Sq (Sq (RD hnt (.no :: o49 [] true r1 :: .no :: []) [] [(14,pB (!r1))] [] [] (an (Dk p0 r1 hr1) tv) ?_))
 refine Ag hm ?_ ?_
 ·intro h2 hm
  obtain ⟨r3,hr3,hm⟩ := bo hm
  refine Sq (RK hnt (Uc [] true r3 :: nn 4 []) [(8,rr 1064),(9,pI r3.2)] [(1064,bx [ow 1120 r3.1.tree.nodes.length,pI r3.1.tree.next,ow 1121 r3.1.tasks.length,pI r3.1.next]),(1120,ob0 (Ac r3.1.tree.nodes)),(1121,ob0 (Ae r3.1.tasks))] (an (Br 1 r3 hr3) tv) ?_)
  obtain rfl := sj hm
  exact DW.ret (Ai [Ac r3.1.tree.nodes,Ae r3.1.tasks] [1120,1121] (.tup [.agg [ow 0 r3.1.tree.nodes.length,pI r3.1.tree.next,ow 1 r3.1.tasks.length,pI r3.1.next],pI r3.2]))
 ·intro h2 hm
  refine Sk ?_
  obtain ⟨r4,hr4,hm⟩ := bo hm
  refine Sq (RD hnt (nn 4 (o149 [] true r4 :: nn 6 [])) [1,2,3,4,14] [(10,rr 1080),(11,pI r4.2)] [1032] [(1080,bx [ow 1184 r4.1.tree.nodes.length,pI r4.1.tree.next,ow 1185 r4.1.tasks.length,pI r4.1.next]),(1184,ob0 (Ac r4.1.tree.nodes)),(1185,ob0 (Ae r4.1.tasks))] (an (Ahp p0 p1 p2 p3 r4 hr4) tv) ?_)
  refine Sq (Sq (RD hnt (nn 2 []) [] [(27,pB (r4.2 != 0))] [] [] tv ?_))
  refine Ag hm ?_ ?_
  ·intro h5 hm
   obtain ⟨r6,hr6,hm⟩ := bo hm
   refine Sq (RK hnt (.no :: Uc [] true r6 :: nn 4 []) [(8,rr 1064),(9,pI r6.2)] [(1064,bx [ow 1232 r6.1.tree.nodes.length,pI r6.1.tree.next,ow 1233 r6.1.tasks.length,pI r6.1.next]),(1232,ob0 (Ac r6.1.tree.nodes)),(1233,ob0 (Ae r6.1.tasks))] (an (Br r4.2 r6 hr6) tv) ?_)
   obtain rfl := sj hm
   exact DW.ret (Ai [Ac r6.1.tree.nodes,Ae r6.1.tasks] [1232,1233] (.tup [.agg [ow 0 r6.1.tree.nodes.length,pI r6.1.tree.next,ow 1 r6.1.tasks.length,pI r6.1.next],pI r6.2]))
  ·intro h5 hm
   refine Sk ?_
   obtain ⟨r7,hr7,hm⟩ := bo hm
   refine Sq (Sq (RD hnt (.no :: o49 [] true r7 :: .no :: []) [11,27] [(34,pB (!r7))] [] [] (an (Dk r4.1 r7 hr7) tv) ?_))
   refine Ag hm ?_ ?_
   ·intro h8 hm
    obtain ⟨r9,hr9,hm⟩ := bo hm
    refine Sq (RK hnt (Uc [] true r9 :: nn 4 []) [(8,rr 1064),(9,pI r9.2)] [(1064,bx [ow 1280 r9.1.tree.nodes.length,pI r9.1.tree.next,ow 1281 r9.1.tasks.length,pI r9.1.next]),(1280,ob0 (Ac r9.1.tree.nodes)),(1281,ob0 (Ae r9.1.tasks))] (an (Br 10 r9 hr9) tv) ?_)
    obtain rfl := sj hm
    exact DW.ret (Ai [Ac r9.1.tree.nodes,Ae r9.1.tasks] [1280,1281] (.tup [.agg [ow 0 r9.1.tree.nodes.length,pI r9.1.tree.next,ow 1 r9.1.tasks.length,pI r9.1.next],pI r9.2]))
   ·intro h8 hm
    refine Sk ?_
    refine Sq (RD hnt (nn 3 []) [10,34] [(9,pI 0)] [1080] [(1064,bx [ow 1184 r4.1.tree.nodes.length,pI r4.1.tree.next,ow 1185 r4.1.tasks.length,pI r4.1.next])] tv ?_)
    obtain rfl := sj hm
    exact DW.ret (Ai [Ac r4.1.tree.nodes,Ae r4.1.tasks] [1184,1185] (.tup [.agg [ow 0 r4.1.tree.nodes.length,pI r4.1.tree.next,ow 1 r4.1.tasks.length,pI r4.1.next],pI 0]))
abbrev o148 (ks : List Nat) (b : Bool) (RES : Aa × Int) : Orc := .call 55 ks b (.tup [.agg [ow 0 RES.1.tree.nodes.length,pI RES.1.tree.next,ow 1 RES.1.tasks.length,pI RES.1.next],pI RES.2]) [] [Ac RES.1.tree.nodes,Ae RES.1.tasks]

theorem AeH (p0 : Aa) (p1 : Int) (p2 : Int) (p3 : Int) (p4 : Int) (RES : Aa × Int) (hm : Io p0 p1 p2 p3 p4 = some RES) : Spec Tryz.prog 18 [.p (.agg (Ab p0)),pI p1,pI p2,pI p3,pI p4] [] (.tup [.agg [ow 0 RES.1.tree.nodes.length,pI RES.1.tree.next,ow 1 RES.1.tasks.length,pI RES.1.next],pI RES.2]) [] [Ac RES.1.tree.nodes,Ae RES.1.tasks] := by
 unfold Io at hm
 refine SO Tryz.func18 rfl rfl [(0,.p (.agg (Ab p0))),(1,pI p1),(2,pI p2),(3,pI p3),(4,pI p4)] [] ?_
 intro cx hnt
 refine Sq (RD hnt (nn 3 []) [0] [(5,rr 1040),(10,rr 1080)] [] [(1040,bx (pm (Ab p0))),(1080,bx [.p (.sl .nil 0 0 (fun _ => [])),pI 0,.p (.sl .nil 0 0 (fun _ => [])),pI 0])] tv ?_)
 obtain ⟨r1,hr1,hm⟩ := bo hm
 refine Sq (Sq (RD hnt (nn 3 (o48 [] true r1 :: .no :: [])) [1] [(12,pI r1)] [] [] (an (Oh p0 p1 p2 r1 hr1) tv) ?_))
 refine Sq (RD hnt (nn 2 []) [] [(18,pB (r1 != 0))] [] [] tv ?_)
 refine Ag hm ?_ ?_
 ·intro h2 hm
  obtain ⟨r3,hr3,hm⟩ := bo hm
  refine Sq (RK hnt (.no :: o100 [] true r3 :: nn 4 []) [(10,rr 1080),(11,pI r3.2)] [(1080,bx [ow 1160 r3.1.tree.nodes.length,pI r3.1.tree.next,ow 1161 r3.1.tasks.length,pI r3.1.next]),(1160,ob0 (Ac r3.1.tree.nodes)),(1161,ob0 (Ae r3.1.tasks))] (an (Eb r1 r3 hr3) tv) ?_)
  obtain rfl := sj hm
  exact DW.ret (Ai [Ac r3.1.tree.nodes,Ae r3.1.tasks] [1160,1161] (.tup [.agg [ow 0 r3.1.tree.nodes.length,pI r3.1.tree.next,ow 1 r3.1.tasks.length,pI r3.1.next],pI r3.2]))
 ·intro h2 hm
  refine Sk ?_
  obtain ⟨r4,hr4,hm⟩ := bo hm
  refine Sq (RK hnt (nn 4 (o148 [] true r4 :: nn 4 [])) [(10,rr 1080),(11,pI r4.2)] [(1080,bx [ow 1216 r4.1.tree.nodes.length,pI r4.1.tree.next,ow 1217 r4.1.tasks.length,pI r4.1.next]),(1216,ob0 (Ac r4.1.tree.nodes)),(1217,ob0 (Ae r4.1.tasks))] (an (Aft p0 p2 p3 p4 r4 hr4) tv) ?_)
  obtain rfl := sj hm
  exact DW.ret (Ai [Ac r4.1.tree.nodes,Ae r4.1.tasks] [1216,1217] (.tup [.agg [ow 0 r4.1.tree.nodes.length,pI r4.1.tree.next,ow 1 r4.1.tasks.length,pI r4.1.next],pI r4.2]))
abbrev o147 (ks : List Nat) (b : Bool) (RES : Aa × Int) : Orc := .call 18 ks b (.tup [.agg [ow 0 RES.1.tree.nodes.length,pI RES.1.tree.next,ow 1 RES.1.tasks.length,pI RES.1.next],pI RES.2]) [] [Ac RES.1.tree.nodes,Ae RES.1.tasks]

theorem AhU (p0 : Aa) (p1 : Int) (p2 : Int) (p3 : Int) (p4 : Int) (RES : Aa × Int) (hm : Nr p0 p1 p2 p3 p4 = some RES) : Spec Tryz.prog 42 [.p (.agg (Ab p0)),pI p1,pI p2,pI p3,pI p4] [] (.tup [.agg [ow 0 RES.1.tree.nodes.length,pI RES.1.tree.next,ow 1 RES.1.tasks.length,pI RES.1.next],pI RES.2]) [] [Ac RES.1.tree.nodes,Ae RES.1.tasks] := by
 unfold Nr at hm
 refine SO Tryz.func42 rfl rfl [(0,.p (.agg (Ab p0))),(1,pI p1),(2,pI p2),(3,pI p3),(4,pI p4)] [] ?_
 intro cx hnt
 refine Sq (RD hnt (nn 3 []) [0] [(5,rr 1040),(10,rr 1080)] [] [(1040,bx (pm (Ab p0))),(1080,bx [.p (.sl .nil 0 0 (fun _ => [])),pI 0,.p (.sl .nil 0 0 (fun _ => [])),pI 0])] tv ?_)
 obtain ⟨r1,hr1,hm⟩ := bo hm
 obtain ⟨r2,hr2,hm⟩ := bo hm
 refine Sq (Sq (RD hnt (nn 7 (o135 [] true r1 :: o138 [] true r2 :: .no :: [])) [1] [(12,pI r2)] [] [] (an (Iy p0.tree p1 p2 r1 hr1) (an (Nl p0 p1 p2 r1 r2 hr2) tv)) ?_))
 refine Sq (RD hnt (nn 2 []) [] [(23,pB (r2 != 0))] [] [] tv ?_)
 refine Ag hm ?_ ?_
 ·intro h3 hm
  refine Sq (RD hnt (nn 4 []) [2,3,4,5,12,23] [(11,pI r2)] [1040] [] tv ?_)
  refine DW.cv [] [] [] [(1080,bx [ow 100000 0,pI 0,ow 100001 0,pI 0]),(100000,ob0 (Ac [])),(100001,ob0 (Ae []))] (Conv.ads [(.o 1080 0,100000,6,elems Ak As []),(.o 1080 2,100001,4,elems Ao Ax [])]) ?_
  obtain rfl := sj hm
  exact DW.ret (Ai [Ac [],Ae []] [100000,100001] (.tup [.agg [ow 0 0,pI 0,ow 1 0,pI 0],pI r2]))
 ·intro h3 hm
  refine Sk ?_
  obtain ⟨r4,hr4,hm⟩ := bo hm
  refine Sq (RK hnt (nn 4 (o121 [] true r4 :: nn 4 [])) [(10,rr 1080),(11,pI r4.2)] [(1080,bx [ow 1240 r4.1.tree.nodes.length,pI r4.1.tree.next,ow 1241 r4.1.tasks.length,pI r4.1.next]),(1240,ob0 (Ac r4.1.tree.nodes)),(1241,ob0 (Ae r4.1.tasks))] (an (AcU p0 p2 p3 p4 r4 hr4) tv) ?_)
  obtain rfl := sj hm
  exact DW.ret (Ai [Ac r4.1.tree.nodes,Ae r4.1.tasks] [1240,1241] (.tup [.agg [ow 0 r4.1.tree.nodes.length,pI r4.1.tree.next,ow 1 r4.1.tasks.length,pI r4.1.next],pI r4.2]))
abbrev o151 (ks : List Nat) (b : Bool) (RES : Aa × Int) : Orc := .call 42 ks b (.tup [.agg [ow 0 RES.1.tree.nodes.length,pI RES.1.tree.next,ow 1 RES.1.tasks.length,pI RES.1.next],pI RES.2]) [] [Ac RES.1.tree.nodes,Ae RES.1.tasks]

theorem AkG (p0 : Af) (p1 : Int) (RES : Ah × Bool) (hm : AaH p0 p1 = some RES) : Spec Tryz.prog 140 [.p (.agg (Aj p0)),pI p1] [] (.p (.tup [.agg (Ak RES.1),vb RES.2])) [] [] := by
 unfold AaH at hm
 refine SO Tryz.func140 rfl rfl [(0,.p (.agg (Aj p0))),(1,pI p1)] [] ?_
 intro cx hnt
 refine Sq (RK hnt (nn 3 []) [(1,pI p1),(2,rr 1016),(4,rr 1032)] [(1016,bx (pm (Aj p0))),(1032,bx [pI 0,pI 0,pS ByteArray.empty,pI 0,pI 0,pI 0])] tv ?_)
 obtain ⟨r1,hr1,hm⟩ := bo hm
 obtain ⟨r2,hr2,hm⟩ := bo hm
 refine Sq (RK hnt (.no :: o93 [] true r1 :: .no :: o41 [] true r2 :: nn 4 []) [(4,rr 1032),(5,pB r2.2)] [(1032,bx (pm (Ak r2.1)))] (an (AbV p0 r1 hr1) (an (Fi r1 p1 r2 hr2) tv)) ?_)
 obtain rfl := sj hm
 exact DW.ret (Ai [] [] (.p (.tup [.agg (Ak r2.1),vb r2.2])))
abbrev o155 (ks : List Nat) (b : Bool) (RES : Ah × Bool) : Orc := .call 140 ks b (.p (.tup [.agg (Ak RES.1),vb RES.2])) [] []

theorem Vz (p0 : Af) (p1 : Int) (RES : Int) (hm : So p0 p1 = some RES) : Spec Tryz.prog 102 [.p (.agg (Aj p0)),pI p1] [] (pI RES) [] [] := by
 unfold So at hm
 refine SO Tryz.func102 rfl rfl [(0,.p (.agg (Aj p0))),(1,pI p1)] [] ?_
 intro cx hnt
 refine Sq (RK hnt (nn 2 []) [(1,pI p1),(2,rr 1016)] [(1016,bx (pm (Aj p0)))] tv ?_)
 obtain ⟨r1,hr1,hm⟩ := bo hm
 refine Sq (RD hnt (nn 2 (o155 [] true r1 :: nn 6 [])) [] [(5,rr 1040),(6,pB r1.2)] [] [(1040,bx (pm (Ak r1.1)))] (an (AkG p0 p1 r1 hr1) tv) ?_)
 refine Sq (Bk ?_)
 refine Sq (RD hnt (nn 3 []) [6] [(15,pB (!r1.2))] [] [] tv ?_)
 refine Ag hm ?_ ?_
 ·intro h2 hm
  refine Sq (RK hnt (.no :: []) [(4,pI 0)] [] tv ?_)
  obtain rfl := sj hm
  exact DW.ret (Ai [] [] (pI 0))
 ·intro h2 hm
  refine Sq (RD hnt (nn 4 []) [5,15] [(18,pB (r1.1.kind == 1))] [1040] [] tv ?_)
  refine Ag hm ?_ ?_
  ·intro h3 hm
   refine Sq (RK hnt (.no :: []) [(4,pI 2)] [] tv ?_)
   obtain rfl := sj hm
   exact DW.ret (Ai [] [] (pI 2))
  ·intro h3 hm
   obtain ⟨r4,hr4,hm⟩ := bo hm
   refine Sq (RD hnt (nn 2 (o85 [] true r4 :: .no :: [])) [18] [(22,pB r4)] [] [] (an (Ha p0 p1 r4 hr4) tv) ?_)
   refine Ag hm ?_ ?_
   ·intro h5 hm
    refine Sq (RK hnt (.no :: []) [(4,pI 3)] [] tv ?_)
    obtain rfl := sj hm
    exact DW.ret (Ai [] [] (pI 3))
   ·intro h5 hm
    refine Sk ?_
    refine DW.done ?_
    show DW _ _ _ _ _
    refine Sq (Sq (RK hnt (nn 4 []) [(1,pI p1),(27,.p (Bg p0.nodes)),(28,pI ((p0.nodes.length : Nat) : Int)),(29,pI 0)] [] tv ?_))
    refine Bk ?_
    obtain ⟨hc1,hm⟩ := go1 hm
    refine DW.rangeO (fun (k1 : Nat) (s1 : Unit) => Am [(1,pI p1),(27,.p (Bg p0.nodes)),(28,pI ((p0.nodes.length : Nat) : Int)),(29,pI ((k1 : Nat) : Int))] []) As hm .refl ?_
    intro k1 s1 n1 hk1 hs1 he1
    refine Sq (RD hnt (.no :: []) [] [(30,pB (decide (((k1 : Nat) : Int) < ((p0.nodes.length : Nat) : Int))))] [] [] tv ?_)
    refine Sq (Bx (decide (((k1 : Nat) : Int) < ((p0.nodes.length : Nat) : Int))) ?_ ?_)
    ·intro h14
     have hlt1 : k1 < p0.nodes.length := by have := of_decide_eq_true h14; omega
     have hm := hs1 hlt1
     unfold Adi at hm
     refine Sk ?_
     refine Sq (Bk ?_)
     refine Sq (RD hnt (nn 4 []) [30] [(8,rr 1064)] [] [(1064,bx (pm (Ak (p0.nodes.getD k1 (default : Ah)))))] (an (nn0 k1) (an (ltc hlt1) tv)) ?_)
     refine Sq (DW.regJ (sl2 := [(1,pI p1),(27,.p (Bg p0.nodes)),(28,pI ((p0.nodes.length : Nat) : Int)),(29,pI ((k1 : Nat) : Int)),(41,pB (((p0.nodes.getD k1 (default : Ah)).parent == p1) && ((p0.nodes.getD k1 (default : Ah)).kind == 1)))]) (ob2 := []) ?_ ?_)
     ·rcases bt ((p0.nodes.getD k1 (default : Ah)).parent == p1) with h15 | h15
      ·exact RT hnt (nn 8 (pT :: [])) [(41,pB ((p0.nodes.getD k1 (default : Ah)).kind == 1))] (an4 h15 tv) (by kernel_rfl) (.cons rfl (.of_eq (by rw [h15]; try rfl)) .nil)
      ·exact RT hnt (nn 5 (sk 3 (pF :: []))) [(41,pB false)] (an4 h15 tv) (by kernel_rfl) (.cons rfl (.of_eq (by rw [h15]; try rfl)) .nil)
     ·refine Ag hm ?_ ?_
      ·intro h16 hm
       refine Sq (RK hnt (.no :: []) [(4,pI 1)] [] tv ?_)
       obtain rfl := sj hm
       exact DW.ret (Ai [] [] (pI 1))
      ·intro h16 hm
       refine Sk ?_
       refine DW.done ?_
       show DW _ _ _ _ _
       refine RD hnt (nn 2 []) [41] [(29,pI (w64 (((k1 : Nat) : Int) + 1)))] [] [] tv ?_
       exact jD () ⟨hlt1,hm⟩ (Conv.tp [(29,pI (w64 (((k1 : Nat) : Int) + 1)))] [] (by kernel_rfl) (.cons rfl (.of_eq (congrArg pI (Bl hlt1 hc1))) .nil) .nil)
    ·intro h14
     have hge1 : ¬ k1 < p0.nodes.length := by have := of_decide_eq_false h14; omega
     have hm := he1 hge1
     unfold AcO at hm
     refine DW.exit ?_
     refine Ar ?_
     refine Au ?_
     refine Ap ?_
     show DW _ _ _ _ _
     refine Sq (RK hnt (.no :: []) [(4,pI 0)] [] tv ?_)
     obtain rfl := sj hm
     exact DW.ret (Ai [] [] (pI 0))
abbrev o154 (ks : List Nat) (b : Bool) (RES : Int) : Orc := .call 102 ks b (pI RES) [] []

abbrev c153e1 (r19 : Aa) (r4 : Int) := ({ id := (r19.tree.nodes.getD (Int.toNat r4) As).id,parent := (r19.tree.nodes.getD (Int.toNat r4) As).parent,name := (r19.tree.nodes.getD (Int.toNat r4) As).name,control := (r19.tree.nodes.getD (Int.toNat r4) As).control,kind := 1,owner := (r19.tree.nodes.getD (Int.toNat r4) As).owner } : Ah)
abbrev Ago : Nat × Obj := (1032,bx [.p (.sl .nil 0 0 (fun _ => [])),pI 0,.p (.sl .nil 0 0 (fun _ => [])),pI 0])
abbrev c153e3 (r19 : Aa) (r4 : Int) := (Bs (Ey r19.tree.nodes) (Int.toNat r4) [vi (r19.tree.nodes.getD (Int.toNat r4) As).id,vi (r19.tree.nodes.getD (Int.toNat r4) As).parent,vs (r19.tree.nodes.getD (Int.toNat r4) As).name,vi (r19.tree.nodes.getD (Int.toNat r4) As).control,vi 1,vi (r19.tree.nodes.getD (Int.toNat r4) As).owner])
abbrev Ul (p0 : Aa) (r4 : Int) := (p0.tree.nodes.getD (Int.toNat r4) As)
abbrev AaF (r19 : Aa) (r4 : Int) := (r19.tree.nodes.set (Int.toNat r4) (c153e1 r19 r4))
theorem Aex (p0 : Aa) (p1 : Int) (RES : Aa × Int) (hm : Nt p0 p1 = some RES) : Spec Tryz.prog 56 [.p (.agg (Ab p0)),pI p1] [] (.tup [.agg [ow 0 RES.1.tree.nodes.length,pI RES.1.tree.next,ow 1 RES.1.tasks.length,pI RES.1.next],pI RES.2]) [] [Ac RES.1.tree.nodes,Ae RES.1.tasks] := by
 unfold Nt at hm
 refine SO Tryz.func56 rfl rfl [(0,.p (.agg (Ab p0))),(1,pI p1)] [] ?_
 intro cx hnt
 refine Sq (RK hnt (nn 3 []) [(1,pI p1),(2,rr 1016),(4,rr 1032)] [(1016,bx (pm (Ab p0))),(Ago)] tv ?_)
 obtain ⟨r1,hr1,hm⟩ := bo hm
 refine Sq (Sq (RD hnt (.no :: o49 [] true r1 :: .no :: []) [] [(13,pB (!r1))] [] [] (an (Dk p0 r1 hr1) tv) ?_))
 refine Ag hm ?_ ?_
 ·intro h2 hm
  obtain ⟨r3,hr3,hm⟩ := bo hm
  refine Sq (RK hnt (Uc [] true r3 :: nn 4 []) [(4,rr 1032),(5,pI r3.2)] [(1032,bx [ow 1112 r3.1.tree.nodes.length,pI r3.1.tree.next,ow 1113 r3.1.tasks.length,pI r3.1.next]),(1112,ob0 (Ac r3.1.tree.nodes)),(1113,ob0 (Ae r3.1.tasks))] (an (Br 1 r3 hr3) tv) ?_)
  obtain rfl := sj hm
  exact DW.ret (Ai [Ac r3.1.tree.nodes,Ae r3.1.tasks] [1112,1113] (.tup [.agg [ow 0 r3.1.tree.nodes.length,pI r3.1.tree.next,ow 1 r3.1.tasks.length,pI r3.1.next],pI r3.2]))
 ·intro h2 hm
  refine Sk ?_
  obtain ⟨r4,hr4,hm⟩ := bo hm
  refine Sq (RD hnt (nn 3 (o30 [] true r4 :: .no :: [])) [13] [(6,pI r4)] [] [] (an (Fz p0.tree p1 r4 hr4) tv) ?_)
  refine Sq (Sq (RD hnt (nn 2 []) [] [(22,pB (decide (r4 < 0)))] [] [] tv ?_))
  refine Ag hm ?_ ?_
  ·intro h5 hm
   obtain ⟨r6,hr6,hm⟩ := bo hm
   refine Sq (RK hnt (Uc [] true r6 :: nn 4 []) [(4,rr 1032),(5,pI r6.2)] [(1032,bx [ow 1184 r6.1.tree.nodes.length,pI r6.1.tree.next,ow 1185 r6.1.tasks.length,pI r6.1.next]),(1184,ob0 (Ac r6.1.tree.nodes)),(1185,ob0 (Ae r6.1.tasks))] (an (Br 4 r6 hr6) tv) ?_)
   obtain rfl := sj hm
   exact DW.ret (Ai [Ac r6.1.tree.nodes,Ae r6.1.tasks] [1184,1185] (.tup [.agg [ow 0 r6.1.tree.nodes.length,pI r6.1.tree.next,ow 1 r6.1.tasks.length,pI r6.1.next],pI r6.2]))
  ·intro h5 hm
   refine Sk ?_
   obtain ⟨g7,hm⟩ := go1 hm
   refine Sq (RD hnt (nn 8 []) [22] [(7,rr 1056)] [] [(1056,bx (pm (Ak (Ul p0 r4))))] (an g7.1 (an g7.2 tv)) ?_)
   obtain ⟨r8,hr8,hm⟩ := bo hm
   refine Sq (RD hnt (nn 4 (o41 [] true r8 :: nn 6 [])) [] [(8,rr 1064)] [] [(1064,bx (pm (Ak r8.1)))] (an (Fi p0.tree (Ul p0 r4).parent r8 hr8) tv) ?_)
   refine Sq (Bk ?_)
   refine Sq (DW.regJ (sl2 := [(1,pI p1),(2,rr 1016),(4,rr 1032),(6,pI r4),(7,rr 1056),(8,rr 1064),(40,pB ((p1 == 1) || ((Ul p0 r4).kind == 1)))]) (ob2 := [(1016,bx (pm (Ab p0))),(Ago),(1056,bx (pm (Ak (Ul p0 r4)))),(1064,bx (pm (Ak r8.1)))]) ?_ ?_)
   ·rcases bt (p1 == 1) with h9 | h9
    ·exact RT hnt (nn 3 (sk 3 (pT :: .no :: []))) [(40,pB true)] (an4 h9 tv) (by kernel_rfl) (.cons rfl (.of_eq (by rw [h9]; try rfl)) .nil)
    ·exact RT hnt (nn 6 (pF :: .no :: [])) [(40,pB ((Ul p0 r4).kind == 1))] (an4 h9 tv) (by kernel_rfl) (.cons rfl (.of_eq (by rw [h9]; try rfl)) .nil)
   ·refine Ag hm ?_ ?_
    ·intro h10 hm
     obtain ⟨r11,hr11,hm⟩ := bo hm
     refine Sq (RK hnt (Uc [] true r11 :: nn 4 []) [(4,rr 1032),(5,pI r11.2)] [(1032,bx [ow 1384 r11.1.tree.nodes.length,pI r11.1.tree.next,ow 1385 r11.1.tasks.length,pI r11.1.next]),(1384,ob0 (Ac r11.1.tree.nodes)),(1385,ob0 (Ae r11.1.tasks))] (an (Br 9 r11 hr11) tv) ?_)
     obtain rfl := sj hm
     exact DW.ret (Ai [Ac r11.1.tree.nodes,Ae r11.1.tasks] [1384,1385] (.tup [.agg [ow 0 r11.1.tree.nodes.length,pI r11.1.tree.next,ow 1 r11.1.tasks.length,pI r11.1.next],pI r11.2]))
    ·intro h10 hm
     obtain ⟨r12,hr12,hm⟩ := bo hm
     refine Sq ?_
     refine Jn (ι := Bool) (fun (y1 : Bool) => Am [(1,pI p1),(2,rr 1016),(4,rr 1032),(6,pI r4),(7,rr 1056),(51,pB y1)] [(1016,bx (pm (Ab p0))),(Ago),(1056,bx (pm (Ak (Ul p0 r4))))]) (fun y1 => (Gr p0 p1 r4) y1 = some RES) ?_ ?_
     ·intro y1 hm
      unfold Gr at hm
      refine Ag hm ?_ ?_
      ·intro h15 hm
       obtain ⟨r16,hr16,hm⟩ := bo hm
       refine Sq (RK hnt (Uc [] true r16 :: nn 4 []) [(4,rr 1032),(5,pI r16.2)] [(1032,bx [ow 1552 r16.1.tree.nodes.length,pI r16.1.tree.next,ow 1553 r16.1.tasks.length,pI r16.1.next]),(1552,ob0 (Ac r16.1.tree.nodes)),(1553,ob0 (Ae r16.1.tasks))] (an (Br 10 r16 hr16) tv) ?_)
       obtain rfl := sj hm
       exact DW.ret (Ai [Ac r16.1.tree.nodes,Ae r16.1.tasks] [1552,1553] (.tup [.agg [ow 0 r16.1.tree.nodes.length,pI r16.1.tree.next,ow 1 r16.1.tasks.length,pI r16.1.next],pI r16.2]))
      ·intro h15 hm
       refine Sq (RD hnt (nn 5 []) [7,51] [(72,pB ((kand .i64 (Ul p0 r4).control 6) != 0))] [1056] [] tv ?_)
       refine Ag hm ?_ ?_
       ·intro h17 hm
        obtain ⟨r18,hr18,hm⟩ := bo hm
        refine Sq (RK hnt (Uc [] true r18 :: nn 4 []) [(4,rr 1032),(5,pI r18.2)] [(1032,bx [ow 1616 r18.1.tree.nodes.length,pI r18.1.tree.next,ow 1617 r18.1.tasks.length,pI r18.1.next]),(1616,ob0 (Ac r18.1.tree.nodes)),(1617,ob0 (Ae r18.1.tasks))] (an (Br 9 r18 hr18) tv) ?_)
        obtain rfl := sj hm
        exact DW.ret (Ai [Ac r18.1.tree.nodes,Ae r18.1.tasks] [1616,1617] (.tup [.agg [ow 0 r18.1.tree.nodes.length,pI r18.1.tree.next,ow 1 r18.1.tasks.length,pI r18.1.next],pI r18.2]))
       ·intro h17 hm
        refine Sk ?_
        refine DW.done ?_
        show DW _ _ _ _ _
        obtain ⟨r19,hr19,hm⟩ := bo hm
        refine Sq (RD hnt (.no :: o95 [] true r19 :: nn 2 []) [72] [(10,rr 1080)] [] [(1080,bx [ow 1648 r19.tree.nodes.length,pI r19.tree.next,ow 1649 r19.tasks.length,pI r19.next]),(1648,ob0 (Ac r19.tree.nodes)),(1649,ob0 (Ae r19.tasks))] (an (Ou p0 r19 hr19) tv) ?_)
        obtain ⟨g20,g21,hm⟩ := go2 hm
        refine Sq (RN hnt (nn 7 []) [(1,pI p1),(2,rr 1016),(4,rr 1032),(10,rr 1080)] [(1016,bx (pm (Ab p0))),(Ago),(1080,bx [ow 1648 (AaF r19 r4).length,pI r19.tree.next,ow 1649 r19.tasks.length,pI r19.next]),(1648,ob0 (Ac (AaF r19 r4))),(1649,ob0 (Ae r19.tasks))] [] [(1080,.box [ow 1648 r19.tree.nodes.length,pI r19.tree.next,ow 1649 r19.tasks.length,pI r19.next]),(1648,.row 6 r19.tree.nodes.length (c153e3 r19 r4))] (an g20.1 (an g20.2 (an g21 tv))) (by kernel_rfl) .nil (.cons rfl (.box (.cons (MLe.ownLen (enc := Ak) (d := As) (f := (c153e3 r19 r4)) (RowIs.upd RowIs.elems (c153e1 r19 r4) rfl)) (.cons .rfl (.cons .rfl (.cons .rfl .nil))))) (.cons rfl (BLe.typed (RowIs.upd RowIs.elems (c153e1 r19 r4) rfl)) .nil)) ?_)
        obtain ⟨r22,hr22,hm⟩ := bo hm
        refine Sq (Sq ?_)
        refine Jn (ι := Bool) (fun (y2 : Bool) => Am [(4,rr 1032),(10,rr 1080),(97,pB y2)] [(Ago),(1080,bx [ow 1648 (AaF r19 r4).length,pI r19.tree.next,ow 1649 r19.tasks.length,pI r19.next]),(1648,ob0 (Ac (AaF r19 r4))),(1649,ob0 (Ae r19.tasks))]) (fun y2 => (Iw r4 r19) y2 = some RES) ?_ ?_
        ·intro y2 hm
         unfold Iw at hm
         refine Ag hm ?_ ?_
         ·intro h25 hm
          obtain ⟨r26,hr26,hm⟩ := bo hm
          refine Sq (RK hnt (Uc [] true r26 :: nn 4 []) [(4,rr 1032),(5,pI r26.2)] [(1032,bx [ow 1784 r26.1.tree.nodes.length,pI r26.1.tree.next,ow 1785 r26.1.tasks.length,pI r26.1.next]),(1784,ob0 (Ac r26.1.tree.nodes)),(1785,ob0 (Ae r26.1.tasks))] (an (Br 6 r26 hr26) tv) ?_)
          obtain rfl := sj hm
          exact DW.ret (Ai [Ac r26.1.tree.nodes,Ae r26.1.tasks] [1784,1785] (.tup [.agg [ow 0 r26.1.tree.nodes.length,pI r26.1.tree.next,ow 1 r26.1.tasks.length,pI r26.1.next],pI r26.2]))
         ·intro h25 hm
          refine Sk ?_
          refine Sq (RD hnt (nn 3 []) [10,97] [(5,pI 0)] [1080] [(1032,bx [ow 1648 (AaF r19 r4).length,pI r19.tree.next,ow 1649 r19.tasks.length,pI r19.next])] tv ?_)
          obtain rfl := sj hm
          exact DW.ret (Ai [Ac (AaF r19 r4),Ae r19.tasks] [1648,1649] (.tup [.agg [ow 0 (AaF r19 r4).length,pI r19.tree.next,ow 1 r19.tasks.length,pI r19.next],pI 0]))
        ·rcases bt (decide (((r22.length : Nat) : Int) > 0)) with h23 | h23
         ·replace hm := Ba h23 hm
          refine RD hnt (nn 2 (o58 [] true r22 :: nn 3 (sk 3 (pT :: [])))) [1,2] [(97,pB true)] [1016] [] (an (Nc p0 p1 r22 hr22) (an4 h23 tv)) ?_
          exact jD true hm Conv.eqK
         ·replace hm := Bb h23 hm
          obtain ⟨r24,hr24,hm⟩ := bo hm
          refine RD hnt (nn 2 (o58 [] true r22 :: nn 4 (o49 [] true r24 :: .no :: pF :: []))) [1,2] [(97,pB (!r24))] [1016] [] (an (Nc p0 p1 r22 hr22) (an2 h23 (an (Dk ({ tree := ({ nodes := (AaF r19 r4),next := r19.tree.next } : Af),tasks := r19.tasks,next := r19.next } : Aa) r24 hr24) (an2 h23 tv)))) ?_
          exact jD (!r24) hm Conv.eqK
     ·rcases bt (r12 == 3) with h13 | h13
      ·replace hm := Ba h13 hm
       refine RD hnt (nn 4 (o154 [] true r12 :: nn 2 (sk 9 (pT :: .no :: [])))) [8,40] [(51,pB true)] [1064] [] (an (Vz p0.tree (Ul p0 r4).parent r12 hr12) (an6 h13 tv)) ?_
       exact jD true hm Conv.eqK
      ·replace hm := Bb h13 hm
       rcases bt ((Ul p0 r4).parent != 1) with h14 | h14
       ·replace hm := Ba h14 hm
        refine RD hnt (nn 4 (o154 [] true r12 :: nn 10 (pT :: pF :: .no :: []))) [8,40] [(51,pB ((kand .i64 r8.1.control 6) != 0))] [1064] [] (an (Vz p0.tree (Ul p0 r4).parent r12 hr12) (an4 h13 (an4 h14 (an h13 (an h14 (an h13 tv)))))) ?_
        exact jD ((kand .i64 r8.1.control 6) != 0) hm Conv.eqK
       ·replace hm := Bb h14 hm
        refine RD hnt (nn 4 (o154 [] true r12 :: nn 6 (sk 4 (pF :: pF :: .no :: [])))) [8,40] [(51,pB false)] [1064] [] (an (Vz p0.tree (Ul p0 r4).parent r12 hr12) (an4 h13 (an4 h14 (an h13 (an h14 (an h13 tv)))))) ?_
        exact jD false hm Conv.eqK
abbrev o153 (ks : List Nat) (b : Bool) (RES : Aa × Int) : Orc := .call 56 ks b (.tup [.agg [ow 0 RES.1.tree.nodes.length,pI RES.1.tree.next,ow 1 RES.1.tasks.length,pI RES.1.next],pI RES.2]) [] [Ac RES.1.tree.nodes,Ae RES.1.tasks]

theorem Aew (p0 : Aa) (p1 : Int) (p2 : Int) (RES : Aa × Int) (hm : Il p0 p1 p2 = some RES) : Spec Tryz.prog 20 [.p (.agg (Ab p0)),pI p1,pI p2] [] (.tup [.agg [ow 0 RES.1.tree.nodes.length,pI RES.1.tree.next,ow 1 RES.1.tasks.length,pI RES.1.next],pI RES.2]) [] [Ac RES.1.tree.nodes,Ae RES.1.tasks] := by
 unfold Il at hm
 refine SO Tryz.func20 rfl rfl [(0,.p (.agg (Ab p0))),(1,pI p1),(2,pI p2)] [] ?_
 intro cx hnt
 refine Sq (RD hnt (nn 3 []) [0] [(3,rr 1024),(6,rr 1048)] [] [(1024,bx (pm (Ab p0))),(1048,bx [.p (.sl .nil 0 0 (fun _ => [])),pI 0,.p (.sl .nil 0 0 (fun _ => [])),pI 0])] tv ?_)
 obtain ⟨r1,hr1,hm⟩ := bo hm
 refine Sq (Sq (RD hnt (nn 3 (o140 [] true r1 :: .no :: [])) [1] [(8,pI r1)] [] [] (an (Pt p0 p1 p2 r1 hr1) tv) ?_))
 refine Sq (RD hnt (nn 2 []) [] [(14,pB (r1 != 0))] [] [] tv ?_)
 refine Ag hm ?_ ?_
 ·intro h2 hm
  obtain ⟨r3,hr3,hm⟩ := bo hm
  refine Sq (RK hnt (.no :: o100 [] true r3 :: nn 4 []) [(6,rr 1048),(7,pI r3.2)] [(1048,bx [ow 1128 r3.1.tree.nodes.length,pI r3.1.tree.next,ow 1129 r3.1.tasks.length,pI r3.1.next]),(1128,ob0 (Ac r3.1.tree.nodes)),(1129,ob0 (Ae r3.1.tasks))] (an (Eb r1 r3 hr3) tv) ?_)
  obtain rfl := sj hm
  exact DW.ret (Ai [Ac r3.1.tree.nodes,Ae r3.1.tasks] [1128,1129] (.tup [.agg [ow 0 r3.1.tree.nodes.length,pI r3.1.tree.next,ow 1 r3.1.tasks.length,pI r3.1.next],pI r3.2]))
 ·intro h2 hm
  refine Sk ?_
  obtain ⟨r4,hr4,hm⟩ := bo hm
  refine Sq (RK hnt (nn 2 (o153 [] true r4 :: nn 4 [])) [(6,rr 1048),(7,pI r4.2)] [(1048,bx [ow 1168 r4.1.tree.nodes.length,pI r4.1.tree.next,ow 1169 r4.1.tasks.length,pI r4.1.next]),(1168,ob0 (Ac r4.1.tree.nodes)),(1169,ob0 (Ae r4.1.tasks))] (an (Aex p0 p2 r4 hr4) tv) ?_)
  obtain rfl := sj hm
  exact DW.ret (Ai [Ac r4.1.tree.nodes,Ae r4.1.tasks] [1168,1169] (.tup [.agg [ow 0 r4.1.tree.nodes.length,pI r4.1.tree.next,ow 1 r4.1.tasks.length,pI r4.1.next],pI r4.2]))
abbrev o152 (ks : List Nat) (b : Bool) (RES : Aa × Int) : Orc := .call 20 ks b (.tup [.agg [ow 0 RES.1.tree.nodes.length,pI RES.1.tree.next,ow 1 RES.1.tasks.length,pI RES.1.next],pI RES.2]) [] [Ac RES.1.tree.nodes,Ae RES.1.tasks]

theorem Aid (p0 : Aa) (p1 : Int) (p2 : Int) (RES : Aa × Int) (hm : Nx p0 p1 p2 = some RES) : Spec Tryz.prog 43 [.p (.agg (Ab p0)),pI p1,pI p2] [] (.tup [.agg [ow 0 RES.1.tree.nodes.length,pI RES.1.tree.next,ow 1 RES.1.tasks.length,pI RES.1.next],pI RES.2]) [] [Ac RES.1.tree.nodes,Ae RES.1.tasks] := by
 unfold Nx at hm
 refine SO Tryz.func43 rfl rfl [(0,.p (.agg (Ab p0))),(1,pI p1),(2,pI p2)] [] ?_
 intro cx hnt
 refine Sq (RD hnt (nn 3 []) [0] [(3,rr 1024),(6,rr 1048)] [] [(1024,bx (pm (Ab p0))),(1048,bx [.p (.sl .nil 0 0 (fun _ => [])),pI 0,.p (.sl .nil 0 0 (fun _ => [])),pI 0])] tv ?_)
 obtain ⟨r1,hr1,hm⟩ := bo hm
 obtain ⟨r2,hr2,hm⟩ := bo hm
 refine Sq (Sq (RD hnt (nn 7 (o136 [] true r1 :: o138 [] true r2 :: .no :: [])) [1] [(8,pI r2)] [] [] (an (Oq p0.tree p1 p2 r1 hr1) (an (Nl p0 p1 p2 r1 r2 hr2) tv)) ?_))
 refine Sq (RD hnt (nn 2 []) [] [(19,pB (r2 != 0))] [] [] tv ?_)
 refine Ag hm ?_ ?_
 ·intro h3 hm
  refine Sq (RD hnt (nn 4 []) [2,3,8,19] [(7,pI r2)] [1024] [] tv ?_)
  refine DW.cv [] [] [] [(1048,bx [ow 100000 0,pI 0,ow 100001 0,pI 0]),(100000,ob0 (Ac [])),(100001,ob0 (Ae []))] (Conv.ads [(.o 1048 0,100000,6,elems Ak As []),(.o 1048 2,100001,4,elems Ao Ax [])]) ?_
  obtain rfl := sj hm
  exact DW.ret (Ai [Ac [],Ae []] [100000,100001] (.tup [.agg [ow 0 0,pI 0,ow 1 0,pI 0],pI r2]))
 ·intro h3 hm
  refine Sk ?_
  obtain ⟨r4,hr4,hm⟩ := bo hm
  refine Sq (RK hnt (nn 2 (o125 [] true r4 :: nn 4 [])) [(6,rr 1048),(7,pI r4.2)] [(1048,bx [ow 1192 r4.1.tree.nodes.length,pI r4.1.tree.next,ow 1193 r4.1.tasks.length,pI r4.1.next]),(1192,ob0 (Ac r4.1.tree.nodes)),(1193,ob0 (Ae r4.1.tasks))] (an (Acs p0 p2 r4 hr4) tv) ?_)
  obtain rfl := sj hm
  exact DW.ret (Ai [Ac r4.1.tree.nodes,Ae r4.1.tasks] [1192,1193] (.tup [.agg [ow 0 r4.1.tree.nodes.length,pI r4.1.tree.next,ow 1 r4.1.tasks.length,pI r4.1.next],pI r4.2]))
abbrev o156 (ks : List Nat) (b : Bool) (RES : Aa × Int) : Orc := .call 43 ks b (.tup [.agg [ow 0 RES.1.tree.nodes.length,pI RES.1.tree.next,ow 1 RES.1.tasks.length,pI RES.1.next],pI RES.2]) [] [Ac RES.1.tree.nodes,Ae RES.1.tasks]

abbrev Ws (p0 : Aa) (k1 : Nat) := (p0.tasks.getD k1 (default : An))
theorem Acj (p0 : Aa) (p1 : Int) (RES : List Int) (hm : Qt p0 p1 = some RES) : Spec Tryz.prog 88 [.p (.agg (Ab p0)),pI p1] [] (ow 0 RES.length) [] [roI RES] := by
 unfold Qt at hm
 refine SO Tryz.func88 rfl rfl [(0,.p (.agg (Ab p0))),(1,pI p1)] [] ?_
 intro cx hnt
 refine Sq (RK hnt (nn 2 []) [(1,pI p1),(2,rr 1016)] [(1016,bx (pm (Ab p0)))] tv ?_)
 obtain ⟨r1,hr1,hm⟩ := bo hm
 refine Sq (Sq (RD hnt (.no :: o9 [] true r1 :: .no :: []) [] [(9,pB (!r1))] [] [] (an (Fc p0 r1 hr1) tv) ?_))
 refine Ag hm ?_ ?_
 ·intro h2 hm
  refine Sq (RK hnt (.no :: []) [(4,.p (.sl .nil 0 0 (fun _ => [])))] [] tv ?_)
  refine DW.cv [] [(4,ow 100000 0)] [] [(100000,ob0 (roI []))] (Conv.ads [(.s 4,100000,1,elems Bw 0 [])]) ?_
  obtain rfl := sj hm
  exact DW.ret (Ai [roI []] [100000] (ow 0 0))
 ·intro h2 hm
  refine Sk ?_
  refine Sq (RD hnt (.no :: []) [9] [(5,.p (.sl .nil 0 0 (fun _ => [])))] [] [] tv ?_)
  refine Sq (Sq (RD hnt (.no :: []) [] [(6,pI 0)] [] [] tv ?_))
  refine Bk ?_
  obtain ⟨hc1,hm⟩ := go1 hm
  refine DW.rangeO (fun (k1 : Nat) (s1 : List Int) => Am [(1,pI p1),(2,rr 1016),(5,ow 1264 s1.length),(6,pI ((k1 : Nat) : Int))] [(1016,bx (pm (Ab p0))),(1264,ob0 (roI s1))]) Ax hm (Conv.ads [(.s 5,1264,1,elems Bw 0 [])]) ?_
  intro k1 s1 n1 hk1 hs1 he1
  refine Sq (Sq (RD hnt (nn 5 []) [] [(14,pB (decide (((k1 : Nat) : Int) < ((p0.tasks.length : Nat) : Int))))] [] [] tv ?_))
  refine Bx (decide (((k1 : Nat) : Int) < ((p0.tasks.length : Nat) : Int))) ?_ ?_
  ·intro h12
   have hlt1 : k1 < p0.tasks.length := by have := of_decide_eq_true h12; omega
   have hm := hs1 hlt1
   unfold Zr at hm
   refine Sk ?_
   refine Sq ?_
   refine Jn (ι := List Int) (fun (y3 : List Int) => Am [(1,pI p1),(2,rr 1016),(5,ow 1264 y3.length),(6,pI ((k1 : Nat) : Int))] [(1016,bx (pm (Ab p0))),(1264,ob0 (roI y3))]) (fun y3 => (Rk n1) y3 = some RES) ?_ ?_
   ·intro y3 hm
    unfold Rk at hm
    refine RD hnt (nn 3 []) [] [(6,pI (w64 (((k1 : Nat) : Int) + 1)))] [] [] tv ?_
    exact jD y3 ⟨hlt1,hm⟩ (Conv.tp [(6,pI (w64 (((k1 : Nat) : Int) + 1)))] [] (by kernel_rfl) (.cons rfl (.of_eq (congrArg pI (Bl hlt1 hc1))) .nil) .nil)
   ·refine Bk ?_
    refine Sq (RD hnt (nn 8 []) [14] [(24,pB ((Ws p0 k1).process == p1))] [] [] (an (nn0 k1) (an (ltc hlt1) tv)) ?_)
    refine Ag hm ?_ ?_
    ·intro h13 hm
     obtain ⟨g14,hm⟩ := go1 hm
     refine RN hnt (nn 10 []) [(1,pI p1),(2,rr 1016),(5,ow 1264 (s1 ++ [(Ws p0 k1).id]).length),(6,pI ((k1 : Nat) : Int))] [(1016,bx (pm (Ab p0))),(1264,ob0 (roI (s1 ++ [(Ws p0 k1).id])))] [(5,ow 1264 (s1.length + 1))] [(1264,.row 1 (s1.length + 1) (Dw s1.length (elI s1) (cut 1 [vi (Ws p0 k1).id])))] (an (nn0 k1) (an (ltc hlt1) (an (by omega : (s1.length + 1) * 8 ≤ 140737488355328) tv))) (by kernel_rfl) (.cons rfl (MLe.ownLen (enc := Bw) (d := 0) (f := (Dw s1.length (elI s1) (cut 1 [vi (Ws p0 k1).id]))) (RowIs.cat RowIs.elems (RowIs.lit (enc := Bw) (d := 0) (n := 1) (f := (cut 1 [vi (Ws p0 k1).id])) [(Ws p0 k1).id] rfl (fun | 0,_ => rfl | n + 1,h => absurd h (by omega))))) .nil) (.cons rfl (BLe.typed (RowIs.cat RowIs.elems (RowIs.lit (enc := Bw) (d := 0) (n := 1) (f := (cut 1 [vi (Ws p0 k1).id])) [(Ws p0 k1).id] rfl (fun | 0,_ => rfl | n + 1,h => absurd h (by omega))))) .nil) ?_
     exact bD (s1 ++ [(Ws p0 k1).id]) hm .refl
    ·intro h13 hm
     refine Sk ?_
     exact bD s1 hm Conv.t0
  ·intro h12
   have hge1 : ¬ k1 < p0.tasks.length := by have := of_decide_eq_false h12; omega
   have hm := he1 hge1
   unfold Aen at hm
   refine DW.exit ?_
   refine Ar ?_
   refine Au ?_
   refine Ap ?_
   show DW _ _ _ _ _
   refine Sq (RK hnt (nn 2 []) [(4,ow 1264 s1.length)] [(1264,ob0 (roI s1))] tv ?_)
   obtain rfl := sj hm
   exact DW.ret (Ai [roI s1] [1264] (ow 0 s1.length))
abbrev o158 (ks : List Nat) (b : Bool) (RES : List Int) : Orc := .call 88 ks b (ow 0 RES.length) [] [roI RES]

theorem AiB (p0 : Af) (p1 : Int) (p2 : Int) (RES : Int × Bool) (hm : Wp p0 p1 p2 = some RES) : Spec Tryz.prog 125 [.p (.agg (Aj p0)),pI p1,pI p2] [] (.p (.tup [vi RES.1,vb RES.2])) [] [] := by
 unfold Wp at hm
 refine SO Tryz.func125 rfl rfl [(0,.p (.agg (Aj p0))),(1,pI p1),(2,pI p2)] [] ?_
 intro cx hnt
 refine Sq (RD hnt (nn 3 []) [0] [(3,rr 1024)] [] [(1024,bx (pm (Aj p0)))] tv ?_)
 obtain ⟨r1,hr1,hm⟩ := bo hm
 obtain ⟨r2,hr2,hm⟩ := bo hm
 refine Sq (RK hnt (nn 2 (o22 [] true r1 :: nn 2 (o22 [] true r2 :: nn 2 []))) [(8,ow 1112 r1.length),(9,ow 1136 r2.length)] [(1112,ob0 (roI r1)),(1136,ob0 (roI r2))] (an (Ln p0 p1 r1 hr1) (an (Ln p0 p2 r2 hr2) tv)) ?_)
 refine Sq (Sq (RD hnt (.no :: []) [] [(10,pI 0)] [] [] tv ?_))
 refine Bk ?_
 obtain ⟨hc1,hm⟩ := go1 hm
 refine DW.rangeO (fun (k1 : Nat) (s1 : Unit) => Am [(8,ow 1112 r1.length),(9,ow 1136 r2.length),(10,pI ((k1 : Nat) : Int))] [(1112,ob0 (roI r1)),(1136,ob0 (roI r2))]) 0 hm Conv.eqK ?_
 intro k1 s1 n1 hk1 hs1 he1
 refine Sq (Sq (RD hnt (nn 4 []) [] [(21,pB (decide (((k1 : Nat) : Int) < ((r1.length : Nat) : Int))))] [] [] tv ?_))
 refine Bx (decide (((k1 : Nat) : Int) < ((r1.length : Nat) : Int))) ?_ ?_
 ·intro h49
  have hlt1 : k1 < r1.length := by have := of_decide_eq_true h49; omega
  have hm := hs1 hlt1
  unfold AaY at hm
  refine Sk ?_
  refine Sq (Bk ?_)
  refine Sq (RD hnt (.no :: []) [21] [(11,pI 0)] [] [] tv ?_)
  refine Bk ?_
  obtain ⟨hc4,hm⟩ := go1 hm
  refine DW.rangeO (fun (k4 : Nat) (s4 : Unit) => Am [(8,ow 1112 r1.length),(9,ow 1136 r2.length),(10,pI ((k1 : Nat) : Int)),(11,pI ((k4 : Nat) : Int))] [(1112,ob0 (roI r1)),(1136,ob0 (roI r2))]) 0 hm Conv.eqK ?_
  intro k4 s4 n4 hk4 hs4 he4
  refine Sq (Sq (RD hnt (nn 4 []) [] [(27,pB (decide (((k4 : Nat) : Int) < ((r2.length : Nat) : Int))))] [] [] tv ?_))
  refine Bx (decide (((k4 : Nat) : Int) < ((r2.length : Nat) : Int))) ?_ ?_
  ·intro h58
   have hlt4 : k4 < r2.length := by have := of_decide_eq_true h58; omega
   have hm := hs4 hlt4
   unfold AaS at hm
   refine Sk ?_
   refine Sq (Bk ?_)
   refine Sq (RD hnt (nn 9 []) [27] [(38,pB ((r1.getD k1 0) == (r2.getD k4 0)))] [] [] (an (nn0 k1) (an (ltc hlt1) (an (by omega : k1 < r1.length) (an (nn0 k4) (an (ltc hlt4) (an (by omega : k4 < r2.length) tv)))))) ?_)
   refine Ag hm ?_ ?_
   ·intro h59 hm
    refine Sq (RK hnt (nn 6 []) [(6,pI (r1.getD k1 0)),(7,pB true)] [] (an (nn0 k1) (an (ltc hlt1) (an (by omega : k1 < r1.length) tv))) ?_)
    obtain rfl := sj hm
    exact DW.ret (Ai [] [] (.p (.tup [vi (r1.getD k1 0),vb true])))
   ·intro h59 hm
    refine Sk ?_
    refine DW.done ?_
    show DW _ _ _ _ _
    refine RD hnt (nn 3 []) [38] [(11,pI (w64 (((k4 : Nat) : Int) + 1)))] [] [] tv ?_
    exact jD () ⟨hlt4,hm⟩ (Conv.tp [(11,pI (w64 (((k4 : Nat) : Int) + 1)))] [] (by kernel_rfl) (.cons rfl (.of_eq (congrArg pI (Bl hlt4 hc4))) .nil) .nil)
  ·intro h58
   have hge4 : ¬ k4 < r2.length := by have := of_decide_eq_false h58; omega
   have hm := he4 hge4
   unfold Afg at hm
   refine DW.exit ?_
   refine Ar ?_
   refine Au ?_
   refine Ap ?_
   show DW _ _ _ _ _
   refine DW.done ?_
   show DW _ _ _ _ _
   refine RD hnt (nn 3 []) [11,27] [(10,pI (w64 (((k1 : Nat) : Int) + 1)))] [] [] tv ?_
   exact jD () ⟨hlt1,hm⟩ (Conv.tp [(10,pI (w64 (((k1 : Nat) : Int) + 1)))] [] (by kernel_rfl) (.cons rfl (.of_eq (congrArg pI (Bl hlt1 hc1))) .nil) .nil)
 ·intro h49
  have hge1 : ¬ k1 < r1.length := by have := of_decide_eq_false h49; omega
  have hm := he1 hge1
  unfold AeX at hm
  refine DW.exit ?_
  refine Ar ?_
  refine Au ?_
  refine Ap ?_
  show DW _ _ _ _ _
  refine Sq (RK hnt (nn 2 []) [(6,pI 0),(7,pB false)] [] tv ?_)
  obtain rfl := sj hm
  exact DW.ret (Ai [] [] (.p (.tup [vi 0,vb false])))
abbrev o160 (ks : List Nat) (b : Bool) (RES : Int × Bool) : Orc := .call 125 ks b (.p (.tup [vi RES.1,vb RES.2])) [] []

theorem AgH (p0 : Aa) (p1 : Int) (p2 : An) (p3 : Int) (RES : Bool) (hm : Zl p0 p1 p2 p3 = some RES) : Spec Tryz.prog 89 [.p (.agg (Ab p0)),pI p1,.p (.agg (Ao p2)),pI p3] [] (pB RES) [] [] := by
 unfold Zl at hm
 refine SO Tryz.func89 rfl rfl [(0,.p (.agg (Ab p0))),(1,pI p1),(2,.p (.agg (Ao p2))),(3,pI p3)] [] ?_
 intro cx hnt
 refine Sq (RD hnt (nn 3 []) [0,2] [(4,rr 1032),(6,rr 1048)] [] [(1032,bx (pm (Ab p0))),(1048,bx (pm (Ao p2)))] tv ?_)
 obtain ⟨r1,hr1,hm⟩ := bo hm
 refine Sq (RD hnt (nn 5 (o160 [] true r1 :: nn 5 [])) [] [(9,pI r1.1)] [] [] (an (AiB p0.tree p3 p2.group r1 hr1) tv) ?_)
 refine Sq ?_
 refine Jn (ι := Bool) (fun (y1 : Bool) => Am [(8,pB y1)] []) (fun y1 => Pg y1 = some RES) ?_ ?_
 ·intro y1 hm
  unfold Pg at hm
  obtain rfl := sj hm
  exact DW.ret (Ai [] [] (pB y1))
 ·rcases bt (p1 == 0) with h2 | h2
  ·replace hm := Ba h2 hm
   obtain ⟨r7,hr7,hm⟩ := bo hm
   rcases bt r7 with h8 | h8
   ·replace hm := Ba h8 hm
    obtain ⟨r9,hr9,hm⟩ := bo hm
    refine RK hnt (nn 3 (sk 4 (pT :: nn 5 (o135 [] true r7 :: pT :: nn 5 (o135 [] true r9 :: pT :: .no :: []))))) [(8,pB r9)] [] (an5 h2 (an5 tt (an (Iy p0.tree p1 p3 r7 hr7) (an tt (an5 h8 (an (Iy p0.tree p1 r1.1 r9 hr9) (an h8 tv))))))) ?_
    exact jD r9 hm .refl
   ·replace hm := Bb h8 hm
    refine RK hnt (nn 3 (sk 4 (pT :: nn 5 (o135 [] true r7 :: pT :: .no :: sk 5 (pF :: .no :: []))))) [(8,pB false)] [] (an5 h2 (an5 tt (an (Iy p0.tree p1 p3 r7 hr7) (an tt (an6 h8 tv))))) ?_
    exact jD false hm .refl
  ·replace hm := Bb h2 hm
   rcases bt (p2.user == p1) with h3 | h3
   ·replace hm := Ba h3 hm
    obtain ⟨r4,hr4,hm⟩ := bo hm
    rcases bt r4 with h5 | h5
    ·replace hm := Ba h5 hm
     obtain ⟨r6,hr6,hm⟩ := bo hm
     refine RK hnt (nn 7 (pF :: nn 5 (o135 [] true r4 :: pT :: nn 5 (o135 [] true r6 :: pT :: .no :: [])))) [(8,pB r6)] [] (an5 h2 (an5 h3 (an (Iy p0.tree p1 p3 r4 hr4) (an h3 (an5 h5 (an (Iy p0.tree p1 r1.1 r6 hr6) (an h5 tv))))))) ?_
     exact jD r6 hm .refl
    ·replace hm := Bb h5 hm
     refine RK hnt (nn 7 (pF :: nn 5 (o135 [] true r4 :: pT :: .no :: sk 5 (pF :: .no :: [])))) [(8,pB false)] [] (an5 h2 (an5 h3 (an (Iy p0.tree p1 p3 r4 hr4) (an h3 (an6 h5 tv))))) ?_
     exact jD false hm .refl
   ·replace hm := Bb h3 hm
    refine RK hnt (nn 7 (pF :: .no :: sk 5 (pF :: .no :: sk 5 (pF :: .no :: [])))) [(8,pB false)] [] (an5 h2 (an6 h3 (an6 ff tv))) ?_
    exact jD false hm .refl
abbrev o159 (ks : List Nat) (b : Bool) (RES : Bool) : Orc := .call 89 ks b (pB RES) [] []
end Go.Dm

