/- Go functions compute their models, printed by a program. -/
import Derived.Test.YtonaidnipimjgabGreatDelegateActsA5
set_option linter.unusedVariables false
set_option linter.unusedSimpArgs false
namespace Go.Dm
open Go.Proofs
set_option linter.unusedVariables false
abbrev AiR : Nat × Body := (1048,.box [.p (.sl .nil 0 0 (fun _ => [])),pI 0,.p (.sl .nil 0 0 (fun _ => [])),pI 0])
abbrev Ail : Nat × Obj := (1048,bx [.p (.sl .nil 0 0 (fun _ => [])),pI 0,.p (.sl .nil 0 0 (fun _ => [])),pI 0])
abbrev Aij : Nat × Obj := (1048,bx [.p (Bg []),pI 0,.p (Dh []),pI 0])
theorem AiY (p0 : Aa) (p1 : Int) (p2 : Int) (RES : Aa × Int) (hm : Qb p0 p1 p2 = some RES) : Spec Tryz.prog 90 [.p (.agg (Ab p0)),pI p1,pI p2] [] (.p (.tup [.agg (Ab RES.1),vi RES.2])) [] [] := by
 unfold Qb at hm
 refine SO Tryz.func90 rfl rfl [(0,.p (.agg (Ab p0))),(1,pI p1),(2,pI p2)] [] ?_
 intro cx hnt
 refine Sq (RD hnt (nn 3 []) [0] [(3,rr 1024),(6,rr 1048)] [] [(1024,bx (pm (Ab p0))),(Ail)] tv ?_)
 obtain ⟨r1,hr1,hm⟩ := bo hm
 refine Sq (Sq (RD hnt (.no :: o7 [] true r1 :: .no :: []) [] [(16,pB (!r1))] [] [] (an (Ib p0 r1 hr1) tv) ?_))
 refine Ag hm ?_ ?_
 ·intro h2 hm
  refine Sq (RD hnt (nn 3 []) [1,2,3,16] [(7,pI 1)] [1024] [] tv ?_)
  refine DW.conv (τ := Am [(6,rr 1048),(7,pI 1)] [(Aij)]) (Conv.tp [] [(AiR)] (by kernel_rfl) .nil (.cons rfl (.box (.cons MLe.nilL (.cons .rfl (.cons MLe.nilL (.cons .rfl .nil))))) .nil)) ?_
  obtain rfl := sj hm
  exact DW.ret (Ai [] [] (.p (.tup [.agg [Bg [],vi 0,Dh [],vi 0],vi 1])))
 ·intro h2 hm
  refine Sk ?_
  obtain ⟨r3,hr3,hm⟩ := bo hm
  refine Sq (Sq (RD hnt (nn 2 (o20 [] true r3 :: nn 6 [])) [16] [(8,rr 1064),(9,pB r3.2)] [] [(1064,bx (pm (Ao r3.1)))] (an (Ih p0 p1 r3 hr3) tv) ?_))
  refine Sq ?_
  refine Jn (ι := Bool) (fun (y1 : Bool) => Am [(1,pI p1),(2,pI p2),(3,rr 1024),(6,rr 1048),(38,pB y1)] [(1024,bx (pm (Ab p0))),(Ail)]) (fun y1 => (Kg p0 p1 p2) y1 = some RES) ?_ ?_
  ·intro y1 hm
   unfold Kg at hm
   refine Ag hm ?_ ?_
   ·intro h7 hm
    refine Sq (RD hnt (nn 3 []) [1,2,3,38] [(7,pI 4)] [1024] [] tv ?_)
    refine DW.conv (τ := Am [(6,rr 1048),(7,pI 4)] [(Aij)]) (Conv.tp [] [(AiR)] (by kernel_rfl) .nil (.cons rfl (.box (.cons MLe.nilL (.cons .rfl (.cons MLe.nilL (.cons .rfl .nil))))) .nil)) ?_
    obtain rfl := sj hm
    exact DW.ret (Ai [] [] (.p (.tup [.agg [Bg [],vi 0,Dh [],vi 0],vi 4])))
   ·intro h7 hm
    refine Sk ?_
    obtain ⟨r8,hr8,hm⟩ := bo hm
    refine Sq (Sq (RD hnt (nn 3 (o23 [] true r8 :: .no :: [])) [38] [(44,pB (r8 == 2))] [] [] (an (Gy p0.tree p2 r8 hr8) tv) ?_))
    refine Ag hm ?_ ?_
    ·intro h9 hm
     refine Sq (RD hnt (nn 3 []) [1,2,3,44] [(7,pI 10)] [1024] [] tv ?_)
     refine DW.conv (τ := Am [(6,rr 1048),(7,pI 10)] [(Aij)]) (Conv.tp [] [(AiR)] (by kernel_rfl) .nil (.cons rfl (.box (.cons MLe.nilL (.cons .rfl (.cons MLe.nilL (.cons .rfl .nil))))) .nil)) ?_
     obtain rfl := sj hm
     exact DW.ret (Ai [] [] (.p (.tup [.agg [Bg [],vi 0,Dh [],vi 0],vi 10])))
    ·intro h9 hm
     refine Sk ?_
     obtain ⟨r10,hr10,hm⟩ := bo hm
     refine Sq (Sq (RD hnt (nn 2 (o126 [] true r10 :: .no :: [])) [44] [(10,pI r10)] [] [] (an (Yd p0 p2 r10 hr10) tv) ?_))
     refine Sq (RD hnt (nn 2 []) [] [(50,pB (r10 != 0))] [] [] tv ?_)
     refine Ag hm ?_ ?_
     ·intro h11 hm
      refine Sq (RD hnt (nn 4 []) [1,2,3,10,50] [(7,pI r10)] [1024] [] tv ?_)
      refine DW.conv (τ := Am [(6,rr 1048),(7,pI r10)] [(Aij)]) (Conv.tp [] [(AiR)] (by kernel_rfl) .nil (.cons rfl (.box (.cons MLe.nilL (.cons .rfl (.cons MLe.nilL (.cons .rfl .nil))))) .nil)) ?_
      obtain rfl := sj hm
      exact DW.ret (Ai [] [] (.p (.tup [.agg [Bg [],vi 0,Dh [],vi 0],vi r10])))
     ·intro h11 hm
      refine Sk ?_
      refine Sq (RD hnt (nn 3 []) [10,50] [(11,rr 1088)] [] [(1088,bx (pm (Ab p0)))] tv ?_)
      obtain ⟨r12,hr12,hm⟩ := bo hm
      refine Sq (RD hnt (nn 2 (o158 [] true r12 :: .no :: [])) [1,3] [(12,ow 1448 r12.length)] [1024] [(1448,ob0 (roI r12))] (an (Acj p0 p1 r12 hr12) tv) ?_)
      refine Sq (Sq (RD hnt (.no :: []) [] [(13,pI 0)] [] [] tv ?_))
      refine Bk ?_
      obtain ⟨hc1,hm⟩ := go1 hm
      refine DW.rangeO (fun (k1 : Nat) (s1 : Aa) => Am [(2,pI p2),(6,rr 1048),(11,rr 1088),(12,ow 1448 r12.length),(13,pI ((k1 : Nat) : Int))] [(Ail),(1088,bx (pm (Ab s1))),(1448,ob0 (roI r12))]) 0 hm Conv.eqK ?_
      intro k1 s1 n1 hk1 hs1 he1
      refine Sq (Sq (RD hnt (nn 4 []) [] [(60,pB (decide (((k1 : Nat) : Int) < ((r12.length : Nat) : Int))))] [] [] tv ?_))
      refine Bx (decide (((k1 : Nat) : Int) < ((r12.length : Nat) : Int))) ?_ ?_
      ·intro h21
       have hlt1 : k1 < r12.length := by have := of_decide_eq_true h21; omega
       have hm := hs1 hlt1
       unfold Wy at hm
       refine Sk ?_
       refine Sq (Bk ?_)
       obtain ⟨r22,hr22,hm⟩ := bo hm
       refine RD hnt (nn 6 (o130 [] true r22 :: nn 4 [])) [60] [] [] [(1088,bx [ow 1560 r22.1.tree.nodes.length,pI r22.1.tree.next,ow 1561 r22.1.tasks.length,pI r22.1.next]),(1560,ob0 (Ac r22.1.tree.nodes)),(1561,ob0 (Ae r22.1.tasks))] (an (nn0 k1) (an (ltc hlt1) (an (by omega : k1 < r12.length) (an (AdY s1 (r12.getD k1 0) p2 r22 hr22) tv)))) ?_
       refine DW.done ?_
       show DW _ _ _ _ _
       refine RD hnt (nn 3 []) [] [(13,pI (w64 (((k1 : Nat) : Int) + 1)))] [] [] tv ?_
       exact jD r22.1 ⟨hlt1,hm⟩ (Conv.trans (τ := Am [(2,pI p2),(6,rr 1048),(11,rr 1088),(12,ow 1448 r12.length),(13,pI (w64 (((k1 : Nat) : Int) + 1)))] [(Ail),(1088,bx (pm (Ab r22.1))),(1448,ob0 (roI r12))]) (Conv.frz [1560,1561]) (Conv.tp [(13,pI (w64 (((k1 : Nat) : Int) + 1)))] [] (by kernel_rfl) (.cons rfl (.of_eq (congrArg pI (Bl hlt1 hc1))) .nil) .nil))
      ·intro h21
       have hge1 : ¬ k1 < r12.length := by have := of_decide_eq_false h21; omega
       have hm := he1 hge1
       unfold Afn at hm
       refine DW.exit ?_
       refine Ar ?_
       refine Au ?_
       refine Ap ?_
       show DW _ _ _ _ _
       refine Sq (RK hnt (nn 3 []) [(6,rr 1048),(7,pI 0)] [(1048,bx (pm (Ab s1)))] tv ?_)
       obtain rfl := sj hm
       exact DW.ret (Ai [] [] (.p (.tup [.agg (Ab s1),vi 0])))
  ·rcases bt (!r3.2) with h4 | h4
   ·replace hm := Ba h4 hm
    refine RD hnt (nn 3 (sk 4 (pT :: .no :: sk 5 (pT :: [])))) [8,9] [(38,pB true)] [1064] [] (an5 h4 (an6 tt tv)) ?_
    exact jD true hm Conv.eqK
   ·replace hm := Bb h4 hm
    rcases bt (r3.1.process != p1) with h5 | h5
    ·replace hm := Ba h5 hm
     refine RD hnt (nn 7 (pF :: .no :: sk 5 (pT :: []))) [8,9] [(38,pB true)] [1064] [] (an5 h4 (an6 h5 tv)) ?_
     exact jD true hm Conv.eqK
    ·replace hm := Bb h5 hm
     obtain ⟨r6,hr6,hm⟩ := bo hm
     refine RD hnt (nn 7 (pF :: nn 4 (o15 [] true r6 :: .no :: pF :: []))) [8,9] [(38,pB (!r6))] [1064] [] (an5 h4 (an4 h5 (an (Cf p0.tree p2 r6 hr6) (an2 h5 tv)))) ?_
     exact jD (!r6) hm Conv.eqK
abbrev o161 (ks : List Nat) (b : Bool) (RES : Aa × Int) : Orc := .call 90 ks b (.p (.tup [.agg (Ab RES.1),vi RES.2])) [] []

abbrev c157e1 : Nat × Body := (1064,.box [.p (.sl .nil 0 0 (fun _ => [])),pI 0,.p (.sl .nil 0 0 (fun _ => [])),pI 0])
abbrev c157e2 : Nat × Obj := (1064,bx [.p (.sl .nil 0 0 (fun _ => [])),pI 0,.p (.sl .nil 0 0 (fun _ => [])),pI 0])
abbrev c157e3 : Nat × Obj := (1064,bx [.p (Bg []),pI 0,.p (Dh []),pI 0])
theorem AkL (p0 : Aa) (p1 : Int) (p2 : Int) (p3 : Int) (RES : Aa × Int) (hm : Ua p0 p1 p2 p3 = some RES) : Spec Tryz.prog 44 [.p (.agg (Ab p0)),pI p1,pI p2,pI p3] [] (.p (.tup [.agg (Ab RES.1),vi RES.2])) [] [] := by
 unfold Ua at hm
 refine SO Tryz.func44 rfl rfl [(0,.p (.agg (Ab p0))),(1,pI p1),(2,pI p2),(3,pI p3)] [] ?_
 intro cx hnt
 refine Sq (RD hnt (nn 3 []) [0] [(4,rr 1032),(8,rr 1064)] [] [(1032,bx (pm (Ab p0))),(c157e2)] tv ?_)
 obtain ⟨r1,hr1,hm⟩ := bo hm
 refine Sq (RD hnt (nn 2 (o20 [] true r1 :: nn 6 [])) [] [(10,rr 1080),(11,pB r1.2)] [] [(1080,bx (pm (Ao r1.1)))] (an (Ih p0 p2 r1 hr1) tv) ?_)
 obtain ⟨r2,hr2,hm⟩ := bo hm
 refine Sq (Sq (RD hnt (nn 3 (o138 [] true r2 :: .no :: [])) [] [(12,pI r2)] [] [] (an (Nl p0 p1 p3 true r2 hr2) tv) ?_))
 refine Sq (RD hnt (nn 2 []) [] [(28,pB (r2 == 1))] [] [] tv ?_)
 refine Ag hm ?_ ?_
 ·intro h3 hm
  refine Sq (RD hnt (nn 4 []) [1,2,3,4,10,11,12,28] [(9,pI r2)] [1032,1080] [] tv ?_)
  refine DW.conv (τ := Am [(8,rr 1064),(9,pI r2)] [(c157e3)]) (Conv.tp [] [(c157e1)] (by kernel_rfl) .nil (.cons rfl (.box (.cons MLe.nilL (.cons .rfl (.cons MLe.nilL (.cons .rfl .nil))))) .nil)) ?_
  obtain rfl := sj hm
  exact DW.ret (Ai [] [] (.p (.tup [.agg [Bg [],vi 0,Dh [],vi 0],vi r2])))
 ·intro h3 hm
  refine Sk ?_
  refine Sq (Sq ?_)
  refine Jn (ι := Bool) (fun (y1 : Bool) => Am [(1,pI p1),(2,pI p2),(3,pI p3),(4,rr 1032),(8,rr 1064),(45,pB y1)] [(1032,bx (pm (Ab p0))),(c157e2)]) (fun y1 => (Tb p0 p1 p2 p3) y1 = some RES) ?_ ?_
  ·intro y1 hm
   unfold Tb at hm
   refine Ag hm ?_ ?_
   ·intro h7 hm
    refine Sq (RD hnt (nn 3 []) [1,2,3,4,45] [(9,pI 4)] [1032] [] tv ?_)
    refine DW.conv (τ := Am [(8,rr 1064),(9,pI 4)] [(c157e3)]) (Conv.tp [] [(c157e1)] (by kernel_rfl) .nil (.cons rfl (.box (.cons MLe.nilL (.cons .rfl (.cons MLe.nilL (.cons .rfl .nil))))) .nil)) ?_
    obtain rfl := sj hm
    exact DW.ret (Ai [] [] (.p (.tup [.agg [Bg [],vi 0,Dh [],vi 0],vi 4])))
   ·intro h7 hm
    refine Sk ?_
    obtain ⟨r8,hr8,hm⟩ := bo hm
    refine Sq (RD hnt (nn 2 (o158 [] true r8 :: .no :: [])) [45] [(13,ow 1392 r8.length)] [] [(1392,ob0 (roI r8))] (an (Acj p0 p2 r8 hr8) tv) ?_)
    refine Sq (Sq (RD hnt (.no :: []) [] [(14,pI 0)] [] [] tv ?_))
    refine Bk ?_
    obtain ⟨hc1,hm⟩ := go1 hm
    refine DW.rangeO (fun (k1 : Nat) (s1 : Unit) => Am [(1,pI p1),(2,pI p2),(3,pI p3),(4,rr 1032),(8,rr 1064),(13,ow 1392 r8.length),(14,pI ((k1 : Nat) : Int))] [(1032,bx (pm (Ab p0))),(c157e2),(1392,ob0 (roI r8))]) 0 hm Conv.eqK ?_
    intro k1 s1 n1 hk1 hs1 he1
    refine Sq (Sq (RD hnt (nn 4 []) [] [(53,pB (decide (((k1 : Nat) : Int) < ((r8.length : Nat) : Int))))] [] [] tv ?_))
    refine Bx (decide (((k1 : Nat) : Int) < ((r8.length : Nat) : Int))) ?_ ?_
    ·intro h23
     have hlt1 : k1 < r8.length := by have := of_decide_eq_true h23; omega
     have hm := hs1 hlt1
     unfold AdH at hm
     refine Sk ?_
     refine Sq (Bk ?_)
     obtain ⟨r24,hr24,hm⟩ := bo hm
     refine Sq (RD hnt (nn 5 (o20 [] true r24 :: nn 6 [])) [53] [(15,rr 1120)] [] [(1120,bx (pm (Ao r24.1)))] (an (nn0 k1) (an (ltc hlt1) (an (by omega : k1 < r8.length) (an (Ih p0 (r8.getD k1 0) r24 hr24) tv)))) ?_)
     obtain ⟨r25,hr25,hm⟩ := bo hm
     refine Sq (RD hnt (nn 4 (o159 [] true r25 :: .no :: [])) [15] [(70,pB (!r25))] [1120] [] (an (AgH p0 p1 r24.1 p3 r25 hr25) tv) ?_)
     refine Ag hm ?_ ?_
     ·intro h26 hm
      refine Sq (RD hnt (nn 3 []) [1,2,3,4,13,14,70] [(9,pI 8)] [1032,1392] [] tv ?_)
      refine DW.conv (τ := Am [(8,rr 1064),(9,pI 8)] [(c157e3)]) (Conv.tp [] [(c157e1)] (by kernel_rfl) .nil (.cons rfl (.box (.cons MLe.nilL (.cons .rfl (.cons MLe.nilL (.cons .rfl .nil))))) .nil)) ?_
      obtain rfl := sj hm
      exact DW.ret (Ai [] [] (.p (.tup [.agg [Bg [],vi 0,Dh [],vi 0],vi 8])))
     ·intro h26 hm
      refine Sk ?_
      refine DW.done ?_
      show DW _ _ _ _ _
      refine RD hnt (nn 3 []) [70] [(14,pI (w64 (((k1 : Nat) : Int) + 1)))] [] [] tv ?_
      exact jD () ⟨hlt1,hm⟩ (Conv.tp [(14,pI (w64 (((k1 : Nat) : Int) + 1)))] [] (by kernel_rfl) (.cons rfl (.of_eq (congrArg pI (Bl hlt1 hc1))) .nil) .nil)
    ·intro h23
     have hge1 : ¬ k1 < r8.length := by have := of_decide_eq_false h23; omega
     have hm := he1 hge1
     unfold AdI at hm
     refine DW.exit ?_
     refine Ar ?_
     refine Au ?_
     refine Ap ?_
     show DW _ _ _ _ _
     obtain ⟨r27,hr27,hm⟩ := bo hm
     refine Sq (RK hnt (nn 3 (o161 [] true r27 :: nn 4 [])) [(8,rr 1064),(9,pI r27.2)] [(1064,bx (pm (Ab r27.1)))] (an (AiY p0 p2 p3 r27 hr27) tv) ?_)
     obtain rfl := sj hm
     exact DW.ret (Ai [] [] (.p (.tup [.agg (Ab r27.1),vi r27.2])))
  ·rcases bt (!r1.2) with h4 | h4
   ·replace hm := Ba h4 hm
    refine RD hnt (nn 3 (sk 4 (pT :: .no :: sk 5 (pT :: [])))) [10,11,12,28] [(45,pB true)] [1080] [] (an5 h4 (an6 tt tv)) ?_
    exact jD true hm Conv.eqK
   ·replace hm := Bb h4 hm
    rcases bt (r1.1.process != p2) with h5 | h5
    ·replace hm := Ba h5 hm
     refine RD hnt (nn 7 (pF :: .no :: sk 5 (pT :: []))) [10,11,12,28] [(45,pB true)] [1080] [] (an5 h4 (an6 h5 tv)) ?_
     exact jD true hm Conv.eqK
    ·replace hm := Bb h5 hm
     obtain ⟨r6,hr6,hm⟩ := bo hm
     refine RD hnt (nn 7 (pF :: nn 4 (o15 [] true r6 :: .no :: pF :: []))) [10,11,12,28] [(45,pB (!r6))] [1080] [] (an5 h4 (an4 h5 (an (Cf p0.tree p3 r6 hr6) (an2 h5 tv)))) ?_
     exact jD (!r6) hm Conv.eqK
abbrev o157 (ks : List Nat) (b : Bool) (RES : Aa × Int) : Orc := .call 44 ks b (.p (.tup [.agg (Ab RES.1),vi RES.2])) [] []

abbrev c163e1 (r17 : Aa) (r4 : Int) (p2 : Int) := ({ id := (r17.tasks.getD (Int.toNat r4) Ax).id,process := (r17.tasks.getD (Int.toNat r4) Ax).process,group := p2,user := (r17.tasks.getD (Int.toNat r4) Ax).user } : An)
abbrev c163e2 : Nat × Obj := (1048,bx [.p (.sl .nil 0 0 (fun _ => [])),pI 0,.p (.sl .nil 0 0 (fun _ => [])),pI 0])
abbrev c163e3 (r17 : Aa) (r4 : Int) (p2 : Int) := (Bs (Kj r17.tasks) (Int.toNat r4) [vi (r17.tasks.getD (Int.toNat r4) Ax).id,vi (r17.tasks.getD (Int.toNat r4) Ax).process,vi p2,vi (r17.tasks.getD (Int.toNat r4) Ax).user])
abbrev Agc (r17 : Aa) (r4 : Int) (p2 : Int) := (r17.tasks.set (Int.toNat r4) (c163e1 r17 r4 p2))
theorem Abm (p0 : Aa) (p1 : Int) (p2 : Int) (RES : Aa × Int) (hm : Iq p0 p1 p2 = some RES) : Spec Tryz.prog 64 [.p (.agg (Ab p0)),pI p1,pI p2] [] (.tup [.agg [ow 0 RES.1.tree.nodes.length,pI RES.1.tree.next,ow 1 RES.1.tasks.length,pI RES.1.next],pI RES.2]) [] [Ac RES.1.tree.nodes,Ae RES.1.tasks] := by
 unfold Iq at hm
 refine SO Tryz.func64 rfl rfl [(0,.p (.agg (Ab p0))),(1,pI p1),(2,pI p2)] [] ?_
 intro cx hnt
 refine Sq (RD hnt (nn 3 []) [0] [(3,rr 1024),(6,rr 1048)] [] [(1024,bx (pm (Ab p0))),(c163e2)] tv ?_)
 obtain ⟨r1,hr1,hm⟩ := bo hm
 refine Sq (Sq (RD hnt (.no :: o49 [] true r1 :: .no :: []) [] [(13,pB (!r1))] [] [] (an (Dk p0 r1 hr1) tv) ?_))
 refine Ag hm ?_ ?_
 ·intro h2 hm
  obtain ⟨r3,hr3,hm⟩ := bo hm
  refine Sq (RK hnt (Uc [] true r3 :: nn 4 []) [(6,rr 1048),(7,pI r3.2)] [(1048,bx [ow 1112 r3.1.tree.nodes.length,pI r3.1.tree.next,ow 1113 r3.1.tasks.length,pI r3.1.next]),(1112,ob0 (Ac r3.1.tree.nodes)),(1113,ob0 (Ae r3.1.tasks))] (an (Br 1 r3 hr3) tv) ?_)
  obtain rfl := sj hm
  exact DW.ret (Ai [Ac r3.1.tree.nodes,Ae r3.1.tasks] [1112,1113] (.tup [.agg [ow 0 r3.1.tree.nodes.length,pI r3.1.tree.next,ow 1 r3.1.tasks.length,pI r3.1.next],pI r3.2]))
 ·intro h2 hm
  refine Sk ?_
  obtain ⟨r4,hr4,hm⟩ := bo hm
  refine Sq (RD hnt (nn 2 (o54 [] true r4 :: .no :: [])) [1,13] [(8,pI r4)] [] [] (an (AdA p0 p1 r4 hr4) tv) ?_)
  refine Sq (Sq ?_)
  refine Jn (ι := Bool) (fun (y1 : Bool) => Am [(2,pI p2),(3,rr 1024),(6,rr 1048),(8,pI r4),(28,pB y1)] [(1024,bx (pm (Ab p0))),(c163e2)]) (fun y1 => (Hj p0 p2 r4) y1 = some RES) ?_ ?_
  ·intro y1 hm
   unfold Hj at hm
   refine Ag hm ?_ ?_
   ·intro h7 hm
    obtain ⟨r8,hr8,hm⟩ := bo hm
    refine Sq (RK hnt (Uc [] true r8 :: nn 4 []) [(6,rr 1048),(7,pI r8.2)] [(1048,bx [ow 1232 r8.1.tree.nodes.length,pI r8.1.tree.next,ow 1233 r8.1.tasks.length,pI r8.1.next]),(1232,ob0 (Ac r8.1.tree.nodes)),(1233,ob0 (Ae r8.1.tasks))] (an (Br 4 r8 hr8) tv) ?_)
    obtain rfl := sj hm
    exact DW.ret (Ai [Ac r8.1.tree.nodes,Ae r8.1.tasks] [1232,1233] (.tup [.agg [ow 0 r8.1.tree.nodes.length,pI r8.1.tree.next,ow 1 r8.1.tasks.length,pI r8.1.next],pI r8.2]))
   ·intro h7 hm
    refine Sk ?_
    obtain ⟨r9,hr9,hm⟩ := bo hm
    refine Sq (Sq (RD hnt (nn 2 (o110 [] true r9 :: .no :: [])) [28] [(9,pI r9)] [] [] (an (Zh p0 p2 r9 hr9) tv) ?_))
    refine Sq (RD hnt (nn 2 []) [] [(36,pB (r9 != 0))] [] [] tv ?_)
    refine Ag hm ?_ ?_
    ·intro h10 hm
     obtain ⟨r11,hr11,hm⟩ := bo hm
     refine Sq (RK hnt (.no :: Uc [] true r11 :: nn 4 []) [(6,rr 1048),(7,pI r11.2)] [(1048,bx [ow 1304 r11.1.tree.nodes.length,pI r11.1.tree.next,ow 1305 r11.1.tasks.length,pI r11.1.next]),(1304,ob0 (Ac r11.1.tree.nodes)),(1305,ob0 (Ae r11.1.tasks))] (an (Br r9 r11 hr11) tv) ?_)
     obtain rfl := sj hm
     exact DW.ret (Ai [Ac r11.1.tree.nodes,Ae r11.1.tasks] [1304,1305] (.tup [.agg [ow 0 r11.1.tree.nodes.length,pI r11.1.tree.next,ow 1 r11.1.tasks.length,pI r11.1.next],pI r11.2]))
    ·intro h10 hm
     refine Sk ?_
     obtain ⟨g12,hm⟩ := go1 hm
     obtain ⟨r13,hr13,hm⟩ := bo hm
     obtain ⟨r14,hr14,hm⟩ := bo hm
     refine Sq (Sq (RD hnt (nn 8 (o83 [] true r13 :: nn 3 (o83 [] true r14 :: .no :: []))) [9,36] [(54,pB (r13 != r14))] [] [] (an g12.1 (an g12.2 (an (Og p0.tree (p0.tasks.getD (Int.toNat r4) Ax).group r13 hr13) (an (Og p0.tree p2 r14 hr14) tv)))) ?_))
     refine Ag hm ?_ ?_
     ·intro h15 hm
      obtain ⟨r16,hr16,hm⟩ := bo hm
      refine Sq (RK hnt (Uc [] true r16 :: nn 4 []) [(6,rr 1048),(7,pI r16.2)] [(1048,bx [ow 1440 r16.1.tree.nodes.length,pI r16.1.tree.next,ow 1441 r16.1.tasks.length,pI r16.1.next]),(1440,ob0 (Ac r16.1.tree.nodes)),(1441,ob0 (Ae r16.1.tasks))] (an (Br 9 r16 hr16) tv) ?_)
      obtain rfl := sj hm
      exact DW.ret (Ai [Ac r16.1.tree.nodes,Ae r16.1.tasks] [1440,1441] (.tup [.agg [ow 0 r16.1.tree.nodes.length,pI r16.1.tree.next,ow 1 r16.1.tasks.length,pI r16.1.next],pI r16.2]))
     ·intro h15 hm
      refine Sk ?_
      obtain ⟨r17,hr17,hm⟩ := bo hm
      refine Sq (RD hnt (.no :: o95 [] true r17 :: nn 2 []) [3,54] [(10,rr 1080)] [1024] [(1080,bx [ow 1472 r17.tree.nodes.length,pI r17.tree.next,ow 1473 r17.tasks.length,pI r17.next]),(1472,ob0 (Ac r17.tree.nodes)),(1473,ob0 (Ae r17.tasks))] (an (Ou p0 r17 hr17) tv) ?_)
      obtain ⟨g18,g19,hm⟩ := go2 hm
      refine Sq (RN hnt (nn 7 []) [(6,rr 1048),(10,rr 1080)] [(c163e2),(1080,bx [ow 1472 r17.tree.nodes.length,pI r17.tree.next,ow 1473 (Agc r17 r4 p2).length,pI r17.next]),(1472,ob0 (Ac r17.tree.nodes)),(1473,ob0 (Ae (Agc r17 r4 p2)))] [] [(1080,.box [ow 1472 r17.tree.nodes.length,pI r17.tree.next,ow 1473 r17.tasks.length,pI r17.next]),(1473,.row 4 r17.tasks.length (c163e3 r17 r4 p2))] (an g18.1 (an g18.2 (an g19 tv))) (by kernel_rfl) .nil (.cons rfl (.box (.cons .rfl (.cons .rfl (.cons (MLe.ownLen (enc := Ao) (d := Ax) (f := (c163e3 r17 r4 p2)) (RowIs.upd RowIs.elems (c163e1 r17 r4 p2) rfl)) (.cons .rfl .nil))))) (.cons rfl (BLe.typed (RowIs.upd RowIs.elems (c163e1 r17 r4 p2) rfl)) .nil)) ?_)
      refine Sq (RD hnt (nn 3 []) [10] [(7,pI 0)] [1080] [(1048,bx [ow 1472 r17.tree.nodes.length,pI r17.tree.next,ow 1473 (Agc r17 r4 p2).length,pI r17.next])] tv ?_)
      obtain rfl := sj hm
      exact DW.ret (Ai [Ac r17.tree.nodes,Ae (Agc r17 r4 p2)] [1472,1473] (.tup [.agg [ow 0 r17.tree.nodes.length,pI r17.tree.next,ow 1 (Agc r17 r4 p2).length,pI r17.next],pI 0]))
  ·rcases bt (decide (r4 < 0)) with h5 | h5
   ·replace hm := Ba h5 hm
    refine RD hnt (nn 3 (sk 5 (pT :: []))) [] [(28,pB true)] [] [] (an6 h5 tv) ?_
    exact jD true hm Conv.eqK
   ·replace hm := Bb h5 hm
    obtain ⟨r6,hr6,hm⟩ := bo hm
    refine RD hnt (nn 6 (o30 [] true r6 :: .no :: pF :: [])) [] [(28,pB (decide (r6 < 0)))] [] [] (an4 h5 (an (Fz p0.tree p2 r6 hr6) (an2 h5 tv))) ?_
    exact jD (decide (r6 < 0)) hm Conv.eqK
abbrev o163 (ks : List Nat) (b : Bool) (RES : Aa × Int) : Orc := .call 64 ks b (.tup [.agg [ow 0 RES.1.tree.nodes.length,pI RES.1.tree.next,ow 1 RES.1.tasks.length,pI RES.1.next],pI RES.2]) [] [Ac RES.1.tree.nodes,Ae RES.1.tasks]

abbrev c162e1 : Nat × Obj := (1064,bx [.p (.sl .nil 0 0 (fun _ => [])),pI 0,.p (.sl .nil 0 0 (fun _ => [])),pI 0])
theorem AcG (p0 : Aa) (p1 : Int) (p2 : Int) (p3 : Int) (RES : Aa × Int) (hm : Gh p0 p1 p2 p3 = some RES) : Spec Tryz.prog 22 [.p (.agg (Ab p0)),pI p1,pI p2,pI p3] [] (.tup [.agg [ow 0 RES.1.tree.nodes.length,pI RES.1.tree.next,ow 1 RES.1.tasks.length,pI RES.1.next],pI RES.2]) [] [Ac RES.1.tree.nodes,Ae RES.1.tasks] := by
 unfold Gh at hm
 refine SO Tryz.func22 rfl rfl [(0,.p (.agg (Ab p0))),(1,pI p1),(2,pI p2),(3,pI p3)] [] ?_
 intro cx hnt
 refine Sq (RD hnt (nn 3 []) [0] [(4,rr 1032),(8,rr 1064)] [] [(1032,bx (pm (Ab p0))),(c162e1)] tv ?_)
 obtain ⟨r1,hr1,hm⟩ := bo hm
 refine Sq (Sq ?_)
 refine Jn (ι := Bool) (fun (y1 : Bool) => Am [(1,pI p1),(2,pI p2),(3,pI p3),(4,rr 1032),(8,rr 1064),(18,pB y1)] [(1032,bx (pm (Ab p0))),(c162e1)]) (fun y1 => (Iv p0 p1 p2 p3) y1 = some RES) ?_ ?_
 ·intro y1 hm
  unfold Iv at hm
  refine Ag hm ?_ ?_
  ·intro h4 hm
   obtain ⟨r5,hr5,hm⟩ := bo hm
   refine Sq (RK hnt (o100 [] true r5 :: nn 4 []) [(8,rr 1064),(9,pI r5.2)] [(1064,bx [ow 1152 r5.1.tree.nodes.length,pI r5.1.tree.next,ow 1153 r5.1.tasks.length,pI r5.1.next]),(1152,ob0 (Ac r5.1.tree.nodes)),(1153,ob0 (Ae r5.1.tasks))] (an (Eb 1 r5 hr5) tv) ?_)
   obtain rfl := sj hm
   exact DW.ret (Ai [Ac r5.1.tree.nodes,Ae r5.1.tasks] [1152,1153] (.tup [.agg [ow 0 r5.1.tree.nodes.length,pI r5.1.tree.next,ow 1 r5.1.tasks.length,pI r5.1.next],pI r5.2]))
  ·intro h4 hm
   refine Sk ?_
   obtain ⟨r6,hr6,hm⟩ := bo hm
   refine Sq (Sq (RD hnt (nn 2 (o54 [] true r6 :: .no :: [])) [18] [(25,pB (decide (r6 < 0)))] [] [] (an (AdA p0 p2 r6 hr6) tv) ?_))
   refine Ag hm ?_ ?_
   ·intro h7 hm
    obtain ⟨r8,hr8,hm⟩ := bo hm
    refine Sq (RK hnt (o100 [] true r8 :: nn 4 []) [(8,rr 1064),(9,pI r8.2)] [(1064,bx [ow 1208 r8.1.tree.nodes.length,pI r8.1.tree.next,ow 1209 r8.1.tasks.length,pI r8.1.next]),(1208,ob0 (Ac r8.1.tree.nodes)),(1209,ob0 (Ae r8.1.tasks))] (an (Eb 4 r8 hr8) tv) ?_)
    obtain rfl := sj hm
    exact DW.ret (Ai [Ac r8.1.tree.nodes,Ae r8.1.tasks] [1208,1209] (.tup [.agg [ow 0 r8.1.tree.nodes.length,pI r8.1.tree.next,ow 1 r8.1.tasks.length,pI r8.1.next],pI r8.2]))
   ·intro h7 hm
    refine Sk ?_
    obtain ⟨r9,hr9,hm⟩ := bo hm
    refine Sq (Sq (RD hnt (nn 5 (o104 [] true r9 :: .no :: [])) [1,25] [(10,pI r9)] [] [] (an (Spec.args (xs := [.p (.agg (Ab p0)),pI p1,pI p3,.p (.sl .unk 1 1 (cut 1 [vi p2]))]) (AaM p0 p1 p3 [p2] r9 hr9) (.cons .rfl (.cons .rfl (.cons .rfl (.cons (.p (PLe.typed (RowIs.lit (enc := Bw) (d := 0) (n := 1) (f := (cut 1 [vi p2])) [p2] rfl (fun | 0,_ => rfl | n + 1,h => absurd h (by omega))))) .nil))))) tv) ?_))
    refine Sq (RD hnt (nn 2 []) [] [(36,pB (r9 != 0))] [] [] tv ?_)
    refine Ag hm ?_ ?_
    ·intro h10 hm
     obtain ⟨r11,hr11,hm⟩ := bo hm
     refine Sq (RK hnt (.no :: o100 [] true r11 :: nn 4 []) [(8,rr 1064),(9,pI r11.2)] [(1064,bx [ow 1304 r11.1.tree.nodes.length,pI r11.1.tree.next,ow 1305 r11.1.tasks.length,pI r11.1.next]),(1304,ob0 (Ac r11.1.tree.nodes)),(1305,ob0 (Ae r11.1.tasks))] (an (Eb r9 r11 hr11) tv) ?_)
     obtain rfl := sj hm
     exact DW.ret (Ai [Ac r11.1.tree.nodes,Ae r11.1.tasks] [1304,1305] (.tup [.agg [ow 0 r11.1.tree.nodes.length,pI r11.1.tree.next,ow 1 r11.1.tasks.length,pI r11.1.next],pI r11.2]))
    ·intro h10 hm
     refine Sk ?_
     obtain ⟨r12,hr12,hm⟩ := bo hm
     refine Sq (RK hnt (nn 3 (o163 [] true r12 :: nn 4 [])) [(8,rr 1064),(9,pI r12.2)] [(1064,bx [ow 1352 r12.1.tree.nodes.length,pI r12.1.tree.next,ow 1353 r12.1.tasks.length,pI r12.1.next]),(1352,ob0 (Ac r12.1.tree.nodes)),(1353,ob0 (Ae r12.1.tasks))] (an (Abm p0 p2 p3 r12 hr12) tv) ?_)
     obtain rfl := sj hm
     exact DW.ret (Ai [Ac r12.1.tree.nodes,Ae r12.1.tasks] [1352,1353] (.tup [.agg [ow 0 r12.1.tree.nodes.length,pI r12.1.tree.next,ow 1 r12.1.tasks.length,pI r12.1.next],pI r12.2]))
 ·rcases bt (!r1) with h2 | h2
  ·replace hm := Ba h2 hm
   refine RD hnt (.no :: o38 [] true r1 :: nn 2 (sk 3 (pT :: []))) [] [(18,pB true)] [] [] (an (Bu p1 r1 hr1) (an4 h2 tv)) ?_
   exact jD true hm Conv.eqK
  ·replace hm := Bb h2 hm
   obtain ⟨r3,hr3,hm⟩ := bo hm
   refine RD hnt (.no :: o38 [] true r1 :: nn 3 (o49 [] true r3 :: .no :: pF :: [])) [] [(18,pB (!r3))] [] [] (an (Bu p1 r1 hr1) (an2 h2 (an (Dk p0 r3 hr3) (an2 h2 tv)))) ?_
   exact jD (!r3) hm Conv.eqK
abbrev o162 (ks : List Nat) (b : Bool) (RES : Aa × Int) : Orc := .call 22 ks b (.tup [.agg [ow 0 RES.1.tree.nodes.length,pI RES.1.tree.next,ow 1 RES.1.tasks.length,pI RES.1.next],pI RES.2]) [] [Ac RES.1.tree.nodes,Ae RES.1.tasks]

abbrev c164e1 : Nat × Obj := (1064,bx [ow 100000 0,pI 0,ow 100001 0,pI 0])
abbrev c164e2 : Nat × Obj := (1064,bx [.p (.sl .nil 0 0 (fun _ => [])),pI 0,.p (.sl .nil 0 0 (fun _ => [])),pI 0])
theorem Afv (p0 : Aa) (p1 : Int) (p2 : Int) (p3 : Int) (RES : Aa × Int) (hm : Js p0 p1 p2 p3 = some RES) : Spec Tryz.prog 45 [.p (.agg (Ab p0)),pI p1,pI p2,pI p3] [] (.tup [.agg [ow 0 RES.1.tree.nodes.length,pI RES.1.tree.next,ow 1 RES.1.tasks.length,pI RES.1.next],pI RES.2]) [] [Ac RES.1.tree.nodes,Ae RES.1.tasks] := by
 unfold Js at hm
 refine SO Tryz.func45 rfl rfl [(0,.p (.agg (Ab p0))),(1,pI p1),(2,pI p2),(3,pI p3)] [] ?_
 intro cx hnt
 refine Sq (RD hnt (nn 3 []) [0] [(4,rr 1032),(8,rr 1064)] [] [(1032,bx (pm (Ab p0))),(c164e2)] tv ?_)
 obtain ⟨r1,hr1,hm⟩ := bo hm
 refine Sq (RD hnt (nn 2 (o20 [] true r1 :: nn 6 [])) [] [(10,rr 1080),(11,pB r1.2)] [] [(1080,bx (pm (Ao r1.1)))] (an (Ih p0 p2 r1 hr1) tv) ?_)
 obtain ⟨r2,hr2,hm⟩ := bo hm
 refine Sq (Sq (RD hnt (nn 3 (o138 [] true r2 :: .no :: [])) [] [(12,pI r2)] [] [] (an (Nl p0 p1 p3 true r2 hr2) tv) ?_))
 refine Sq (RD hnt (nn 2 []) [] [(24,pB (r2 == 1))] [] [] tv ?_)
 refine Ag hm ?_ ?_
 ·intro h3 hm
  refine Sq (RD hnt (nn 4 []) [1,2,3,4,10,11,12,24] [(9,pI r2)] [1032,1080] [] tv ?_)
  refine DW.cv [] [] [] [(c164e1),(100000,ob0 (Ac [])),(100001,ob0 (Ae []))] (Conv.ads [(.o 1064 0,100000,6,elems Ak As []),(.o 1064 2,100001,4,elems Ao Ax [])]) ?_
  obtain rfl := sj hm
  exact DW.ret (Ai [Ac [],Ae []] [100000,100001] (.tup [.agg [ow 0 0,pI 0,ow 1 0,pI 0],pI r2]))
 ·intro h3 hm
  refine Sk ?_
  refine Sq (Sq ?_)
  refine Jn (ι := Bool) (fun (y1 : Bool) => Am [(1,pI p1),(2,pI p2),(3,pI p3),(4,rr 1032),(8,rr 1064),(10,rr 1080),(35,pB y1)] [(1032,bx (pm (Ab p0))),(c164e2),(1080,bx (pm (Ao r1.1)))]) (fun y1 => (Mk p0 p1 p2 p3 r1) y1 = some RES) ?_ ?_
  ·intro y1 hm
   unfold Mk at hm
   refine Ag hm ?_ ?_
   ·intro h6 hm
    refine Sq (RD hnt (nn 3 []) [1,2,3,4,10,35] [(9,pI 4)] [1032,1080] [] tv ?_)
    refine DW.cv [] [] [] [(c164e1),(100000,ob0 (Ac [])),(100001,ob0 (Ae []))] (Conv.ads [(.o 1064 0,100000,6,elems Ak As []),(.o 1064 2,100001,4,elems Ao Ax [])]) ?_
    obtain rfl := sj hm
    exact DW.ret (Ai [Ac [],Ae []] [100000,100001] (.tup [.agg [ow 0 0,pI 0,ow 1 0,pI 0],pI 4]))
   ·intro h6 hm
    refine Sk ?_
    obtain ⟨r7,hr7,hm⟩ := bo hm
    refine Sq (Sq (RD hnt (nn 4 (o159 [] true r7 :: .no :: [])) [1,10,35] [(42,pB (!r7))] [1080] [] (an (AgH p0 p1 r1.1 p3 r7 hr7) tv) ?_))
    refine Ag hm ?_ ?_
    ·intro h8 hm
     refine Sq (RD hnt (nn 3 []) [2,3,4,42] [(9,pI 8)] [1032] [] tv ?_)
     refine DW.cv [] [] [] [(c164e1),(100000,ob0 (Ac [])),(100001,ob0 (Ae []))] (Conv.ads [(.o 1064 0,100000,6,elems Ak As []),(.o 1064 2,100001,4,elems Ao Ax [])]) ?_
     obtain rfl := sj hm
     exact DW.ret (Ai [Ac [],Ae []] [100000,100001] (.tup [.agg [ow 0 0,pI 0,ow 1 0,pI 0],pI 8]))
    ·intro h8 hm
     refine Sk ?_
     obtain ⟨r9,hr9,hm⟩ := bo hm
     refine Sq (RK hnt (nn 3 (o129 [] true r9 :: nn 4 [])) [(8,rr 1064),(9,pI r9.2)] [(1064,bx [ow 1376 r9.1.tree.nodes.length,pI r9.1.tree.next,ow 1377 r9.1.tasks.length,pI r9.1.next]),(1376,ob0 (Ac r9.1.tree.nodes)),(1377,ob0 (Ae r9.1.tasks))] (an (Xo p0 p2 p3 r9 hr9) tv) ?_)
     obtain rfl := sj hm
     exact DW.ret (Ai [Ac r9.1.tree.nodes,Ae r9.1.tasks] [1376,1377] (.tup [.agg [ow 0 r9.1.tree.nodes.length,pI r9.1.tree.next,ow 1 r9.1.tasks.length,pI r9.1.next],pI r9.2]))
  ·rcases bt (!r1.2) with h4 | h4
   ·replace hm := Ba h4 hm
    refine RD hnt (nn 3 (sk 5 (pT :: []))) [11,12,24] [(35,pB true)] [] [] (an6 h4 tv) ?_
    exact jD true hm Conv.eqK
   ·replace hm := Bb h4 hm
    obtain ⟨r5,hr5,hm⟩ := bo hm
    refine RD hnt (nn 6 (o15 [] true r5 :: .no :: pF :: [])) [11,12,24] [(35,pB (!r5))] [] [] (an4 h4 (an (Cf p0.tree p3 r5 hr5) (an2 h4 tv))) ?_
    exact jD (!r5) hm Conv.eqK
abbrev o164 (ks : List Nat) (b : Bool) (RES : Aa × Int) : Orc := .call 45 ks b (.tup [.agg [ow 0 RES.1.tree.nodes.length,pI RES.1.tree.next,ow 1 RES.1.tasks.length,pI RES.1.next],pI RES.2]) [] [Ac RES.1.tree.nodes,Ae RES.1.tasks]

theorem AaZ (p0 : Af) (p1 : Af) (RES : Bool) (hm : AaI p0 p1 = some RES) : Spec Tryz.prog 91 [.p (.agg (Aj p0)),.p (.agg (Aj p1))] [] (pB RES) [] [] := by
 unfold AaI at hm
 refine SO Tryz.func91 rfl rfl [(0,.p (.agg (Aj p0))),(1,.p (.agg (Aj p1)))] [] ?_
 intro cx hnt
 refine Sq (RK hnt (nn 3 []) [(2,rr 1016),(3,rr 1024)] [(1016,bx (pm (Aj p0))),(1024,bx (pm (Aj p1)))] tv ?_)
 refine Sq (Sq (DW.regJ (sl2 := [(2,rr 1016),(3,rr 1024),(19,pB ((((p0.nodes.length : Nat) : Int) != ((p1.nodes.length : Nat) : Int)) || (p0.next != p1.next)))]) (ob2 := [(1016,bx (pm (Aj p0))),(1024,bx (pm (Aj p1)))]) ?_ ?_))
 ·rcases bt (((p0.nodes.length : Nat) : Int) != ((p1.nodes.length : Nat) : Int)) with h1 | h1
  ·exact RT hnt (nn 8 (sk 5 (pT :: []))) [(19,pB true)] (an6 h1 tv) (by kernel_rfl) (.cons rfl (.of_eq (by rw [h1]; try rfl)) .nil)
  ·exact RT hnt (nn 13 (pF :: [])) [(19,pB (p0.next != p1.next))] (an6 h1 tv) (by kernel_rfl) (.cons rfl (.of_eq (by rw [h1]; try rfl)) .nil)
 ·refine Ag hm ?_ ?_
  ·intro h2 hm
   refine Sq (RK hnt (.no :: []) [(4,pB false)] [] tv ?_)
   obtain rfl := sj hm
   exact DW.ret (Ai [] [] (pB false))
  ·intro h2 hm
   refine Sk ?_
   refine Sq (Sq (RD hnt (.no :: []) [19] [(5,pI 0)] [] [] tv ?_))
   refine Bk ?_
   obtain ⟨hc1,hm⟩ := go1 hm
   refine DW.rangeO (fun (k1 : Nat) (s1 : Unit) => Am [(2,rr 1016),(3,rr 1024),(5,pI ((k1 : Nat) : Int))] [(1016,bx (pm (Aj p0))),(1024,bx (pm (Aj p1)))]) As hm Conv.eqK ?_
   intro k1 s1 n1 hk1 hs1 he1
   refine Sq (Sq (RD hnt (nn 5 []) [] [(24,pB (decide (((k1 : Nat) : Int) < ((p0.nodes.length : Nat) : Int))))] [] [] tv ?_))
   refine Bx (decide (((k1 : Nat) : Int) < ((p0.nodes.length : Nat) : Int))) ?_ ?_
   ·intro h11
    have hlt1 : k1 < p0.nodes.length := by have := of_decide_eq_true h11; omega
    have hm := hs1 hlt1
    unfold Adv at hm
    refine Sk ?_
    refine Sq (Bk ?_)
    obtain ⟨g12,hm⟩ := go1 hm
    refine Sq (RD hnt (nn 11 []) [24] [(37,pB (!(Aig (p0.nodes.getD k1 (default : Ah)) (p1.nodes.getD k1 As))))] [] [] (an (nn0 k1) (an (ltc hlt1) (an (nn0 k1) (an (ltc g12) tv)))) ?_)
    refine Ag hm ?_ ?_
    ·intro h13 hm
     refine Sq (RK hnt (.no :: []) [(4,pB false)] [] tv ?_)
     obtain rfl := sj hm
     exact DW.ret (Ai [] [] (pB false))
    ·intro h13 hm
     refine Sk ?_
     refine DW.done ?_
     show DW _ _ _ _ _
     refine RD hnt (nn 3 []) [37] [(5,pI (w64 (((k1 : Nat) : Int) + 1)))] [] [] tv ?_
     exact jD () ⟨hlt1,hm⟩ (Conv.tp [(5,pI (w64 (((k1 : Nat) : Int) + 1)))] [] (by kernel_rfl) (.cons rfl (.of_eq (congrArg pI (Bl hlt1 hc1))) .nil) .nil)
   ·intro h11
    have hge1 : ¬ k1 < p0.nodes.length := by have := of_decide_eq_false h11; omega
    have hm := he1 hge1
    unfold AhB at hm
    refine DW.exit ?_
    refine Ar ?_
    refine Au ?_
    refine Ap ?_
    show DW _ _ _ _ _
    refine Sq (RK hnt (.no :: []) [(4,pB true)] [] tv ?_)
    obtain rfl := sj hm
    exact DW.ret (Ai [] [] (pB true))
abbrev o166 (ks : List Nat) (b : Bool) (RES : Bool) : Orc := .call 91 ks b (pB RES) [] []

theorem Akt (p0 : Aa) (p1 : Aa) (RES : Bool) (hm : Aaw p0 p1 = some RES) : Spec Tryz.prog 46 [.p (.agg (Ab p0)),.p (.agg (Ab p1))] [] (pB RES) [] [] := by
 unfold Aaw at hm
 refine SO Tryz.func46 rfl rfl [(0,.p (.agg (Ab p0))),(1,.p (.agg (Ab p1)))] [] ?_
 intro cx hnt
 refine Sq (RK hnt (nn 3 []) [(2,rr 1016),(3,rr 1024)] [(1016,bx (pm (Ab p0))),(1024,bx (pm (Ab p1)))] tv ?_)
 obtain ⟨r1,hr1,hm⟩ := bo hm
 refine Sq (Sq ?_)
 refine Jn (ι := Bool) (fun (y1 : Bool) => Am [(2,rr 1016),(3,rr 1024),(27,pB y1)] [(1016,bx (pm (Ab p0))),(1024,bx (pm (Ab p1)))]) (fun y1 => (Tc p0 p1) y1 = some RES) ?_ ?_
 ·intro y1 hm
  unfold Tc at hm
  refine Ag hm ?_ ?_
  ·intro h4 hm
   refine Sq (RK hnt (.no :: []) [(4,pB false)] [] tv ?_)
   obtain rfl := sj hm
   exact DW.ret (Ai [] [] (pB false))
  ·intro h4 hm
   refine Sk ?_
   refine Sq (Sq (RD hnt (.no :: []) [27] [(5,pI 0)] [] [] tv ?_))
   refine Bk ?_
   obtain ⟨hc1,hm⟩ := go1 hm
   refine DW.rangeO (fun (k1 : Nat) (s1 : Unit) => Am [(2,rr 1016),(3,rr 1024),(5,pI ((k1 : Nat) : Int))] [(1016,bx (pm (Ab p0))),(1024,bx (pm (Ab p1)))]) Ax hm Conv.eqK ?_
   intro k1 s1 n1 hk1 hs1 he1
   refine Sq (Sq (RD hnt (nn 5 []) [] [(32,pB (decide (((k1 : Nat) : Int) < ((p0.tasks.length : Nat) : Int))))] [] [] tv ?_))
   refine Bx (decide (((k1 : Nat) : Int) < ((p0.tasks.length : Nat) : Int))) ?_ ?_
   ·intro h13
    have hlt1 : k1 < p0.tasks.length := by have := of_decide_eq_true h13; omega
    have hm := hs1 hlt1
    unfold AdB at hm
    refine Sk ?_
    refine Sq (Bk ?_)
    obtain ⟨g14,hm⟩ := go1 hm
    refine Sq (RD hnt (nn 11 []) [32] [(45,pB (!(AiF (p0.tasks.getD k1 (default : An)) (p1.tasks.getD k1 Ax))))] [] [] (an (nn0 k1) (an (ltc hlt1) (an (nn0 k1) (an (ltc g14) tv)))) ?_)
    refine Ag hm ?_ ?_
    ·intro h15 hm
     refine Sq (RK hnt (.no :: []) [(4,pB false)] [] tv ?_)
     obtain rfl := sj hm
     exact DW.ret (Ai [] [] (pB false))
    ·intro h15 hm
     refine Sk ?_
     refine DW.done ?_
     show DW _ _ _ _ _
     refine RD hnt (nn 3 []) [45] [(5,pI (w64 (((k1 : Nat) : Int) + 1)))] [] [] tv ?_
     exact jD () ⟨hlt1,hm⟩ (Conv.tp [(5,pI (w64 (((k1 : Nat) : Int) + 1)))] [] (by kernel_rfl) (.cons rfl (.of_eq (congrArg pI (Bl hlt1 hc1))) .nil) .nil)
   ·intro h13
    have hge1 : ¬ k1 < p0.tasks.length := by have := of_decide_eq_false h13; omega
    have hm := he1 hge1
    unfold AhG at hm
    refine DW.exit ?_
    refine Ar ?_
    refine Au ?_
    refine Ap ?_
    show DW _ _ _ _ _
    refine Sq (RK hnt (.no :: []) [(4,pB true)] [] tv ?_)
    obtain rfl := sj hm
    exact DW.ret (Ai [] [] (pB true))
 ·rcases bt (!r1) with h2 | h2
  ·replace hm := Ba h2 hm
   refine RD hnt (nn 4 (o166 [] true r1 :: nn 2 (sk 7 (pT :: .no :: sk 5 (pT :: []))))) [] [(27,pB true)] [] [] (an (AaZ p0.tree p1.tree r1 hr1) (an2 h2 (an6 h2 (an6 tt tv)))) ?_
   exact jD true hm Conv.eqK
  ·replace hm := Bb h2 hm
   rcases bt (((p0.tasks.length : Nat) : Int) != ((p1.tasks.length : Nat) : Int)) with h3 | h3
   ·replace hm := Ba h3 hm
    refine RD hnt (nn 4 (o166 [] true r1 :: nn 9 (pF :: .no :: sk 5 (pT :: [])))) [] [(27,pB true)] [] [] (an (AaZ p0.tree p1.tree r1 hr1) (an2 h2 (an6 h2 (an6 h3 tv)))) ?_
    exact jD true hm Conv.eqK
   ·replace hm := Bb h3 hm
    refine RD hnt (nn 4 (o166 [] true r1 :: nn 9 (pF :: nn 6 (pF :: [])))) [] [(27,pB (p0.next != p1.next))] [] [] (an (AaZ p0.tree p1.tree r1 hr1) (an2 h2 (an6 h2 (an6 h3 tv)))) ?_
    exact jD (p0.next != p1.next) hm Conv.eqK
abbrev o165 (ks : List Nat) (b : Bool) (RES : Bool) : Orc := .call 46 ks b (pB RES) [] []

abbrev AbX : Nat × Obj := (1048,bx [.p (.sl .nil 0 0 (fun _ => [])),pI 0,.p (.sl .nil 0 0 (fun _ => [])),pI 0])
abbrev AdU : Nat × Obj := (1096,bx [.p (.sl .nil 0 0 (fun _ => [])),pI 0,.p (.sl .nil 0 0 (fun _ => [])),pI 0])
abbrev AiP : Nat × Obj := (1088,bx [.p (.sl .nil 0 0 (fun _ => [])),pI 0,.p (.sl .nil 0 0 (fun _ => [])),pI 0])
abbrev Aeg (p1 : Aa) : Nat × Obj := (1032,bx (pm (Ab p1)))
abbrev c133e5 := ({ tree := ({ nodes := [],next := 0 } : Af),tasks := [],next := 0 } : Aa)
theorem Agl (p0 : Aq) (p1 : Aa) (p2 : Int) (RES : Aa × Int × Bool × Aq) (hm : Zz p0 p1 p2 = some RES) : Spec Tryz.prog 9 [rr 0,.p (.agg (Ab p1)),pI p2] [.box (pm (Al p0))] (.p (.tup [.agg (Ab RES.1),vi RES.2.1,vb RES.2.2.1])) [.box (pm (Al RES.2.2.2))] [] := by
 unfold Zz at hm
 refine SO Tryz.func9 rfl rfl [(0,rr 0),(1,.p (.agg (Ab p1))),(2,pI p2)] [(0,bx (pm (Al p0)))] ?_
 intro cx hnt
 refine Sq (RD hnt (nn 4 []) [1] [(4,rr 1032),(6,rr 1048)] [] [(Aeg p1),(AbX)] tv ?_)
 obtain ⟨r1,hr1,hm⟩ := bo hm
 obtain ⟨r2,hr2,hm⟩ := bo hm
 refine Sq (RD hnt (nn 3 (o119 [0] true r1 :: nn 2 (o127 [0] true r2 :: nn 2 []))) [] [(9,pI r1.1),(10,pI r2.1)] [] [(0,bx (pm (Al r2.2)))] (an (Od p0 p1.tree r1 hr1) (an tv (an (Pf r1.2 p1 r2 hr2) (an tv tv)))) ?_)
 refine Sq (RD hnt (nn 2 []) [] [(11,rr 1088),(12,rr 1096)] [] [(AiP),(AdU)] tv ?_)
 refine Sq (RD hnt (nn 2 []) [] [(13,pI 0),(14,pI 0)] [] [] tv ?_)
 refine Sq (RD hnt (nn 2 []) [] [(15,pI 0),(16,pI 0)] [] [] tv ?_)
 obtain ⟨r3,hr3,hm⟩ := bo hm
 refine Sq (Sq (RD hnt (.no :: Hi [0] true r3 :: []) [] [(28,pI r3.1)] [] [(0,bx (pm (Al r3.2)))] (an (Aw r2.2 7 r3 hr3) (an tv tv)) ?_))
 refine Jn (ι := Aq × Aa × Aa × Int × Int × Int × Int) (fun (y1 : Aq × Aa × Aa × Int × Int × Int × Int) => Am [(6,rr 1048),(11,rr 1088),(12,rr 1096),(13,pI y1.2.2.2.1),(14,pI y1.2.2.2.2.1),(15,pI y1.2.2.2.2.2.1),(16,pI y1.2.2.2.2.2.2)] [(0,bx (pm (Al y1.1))),(AbX),(1088,bx (pm (Ab y1.2.1))),(1096,bx (pm (Ab y1.2.2.1)))]) (fun y1 => Jt y1 = some RES) ?_ ?_
 ·intro y1 hm
  unfold Jt at hm
  refine Sq ?_
  refine Jn (ι := Bool) (fun (y4 : Bool) => Am [(6,rr 1048),(7,pI y1.2.2.2.2.1),(8,pB y4)] [(0,bx (pm (Al y1.1))),(1048,bx (pm (Ab y1.2.2.1)))]) (fun y4 => (Yk y1) y4 = some RES) ?_ ?_
  ·intro y4 hm
   unfold Yk at hm
   obtain rfl := sj hm
   exact DW.ret (Ai [.box (pm (Al y1.1))] [] (.p (.tup [.agg (Ab y1.2.2.1),vi y1.2.2.2.2.1,vb y4])))
  ·rcases bt (y1.2.2.2.1 == y1.2.2.2.2.1) with h28 | h28
   ·replace hm := Ba h28 hm
    rcases bt (y1.2.2.2.2.2.1 == y1.2.2.2.2.2.2) with h29 | h29
    ·replace hm := Ba h29 hm
     obtain ⟨r30,hr30,hm⟩ := bo hm
     refine RK hnt (nn 9 (pT :: nn 3 (o165 [] true r30 :: pT :: nn 3 []))) [(6,rr 1048),(7,pI y1.2.2.2.2.1),(8,pB r30)] [(0,bx (pm (Al y1.1))),(1048,bx (pm (Ab y1.2.2.1)))] (an4 h28 (an3 h29 (an (Akt y1.2.1 y1.2.2.1 r30 hr30) (an h29 tv)))) ?_
     exact jD r30 hm .refl
    ·replace hm := Bb h29 hm
     refine RK hnt (nn 9 (pT :: .no :: sk 3 (pF :: nn 3 []))) [(6,rr 1048),(7,pI y1.2.2.2.2.1),(8,pB false)] [(0,bx (pm (Al y1.1))),(1048,bx (pm (Ab y1.2.2.1)))] (an4 h28 (an4 h29 tv)) ?_
     exact jD false hm .refl
   ·replace hm := Bb h28 hm
    refine RK hnt (nn 6 (sk 3 (pF :: .no :: sk 3 (pF :: nn 3 [])))) [(6,rr 1048),(7,pI y1.2.2.2.2.1),(8,pB false)] [(0,bx (pm (Al y1.1))),(1048,bx (pm (Ab y1.2.2.1)))] (an4 h28 (an4 ff tv)) ?_
    exact jD false hm .refl
 ·refine Bk ?_
  refine Sq (RD hnt (nn 2 []) [] [(29,pB (r3.1 == 0))] [] [] tv ?_)
  refine Ag hm ?_ ?_
  ·intro h4 hm
   obtain ⟨r5,hr5,hm⟩ := bo hm
   refine Sq (RD hnt (.no :: o115 [0] true r5 :: .no :: []) [0,10,13,14,15,16,28,29] [(17,pS r5.1)] [] [(0,bx (pm (Al r5.2)))] (an (AaP r3.2 r5 hr5) (an tv tv)) ?_)
   obtain ⟨r6,hr6,hm⟩ := bo hm
   refine Sq (RK hnt (nn 4 (o47 [] true r6 :: nn 7 [])) [(2,pI p2),(4,rr 1032),(6,rr 1048),(9,pI r1.1),(11,rr 1088),(12,rr 1096),(13,pI r6.2.2),(15,pI r6.2.1),(17,pS r5.1)] [(0,bx (pm (Al r5.2))),(Aeg p1),(AbX),(1088,bx [ow 1304 r6.1.tree.nodes.length,pI r6.1.tree.next,ow 1305 r6.1.tasks.length,pI r6.1.next]),(AdU),(1304,ob0 (Ac r6.1.tree.nodes)),(1305,ob0 (Ae r6.1.tasks))] (an (Zj p1 p2 r1.1 r5.1 r6 hr6) tv) ?_)
   obtain ⟨r7,hr7,hm⟩ := bo hm
   refine RD hnt (nn 4 (o134 [] true r7 :: nn 7 [])) [2,4,9,17] [(14,pI r7.2.2),(16,pI r7.2.1)] [1032] [(1096,bx [ow 1376 r7.1.tree.nodes.length,pI r7.1.tree.next,ow 1377 r7.1.tasks.length,pI r7.1.next]),(1376,ob0 (Ac r7.1.tree.nodes)),(1377,ob0 (Ae r7.1.tasks))] (an (AiX p1 p2 r1.1 r5.1 r7 hr7) tv) ?_
   exact bD (r5.2,r6.1,r7.1,r6.2.2,r7.2.2,r6.2.1,r7.2.1) hm (Conv.frz [1304,1305,1376,1377])
  ·intro h4 hm
   refine Sq (RD hnt (nn 2 []) [29] [(51,pB (r3.1 == 1))] [] [] tv ?_)
   refine Ag hm ?_ ?_
   ·intro h8 hm
    obtain ⟨r9,hr9,hm⟩ := bo hm
    refine Sq (RK hnt (nn 3 (o139 [] true r9 :: nn 5 [])) [(2,pI p2),(4,rr 1032),(6,rr 1048),(9,pI r1.1),(11,rr 1088),(12,rr 1096),(13,pI r9.2),(15,pI 0),(16,pI 0)] [(0,bx (pm (Al r3.2))),(Aeg p1),(AbX),(1088,bx [.p (Bg r9.1.tree.nodes),pI r9.1.tree.next,ow 1456 r9.1.tasks.length,pI r9.1.next]),(AdU),(1456,ob0 (Ae r9.1.tasks))] (an (Afs p1 p2 r1.1 r9 hr9) tv) ?_)
    obtain ⟨r10,hr10,hm⟩ := bo hm
    refine RD hnt (nn 3 (o145 [] true r10 :: nn 5 [])) [2,4,9] [(14,pI r10.2)] [1032] [(1096,bx [ow 1512 r10.1.tree.nodes.length,pI r10.1.tree.next,ow 1513 r10.1.tasks.length,pI r10.1.next]),(1512,ob0 (Ac r10.1.tree.nodes)),(1513,ob0 (Ae r10.1.tasks))] (an (Ajf p1 p2 r1.1 r10 hr10) tv) ?_
    exact bD (r3.2,r9.1,r10.1,r9.2,r10.2,0,0) hm (Conv.frz [1456,1512,1513])
   ·intro h8 hm
    refine Sq (RK hnt (nn 2 []) [(0,rr 0),(2,pI p2),(4,rr 1032),(6,rr 1048),(9,pI r1.1),(10,pI r2.1),(11,rr 1088),(12,rr 1096),(13,pI 0),(14,pI 0),(15,pI 0),(16,pI 0),(28,pI r3.1),(67,pB (r3.1 == 2))] [(0,bx (pm (Al r3.2))),(Aeg p1),(AbX),(AiP),(AdU)] tv ?_)
    refine Ag hm ?_ ?_
    ·intro h11 hm
     obtain ⟨r12,hr12,hm⟩ := bo hm
     refine Sq (RD hnt (.no :: o120 [0] true r12 :: nn 2 []) [10,13,14,28,67] [(18,pI r12.1),(19,pI 0)] [] [(0,bx (pm (Al r12.2)))] (an (Ja r3.2 r12 hr12) (an tv tv)) ?_)
     obtain ⟨r13,hr13,hm⟩ := bo hm
     refine Sq (Sq (RD hnt (.no :: o116 [0] true r13 :: []) [] [(72,pB r13.1)] [] [(0,bx (pm (Al r13.2)))] (an (El r12.2 3 r13 hr13) (an tv tv)) ?_))
     refine Jn (ι := Aq × Int × Int) (fun (y2 : Aq × Int × Int) => Am [(2,pI p2),(4,rr 1032),(6,rr 1048),(9,pI r1.1),(11,rr 1088),(12,rr 1096),(15,pI 0),(16,pI 0),(18,pI y2.2.1),(19,pI y2.2.2)] [(0,bx (pm (Al y2.1))),(Aeg p1),(AbX),(AiP),(AdU)]) (fun y2 => (Vi p1 p2 r1) y2 = some RES) ?_ ?_
     ·intro y2 hm
      unfold Vi at hm
      obtain ⟨r16,hr16,hm⟩ := bo hm
      refine Sq (RD hnt (nn 5 (o147 [] true r16 :: nn 5 [])) [] [(13,pI r16.2)] [] [(1088,bx [ow 1648 r16.1.tree.nodes.length,pI r16.1.tree.next,ow 1649 r16.1.tasks.length,pI r16.1.next]),(1648,ob0 (Ac r16.1.tree.nodes)),(1649,ob0 (Ae r16.1.tasks))] (an (AeH p1 p2 r1.1 y2.2.1 y2.2.2 r16 hr16) tv) ?_)
      obtain ⟨r17,hr17,hm⟩ := bo hm
      refine RD hnt (nn 5 (o151 [] true r17 :: nn 5 [])) [2,4,9,18,19] [(14,pI r17.2)] [1032] [(1096,bx [ow 1720 r17.1.tree.nodes.length,pI r17.1.tree.next,ow 1721 r17.1.tasks.length,pI r17.1.next]),(1720,ob0 (Ac r17.1.tree.nodes)),(1721,ob0 (Ae r17.1.tasks))] (an (AhU p1 p2 r1.1 y2.2.1 y2.2.2 r17 hr17) tv) ?_
      exact bD (y2.1,r16.1,r17.1,r16.2,r17.2,0,0) hm (Conv.frz [1648,1649,1720,1721])
     ·refine Ag hm ?_ ?_
      ·intro h14 hm
       obtain ⟨r15,hr15,hm⟩ := bo hm
       refine RD hnt (.no :: o120 [0] true r15 :: nn 2 []) [0,72] [(18,pI 0),(19,pI r15.1)] [] [(0,bx (pm (Al r15.2)))] (an (Ja r13.2 r15 hr15) (an tv tv)) ?_
       exact jD (r15.2,0,r15.1) hm Conv.eqK
      ·intro h14 hm
       refine Sk ?_
       exact jD (r13.2,r12.1,0) hm Conv.t0
    ·intro h11 hm
     refine Sq (RD hnt (nn 2 []) [0,67] [(93,pB (r3.1 == 3))] [] [] tv ?_)
     refine Ag hm ?_ ?_
     ·intro h18 hm
      obtain ⟨r19,hr19,hm⟩ := bo hm
      refine Sq (RD hnt (nn 3 (o152 [] true r19 :: nn 5 [])) [10,14,28,93] [(13,pI r19.2)] [] [(1088,bx [ow 1792 r19.1.tree.nodes.length,pI r19.1.tree.next,ow 1793 r19.1.tasks.length,pI r19.1.next]),(1792,ob0 (Ac r19.1.tree.nodes)),(1793,ob0 (Ae r19.1.tasks))] (an (Aew p1 p2 r1.1 r19 hr19) tv) ?_)
      obtain ⟨r20,hr20,hm⟩ := bo hm
      refine RD hnt (nn 3 (o156 [] true r20 :: nn 5 [])) [2,4,9] [(14,pI r20.2)] [1032] [(1096,bx [ow 1848 r20.1.tree.nodes.length,pI r20.1.tree.next,ow 1849 r20.1.tasks.length,pI r20.1.next]),(1848,ob0 (Ac r20.1.tree.nodes)),(1849,ob0 (Ae r20.1.tasks))] (an (Aid p1 p2 r1.1 r20 hr20) tv) ?_
      exact bD (r3.2,r19.1,r20.1,r19.2,r20.2,0,0) hm (Conv.frz [1792,1793,1848,1849])
     ·intro h18 hm
      refine Sq (Sq (RD hnt (nn 2 []) [93] [(109,pB (r3.1 == 4))] [] [] tv ?_))
      refine Jn (ι := Bool) (fun (y3 : Bool) => Am [(2,pI p2),(4,rr 1032),(6,rr 1048),(9,pI r1.1),(10,pI r2.1),(11,rr 1088),(12,rr 1096),(13,pI 0),(14,pI 0),(15,pI 0),(16,pI 0),(28,pI r3.1),(109,pB y3)] [(0,bx (pm (Al r3.2))),(Aeg p1),(AbX),(AiP),(AdU)]) (fun y3 => (Vr p1 p2 r1 r2 r3) y3 = some RES) ?_ ?_
      ·intro y3 hm
       unfold Vr at hm
       refine Ag hm ?_ ?_
       ·intro h22 hm
        obtain ⟨r23,hr23,hm⟩ := bo hm
        refine Sq (RD hnt (nn 4 (o99 [] true r23 :: nn 5 [])) [14,28,109] [(13,pI r23.2)] [] [(1088,bx [ow 1936 r23.1.tree.nodes.length,pI r23.1.tree.next,ow 1937 r23.1.tasks.length,pI r23.1.next]),(1936,ob0 (Ac r23.1.tree.nodes)),(1937,ob0 (Ae r23.1.tasks))] (an (Wf p1 p2 r2.1 r1.1 r23 hr23) tv) ?_)
        obtain ⟨r24,hr24,hm⟩ := bo hm
        refine RD hnt (nn 4 (o157 [] true r24 :: nn 5 [])) [2,4,9,10] [(14,pI r24.2)] [1032] [(1096,bx (pm (Ab r24.1)))] (an (AkL p1 p2 r2.1 r1.1 r24 hr24) tv) ?_
        exact bD (r3.2,r23.1,r24.1,r23.2,r24.2,0,0) hm (Conv.frz [1936,1937])
       ·intro h22 hm
        refine Sq (RD hnt (nn 2 []) [28,109] [(128,pB (r3.1 == 6))] [] [] tv ?_)
        refine Ag hm ?_ ?_
        ·intro h25 hm
         obtain ⟨r26,hr26,hm⟩ := bo hm
         refine Sq (RD hnt (nn 4 (o162 [] true r26 :: nn 5 [])) [14,128] [(13,pI r26.2)] [] [(1088,bx [ow 2080 r26.1.tree.nodes.length,pI r26.1.tree.next,ow 2081 r26.1.tasks.length,pI r26.1.next]),(2080,ob0 (Ac r26.1.tree.nodes)),(2081,ob0 (Ae r26.1.tasks))] (an (AcG p1 p2 r2.1 r1.1 r26 hr26) tv) ?_)
         obtain ⟨r27,hr27,hm⟩ := bo hm
         refine RD hnt (nn 4 (o164 [] true r27 :: nn 5 [])) [2,4,9,10] [(14,pI r27.2)] [1032] [(1096,bx [ow 2144 r27.1.tree.nodes.length,pI r27.1.tree.next,ow 2145 r27.1.tasks.length,pI r27.1.next]),(2144,ob0 (Ac r27.1.tree.nodes)),(2145,ob0 (Ae r27.1.tasks))] (an (Afv p1 p2 r2.1 r1.1 r27 hr27) tv) ?_
         exact bD (r3.2,r26.1,r27.1,r26.2,r27.2,0,0) hm (Conv.frz [2080,2081,2144,2145])
        ·intro h25 hm
         refine Sk ?_
         exact bD (r3.2,(c133e5),(c133e5),0,0,0,0) hm (Conv.tp [] [(1088,.box [.p (.sl .nil 0 0 (fun _ => [])),pI 0,.p (.sl .nil 0 0 (fun _ => [])),pI 0]),(1096,.box [.p (.sl .nil 0 0 (fun _ => [])),pI 0,.p (.sl .nil 0 0 (fun _ => [])),pI 0])] (by kernel_rfl) .nil (.cons rfl (.box (.cons MLe.nilL (.cons .rfl (.cons MLe.nilL (.cons .rfl .nil))))) (.cons rfl (.box (.cons MLe.nilL (.cons .rfl (.cons MLe.nilL (.cons .rfl .nil))))) .nil)))
      ·refine Ag hm ?_ ?_
       ·intro h21 hm
        refine Sk ?_
        exact jD (r3.1 == 4) hm Conv.eqK
       ·intro h21 hm
        refine RD hnt (nn 2 []) [] [(109,pB (r3.1 == 5))] [] [] tv ?_
        exact jD (r3.1 == 5) hm Conv.eqK
abbrev o133 (ks : List Nat) (b : Bool) (RES : Aa × Int × Bool × Aq) : Orc := .call 9 ks b (.p (.tup [.agg (Ab RES.1),vi RES.2.1,vb RES.2.2.1])) [.box (pm (Al RES.2.2.2))] []

theorem AfA (p0 : Aq) (RES : ByteArray × Aq) (hm : Qs p0 = some RES) : Spec Tryz.prog 48 [rr 0] [.box (pm (Al p0))] (pS RES.1) [.box (pm (Al RES.2))] [] := by
 unfold Qs at hm
 refine SO Tryz.func48 rfl rfl [(0,rr 0)] [(0,bx (pm (Al p0)))] ?_
 intro cx hnt
 refine Sq (RD hnt (.no :: []) [] [] [] [] tv ?_)
 obtain ⟨r3,hr3,hm⟩ := bo hm
 obtain ⟨g4,g5,hm⟩ := go2 hm
 refine Sq (RK hnt (.asR (ow 1024 [(bs [97]),(bs [98]),(bs [99]),(bs [119,101,98]),(bs [100,98,45,49]),(bs [88,95,57]),ByteArray.empty,(bs [45,97]),(bs [97,47,98]),(bs [195,169]),(bs [97,97,97,97,97,97,97,97,97,97,97,97,97,97,97,97,97,97,97,97,97,97,97,97,97,97,97,97,97,97,97,97]),(bs [97,97,97,97,97,97,97,97,97,97,97,97,97,97,97,97,97,97,97,97,97,97,97,97,97,97,97,97,97,97,97,97,97])].length) [(bs [97]),(bs [98]),(bs [99]),(bs [119,101,98]),(bs [100,98,45,49]),(bs [88,95,57]),ByteArray.empty,(bs [45,97]),(bs [97,47,98]),(bs [195,169]),(bs [97,97,97,97,97,97,97,97,97,97,97,97,97,97,97,97,97,97,97,97,97,97,97,97,97,97,97,97,97,97,97,97]),(bs [97,97,97,97,97,97,97,97,97,97,97,97,97,97,97,97,97,97,97,97,97,97,97,97,97,97,97,97,97,97,97,97,97])].length (elems encS ByteArray.empty [(bs [97]),(bs [98]),(bs [99]),(bs [119,101,98]),(bs [100,98,45,49]),(bs [88,95,57]),ByteArray.empty,(bs [45,97]),(bs [97,47,98]),(bs [195,169]),(bs [97,97,97,97,97,97,97,97,97,97,97,97,97,97,97,97,97,97,97,97,97,97,97,97,97,97,97,97,97,97,97,97]),(bs [97,97,97,97,97,97,97,97,97,97,97,97,97,97,97,97,97,97,97,97,97,97,97,97,97,97,97,97,97,97,97,97,97])]) :: .no :: Hi [0] true r3 :: nn 3 []) [(2,pS ([(bs [97]),(bs [98]),(bs [99]),(bs [119,101,98]),(bs [100,98,45,49]),(bs [88,95,57]),ByteArray.empty,(bs [45,97]),(bs [97,47,98]),(bs [195,169]),(bs [97,97,97,97,97,97,97,97,97,97,97,97,97,97,97,97,97,97,97,97,97,97,97,97,97,97,97,97,97,97,97,97]),(bs [97,97,97,97,97,97,97,97,97,97,97,97,97,97,97,97,97,97,97,97,97,97,97,97,97,97,97,97,97,97,97,97,97])].getD (Int.toNat r3.1) ByteArray.empty))] [(0,bx (pm (Al r3.2)))] (an (congrArg (MV.own 1024 0 0) (RowIs.asP (enc := encS) (d := ByteArray.empty) (L := [(bs [97]),(bs [98]),(bs [99]),(bs [119,101,98]),(bs [100,98,45,49]),(bs [88,95,57]),ByteArray.empty,(bs [45,97]),(bs [97,47,98]),(bs [195,169]),(bs [97,97,97,97,97,97,97,97,97,97,97,97,97,97,97,97,97,97,97,97,97,97,97,97,97,97,97,97,97,97,97,97]),(bs [97,97,97,97,97,97,97,97,97,97,97,97,97,97,97,97,97,97,97,97,97,97,97,97,97,97,97,97,97,97,97,97,97])]) (RowIs.lit (enc := encS) (d := ByteArray.empty) (n := 12) (f := (cut 1 [vs (bs [97]),vs (bs [98]),vs (bs [99]),vs (bs [119,101,98]),vs (bs [100,98,45,49]),vs (bs [88,95,57]),vs ByteArray.empty,vs (bs [45,97]),vs (bs [97,47,98]),vs (bs [195,169]),vs (bs [97,97,97,97,97,97,97,97,97,97,97,97,97,97,97,97,97,97,97,97,97,97,97,97,97,97,97,97,97,97,97,97]),vs (bs [97,97,97,97,97,97,97,97,97,97,97,97,97,97,97,97,97,97,97,97,97,97,97,97,97,97,97,97,97,97,97,97,97])])) [(bs [97]),(bs [98]),(bs [99]),(bs [119,101,98]),(bs [100,98,45,49]),(bs [88,95,57]),ByteArray.empty,(bs [45,97]),(bs [97,47,98]),(bs [195,169]),(bs [97,97,97,97,97,97,97,97,97,97,97,97,97,97,97,97,97,97,97,97,97,97,97,97,97,97,97,97,97,97,97,97]),(bs [97,97,97,97,97,97,97,97,97,97,97,97,97,97,97,97,97,97,97,97,97,97,97,97,97,97,97,97,97,97,97,97,97])] rfl (fun | 0,_ => rfl | 1,_ => rfl | 2,_ => rfl | 3,_ => rfl | 4,_ => rfl | 5,_ => rfl | 6,_ => rfl | 7,_ => rfl | 8,_ => rfl | 9,_ => rfl | 10,_ => rfl | 11,_ => rfl | n + 12,h => absurd h (by omega)))).1) (an (RowIs.asP (enc := encS) (d := ByteArray.empty) (L := [(bs [97]),(bs [98]),(bs [99]),(bs [119,101,98]),(bs [100,98,45,49]),(bs [88,95,57]),ByteArray.empty,(bs [45,97]),(bs [97,47,98]),(bs [195,169]),(bs [97,97,97,97,97,97,97,97,97,97,97,97,97,97,97,97,97,97,97,97,97,97,97,97,97,97,97,97,97,97,97,97]),(bs [97,97,97,97,97,97,97,97,97,97,97,97,97,97,97,97,97,97,97,97,97,97,97,97,97,97,97,97,97,97,97,97,97])]) (RowIs.lit (enc := encS) (d := ByteArray.empty) (n := 12) (f := (cut 1 [vs (bs [97]),vs (bs [98]),vs (bs [99]),vs (bs [119,101,98]),vs (bs [100,98,45,49]),vs (bs [88,95,57]),vs ByteArray.empty,vs (bs [45,97]),vs (bs [97,47,98]),vs (bs [195,169]),vs (bs [97,97,97,97,97,97,97,97,97,97,97,97,97,97,97,97,97,97,97,97,97,97,97,97,97,97,97,97,97,97,97,97]),vs (bs [97,97,97,97,97,97,97,97,97,97,97,97,97,97,97,97,97,97,97,97,97,97,97,97,97,97,97,97,97,97,97,97,97])])) [(bs [97]),(bs [98]),(bs [99]),(bs [119,101,98]),(bs [100,98,45,49]),(bs [88,95,57]),ByteArray.empty,(bs [45,97]),(bs [97,47,98]),(bs [195,169]),(bs [97,97,97,97,97,97,97,97,97,97,97,97,97,97,97,97,97,97,97,97,97,97,97,97,97,97,97,97,97,97,97,97]),(bs [97,97,97,97,97,97,97,97,97,97,97,97,97,97,97,97,97,97,97,97,97,97,97,97,97,97,97,97,97,97,97,97,97])] rfl (fun | 0,_ => rfl | 1,_ => rfl | 2,_ => rfl | 3,_ => rfl | 4,_ => rfl | 5,_ => rfl | 6,_ => rfl | 7,_ => rfl | 8,_ => rfl | 9,_ => rfl | 10,_ => rfl | 11,_ => rfl | n + 12,h => absurd h (by omega)))) (an (Aw p0 12 r3 hr3) (an tv (an g4.1 (an g4.2 (an g5 tv))))))) ?_)
 obtain rfl := sj hm
 exact DW.ret (Ai [.box (pm (Al r3.2))] [] (pS ([(bs [97]),(bs [98]),(bs [99]),(bs [119,101,98]),(bs [100,98,45,49]),(bs [88,95,57]),ByteArray.empty,(bs [45,97]),(bs [97,47,98]),(bs [195,169]),(bs [97,97,97,97,97,97,97,97,97,97,97,97,97,97,97,97,97,97,97,97,97,97,97,97,97,97,97,97,97,97,97,97]),(bs [97,97,97,97,97,97,97,97,97,97,97,97,97,97,97,97,97,97,97,97,97,97,97,97,97,97,97,97,97,97,97,97,97])].getD (Int.toNat r3.1) ByteArray.empty)))
abbrev o168 (ks : List Nat) (b : Bool) (RES : ByteArray × Aq) : Orc := .call 48 ks b (pS RES.1) [.box (pm (Al RES.2))] []

abbrev Bc (r1 : Aa) (r2 : Int × Aq) := (r1.tree.nodes.getD (Int.toNat r2.1) As)
abbrev Df (r1 : Aa) (r31 : Int × Aq) := (r1.tasks.getD (Int.toNat r31.1) Ax)
abbrev Nw : Nat × Obj := (1032,bx [.p (.sl .nil 0 0 (fun _ => [])),pI 0,.p (.sl .nil 0 0 (fun _ => [])),pI 0])
abbrev AfB (r1 : Aa) (r2 : Int × Aq) (r18 : Int × Aq) := ({ id := (Bc r1 r2).id,parent := (Bc r1 r2).parent,name := (Bc r1 r2).name,control := (Bc r1 r2).control,kind := (w64 (r18.1 - 1)),owner := (Bc r1 r2).owner } : Ah)
abbrev Agk (r6 : Int × Aq) (r1 : Aa) (r2 : Int × Aq) := ({ id := r6.1,parent := (Bc r1 r2).parent,name := (Bc r1 r2).name,control := (Bc r1 r2).control,kind := (Bc r1 r2).kind,owner := (Bc r1 r2).owner } : Ah)
abbrev AfD (r1 : Aa) (r2 : Int × Aq) (r21 : Int × Aq) := ({ id := (Bc r1 r2).id,parent := (Bc r1 r2).parent,name := (Bc r1 r2).name,control := (Bc r1 r2).control,kind := (Bc r1 r2).kind,owner := r21.1 } : Ah)
abbrev Age (r1 : Aa) (r2 : Int × Aq) (r9 : Int × Aq) := ({ id := (Bc r1 r2).id,parent := r9.1,name := (Bc r1 r2).name,control := (Bc r1 r2).control,kind := (Bc r1 r2).kind,owner := (Bc r1 r2).owner } : Ah)
abbrev AfW (r1 : Aa) (r2 : Int × Aq) (r12 : ByteArray × Aq) := ({ id := (Bc r1 r2).id,parent := (Bc r1 r2).parent,name := r12.1,control := (Bc r1 r2).control,kind := (Bc r1 r2).kind,owner := (Bc r1 r2).owner } : Ah)
abbrev AgB (r1 : Aa) (r2 : Int × Aq) (r15 : Int × Aq) := ({ id := (Bc r1 r2).id,parent := (Bc r1 r2).parent,name := (Bc r1 r2).name,control := r15.1,kind := (Bc r1 r2).kind,owner := (Bc r1 r2).owner } : Ah)
abbrev AbI (r1 : Aa) : Nat × Body := (1040,.box [ow 1072 r1.tree.nodes.length,pI r1.tree.next,ow 1073 r1.tasks.length,pI r1.next])
abbrev Aej (r35 : Int × Aq) (r1 : Aa) (r31 : Int × Aq) := ({ id := r35.1,process := (Df r1 r31).process,group := (Df r1 r31).group,user := (Df r1 r31).user } : An)
abbrev Aed (r1 : Aa) (r31 : Int × Aq) (r44 : Int × Aq) := ({ id := (Df r1 r31).id,process := (Df r1 r31).process,group := (Df r1 r31).group,user := r44.1 } : An)
abbrev AdX (r1 : Aa) (r31 : Int × Aq) (r41 : Int × Aq) := ({ id := (Df r1 r31).id,process := (Df r1 r31).process,group := r41.1,user := (Df r1 r31).user } : An)
abbrev Aef (r1 : Aa) (r31 : Int × Aq) (r38 : Int × Aq) := ({ id := (Df r1 r31).id,process := r38.1,group := (Df r1 r31).group,user := (Df r1 r31).user } : An)
abbrev AgO (y1 : Aq × Int × Int × (List Ah)) (r1 : Aa) : Nat × Body := (1040,.box [ow 1072 y1.2.2.2.length,pI y1.2.1,ow 1073 r1.tasks.length,pI y1.2.2.1])
abbrev Te (r1 : Aa) : Nat × Obj := (1073,ob0 (Ae r1.tasks))
abbrev c167e17 (r1 : Aa) (r2 : Int × Aq) (r18 : Int × Aq) := (Bs (Ey r1.tree.nodes) (Int.toNat r2.1) [vi (Bc r1 r2).id,vi (Bc r1 r2).parent,vs (Bc r1 r2).name,vi (Bc r1 r2).control,vi (w64 (r18.1 - 1)),vi (Bc r1 r2).owner])
abbrev c167e18 (r1 : Aa) (r2 : Int × Aq) (r6 : Int × Aq) := (Bs (Ey r1.tree.nodes) (Int.toNat r2.1) [vi r6.1,vi (Bc r1 r2).parent,vs (Bc r1 r2).name,vi (Bc r1 r2).control,vi (Bc r1 r2).kind,vi (Bc r1 r2).owner])
abbrev c167e19 (r1 : Aa) (r2 : Int × Aq) (r9 : Int × Aq) := (Bs (Ey r1.tree.nodes) (Int.toNat r2.1) [vi (Bc r1 r2).id,vi r9.1,vs (Bc r1 r2).name,vi (Bc r1 r2).control,vi (Bc r1 r2).kind,vi (Bc r1 r2).owner])
abbrev c167e20 (r1 : Aa) (r2 : Int × Aq) (r21 : Int × Aq) := (Bs (Ey r1.tree.nodes) (Int.toNat r2.1) [vi (Bc r1 r2).id,vi (Bc r1 r2).parent,vs (Bc r1 r2).name,vi (Bc r1 r2).control,vi (Bc r1 r2).kind,vi r21.1])
abbrev c167e21 (r1 : Aa) (r2 : Int × Aq) (r15 : Int × Aq) := (Bs (Ey r1.tree.nodes) (Int.toNat r2.1) [vi (Bc r1 r2).id,vi (Bc r1 r2).parent,vs (Bc r1 r2).name,vi r15.1,vi (Bc r1 r2).kind,vi (Bc r1 r2).owner])
abbrev c167e22 (r1 : Aa) (r2 : Int × Aq) (r12 : ByteArray × Aq) := (Bs (Ey r1.tree.nodes) (Int.toNat r2.1) [vi (Bc r1 r2).id,vi (Bc r1 r2).parent,vs r12.1,vi (Bc r1 r2).control,vi (Bc r1 r2).kind,vi (Bc r1 r2).owner])
abbrev c167e23 (r1 : Aa) : Nat × Obj := (1040,bx [ow 1072 r1.tree.nodes.length,pI r1.tree.next,ow 1073 r1.tasks.length,pI r1.next])
theorem Aba (p0 : Aq) (p1 : Aa) (RES : Aa × Aq) (hm : Hv p0 p1 = some RES) : Spec Tryz.prog 12 [rr 0,.p (.agg (Ab p1))] [.box (pm (Al p0))] (.agg [ow 1 RES.1.tree.nodes.length,pI RES.1.tree.next,ow 2 RES.1.tasks.length,pI RES.1.next]) [.box (pm (Al RES.2))] [Ac RES.1.tree.nodes,Ae RES.1.tasks] := by
 unfold Hv at hm
 refine SO Tryz.func12 rfl rfl [(0,rr 0),(1,.p (.agg (Ab p1)))] [(0,bx (pm (Al p0)))] ?_
 intro cx hnt
 refine Sq (RD hnt (nn 2 []) [1] [(3,rr 1024),(4,rr 1032)] [] [(1024,bx (pm (Ab p1))),(Nw)] tv ?_)
 obtain ⟨r1,hr1,hm⟩ := bo hm
 refine Sq (RD hnt (.no :: o28 [] true r1 :: nn 2 []) [3] [(5,rr 1040)] [1024] [(c167e23 r1),(1072,ob0 (Ac r1.tree.nodes)),(Te r1)] (an (Mb p1 r1 hr1) tv) ?_)
 obtain ⟨r2,hr2,hm⟩ := bo hm
 obtain ⟨g3,hm⟩ := go1 hm
 refine Sq (RD hnt (nn 8 (Hi [0] true r2 :: nn 2 [])) [] [(6,.eref 1072 0 (Int.toNat r2.1) 0)] [] [(0,bx (pm (Al r2.2)))] (an (Aw p0 ((r1.tree.nodes.length : Nat) : Int) r2 hr2) (an tv (an g3.1 (an g3.2 tv)))) ?_)
 obtain ⟨r4,hr4,hm⟩ := bo hm
 refine Sq (Sq (RD hnt (.no :: Hi [0] true r4 :: []) [] [(21,pI r4.1)] [] [(0,bx (pm (Al r4.2)))] (an (Aw r2.2 12 r4 hr4) (an tv tv)) ?_))
 refine Jn (ι := Aq × Int × Int × (List Ah)) (fun (y1 : Aq × Int × Int × (List Ah)) => Am [(0,rr 0),(4,rr 1032),(5,rr 1040)] [(0,bx (pm (Al y1.1))),(Nw),(1040,bx [ow 1072 y1.2.2.2.length,pI y1.2.1,ow 1073 r1.tasks.length,pI y1.2.2.1]),(1072,ob0 (Ac y1.2.2.2)),(Te r1)]) (fun y1 => (Bo r1) y1 = some RES) ?_ ?_
 ·intro y1 hm
  unfold Bo at hm
  refine Sq (Sq (RD hnt (nn 4 []) [] [(91,pB (decide (((r1.tasks.length : Nat) : Int) > 0)))] [] [] tv ?_))
  refine Jn (ι := Aq × (List An)) (fun (y2 : Aq × (List An)) => Am [(4,rr 1032),(5,rr 1040)] [(0,bx (pm (Al y2.1))),(Nw),(1040,bx [ow 1072 y1.2.2.2.length,pI y1.2.1,ow 1073 y2.2.length,pI y1.2.2.1]),(1072,ob0 (Ac y1.2.2.2)),(1073,ob0 (Ae y2.2))]) (fun y2 => (Ce y1) y2 = some RES) ?_ ?_
  ·intro y2 hm
   unfold Ce at hm
   refine Sq (RD hnt (nn 2 []) [5] [] [1040] [(1032,bx [ow 1072 y1.2.2.2.length,pI y1.2.1,ow 1073 y2.2.length,pI y1.2.2.1])] tv ?_)
   obtain rfl := sj hm
   exact DW.ret (Ai [.box (pm (Al y2.1)),Ac y1.2.2.2,Ae y2.2] [1072,1073] (.agg [ow 1 y1.2.2.2.length,pI y1.2.1,ow 2 y2.2.length,pI y1.2.2.1]))
  ·refine Ag hm ?_ ?_
   ·intro h30 hm
    obtain ⟨r31,hr31,hm⟩ := bo hm
    obtain ⟨g32,hm⟩ := go1 hm
    refine Sq (RD hnt (nn 6 (Hi [0] true r31 :: nn 2 [])) [91] [(7,.eref 1073 0 (Int.toNat r31.1) 0)] [] [(0,bx (pm (Al r31.2)))] (an (Aw y1.1 ((r1.tasks.length : Nat) : Int) r31 hr31) (an tv (an g32.1 (an g32.2 tv)))) ?_)
    obtain ⟨r33,hr33,hm⟩ := bo hm
    refine Sq (RD hnt (.no :: Hi [0] true r33 :: []) [] [(101,pI r33.1)] [] [(0,bx (pm (Al r33.2)))] (an (Aw r31.2 8 r33 hr33) (an tv tv)) ?_)
    refine Bk ?_
    refine Sq (RD hnt (nn 2 []) [] [(102,pB (r33.1 == 0))] [] [] tv ?_)
    refine Ag hm ?_ ?_
    ·intro h34 hm
     obtain ⟨r35,hr35,hm⟩ := bo hm
     obtain ⟨g36,hm⟩ := go1 hm
     refine RN hnt (nn 2 (Hi [0] true r35 :: nn 3 [])) [(4,rr 1032),(5,rr 1040)] [(0,bx (pm (Al r35.2))),(Nw),(1040,bx [ow 1072 y1.2.2.2.length,pI y1.2.1,ow 1073 (r1.tasks.set (Int.toNat r31.1) (Aej r35 r1 r31)).length,pI y1.2.2.1]),(1072,ob0 (Ac y1.2.2.2)),(1073,ob0 (Ae (r1.tasks.set (Int.toNat r31.1) (Aej r35 r1 r31))))] [] [(AgO y1 r1),(1073,.row 4 r1.tasks.length (Bs (Kj r1.tasks) (Int.toNat r31.1) [vi r35.1,vi (Df r1 r31).process,vi (Df r1 r31).group,vi (Df r1 r31).user]))] (an (Aw r33.2 9 r35 hr35) (an tv (an g36 tv))) (by kernel_rfl) .nil (.cons rfl (.box (.cons .rfl (.cons .rfl (.cons (MLe.ownLen (enc := Ao) (d := Ax) (f := (Bs (Kj r1.tasks) (Int.toNat r31.1) [vi r35.1,vi (Df r1 r31).process,vi (Df r1 r31).group,vi (Df r1 r31).user])) (RowIs.upd RowIs.elems (Aej r35 r1 r31) rfl)) (.cons .rfl .nil))))) (.cons rfl (BLe.typed (RowIs.upd RowIs.elems (Aej r35 r1 r31) rfl)) .nil)) ?_
     refine DW.done ?_
     show DW _ _ _ _ _
     exact jD (r35.2,(r1.tasks.set (Int.toNat r31.1) (Aej r35 r1 r31))) hm .refl
    ·intro h34 hm
     refine Sq (RD hnt (nn 2 []) [102] [(109,pB (r33.1 == 1))] [] [] tv ?_)
     refine Ag hm ?_ ?_
     ·intro h37 hm
      obtain ⟨r38,hr38,hm⟩ := bo hm
      obtain ⟨g39,hm⟩ := go1 hm
      refine RN hnt (nn 2 (Hi [0] true r38 :: nn 3 [])) [(4,rr 1032),(5,rr 1040)] [(0,bx (pm (Al r38.2))),(Nw),(1040,bx [ow 1072 y1.2.2.2.length,pI y1.2.1,ow 1073 (r1.tasks.set (Int.toNat r31.1) (Aef r1 r31 r38)).length,pI y1.2.2.1]),(1072,ob0 (Ac y1.2.2.2)),(1073,ob0 (Ae (r1.tasks.set (Int.toNat r31.1) (Aef r1 r31 r38))))] [] [(AgO y1 r1),(1073,.row 4 r1.tasks.length (Bs (Kj r1.tasks) (Int.toNat r31.1) [vi (Df r1 r31).id,vi r38.1,vi (Df r1 r31).group,vi (Df r1 r31).user]))] (an (Aw r33.2 9 r38 hr38) (an tv (an g39 tv))) (by kernel_rfl) .nil (.cons rfl (.box (.cons .rfl (.cons .rfl (.cons (MLe.ownLen (enc := Ao) (d := Ax) (f := (Bs (Kj r1.tasks) (Int.toNat r31.1) [vi (Df r1 r31).id,vi r38.1,vi (Df r1 r31).group,vi (Df r1 r31).user])) (RowIs.upd RowIs.elems (Aef r1 r31 r38) rfl)) (.cons .rfl .nil))))) (.cons rfl (BLe.typed (RowIs.upd RowIs.elems (Aef r1 r31 r38) rfl)) .nil)) ?_
      refine DW.done ?_
      show DW _ _ _ _ _
      exact jD (r38.2,(r1.tasks.set (Int.toNat r31.1) (Aef r1 r31 r38))) hm .refl
     ·intro h37 hm
      refine Sq (RD hnt (nn 2 []) [109] [(116,pB (r33.1 == 2))] [] [] tv ?_)
      refine Ag hm ?_ ?_
      ·intro h40 hm
       obtain ⟨r41,hr41,hm⟩ := bo hm
       obtain ⟨g42,hm⟩ := go1 hm
       refine RN hnt (nn 2 (Hi [0] true r41 :: nn 3 [])) [(4,rr 1032),(5,rr 1040)] [(0,bx (pm (Al r41.2))),(Nw),(1040,bx [ow 1072 y1.2.2.2.length,pI y1.2.1,ow 1073 (r1.tasks.set (Int.toNat r31.1) (AdX r1 r31 r41)).length,pI y1.2.2.1]),(1072,ob0 (Ac y1.2.2.2)),(1073,ob0 (Ae (r1.tasks.set (Int.toNat r31.1) (AdX r1 r31 r41))))] [] [(AgO y1 r1),(1073,.row 4 r1.tasks.length (Bs (Kj r1.tasks) (Int.toNat r31.1) [vi (Df r1 r31).id,vi (Df r1 r31).process,vi r41.1,vi (Df r1 r31).user]))] (an (Aw r33.2 9 r41 hr41) (an tv (an g42 tv))) (by kernel_rfl) .nil (.cons rfl (.box (.cons .rfl (.cons .rfl (.cons (MLe.ownLen (enc := Ao) (d := Ax) (f := (Bs (Kj r1.tasks) (Int.toNat r31.1) [vi (Df r1 r31).id,vi (Df r1 r31).process,vi r41.1,vi (Df r1 r31).user])) (RowIs.upd RowIs.elems (AdX r1 r31 r41) rfl)) (.cons .rfl .nil))))) (.cons rfl (BLe.typed (RowIs.upd RowIs.elems (AdX r1 r31 r41) rfl)) .nil)) ?_
       refine DW.done ?_
       show DW _ _ _ _ _
       exact jD (r41.2,(r1.tasks.set (Int.toNat r31.1) (AdX r1 r31 r41))) hm .refl
      ·intro h40 hm
       refine Sq (RD hnt (nn 2 []) [101,116] [(123,pB (r33.1 == 3))] [] [] tv ?_)
       refine Ag hm ?_ ?_
       ·intro h43 hm
        obtain ⟨r44,hr44,hm⟩ := bo hm
        obtain ⟨g45,hm⟩ := go1 hm
        refine RN hnt (nn 2 (o132 [0] true r44 :: nn 3 [])) [(4,rr 1032),(5,rr 1040)] [(0,bx (pm (Al r44.2))),(Nw),(1040,bx [ow 1072 y1.2.2.2.length,pI y1.2.1,ow 1073 (r1.tasks.set (Int.toNat r31.1) (Aed r1 r31 r44)).length,pI y1.2.2.1]),(1072,ob0 (Ac y1.2.2.2)),(1073,ob0 (Ae (r1.tasks.set (Int.toNat r31.1) (Aed r1 r31 r44))))] [] [(AgO y1 r1),(1073,.row 4 r1.tasks.length (Bs (Kj r1.tasks) (Int.toNat r31.1) [vi (Df r1 r31).id,vi (Df r1 r31).process,vi (Df r1 r31).group,vi r44.1]))] (an (Uj r33.2 r44 hr44) (an tv (an g45 tv))) (by kernel_rfl) .nil (.cons rfl (.box (.cons .rfl (.cons .rfl (.cons (MLe.ownLen (enc := Ao) (d := Ax) (f := (Bs (Kj r1.tasks) (Int.toNat r31.1) [vi (Df r1 r31).id,vi (Df r1 r31).process,vi (Df r1 r31).group,vi r44.1])) (RowIs.upd RowIs.elems (Aed r1 r31 r44) rfl)) (.cons .rfl .nil))))) (.cons rfl (BLe.typed (RowIs.upd RowIs.elems (Aed r1 r31 r44) rfl)) .nil)) ?_
        refine DW.done ?_
        show DW _ _ _ _ _
        exact jD (r44.2,(r1.tasks.set (Int.toNat r31.1) (Aed r1 r31 r44))) hm .refl
       ·intro h43 hm
        refine Sk ?_
        refine DW.done ?_
        show DW _ _ _ _ _
        exact jD (r33.2,r1.tasks) hm Conv.t0
   ·intro h30 hm
    refine Sk ?_
    exact jD (y1.1,r1.tasks) hm Conv.t0
 ·refine Bk ?_
  refine Sq (RD hnt (nn 2 []) [] [(22,pB (r4.1 == 0))] [] [] tv ?_)
  refine Ag hm ?_ ?_
  ·intro h5 hm
   obtain ⟨r6,hr6,hm⟩ := bo hm
   obtain ⟨g7,hm⟩ := go1 hm
   refine RN hnt (nn 2 (Hi [0] true r6 :: nn 3 [])) [(0,rr 0),(4,rr 1032),(5,rr 1040)] [(0,bx (pm (Al r6.2))),(Nw),(1040,bx [ow 1072 (r1.tree.nodes.set (Int.toNat r2.1) (Agk r6 r1 r2)).length,pI r1.tree.next,ow 1073 r1.tasks.length,pI r1.next]),(1072,ob0 (Ac (r1.tree.nodes.set (Int.toNat r2.1) (Agk r6 r1 r2)))),(Te r1)] [] [(AbI r1),(1072,.row 6 r1.tree.nodes.length (c167e18 r1 r2 r6))] (an (Aw r4.2 9 r6 hr6) (an tv (an g7 tv))) (by kernel_rfl) .nil (.cons rfl (.box (.cons (MLe.ownLen (enc := Ak) (d := As) (f := (c167e18 r1 r2 r6)) (RowIs.upd RowIs.elems (Agk r6 r1 r2) rfl)) (.cons .rfl (.cons .rfl (.cons .rfl .nil))))) (.cons rfl (BLe.typed (RowIs.upd RowIs.elems (Agk r6 r1 r2) rfl)) .nil)) ?_
   exact bD (r6.2,r1.tree.next,r1.next,(r1.tree.nodes.set (Int.toNat r2.1) (Agk r6 r1 r2))) hm .refl
  ·intro h5 hm
   refine Sq (RD hnt (nn 2 []) [22] [(29,pB (r4.1 == 1))] [] [] tv ?_)
   refine Ag hm ?_ ?_
   ·intro h8 hm
    obtain ⟨r9,hr9,hm⟩ := bo hm
    obtain ⟨g10,hm⟩ := go1 hm
    refine RN hnt (nn 2 (Hi [0] true r9 :: nn 3 [])) [(0,rr 0),(4,rr 1032),(5,rr 1040)] [(0,bx (pm (Al r9.2))),(Nw),(1040,bx [ow 1072 (r1.tree.nodes.set (Int.toNat r2.1) (Age r1 r2 r9)).length,pI r1.tree.next,ow 1073 r1.tasks.length,pI r1.next]),(1072,ob0 (Ac (r1.tree.nodes.set (Int.toNat r2.1) (Age r1 r2 r9)))),(Te r1)] [] [(AbI r1),(1072,.row 6 r1.tree.nodes.length (c167e19 r1 r2 r9))] (an (Aw r4.2 9 r9 hr9) (an tv (an g10 tv))) (by kernel_rfl) .nil (.cons rfl (.box (.cons (MLe.ownLen (enc := Ak) (d := As) (f := (c167e19 r1 r2 r9)) (RowIs.upd RowIs.elems (Age r1 r2 r9) rfl)) (.cons .rfl (.cons .rfl (.cons .rfl .nil))))) (.cons rfl (BLe.typed (RowIs.upd RowIs.elems (Age r1 r2 r9) rfl)) .nil)) ?_
    exact bD (r9.2,r1.tree.next,r1.next,(r1.tree.nodes.set (Int.toNat r2.1) (Age r1 r2 r9))) hm .refl
   ·intro h8 hm
    refine Sq (RD hnt (nn 2 []) [29] [(36,pB (r4.1 == 2))] [] [] tv ?_)
    refine Ag hm ?_ ?_
    ·intro h11 hm
     obtain ⟨r12,hr12,hm⟩ := bo hm
     obtain ⟨g13,hm⟩ := go1 hm
     refine RN hnt (nn 2 (o168 [0] true r12 :: nn 3 [])) [(0,rr 0),(4,rr 1032),(5,rr 1040)] [(0,bx (pm (Al r12.2))),(Nw),(1040,bx [ow 1072 (r1.tree.nodes.set (Int.toNat r2.1) (AfW r1 r2 r12)).length,pI r1.tree.next,ow 1073 r1.tasks.length,pI r1.next]),(1072,ob0 (Ac (r1.tree.nodes.set (Int.toNat r2.1) (AfW r1 r2 r12)))),(Te r1)] [] [(AbI r1),(1072,.row 6 r1.tree.nodes.length (c167e22 r1 r2 r12))] (an (AfA r4.2 r12 hr12) (an tv (an g13 tv))) (by kernel_rfl) .nil (.cons rfl (.box (.cons (MLe.ownLen (enc := Ak) (d := As) (f := (c167e22 r1 r2 r12)) (RowIs.upd RowIs.elems (AfW r1 r2 r12) rfl)) (.cons .rfl (.cons .rfl (.cons .rfl .nil))))) (.cons rfl (BLe.typed (RowIs.upd RowIs.elems (AfW r1 r2 r12) rfl)) .nil)) ?_
     exact bD (r12.2,r1.tree.next,r1.next,(r1.tree.nodes.set (Int.toNat r2.1) (AfW r1 r2 r12))) hm .refl
    ·intro h11 hm
     refine Sq (RD hnt (nn 2 []) [36] [(43,pB (r4.1 == 3))] [] [] tv ?_)
     refine Ag hm ?_ ?_
     ·intro h14 hm
      obtain ⟨r15,hr15,hm⟩ := bo hm
      obtain ⟨g16,hm⟩ := go1 hm
      refine RN hnt (nn 2 (o120 [0] true r15 :: nn 3 [])) [(0,rr 0),(4,rr 1032),(5,rr 1040)] [(0,bx (pm (Al r15.2))),(Nw),(1040,bx [ow 1072 (r1.tree.nodes.set (Int.toNat r2.1) (AgB r1 r2 r15)).length,pI r1.tree.next,ow 1073 r1.tasks.length,pI r1.next]),(1072,ob0 (Ac (r1.tree.nodes.set (Int.toNat r2.1) (AgB r1 r2 r15)))),(Te r1)] [] [(AbI r1),(1072,.row 6 r1.tree.nodes.length (c167e21 r1 r2 r15))] (an (Ja r4.2 r15 hr15) (an tv (an g16 tv))) (by kernel_rfl) .nil (.cons rfl (.box (.cons (MLe.ownLen (enc := Ak) (d := As) (f := (c167e21 r1 r2 r15)) (RowIs.upd RowIs.elems (AgB r1 r2 r15) rfl)) (.cons .rfl (.cons .rfl (.cons .rfl .nil))))) (.cons rfl (BLe.typed (RowIs.upd RowIs.elems (AgB r1 r2 r15) rfl)) .nil)) ?_
      exact bD (r15.2,r1.tree.next,r1.next,(r1.tree.nodes.set (Int.toNat r2.1) (AgB r1 r2 r15))) hm .refl
     ·intro h14 hm
      refine Sq (RK hnt (nn 2 []) [(0,rr 0),(4,rr 1032),(5,rr 1040),(6,.eref 1072 0 (Int.toNat r2.1) 0),(21,pI r4.1),(50,pB (r4.1 == 4))] [(0,bx (pm (Al r4.2))),(Nw),(c167e23 r1),(1072,ob0 (Ac r1.tree.nodes)),(Te r1)] tv ?_)
      refine Ag hm ?_ ?_
      ·intro h17 hm
       obtain ⟨r18,hr18,hm⟩ := bo hm
       obtain ⟨g19,hm⟩ := go1 hm
       refine RN hnt (nn 2 (Hi [0] true r18 :: nn 4 [])) [(0,rr 0),(4,rr 1032),(5,rr 1040)] [(0,bx (pm (Al r18.2))),(Nw),(1040,bx [ow 1072 (r1.tree.nodes.set (Int.toNat r2.1) (AfB r1 r2 r18)).length,pI r1.tree.next,ow 1073 r1.tasks.length,pI r1.next]),(1072,ob0 (Ac (r1.tree.nodes.set (Int.toNat r2.1) (AfB r1 r2 r18)))),(Te r1)] [] [(AbI r1),(1072,.row 6 r1.tree.nodes.length (c167e17 r1 r2 r18))] (an (Aw r4.2 4 r18 hr18) (an tv (an g19 tv))) (by kernel_rfl) .nil (.cons rfl (.box (.cons (MLe.ownLen (enc := Ak) (d := As) (f := (c167e17 r1 r2 r18)) (RowIs.upd RowIs.elems (AfB r1 r2 r18) rfl)) (.cons .rfl (.cons .rfl (.cons .rfl .nil))))) (.cons rfl (BLe.typed (RowIs.upd RowIs.elems (AfB r1 r2 r18) rfl)) .nil)) ?_
       exact bD (r18.2,r1.tree.next,r1.next,(r1.tree.nodes.set (Int.toNat r2.1) (AfB r1 r2 r18))) hm .refl
      ·intro h17 hm
       refine Sq (RD hnt (nn 2 []) [50] [(58,pB (r4.1 == 5))] [] [] tv ?_)
       refine Ag hm ?_ ?_
       ·intro h20 hm
        obtain ⟨r21,hr21,hm⟩ := bo hm
        obtain ⟨g22,hm⟩ := go1 hm
        refine RN hnt (nn 2 (o132 [0] true r21 :: nn 3 [])) [(0,rr 0),(4,rr 1032),(5,rr 1040)] [(0,bx (pm (Al r21.2))),(Nw),(1040,bx [ow 1072 (r1.tree.nodes.set (Int.toNat r2.1) (AfD r1 r2 r21)).length,pI r1.tree.next,ow 1073 r1.tasks.length,pI r1.next]),(1072,ob0 (Ac (r1.tree.nodes.set (Int.toNat r2.1) (AfD r1 r2 r21)))),(Te r1)] [] [(AbI r1),(1072,.row 6 r1.tree.nodes.length (c167e20 r1 r2 r21))] (an (Uj r4.2 r21 hr21) (an tv (an g22 tv))) (by kernel_rfl) .nil (.cons rfl (.box (.cons (MLe.ownLen (enc := Ak) (d := As) (f := (c167e20 r1 r2 r21)) (RowIs.upd RowIs.elems (AfD r1 r2 r21) rfl)) (.cons .rfl (.cons .rfl (.cons .rfl .nil))))) (.cons rfl (BLe.typed (RowIs.upd RowIs.elems (AfD r1 r2 r21) rfl)) .nil)) ?_
        exact bD (r21.2,r1.tree.next,r1.next,(r1.tree.nodes.set (Int.toNat r2.1) (AfD r1 r2 r21))) hm .refl
       ·intro h20 hm
        refine Sq (RD hnt (nn 2 []) [58] [(65,pB (r4.1 == 6))] [] [] tv ?_)
        refine Ag hm ?_ ?_
        ·intro h23 hm
         obtain ⟨r24,hr24,hm⟩ := bo hm
         refine RD hnt (.no :: Hi [0] true r24 :: nn 3 []) [6,21,65] [] [] [(0,bx (pm (Al r24.2))),(1040,bx [ow 1072 r1.tree.nodes.length,pI r24.1,ow 1073 r1.tasks.length,pI r1.next])] (an (Aw r4.2 9 r24 hr24) (an tv tv)) ?_
         exact bD (r24.2,r24.1,r1.next,r1.tree.nodes) hm Conv.eqK
        ·intro h23 hm
         refine Sq (RD hnt (nn 2 []) [65] [(71,pB (r4.1 == 7))] [] [] tv ?_)
         refine Ag hm ?_ ?_
         ·intro h25 hm
          obtain ⟨r26,hr26,hm⟩ := bo hm
          refine RD hnt (.no :: Hi [0] true r26 :: nn 2 []) [6,21,71] [] [] [(0,bx (pm (Al r26.2))),(1040,bx [ow 1072 r1.tree.nodes.length,pI r1.tree.next,ow 1073 r1.tasks.length,pI r26.1])] (an (Aw r4.2 9 r26 hr26) (an tv tv)) ?_
          exact bD (r26.2,r1.tree.next,r26.1,r1.tree.nodes) hm Conv.eqK
         ·intro h25 hm
          refine Sq (RD hnt (nn 2 []) [21,71] [(76,pB (r4.1 == 8))] [] [] tv ?_)
          refine Ag hm ?_ ?_
          ·intro h27 hm
           obtain ⟨g28,g29,hm⟩ := go2 hm
           refine RN hnt (nn 11 []) [(0,rr 0),(4,rr 1032),(5,rr 1040)] [(0,bx (pm (Al r4.2))),(Nw),(1040,bx [ow 1072 (r1.tree.nodes ++ [(Bc r1 r2)]).length,pI r1.tree.next,ow 1073 r1.tasks.length,pI r1.next]),(1072,ob0 (Ac (r1.tree.nodes ++ [(Bc r1 r2)]))),(Te r1)] [] [(1040,.box [ow 1072 (r1.tree.nodes.length + 1),pI r1.tree.next,ow 1073 r1.tasks.length,pI r1.next]),(1072,.row 6 (r1.tree.nodes.length + 1) (Dw r1.tree.nodes.length (Ey r1.tree.nodes) (cut 6 [vi (Bc r1 r2).id,vi (Bc r1 r2).parent,vs (Bc r1 r2).name,vi (Bc r1 r2).control,vi (Bc r1 r2).kind,vi (Bc r1 r2).owner])))] (an g28 (an (by omega : (r1.tree.nodes.length + 1) * 56 ≤ 140737488355328) tv)) (by kernel_rfl) .nil (.cons rfl (.box (.cons (MLe.ownLen (enc := Ak) (d := As) (f := (Dw r1.tree.nodes.length (Ey r1.tree.nodes) (cut 6 [vi (Bc r1 r2).id,vi (Bc r1 r2).parent,vs (Bc r1 r2).name,vi (Bc r1 r2).control,vi (Bc r1 r2).kind,vi (Bc r1 r2).owner]))) (RowIs.cat RowIs.elems (RowIs.lit (enc := Ak) (d := As) (n := 1) (f := (cut 6 [vi (Bc r1 r2).id,vi (Bc r1 r2).parent,vs (Bc r1 r2).name,vi (Bc r1 r2).control,vi (Bc r1 r2).kind,vi (Bc r1 r2).owner])) [(Bc r1 r2)] rfl (fun | 0,_ => rfl | n + 1,h => absurd h (by omega))))) (.cons .rfl (.cons .rfl (.cons .rfl .nil))))) (.cons rfl (BLe.typed (RowIs.cat RowIs.elems (RowIs.lit (enc := Ak) (d := As) (n := 1) (f := (cut 6 [vi (Bc r1 r2).id,vi (Bc r1 r2).parent,vs (Bc r1 r2).name,vi (Bc r1 r2).control,vi (Bc r1 r2).kind,vi (Bc r1 r2).owner])) [(Bc r1 r2)] rfl (fun | 0,_ => rfl | n + 1,h => absurd h (by omega))))) .nil)) ?_
           exact bD (r4.2,r1.tree.next,r1.next,(r1.tree.nodes ++ [(Bc r1 r2)])) hm .refl
          ·intro h27 hm
           refine Sk ?_
           exact bD (r4.2,r1.tree.next,r1.next,r1.tree.nodes) hm Conv.t0
abbrev o167 (ks : List Nat) (b : Bool) (RES : Aa × Aq) : Orc := .call 12 ks b (.agg [ow 1 RES.1.tree.nodes.length,pI RES.1.tree.next,ow 2 RES.1.tasks.length,pI RES.1.next]) [.box (pm (Al RES.2))] [Ac RES.1.tree.nodes,Ae RES.1.tasks]

theorem AdW (p0 : List Int) (p1 : Int) (RES : Bool) (hm : Mi p0 p1 = some RES) : Spec Tryz.prog 3 [.p (slI p0),pI p1] [] (pB RES) [] [] := by
 unfold Mi at hm
 refine SO Tryz.func3 rfl rfl [(0,.p (slI p0)),(1,pI p1)] [] ?_
 intro cx hnt
 refine Sq (RD hnt (.no :: []) [] [] [] [] tv ?_)
 obtain ⟨r1,hr1,hm⟩ := bo hm
 refine Sq (Sq (RD hnt (.no :: o2 [] true r1 :: .no :: []) [] [(16,pB (!r1))] [] [] (an (AjI p0 r1 hr1) tv) ?_))
 refine Ag hm ?_ ?_
 ·intro h2 hm
  obtain ⟨r3,hr3,hm⟩ := bo hm
  refine Sq (RK hnt (o3 [] true r3 :: .no :: []) [(4,pB r3)] [] (an (Afe r3 hr3) tv) ?_)
  obtain rfl := sj hm
  exact DW.ret (Ai [] [] (pB r3))
 ·intro h2 hm
  refine Sk ?_
  obtain ⟨r4,hr4,hm⟩ := bo hm
  refine Sq (RK hnt (.no :: o111 [] true r4 :: .no :: []) [(1,pI p1),(5,rr 1152)] [(1152,bx (pm (Al r4)))] (an (AkQ p0 r4 hr4) tv) ?_)
  obtain ⟨r5,hr5,hm⟩ := bo hm
  refine Sq (RD hnt (.no :: o112 [1152] true r5 :: nn 2 []) [] [(6,rr 1048)] [] [(1048,bx (pm (Ab r5.1))),(1152,bx (pm (Al r5.2)))] (an (AcI r4 6 7 r5 hr5) (an tv tv)) ?_)
  refine Sq (Sq (RD hnt (.no :: []) [] [(7,pI 0)] [] [] tv ?_))
  refine Bk ?_
  refine DW.forO (fun (k1 : Int) (s1 : Aa × Aq) => Am [(1,pI p1),(5,rr 1152),(6,rr 1048),(7,pI k1)] [(1048,bx (pm (Ab s1.1))),(1152,bx (pm (Al s1.2)))]) (lo := 0) (hi := 6) hm Conv.eqK ?_
  intro k1 s1 n1 hk1 hs1 he1
  refine Sq (Sq (RD hnt (nn 2 []) [] [(23,pB (decide (k1 < 6)))] [] [] tv ?_))
  refine Bx (decide (k1 < 6)) ?_ ?_
  ·intro h46
   have hlt1 : k1 < 6 := by have := of_decide_eq_true h46; omega
   have hm := hs1 hlt1
   unfold Tk at hm
   refine Sk ?_
   refine Sq ?_
   refine Jn (ι := Aa × Aq) (fun (y5 : Aa × Aq) => Am [(1,pI p1),(5,rr 1152),(6,rr 1048),(7,pI k1)] [(1048,bx (pm (Ab y5.1))),(1152,bx (pm (Al y5.2)))]) (fun y5 => (Oe n1) y5 = some RES) ?_ ?_
   ·intro y5 hm
    unfold Oe at hm
    refine RD hnt (nn 3 []) [] [(7,pI (w64 (k1 + 1)))] [] [] tv ?_
    exact jD (y5.1,y5.2) ⟨hlt1,hm⟩ (Conv.tp [(7,pI (w64 (k1 + 1)))] [] (by kernel_rfl) (.cons rfl (.of_eq (congrArg pI (Su (lo := 0) (hi := 6) (by omega) hk1 hlt1 (by omega)))) .nil) .nil)
   ·refine Bk ?_
    obtain ⟨r52,hr52,hm⟩ := bo hm
    obtain ⟨r53,hr53,hm⟩ := bo hm
    obtain ⟨r54,hr54,hm⟩ := bo hm
    obtain ⟨r55,hr55,hm⟩ := bo hm
    obtain ⟨g56,g57,hm⟩ := go2 hm
    obtain ⟨r58,hr58,hm⟩ := bo hm
    refine Sq (RD hnt (nn 4 (o132 [1152] true r52 :: .no :: Hi [1152] true r53 :: .no :: Hi [1152] true r54 :: .asR (ow 1288 [p1,r52.1,r53.1,r54.1].length) [p1,r52.1,r53.1,r54.1].length (elems Bw 0 [p1,r52.1,r53.1,r54.1]) :: .no :: Hi [1152] true r55 :: nn 2 (o133 [1152] true r58 :: nn 8 []))) [23] [(8,rr 1064),(9,pI r58.2.1),(10,pB r58.2.2.1)] [] [(1064,bx (pm (Ab r58.1))),(1152,bx (pm (Al r58.2.2.2)))] (an (Uj s1.2 r52 hr52) (an tv (an (Aw r52.2 3 r53 hr53) (an tv (an (Aw r53.2 3 r54 hr54) (an tv (an (congrArg (MV.own 1288 0 0) (RowIs.asP (enc := Bw) (d := 0) (L := [p1,r52.1,r53.1,r54.1]) (RowIs.lit (enc := Bw) (d := 0) (n := 4) (f := (cut 1 [vi p1,vi r52.1,vi r53.1,vi r54.1])) [p1,r52.1,r53.1,r54.1] rfl (fun | 0,_ => rfl | 1,_ => rfl | 2,_ => rfl | 3,_ => rfl | n + 4,h => absurd h (by omega)))).1) (an (RowIs.asP (enc := Bw) (d := 0) (L := [p1,r52.1,r53.1,r54.1]) (RowIs.lit (enc := Bw) (d := 0) (n := 4) (f := (cut 1 [vi p1,vi r52.1,vi r53.1,vi r54.1])) [p1,r52.1,r53.1,r54.1] rfl (fun | 0,_ => rfl | 1,_ => rfl | 2,_ => rfl | 3,_ => rfl | n + 4,h => absurd h (by omega)))) (an (Aw r54.2 4 r55 hr55) (an tv (an g56.1 (an g56.2 (an g57 (an (Agl r55.2 s1.1 ([p1,r52.1,r53.1,r54.1].getD (Int.toNat r55.1) 0) r58 hr58) (an tv tv))))))))))))))) ?_)
    refine Sq (Sq (RD hnt (nn 2 []) [10] [(46,pB (!r58.2.2.1))] [] [] tv ?_))
    refine Ag hm ?_ ?_
    ·intro h59 hm
     refine Sq (RK hnt (.no :: []) [(4,pB false)] [] tv ?_)
     obtain rfl := sj hm
     exact DW.ret (Ai [] [] (pB false))
    ·intro h59 hm
     refine Sk ?_
     refine Sq (RD hnt (nn 2 []) [9,46] [(48,pB (r58.2.1 == 0))] [] [] tv ?_)
     refine Ag hm ?_ ?_
     ·intro h60 hm
      refine RD hnt (nn 2 []) [8,48] [] [1064] [(1048,bx (pm (Ab r58.1)))] tv ?_
      exact bD (r58.1,r58.2.2.2) hm Conv.eqK
     ·intro h60 hm
      refine Sk ?_
      exact bD (s1.1,r58.2.2.2) hm Conv.t0
  ·intro h46
   have hge1 : ¬ k1 < 6 := by have := of_decide_eq_false h46; omega
   have hm := he1 hge1
   unfold Tg at hm
   refine DW.exit ?_
   refine Ar ?_
   refine Au ?_
   refine Ap ?_
   show DW _ _ _ _ _
   obtain ⟨r61,hr61,hm⟩ := bo hm
   obtain ⟨r62,hr62,hm⟩ := bo hm
   obtain ⟨r63,hr63,hm⟩ := bo hm
   refine Sq (RK hnt (nn 3 (o167 [1152] true r61 :: .no :: Hi [1152] true r62 :: o133 [1152] false r63 :: nn 8 [])) [(13,pB r63.2.2.1)] [] (an (Aba s1.2 s1.1 r61 hr61) (an tv (an (Aw r61.2 3 r62 hr62) (an tv (an (Agl r62.2 r61.1 r62.1 r63 hr63) (an tv tv)))))) ?_)
   refine Sq ?_
   refine Jn (ι := Bool) (fun (y6 : Bool) => Am [(4,pB y6)] []) (fun y6 => Oc y6 = some RES) ?_ ?_
   ·intro y6 hm
    unfold Oc at hm
    obtain rfl := sj hm
    exact DW.ret (Ai [] [] (pB y6))
   ·rcases bt r63.2.2.1 with h64 | h64
    ·replace hm := Ba h64 hm
     obtain ⟨r65,hr65,hm⟩ := bo hm
     refine RK hnt (nn 2 (o3 [] true r65 :: pT :: .no :: [])) [(4,pB r65)] [] (an h64 (an (Afe r65 hr65) (an h64 tv))) ?_
     exact jD r65 hm .refl
    ·replace hm := Bb h64 hm
     refine RK hnt (nn 2 (.skip :: pF :: .no :: [])) [(4,pB false)] [] (an2 h64 tv) ?_
     exact jD false hm .refl
abbrev o1 (ks : List Nat) (b : Bool) (RES : Bool) : Orc := .call 3 ks b (pB RES) [] []
end Go.Dm

