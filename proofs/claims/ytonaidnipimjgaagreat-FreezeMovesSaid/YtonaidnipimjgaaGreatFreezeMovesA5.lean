/- Texts of the proof of FreezeMoves: the data machine, the models of the Go functions, their contracts. -/
import Derived.Test.YtonaidnipimjgaaGreatFreezeMovesA4
set_option linter.unusedVariables false
set_option linter.unusedSimpArgs false
/- Go functions compute their models, printed by a program. -/
namespace Go.Dm
open Go.Proofs
set_option linter.unusedVariables false
abbrev Wf (p0 : Aa) (k1 : Nat) := (p0.tasks.getD k1 (default : Aw))
theorem No (p0 : Aa) (p1 : Int) (RES : List Int) (hm : Ig p0 p1 = some RES) : Spec Tryz.prog 26 [.p (.agg (Ab p0)),pI p1] [] (ow 0 RES.length) [] [roI RES] := by
 unfold Ig at hm
 refine SO Tryz.func26 rfl rfl [(0,.p (.agg (Ab p0))),(1,pI p1)] [] ?_
 intro cx hnt
 refine Sq (RK hnt (nn 2 []) [(1,pI p1),(2,rr 1016)] [(1016,bx (pm (Ab p0)))] tv ?_)
 obtain ⟨r1,hr1,hm⟩ := bo hm
 refine Sq (Sq (RD hnt (.no :: o93 [] true r1 :: .no :: []) [] [(9,pB (!r1))] [] [] (an (Dz p0 r1 hr1) tv) ?_))
 refine Ae hm ?_ ?_
 ·intro h2 hm
  refine Sq (RK hnt (.no :: []) [(4,.p (.sl .nil 0 0 (fun _ => [])))] [] tv ?_)
  refine DW.cv [] [(4,ow 100000 0)] [] [(100000,ob0 (roI []))] (Conv.ads [(.s 4,100000,1,elems Bm 0 [])]) ?_
  obtain rfl := sj hm
  exact DW.ret (Ah [roI []] [100000] (ow 0 0))
 ·intro h2 hm
  refine Sk ?_
  refine Sq (RD hnt (.no :: []) [9] [(5,.p (.sl .nil 0 0 (fun _ => [])))] [] [] tv ?_)
  refine Sq (Sq (RD hnt (.no :: []) [] [(6,pI 0)] [] [] tv ?_))
  refine Bk ?_
  obtain ⟨hc1,hm⟩ := go1 hm
  refine DW.rangeO (fun (k1 : Nat) (s1 : List Int) => Aj [(1,pI p1),(2,rr 1016),(5,ow 1264 s1.length),(6,pI ((k1 : Nat) : Int))] [(1016,bx (pm (Ab p0))),(1264,ob0 (roI s1))]) Bt hm (Conv.ads [(.s 5,1264,1,elems Bm 0 [])]) ?_
  intro k1 s1 n1 hk1 hs1 he1
  refine Sq (Sq (RD hnt (nn 5 []) [] [(14,pB (decide (((k1 : Nat) : Int) < ((p0.tasks.length : Nat) : Int))))] [] [] tv ?_))
  refine Cb (decide (((k1 : Nat) : Int) < ((p0.tasks.length : Nat) : Int))) ?_ ?_
  ·intro h12
   have hlt1 : k1 < p0.tasks.length := by have := of_decide_eq_true h12; omega
   have hm := hs1 hlt1
   unfold Yy at hm
   refine Sk ?_
   refine Sq ?_
   refine Jn (ι := List Int) (fun (y3 : List Int) => Aj [(1,pI p1),(2,rr 1016),(5,ow 1264 y3.length),(6,pI ((k1 : Nat) : Int))] [(1016,bx (pm (Ab p0))),(1264,ob0 (roI y3))]) (fun y3 => (Qn n1) y3 = some RES) ?_ ?_
   ·intro y3 hm
    unfold Qn at hm
    refine RD hnt (nn 3 []) [] [(6,pI (w64 (((k1 : Nat) : Int) + 1)))] [] [] tv ?_
    exact jD y3 ⟨hlt1,hm⟩ (Conv.tp [(6,pI (w64 (((k1 : Nat) : Int) + 1)))] [] (by kernel_rfl) (.cons rfl (.of_eq (congrArg pI (Bl hlt1 hc1))) .nil) .nil)
   ·refine Bk ?_
    refine Sq (RD hnt (nn 8 []) [14] [(24,pB ((Wf p0 k1).group == p1))] [] [] (an (nn0 k1) (an (ltc hlt1) tv)) ?_)
    refine Ae hm ?_ ?_
    ·intro h13 hm
     obtain ⟨g14,hm⟩ := go1 hm
     refine RN hnt (nn 10 []) [(1,pI p1),(2,rr 1016),(5,ow 1264 (s1 ++ [(Wf p0 k1).id]).length),(6,pI ((k1 : Nat) : Int))] [(1016,bx (pm (Ab p0))),(1264,ob0 (roI (s1 ++ [(Wf p0 k1).id])))] [(5,ow 1264 (s1.length + 1))] [(1264,.row 1 (s1.length + 1) (Cp s1.length (elI s1) (cut 1 [vi (Wf p0 k1).id])))] (an (nn0 k1) (an (ltc hlt1) (an (by omega : (s1.length + 1) * 8 ≤ 140737488355328) tv))) (by kernel_rfl) (.cons rfl (MLe.ownLen (enc := Bm) (d := 0) (f := (Cp s1.length (elI s1) (cut 1 [vi (Wf p0 k1).id]))) (RowIs.cat RowIs.elems (RowIs.lit (enc := Bm) (d := 0) (n := 1) (f := (cut 1 [vi (Wf p0 k1).id])) [(Wf p0 k1).id] rfl (fun | 0,_ => rfl | n + 1,h => absurd h (by omega))))) .nil) (.cons rfl (BLe.typed (RowIs.cat RowIs.elems (RowIs.lit (enc := Bm) (d := 0) (n := 1) (f := (cut 1 [vi (Wf p0 k1).id])) [(Wf p0 k1).id] rfl (fun | 0,_ => rfl | n + 1,h => absurd h (by omega))))) .nil) ?_
     exact bD (s1 ++ [(Wf p0 k1).id]) hm .refl
    ·intro h13 hm
     refine Sk ?_
     exact bD s1 hm Conv.t0
  ·intro h12
   have hge1 : ¬ k1 < p0.tasks.length := by have := of_decide_eq_false h12; omega
   have hm := he1 hge1
   unfold AdF at hm
   refine DW.exit ?_
   refine Ao ?_
   refine Au ?_
   refine Am ?_
   show DW _ _ _ _ _
   refine Sq (RK hnt (nn 2 []) [(4,ow 1264 s1.length)] [(1264,ob0 (roI s1))] tv ?_)
   obtain rfl := sj hm
   exact DW.ret (Ah [roI s1] [1264] (ow 0 s1.length))
abbrev o97 (ks : List Nat) (b : Bool) (RES : List Int) (sm : List Nat := []) : Orc := .call 26 ks b (ow 0 RES.length) [] [roI RES] sm

abbrev Ye (p0 : Aa) (k1 : Nat) := (p0.tree.nodes.getD k1 (default : An))
theorem Mz (p0 : Aa) (RES : Bool) (hm : Rj p0 = some RES) : Spec Tryz.prog 209 [.p (.agg (Ab p0))] [] (pB RES) [] [] := by
 unfold Rj at hm
 refine SO Tryz.func209 rfl rfl [(0,.p (.agg (Ab p0)))] [] ?_
 intro cx hnt
 refine Sq (RK hnt (nn 2 []) [(1,rr 1008)] [(1008,bx (pm (Ab p0)))] tv ?_)
 obtain ⟨r1,hr1,hm⟩ := bo hm
 refine Sq (Sq (RD hnt (.no :: o93 [] true r1 :: .no :: []) [] [(7,pB (!r1))] [] [] (an (Dz p0 r1 hr1) tv) ?_))
 refine Ae hm ?_ ?_
 ·intro h2 hm
  refine Sq (RK hnt (.no :: []) [(2,pB false)] [] tv ?_)
  obtain rfl := sj hm
  exact DW.ret (Ah [] [] (pB false))
 ·intro h2 hm
  refine Sk ?_
  refine Sq (Sq (RD hnt (.no :: []) [7] [(3,pI 0)] [] [] tv ?_))
  refine Bk ?_
  obtain ⟨hc1,hm⟩ := go1 hm
  refine DW.rangeO (fun (k1 : Nat) (s1 : Unit) => Aj [(1,rr 1008),(3,pI ((k1 : Nat) : Int))] [(1008,bx (pm (Ab p0)))]) Bj hm Conv.eqK ?_
  intro k1 s1 n1 hk1 hs1 he1
  refine Sq (Sq (RD hnt (nn 6 []) [] [(13,pB (decide (((k1 : Nat) : Int) < ((p0.tree.nodes.length : Nat) : Int))))] [] [] tv ?_))
  refine Cb (decide (((k1 : Nat) : Int) < ((p0.tree.nodes.length : Nat) : Int))) ?_ ?_
  ·intro h19
   have hlt1 : k1 < p0.tree.nodes.length := by have := of_decide_eq_true h19; omega
   have hm := hs1 hlt1
   unfold Aad at hm
   refine Sk ?_
   refine Sq (Bk ?_)
   refine Sq (RD hnt (nn 8 []) [13] [(4,rr 1032)] [] [(1032,bx (pm (Aq (Ye p0 k1))))] (an (nn0 k1) (an (ltc hlt1) tv)) ?_)
   obtain ⟨r20,hr20,hm⟩ := bo hm
   refine Sq ?_
   refine Jn (ι := Bool) (fun (y3 : Bool) => Aj [(1,rr 1008),(3,pI ((k1 : Nat) : Int)),(49,pB y3)] [(1008,bx (pm (Ab p0)))]) (fun y3 => (Jy n1) y3 = some RES) ?_ ?_
   ·intro y3 hm
    unfold Jy at hm
    refine Ae hm ?_ ?_
    ·intro h25 hm
     refine Sq (RK hnt (.no :: []) [(2,pB false)] [] tv ?_)
     obtain rfl := sj hm
     exact DW.ret (Ah [] [] (pB false))
    ·intro h25 hm
     refine Sk ?_
     refine DW.done ?_
     show DW _ _ _ _ _
     refine RD hnt (nn 3 []) [49] [(3,pI (w64 (((k1 : Nat) : Int) + 1)))] [] [] tv ?_
     exact jD () ⟨hlt1,hm⟩ (Conv.tp [(3,pI (w64 (((k1 : Nat) : Int) + 1)))] [] (by kernel_rfl) (.cons rfl (.of_eq (congrArg pI (Bl hlt1 hc1))) .nil) .nil)
   ·rcases bt ((Eb .i64 (Ye p0 k1).control r20) != 0) with h21 | h21
    ·replace hm := Bf h21 hm
     refine RD hnt (nn 6 (o95 [] true r20 :: nn 3 (sk 17 (pT :: [])))) [4] [(49,pB true)] [1032] [] (an (Jz p0.tree (Ye p0 k1).id r20 hr20) (an2 h21 (an6 h21 tv))) ?_
     exact jD true hm Conv.eqK
    ·replace hm := Be h21 hm
     rcases bt ((Ye p0 k1).id != 1) with h22 | h22
     ·replace hm := Bf h22 hm
      rcases bt ((kand .i64 (Ye p0 k1).control 6) != 0) with h23 | h23
      ·replace hm := Bf h23 hm
       obtain ⟨r24,hr24,hm⟩ := bo hm
       refine RD hnt (nn 6 (o95 [] true r20 :: nn 11 (pT :: nn 4 (o97 [] true r24 :: nn 2 (pT :: pF :: []))))) [4] [(49,pB (decide (((r24.length : Nat) : Int) > 0)))] [1032] [] (an (Jz p0.tree (Ye p0 k1).id r20 hr20) (an4 h21 (an4 h22 (an h21 (an h22 (an h21 (an4 h23 (an (No p0 (Ye p0 k1).id r24 hr24) (an2 h23 (an h21 (an h23 (an h21 tv)))))))))))) ?_
       exact jD (decide (((r24.length : Nat) : Int) > 0)) hm Conv.eqK
      ·replace hm := Be h23 hm
       refine RD hnt (nn 6 (o95 [] true r20 :: nn 11 (pT :: .no :: sk 6 (pF :: pF :: [])))) [4] [(49,pB false)] [1032] [] (an (Jz p0.tree (Ye p0 k1).id r20 hr20) (an4 h21 (an4 h22 (an h21 (an h22 (an h21 (an6 h23 (an h21 (an h23 (an h21 tv)))))))))) ?_
       exact jD false hm Conv.eqK
     ·replace hm := Be h22 hm
      refine RD hnt (nn 6 (o95 [] true r20 :: nn 7 (sk 4 (pF :: .no :: sk 6 (pF :: pF :: []))))) [4] [(49,pB false)] [1032] [] (an (Jz p0.tree (Ye p0 k1).id r20 hr20) (an4 h21 (an4 h22 (an h21 (an h22 (an h21 (an6 ff (an h21 (an ff (an h21 tv)))))))))) ?_
      exact jD false hm Conv.eqK
  ·intro h19
   have hge1 : ¬ k1 < p0.tree.nodes.length := by have := of_decide_eq_false h19; omega
   have hm := he1 hge1
   unfold AcO at hm
   refine DW.exit ?_
   refine Ao ?_
   refine Au ?_
   refine Am ?_
   show DW _ _ _ _ _
   refine Sq (RK hnt (.no :: []) [(2,pB true)] [] tv ?_)
   obtain rfl := sj hm
   exact DW.ret (Ah [] [] (pB true))
abbrev o92 (ks : List Nat) (b : Bool) (RES : Bool) (sm : List Nat := []) : Orc := .call 209 ks b (pB RES) [] [] sm

theorem Md (p0 : Aa) (p1 : Int) (RES : Aw × Bool) (hm : Ha p0 p1 = some RES) : Spec Tryz.prog 23 [.p (.agg (Ab p0)),pI p1] [] (.p (.tup [.agg (Ay RES.1),vb RES.2])) [] [] := by
 unfold Ha at hm
 refine SO Tryz.func23 rfl rfl [(0,.p (.agg (Ab p0))),(1,pI p1)] [] ?_
 intro cx hnt
 refine Sq (RK hnt (nn 3 []) [(1,pI p1),(2,rr 1016),(4,rr 1032)] [(1016,bx (pm (Ab p0))),(1032,bx [pI 0,pI 0,pI 0,pI 0])] tv ?_)
 obtain ⟨r1,hr1,hm⟩ := bo hm
 refine Sq (Sq (RD hnt (.no :: o93 [] true r1 :: .no :: []) [] [(9,pB (!r1))] [] [] (an (Dz p0 r1 hr1) tv) ?_))
 refine Ae hm ?_ ?_
 ·intro h2 hm
  refine Sq (RD hnt (nn 3 []) [1,2,9] [(5,pB false)] [1016] [] tv ?_)
  obtain rfl := sj hm
  exact DW.ret (Ah [] [] (.p (.tup [.agg [vi 0,vi 0,vi 0,vi 0],vb false])))
 ·intro h2 hm
  refine Sk ?_
  refine Sq (Sq (RD hnt (.no :: []) [9] [(6,pI 0)] [] [] tv ?_))
  refine Bk ?_
  obtain ⟨hc1,hm⟩ := go1 hm
  refine DW.rangeO (fun (k1 : Nat) (s1 : Unit) => Aj [(1,pI p1),(2,rr 1016),(4,rr 1032),(6,pI ((k1 : Nat) : Int))] [(1016,bx (pm (Ab p0))),(1032,bx [pI 0,pI 0,pI 0,pI 0])]) Bt hm Conv.eqK ?_
  intro k1 s1 n1 hk1 hs1 he1
  refine Sq (Sq (RD hnt (nn 5 []) [] [(15,pB (decide (((k1 : Nat) : Int) < ((p0.tasks.length : Nat) : Int))))] [] [] tv ?_))
  refine Cb (decide (((k1 : Nat) : Int) < ((p0.tasks.length : Nat) : Int))) ?_ ?_
  ·intro h11
   have hlt1 : k1 < p0.tasks.length := by have := of_decide_eq_true h11; omega
   have hm := hs1 hlt1
   unfold AeI at hm
   refine Sk ?_
   refine Sq (Bk ?_)
   refine Sq (RD hnt (nn 8 []) [15] [(25,pB ((p0.tasks.getD k1 (default : Aw)).id == p1))] [] [] (an (nn0 k1) (an (ltc hlt1) tv)) ?_)
   refine Ae hm ?_ ?_
   ·intro h12 hm
    refine Sq (RK hnt (nn 7 []) [(4,rr 1032),(5,pB true)] [(1032,bx (pm (Ay (p0.tasks.getD k1 (default : Aw)))))] (an (nn0 k1) (an (ltc hlt1) tv)) ?_)
    obtain rfl := sj hm
    exact DW.ret (Ah [] [] (.p (.tup [.agg (Ay (p0.tasks.getD k1 (default : Aw))),vb true])))
   ·intro h12 hm
    refine Sk ?_
    refine DW.done ?_
    show DW _ _ _ _ _
    refine RD hnt (nn 3 []) [25] [(6,pI (w64 (((k1 : Nat) : Int) + 1)))] [] [] tv ?_
    exact jD () ⟨hlt1,hm⟩ (Conv.tp [(6,pI (w64 (((k1 : Nat) : Int) + 1)))] [] (by kernel_rfl) (.cons rfl (.of_eq (congrArg pI (Bl hlt1 hc1))) .nil) .nil)
  ·intro h11
   have hge1 : ¬ k1 < p0.tasks.length := by have := of_decide_eq_false h11; omega
   have hm := he1 hge1
   unfold AeS at hm
   refine DW.exit ?_
   refine Ao ?_
   refine Au ?_
   refine Am ?_
   show DW _ _ _ _ _
   refine Sq (RD hnt (nn 3 []) [1,2,6,15] [(5,pB false)] [1016] [] tv ?_)
   obtain rfl := sj hm
   exact DW.ret (Ah [] [] (.p (.tup [.agg [vi 0,vi 0,vi 0,vi 0],vb false])))
abbrev o98 (ks : List Nat) (b : Bool) (RES : Aw × Bool) (sm : List Nat := []) : Orc := .call 23 ks b (.p (.tup [.agg (Ay RES.1),vb RES.2])) [] [] sm

theorem Px (p0 : Ag) (p1 : Int) (RES : Int × Bool) (hm : Kz p0 p1 = some RES) : Spec Tryz.prog 165 [.p (.agg (As p0)),pI p1] [] (.p (.tup [vi RES.1,vb RES.2])) [] [] := by
 unfold Kz at hm
 refine SO Tryz.func165 rfl rfl [(0,.p (.agg (As p0))),(1,pI p1)] [] ?_
 intro cx hnt
 refine Sq (RK hnt (nn 3 []) [(1,pI p1),(2,rr 1016)] [(1016,bx (pm (As p0)))] tv ?_)
 obtain ⟨r1,hr1,hm⟩ := bo hm
 refine Sq (RD hnt (nn 2 (o82 [] true r1 :: .no :: [])) [1] [(6,ow 1096 r1.length)] [] [(1096,ob0 (roI r1))] (an (Jx p0 p1 r1 hr1) tv) ?_)
 refine Sq (Sq (RD hnt (.no :: []) [] [(7,pI 0)] [] [] tv ?_))
 refine Bk ?_
 obtain ⟨hc1,hm⟩ := go1 hm
 refine DW.rangeO (fun (k1 : Nat) (s1 : Unit) => Aj [(2,rr 1016),(6,ow 1096 r1.length),(7,pI ((k1 : Nat) : Int))] [(1016,bx (pm (As p0))),(1096,ob0 (roI r1))]) 0 hm Conv.eqK ?_
 intro k1 s1 n1 hk1 hs1 he1
 refine Sq (Sq (RD hnt (nn 4 []) [] [(16,pB (decide (((k1 : Nat) : Int) < ((r1.length : Nat) : Int))))] [] [] tv ?_))
 refine Cb (decide (((k1 : Nat) : Int) < ((r1.length : Nat) : Int))) ?_ ?_
 ·intro h16
  have hlt1 : k1 < r1.length := by have := of_decide_eq_true h16; omega
  have hm := hs1 hlt1
  unfold Xm at hm
  refine Sk ?_
  refine Sq (Bk ?_)
  obtain ⟨r17,hr17,hm⟩ := bo hm
  refine Sq (RD hnt (nn 5 (o80 [] true r17 :: nn 6 [])) [16] [(8,rr 1064)] [] [(1064,bx (pm (Aq r17.1)))] (an (nn0 k1) (an (ltc hlt1) (an (by omega : k1 < r1.length) (an (De p0 (r1.getD k1 0) r17 hr17) tv)))) ?_)
  refine Sq (RD hnt (nn 3 []) [8] [(30,pB (r17.1.kind != 1))] [1064] [] tv ?_)
  refine Ae hm ?_ ?_
  ·intro h18 hm
   refine Sq (RK hnt (nn 6 []) [(4,pI (r1.getD k1 0)),(5,pB true)] [] (an (nn0 k1) (an (ltc hlt1) (an (by omega : k1 < r1.length) tv))) ?_)
   obtain rfl := sj hm
   exact DW.ret (Ah [] [] (.p (.tup [vi (r1.getD k1 0),vb true])))
  ·intro h18 hm
   refine Sk ?_
   refine DW.done ?_
   show DW _ _ _ _ _
   refine RD hnt (nn 3 []) [30] [(7,pI (w64 (((k1 : Nat) : Int) + 1)))] [] [] tv ?_
   exact jD () ⟨hlt1,hm⟩ (Conv.tp [(7,pI (w64 (((k1 : Nat) : Int) + 1)))] [] (by kernel_rfl) (.cons rfl (.of_eq (congrArg pI (Bl hlt1 hc1))) .nil) .nil)
 ·intro h16
  have hge1 : ¬ k1 < r1.length := by have := of_decide_eq_false h16; omega
  have hm := he1 hge1
  unfold AcA at hm
  refine DW.exit ?_
  refine Ao ?_
  refine Au ?_
  refine Am ?_
  show DW _ _ _ _ _
  refine Sq (RK hnt (nn 2 []) [(4,pI 0),(5,pB false)] [] tv ?_)
  obtain rfl := sj hm
  exact DW.ret (Ah [] [] (.p (.tup [vi 0,vb false])))
abbrev o99 (ks : List Nat) (b : Bool) (RES : Int × Bool) (sm : List Nat := []) : Orc := .call 165 ks b (.p (.tup [vi RES.1,vb RES.2])) [] [] sm

theorem Agy (rec : Ag → Int → Option Int) (ih : ∀ (p0 : Ag) (p1 : Int) (RES : Int),rec p0 p1 = some RES → Spec Tryz.prog 163 [.p (.agg (As p0)),pI p1] [] (pI RES) [] []) (p0 : Ag) (p1 : Int) (RES : Int) (hm : Rb rec p0 p1 = some RES) : Spec Tryz.prog 163 [.p (.agg (As p0)),pI p1] [] (pI RES) [] [] := by
 unfold Rb at hm
 refine SO Tryz.func163 rfl rfl [(0,.p (.agg (As p0))),(1,pI p1)] [] ?_
 intro cx hnt
 refine Sq (RK hnt (nn 2 []) [(1,pI p1),(2,rr 1016)] [(1016,bx (pm (As p0)))] tv ?_)
 obtain ⟨r1,hr1,hm⟩ := bo hm
 refine Sq (RD hnt (nn 2 (o80 [] true r1 :: nn 6 [])) [] [(5,rr 1040),(6,pB r1.2)] [] [(1040,bx (pm (Aq r1.1)))] (an (De p0 p1 r1 hr1) tv) ?_)
 refine Sq (Sq (RD hnt (nn 2 []) [6] [(20,pB (!r1.2))] [] [] tv ?_))
 refine Ae hm ?_ ?_
 ·intro h2 hm
  refine Sq (RK hnt (.no :: []) [(4,pI 0)] [] tv ?_)
  obtain rfl := sj hm
  exact DW.ret (Ah [] [] (pI 0))
 ·intro h2 hm
  refine Sk ?_
  refine Sq (Sq (RD hnt (nn 3 []) [20] [(23,pB (r1.1.kind == 1))] [] [] tv ?_))
  refine Ae hm ?_ ?_
  ·intro h3 hm
   refine Sq (RK hnt (.no :: []) [(4,pI 2)] [] tv ?_)
   obtain rfl := sj hm
   exact DW.ret (Ah [] [] (pI 2))
  ·intro h3 hm
   refine Sk ?_
   obtain ⟨r4,hr4,hm⟩ := bo hm
   refine Sq (Sq (RD hnt (nn 3 (o80 [] true r4 :: nn 6 [])) [5,23] [(7,rr 1056),(8,pB r4.2)] [1040] [(1056,bx (pm (Aq r4.1)))] (an (De p0 r1.1.parent r4 hr4) tv) ?_))
   refine Sq ?_
   refine Jn (ι := Bool) (fun (y1 : Bool) => Aj [(1,pI p1),(2,rr 1016),(43,pB y1)] [(1016,bx (pm (As p0)))]) (fun y1 => (Ms p0 p1) y1 = some RES) ?_ ?_
   ·intro y1 hm
    unfold Ms at hm
    refine Ae hm ?_ ?_
    ·intro h8 hm
     refine Sq (RK hnt (.no :: []) [(4,pI 3)] [] tv ?_)
     obtain rfl := sj hm
     exact DW.ret (Ah [] [] (pI 3))
    ·intro h8 hm
     refine Sk ?_
     obtain ⟨r9,hr9,hm⟩ := bo hm
     refine Sq (RD hnt (nn 2 (o86 [] true r9 :: .no :: [])) [1,43] [(9,ow 1368 r9.length)] [] [(1368,ob0 (roI r9))] (an (Ru p0 p1 r9 hr9) tv) ?_)
     refine Sq (Sq (RD hnt (.no :: []) [] [(10,pI 0)] [] [] tv ?_))
     refine Bk ?_
     obtain ⟨hc1,hm⟩ := go1 hm
     refine DW.rangeO (fun (k1 : Nat) (s1 : Unit) => Aj [(2,rr 1016),(9,ow 1368 r9.length),(10,pI ((k1 : Nat) : Int))] [(1016,bx (pm (As p0))),(1368,ob0 (roI r9))]) 0 hm Conv.eqK ?_
     intro k1 s1 n1 hk1 hs1 he1
     refine Sq (Sq (RD hnt (nn 4 []) [] [(50,pB (decide (((k1 : Nat) : Int) < ((r9.length : Nat) : Int))))] [] [] tv ?_))
     refine Cb (decide (((k1 : Nat) : Int) < ((r9.length : Nat) : Int))) ?_ ?_
     ·intro h20
      have hlt1 : k1 < r9.length := by have := of_decide_eq_true h20; omega
      have hm := hs1 hlt1
      unfold Abf at hm
      refine Sk ?_
      refine Sq (Bk ?_)
      obtain ⟨r21,hr21,hm⟩ := bo hm
      refine Sq (RD hnt (nn 5 (o80 [] true r21 :: nn 6 [])) [50] [(11,rr 1088)] [] [(1088,bx (pm (Aq r21.1)))] (an (nn0 k1) (an (ltc hlt1) (an (by omega : k1 < r9.length) (an (De p0 (r9.getD k1 0) r21 hr21) tv)))) ?_)
      refine Sq (RD hnt (nn 3 []) [11] [(64,pB (r21.1.kind == 1))] [1088] [] tv ?_)
      refine Ae hm ?_ ?_
      ·intro h22 hm
       refine Sq (RK hnt (.no :: []) [(4,pI 1)] [] tv ?_)
       obtain rfl := sj hm
       exact DW.ret (Ah [] [] (pI 1))
      ·intro h22 hm
       refine Sk ?_
       refine DW.done ?_
       show DW _ _ _ _ _
       refine RD hnt (nn 3 []) [64] [(10,pI (w64 (((k1 : Nat) : Int) + 1)))] [] [] tv ?_
       exact jD () ⟨hlt1,hm⟩ (Conv.tp [(10,pI (w64 (((k1 : Nat) : Int) + 1)))] [] (by kernel_rfl) (.cons rfl (.of_eq (congrArg pI (Bl hlt1 hc1))) .nil) .nil)
     ·intro h20
      have hge1 : ¬ k1 < r9.length := by have := of_decide_eq_false h20; omega
      have hm := he1 hge1
      unfold AeJ at hm
      refine DW.exit ?_
      refine Ao ?_
      refine Au ?_
      refine Am ?_
      show DW _ _ _ _ _
      refine Sq (RK hnt (.no :: []) [(4,pI 0)] [] tv ?_)
      obtain rfl := sj hm
      exact DW.ret (Ah [] [] (pI 0))
   ·rcases bt r4.2 with h5 | h5
    ·replace hm := Bf h5 hm
     rcases bt (r4.1.kind == 1) with h6 | h6
     ·replace hm := Bf h6 hm
      refine RD hnt (nn 6 (sk 5 (pT :: pT :: []))) [7,8] [(43,pB true)] [1056] [] (an4 h5 (an5 h6 (an h5 (an h6 (an h5 tv))))) ?_
      exact jD true hm Conv.eqK
     ·replace hm := Be h6 hm
      obtain ⟨r7,hr7,hm⟩ := bo hm
      refine RD hnt (nn 9 (.call 163 [] true (pI r7) [] [] [] :: .no :: pF :: pT :: [])) [7,8] [(43,pB (r7 == 3))] [1056] [] (an4 h5 (an4 h6 (an (ih p0 r4.1.id r7 hr7) (an h6 (an h5 (an h6 (an h5 tv))))))) ?_
      exact jD (r7 == 3) hm Conv.eqK
    ·replace hm := Be h5 hm
     refine RD hnt (nn 2 (sk 10 (pF :: []))) [7,8] [(43,pB false)] [1056] [] (an6 h5 tv) ?_
     exact jD false hm Conv.eqK
theorem Abm : ∀ (n : Nat) (p0 : Ag) (p1 : Int) (RES : Int),Kx n p0 p1 = some RES → Spec Tryz.prog 163 [.p (.agg (As p0)),pI p1] [] (pI RES) [] []
  | 0,p0,p1,RES,hm => by simp [Kx] at hm
  | n + 1,p0,p1,RES,hm => Agy (Kx n) (Abm n) p0 p1 RES hm
theorem Hj (p0 : Ag) (p1 : Int) (RES : Int) (hm : Mn p0 p1 = some RES) : Spec Tryz.prog 163 [.p (.agg (As p0)),pI p1] [] (pI RES) [] [] := Abm Dy p0 p1 RES hm
abbrev o100 (ks : List Nat) (b : Bool) (RES : Int) (sm : List Nat := []) : Orc := .call 163 ks b (pI RES) [] [] sm

abbrev Vx (p0 : Aa) (k4 : Nat) := (p0.tree.nodes.getD k4 (default : An))
abbrev c91e2 (p0 : Aa) : Nat × Obj := (1008,bx (pm (Ab p0)))
theorem Mb (p0 : Aa) (RES : Bool) (hm : Ky p0 = some RES) : Spec Tryz.prog 162 [.p (.agg (Ab p0))] [] (pB RES) [] [] := by
 unfold Ky at hm
 refine SO Tryz.func162 rfl rfl [(0,.p (.agg (Ab p0)))] [] ?_
 intro cx hnt
 refine Sq (RK hnt (nn 2 []) [(1,rr 1008)] [(c91e2 p0)] tv ?_)
 obtain ⟨r1,hr1,hm⟩ := bo hm
 refine Sq (Sq (RD hnt (.no :: o92 [] true r1 :: .no :: []) [] [(16,pB (!r1))] [] [] (an (Mz p0 r1 hr1) tv) ?_))
 refine Ae hm ?_ ?_
 ·intro h2 hm
  refine Sq (RK hnt (.no :: []) [(2,pB false)] [] tv ?_)
  obtain rfl := sj hm
  exact DW.ret (Ah [] [] (pB false))
 ·intro h2 hm
  refine Sk ?_
  refine Sq (Sq (RD hnt (.no :: []) [16] [(3,pI 0)] [] [] tv ?_))
  refine Bk ?_
  obtain ⟨hc1,hm⟩ := go1 hm
  refine DW.rangeO (fun (k1 : Nat) (s1 : Unit) => Aj [(1,rr 1008),(3,pI ((k1 : Nat) : Int))] [(c91e2 p0)]) Bt hm Conv.eqK ?_
  intro k1 s1 n1 hk1 hs1 he1
  refine Sq (Sq (RD hnt (nn 5 []) [] [(21,pB (decide (((k1 : Nat) : Int) < ((p0.tasks.length : Nat) : Int))))] [] [] tv ?_))
  refine Cb (decide (((k1 : Nat) : Int) < ((p0.tasks.length : Nat) : Int))) ?_ ?_
  ·intro h99
   have hlt1 : k1 < p0.tasks.length := by have := of_decide_eq_true h99; omega
   have hm := hs1 hlt1
   unfold AaZ at hm
   refine Sk ?_
   refine Sq (Bk ?_)
   obtain ⟨r100,hr100,hm⟩ := bo hm
   refine Sq (RD hnt (nn 7 (o98 [] true r100 :: nn 6 [])) [21] [(4,rr 1032)] [] [(1032,bx (pm (Ay r100.1)))] (an (nn0 k1) (an (ltc hlt1) (an (Md p0 (p0.tasks.getD k1 (default : Aw)).process r100 hr100) tv))) ?_)
   obtain ⟨r101,hr101,hm⟩ := bo hm
   refine Sq (RD hnt (nn 8 (o99 [] true r101 :: nn 5 [])) [] [(6,pI r101.1)] [] [] (an (nn0 k1) (an (ltc hlt1) (an (Px p0.tree (p0.tasks.getD k1 (default : Aw)).group r101 hr101) tv))) ?_)
   obtain ⟨r102,hr102,hm⟩ := bo hm
   refine Sq (RD hnt (nn 4 (o99 [] true r102 :: nn 5 [])) [4] [(8,pI r102.1)] [1032] [] (an (Px p0.tree r100.1.group r102 hr102) tv) ?_)
   refine Sq (RD hnt (nn 3 []) [6,8] [(57,pB (r101.1 != r102.1))] [] [] tv ?_)
   refine Ae hm ?_ ?_
   ·intro h103 hm
    refine Sq (RK hnt (.no :: []) [(2,pB false)] [] tv ?_)
    obtain rfl := sj hm
    exact DW.ret (Ah [] [] (pB false))
   ·intro h103 hm
    refine Sk ?_
    refine DW.done ?_
    show DW _ _ _ _ _
    refine RD hnt (nn 3 []) [57] [(3,pI (w64 (((k1 : Nat) : Int) + 1)))] [] [] tv ?_
    exact jD () ⟨hlt1,hm⟩ (Conv.tp [(3,pI (w64 (((k1 : Nat) : Int) + 1)))] [] (by kernel_rfl) (.cons rfl (.of_eq (congrArg pI (Bl hlt1 hc1))) .nil) .nil)
  ·intro h99
   have hge1 : ¬ k1 < p0.tasks.length := by have := of_decide_eq_false h99; omega
   have hm := he1 hge1
   unfold AaQ at hm
   refine DW.exit ?_
   refine Ao ?_
   refine Au ?_
   refine Am ?_
   show DW _ _ _ _ _
   refine Sq (Sq (RD hnt (.no :: []) [3,21] [(10,pI 0)] [] [] tv ?_))
   refine Bk ?_
   obtain ⟨hc4,hm⟩ := go1 hm
   refine DW.rangeO (fun (k4 : Nat) (s4 : Unit) => Aj [(1,rr 1008),(10,pI ((k4 : Nat) : Int))] [(c91e2 p0)]) Bj hm Conv.eqK ?_
   intro k4 s4 n4 hk4 hs4 he4
   refine Sq (Sq (RD hnt (nn 6 []) [] [(63,pB (decide (((k4 : Nat) : Int) < ((p0.tree.nodes.length : Nat) : Int))))] [] [] tv ?_))
   refine Cb (decide (((k4 : Nat) : Int) < ((p0.tree.nodes.length : Nat) : Int))) ?_ ?_
   ·intro h132
    have hlt4 : k4 < p0.tree.nodes.length := by have := of_decide_eq_true h132; omega
    have hm := hs4 hlt4
    unfold AaS at hm
    refine Sk ?_
    refine Sq (Bk ?_)
    refine Sq (RD hnt (nn 8 []) [63] [(11,rr 1088)] [] [(1088,bx (pm (Aq (Vx p0 k4))))] (an (nn0 k4) (an (ltc hlt4) tv)) ?_)
    obtain ⟨r133,hr133,hm⟩ := bo hm
    refine Sq (RD hnt (nn 4 (o80 [] true r133 :: nn 6 [])) [] [(12,rr 1096)] [] [(1096,bx (pm (Aq r133.1)))] (an (De p0.tree (Vx p0 k4).parent r133 hr133) tv) ?_)
    obtain ⟨r134,hr134,hm⟩ := bo hm
    refine Sq (Sq ?_)
    refine Jn (ι := Bool) (fun (y17 : Bool) => Aj [(1,rr 1008),(10,pI ((k4 : Nat) : Int)),(11,rr 1088),(12,rr 1096),(98,pB y17)] [(c91e2 p0),(1088,bx (pm (Aq (Vx p0 k4)))),(1096,bx (pm (Aq r133.1)))]) (fun y17 => (Lr p0 (Vx p0 k4) n4 r133) y17 = some RES) ?_ ?_
    ·intro y17 hm
     unfold Lr at hm
     refine Ae hm ?_ ?_
     ·intro h138 hm
      refine Sq (RK hnt (.no :: []) [(2,pB false)] [] tv ?_)
      obtain rfl := sj hm
      exact DW.ret (Ah [] [] (pB false))
     ·intro h138 hm
      refine Sk ?_
      refine Sq ?_
      refine Jn (ι := Bool) (fun (y18 : Bool) => Aj [(1,rr 1008),(10,pI ((k4 : Nat) : Int)),(120,pB y18)] [(c91e2 p0)]) (fun y18 => (Ju n4) y18 = some RES) ?_ ?_
      ·intro y18 hm
       unfold Ju at hm
       refine Ae hm ?_ ?_
       ·intro h144 hm
        refine Sq (RK hnt (.no :: []) [(2,pB false)] [] tv ?_)
        obtain rfl := sj hm
        exact DW.ret (Ah [] [] (pB false))
       ·intro h144 hm
        refine Sk ?_
        refine DW.done ?_
        show DW _ _ _ _ _
        refine RD hnt (nn 3 []) [120] [(10,pI (w64 (((k4 : Nat) : Int) + 1)))] [] [] tv ?_
        exact jD () ⟨hlt4,hm⟩ (Conv.tp [(10,pI (w64 (((k4 : Nat) : Int) + 1)))] [] (by kernel_rfl) (.cons rfl (.of_eq (congrArg pI (Bl hlt4 hc4))) .nil) .nil)
      ·rcases bt ((Vx p0 k4).kind == 1) with h139 | h139
       ·replace hm := Bf h139 hm
        rcases bt (r133.1.id != 1) with h140 | h140
        ·replace hm := Bf h140 hm
         rcases bt ((kand .i64 r133.1.control 6) != 0) with h141 | h141
         ·replace hm := Bf h141 hm
          refine RD hnt (nn 12 (pT :: .no :: sk 6 (pT :: pT :: []))) [11,12,98] [(120,pB true)] [1088,1096] [] (an4 h139 (an4 h140 (an h139 (an h140 (an h139 (an6 h141 (an h139 (an h141 (an h139 tv))))))))) ?_
          exact jD true hm Conv.eqK
         ·replace hm := Be h141 hm
          obtain ⟨r142,hr142,hm⟩ := bo hm
          refine RD hnt (nn 12 (pT :: nn 5 (o100 [] true r142 :: .no :: pF :: pT :: []))) [11,12,98] [(120,pB (r142 == 3))] [1088,1096] [] (an4 h139 (an4 h140 (an h139 (an h140 (an h139 (an5 h141 (an (Hj p0.tree r133.1.id r142 hr142) (an h141 (an h139 (an h141 (an h139 tv))))))))))) ?_
          exact jD (r142 == 3) hm Conv.eqK
        ·replace hm := Be h140 hm
         obtain ⟨r143,hr143,hm⟩ := bo hm
         refine RD hnt (nn 8 (sk 4 (pF :: nn 5 (o100 [] true r143 :: .no :: pF :: pT :: [])))) [11,12,98] [(120,pB (r143 == 3))] [1088,1096] [] (an4 h139 (an4 h140 (an h139 (an h140 (an h139 (an5 ff (an (Hj p0.tree r133.1.id r143 hr143) (an ff (an h139 (an ff (an h139 tv))))))))))) ?_
         exact jD (r143 == 3) hm Conv.eqK
       ·replace hm := Be h139 hm
        refine RD hnt (nn 4 (sk 17 (pF :: []))) [11,12,98] [(120,pB false)] [1088,1096] [] (an2 h139 (an6 h139 tv)) ?_
        exact jD false hm Conv.eqK
    ·rcases bt (r134 == 3) with h135 | h135
     ·replace hm := Bf h135 hm
      rcases bt ((Vx p0 k4).control != 0) with h136 | h136
      ·replace hm := Bf h136 hm
       refine RD hnt (nn 4 (o100 [] true r134 :: nn 6 (sk 6 (pT :: pT :: [])))) [] [(98,pB true)] [] [] (an (Hj p0.tree (Vx p0 k4).id r134 hr134) (an4 h135 (an6 h136 (an h135 (an h136 (an h135 tv)))))) ?_
       exact jD true hm Conv.eqK
      ·replace hm := Be h136 hm
       obtain ⟨r137,hr137,hm⟩ := bo hm
       refine RD hnt (nn 4 (o100 [] true r134 :: nn 9 (o97 [] true r137 :: nn 2 (pF :: pT :: [])))) [] [(98,pB (decide (((r137.length : Nat) : Int) > 0)))] [] [] (an (Hj p0.tree (Vx p0 k4).id r134 hr134) (an4 h135 (an4 h136 (an (No p0 (Vx p0 k4).id r137 hr137) (an2 h136 (an h135 (an h136 (an h135 tv)))))))) ?_
       exact jD (decide (((r137.length : Nat) : Int) > 0)) hm Conv.eqK
     ·replace hm := Be h135 hm
      refine RD hnt (nn 4 (o100 [] true r134 :: nn 2 (sk 11 (pF :: [])))) [] [(98,pB false)] [] [] (an (Hj p0.tree (Vx p0 k4).id r134 hr134) (an6 h135 tv)) ?_
      exact jD false hm Conv.eqK
   ·intro h132
    have hge4 : ¬ k4 < p0.tree.nodes.length := by have := of_decide_eq_false h132; omega
    have hm := he4 hge4
    unfold AeM at hm
    refine DW.exit ?_
    refine Ao ?_
    refine Au ?_
    refine Am ?_
    show DW _ _ _ _ _
    refine Sq (RK hnt (.no :: []) [(2,pB true)] [] tv ?_)
    obtain rfl := sj hm
    exact DW.ret (Ah [] [] (pB true))
abbrev o91 (ks : List Nat) (b : Bool) (RES : Bool) (sm : List Nat := []) : Orc := .call 162 ks b (pB RES) [] [] sm

theorem Ql (p0 : Int) (RES : Bool) (hm : Zv p0 = some RES) : Spec Tryz.prog 234 [pI p0] [] (pB RES) [] [] := by
 unfold Zv at hm
 refine SO Tryz.func234 rfl rfl [(0,pI p0)] [] ?_
 intro cx hnt
 refine Sq (RK hnt (.no :: []) [(0,pI p0)] [] tv ?_)
 refine Sq (DW.regJ (sl2 := [(2,pB ((decide (p0 ≥ 0)) && (decide (p0 ≤ 31))))]) (ob2 := []) ?_ ?_)
 ·rcases bt (decide (p0 ≥ 0)) with h1 | h1
  ·exact RT hnt (nn 5 (pT :: .no :: [])) [(2,pB (decide (p0 ≤ 31)))] (an3 h1 tv) (by kernel_rfl) (.cons rfl (.of_eq (by rw [h1]; try rfl)) .nil)
  ·exact RT hnt (nn 3 (sk 2 (pF :: .no :: []))) [(2,pB false)] (an3 h1 tv) (by kernel_rfl) (.cons rfl (.of_eq (by rw [h1]; try rfl)) .nil)
 ·refine DW.ret ?_
  obtain rfl := sj hm
  exact Ah [] [] (pB ((decide (p0 ≥ 0)) && (decide (p0 ≤ 31))))
abbrev o102 (ks : List Nat) (b : Bool) (RES : Bool) (sm : List Nat := []) : Orc := .call 234 ks b (pB RES) [] [] sm

theorem Su (p0 : Aa) (RES : Aa) (hm : Oc p0 = some RES) : Spec Tryz.prog 88 [.p (.agg (Ab p0))] [] (.agg [ow 0 RES.tree.nodes.length,pI RES.tree.next,ow 1 RES.tasks.length,pI RES.next]) [] [Ak RES.tree.nodes,At RES.tasks] := by
 unfold Oc at hm
 refine SO Tryz.func88 rfl rfl [(0,.p (.agg (Ab p0)))] [] ?_
 intro cx hnt
 refine Sq (RK hnt (nn 2 []) [(1,rr 1008),(2,rr 1016)] [(1008,bx (pm (Ab p0))),(1016,bx [.p (.sl .nil 0 0 (fun _ => [])),pI 0,.p (.sl .nil 0 0 (fun _ => [])),pI 0])] tv ?_)
 obtain ⟨r1,hr1,hm⟩ := bo hm
 obtain ⟨g2,hm⟩ := go1 hm
 refine Sq (RN hnt (nn 2 (o83 [] true r1 :: nn 7 [])) [(2,rr 1016)] [(1016,bx [ow 1040 r1.nodes.length,pI r1.next,ow 1064 p0.tasks.length,pI p0.next]),(1040,ob0 (Ak r1.nodes)),(1064,ob0 (At p0.tasks))] [] [(1064,.row 4 p0.tasks.length (Abk p0.tasks))] (an (Sr p0.tree r1 hr1) (an (by omega : p0.tasks.length * 32 ≤ 140737488355328) tv)) (by kernel_rfl) .nil (.cons rfl (BLe.typed RowIs.elems) .nil) ?_)
 obtain rfl := sj hm
 exact DW.ret (Ah [Ak r1.nodes,At p0.tasks] [1040,1064] (.agg [ow 0 r1.nodes.length,pI r1.next,ow 1 p0.tasks.length,pI p0.next]))
abbrev o103 (ks : List Nat) (b : Bool) (RES : Aa) (sm : List Nat := []) : Orc := .call 88 ks b (.agg [ow 0 RES.tree.nodes.length,pI RES.tree.next,ow 1 RES.tasks.length,pI RES.next]) [] [Ak RES.tree.nodes,At RES.tasks] sm

abbrev AfV : Nat × Obj := (1032,bx [.p (.sl .nil 0 0 (fun _ => [])),pI 0])
theorem Aac (p0 : Ag) (p1 : An) (RES : Ag) (hm : Sy p0 p1 = some RES) : Spec Tryz.prog 161 [.p (.agg (As p0)),.p (.agg (Aq p1))] [] (.agg [ow 0 RES.nodes.length,pI RES.next]) [] [Ak RES.nodes] := by
 unfold Sy at hm
 refine SO Tryz.func161 rfl rfl [(0,.p (.agg (As p0))),(1,.p (.agg (Aq p1)))] [] ?_
 intro cx hnt
 refine Sq (RK hnt (nn 3 []) [(2,rr 1016),(3,rr 1024),(4,rr 1032)] [(1016,bx (pm (As p0))),(1024,bx (pm (Aq p1))),(AfV)] tv ?_)
 obtain ⟨r1,hr1,hm⟩ := bo hm
 refine Sq (RD hnt (.no :: o83 [] true r1 :: nn 2 []) [2] [(5,rr 1040)] [1016] [(1040,bx [ow 1064 r1.nodes.length,pI r1.next]),(1064,ob0 (Ak r1.nodes))] (an (Sr p0 r1 hr1) tv) ?_)
 refine Sq (Sq (RD hnt (.no :: []) [] [(6,pI 0)] [] [] tv ?_))
 refine Bk ?_
 refine DW.whileO (fun (s1 : (List An) × Int) => Aj [(3,rr 1024),(4,rr 1032),(5,rr 1040),(6,pI s1.2)] [(1024,bx (pm (Aq p1))),(AfV),(1040,bx [ow 1064 s1.1.length,pI r1.next]),(1064,ob0 (Ak s1.1))]) hm Conv.eqK ?_
 intro s1 n1 hm
 unfold AbU at hm
 refine Sq (Sq (RD hnt (nn 5 []) [] [(13,pB (decide (s1.2 < ((s1.1.length : Nat) : Int))))] [] [] tv ?_))
 refine Ae hm ?_ ?_
 ·intro h8 hm
  refine Sk ?_
  refine Sq ?_
  refine Jn (ι := List An) (fun (y2 : List An) => Aj [(3,rr 1024),(4,rr 1032),(5,rr 1040),(6,pI s1.2)] [(1024,bx (pm (Aq p1))),(AfV),(1040,bx [ow 1064 y2.length,pI r1.next]),(1064,ob0 (Ak y2))]) (fun y2 => (Uj s1 n1) y2 = some RES) ?_ ?_
  ·intro y2 hm
   unfold Uj at hm
   refine RD hnt (nn 3 []) [] [(6,pI (w64 (s1.2 + 1)))] [] [] tv ?_
   exact jD (y2,(w64 (s1.2 + 1))) hm Conv.eqK
  ·refine Bk ?_
   obtain ⟨g9,g10,hm⟩ := go2 hm
   refine Sq (RD hnt (nn 9 []) [13] [(24,pB ((s1.1.getD (Int.toNat s1.2) Bj).id == p1.id))] [] [] (an g9.1 (an g9.2 (an g10 tv))) ?_)
   refine Ae hm ?_ ?_
   ·intro h11 hm
    obtain ⟨g12,g13,hm⟩ := go2 hm
    refine RN hnt (nn 6 []) [(3,rr 1024),(4,rr 1032),(5,rr 1040),(6,pI s1.2)] [(1024,bx (pm (Aq p1))),(AfV),(1040,bx [ow 1064 (s1.1.set (Int.toNat s1.2) p1).length,pI r1.next]),(1064,ob0 (Ak (s1.1.set (Int.toNat s1.2) p1)))] [] [(1040,.box [ow 1064 s1.1.length,pI r1.next]),(1064,.row 6 s1.1.length (Cc (Xf s1.1) (Int.toNat s1.2) [vi p1.id,vi p1.parent,vs p1.name,vi p1.control,vi p1.kind,vi p1.owner]))] (an g12.1 (an g12.2 (an g13 tv))) (by kernel_rfl) .nil (.cons rfl (.box (.cons (MLe.ownLen (enc := Aq) (d := Bj) (f := (Cc (Xf s1.1) (Int.toNat s1.2) [vi p1.id,vi p1.parent,vs p1.name,vi p1.control,vi p1.kind,vi p1.owner])) (RowIs.upd RowIs.elems p1 rfl)) (.cons .rfl .nil))) (.cons rfl (BLe.typed (RowIs.upd RowIs.elems p1 rfl)) .nil)) ?_
    exact bD (s1.1.set (Int.toNat s1.2) p1) hm .refl
   ·intro h11 hm
    refine Sk ?_
    exact bD s1.1 hm Conv.t0
 ·intro h8 hm
  refine DW.exit ?_
  refine Ao ?_
  refine Au ?_
  refine Am ?_
  show DW _ _ _ _ _
  refine Sq (RD hnt (nn 2 []) [3,5,6,13] [] [1024,1040] [(1032,bx [ow 1064 s1.1.length,pI r1.next])] tv ?_)
  obtain rfl := sj hm
  exact DW.ret (Ah [Ak s1.1] [1064] (.agg [ow 0 s1.1.length,pI r1.next]))
abbrev o104 (ks : List Nat) (b : Bool) (RES : Ag) (sm : List Nat := []) : Orc := .call 161 ks b (.agg [ow 0 RES.nodes.length,pI RES.next]) [] [Ak RES.nodes] sm

abbrev AfT : Nat × Obj := (1064,bx [.p (.sl .nil 0 0 (fun _ => [])),pI 0,.p (.sl .nil 0 0 (fun _ => [])),pI 0])
abbrev AcZ : Nat × Obj := (1064,bx [ow 100000 0,pI 0,ow 100001 0,pI 0])
abbrev c101e3 (r8 : An × Bool) (p3 : Int) (p2 : Int) : Nat × Obj := (1080,bx [pI r8.1.id,pI r8.1.parent,pS r8.1.name,pI (kor .i64 (Eb .i64 r8.1.control p3) p2),pI r8.1.kind,pI r8.1.owner])
theorem AgO (p0 : Aa) (p1 : Int) (p2 : Int) (p3 : Int) (RES : Aa × Int) (hm : Ua p0 p1 p2 p3 = some RES) : Spec Tryz.prog 208 [.p (.agg (Ab p0)),pI p1,pI p2,pI p3] [] (.tup [.agg [ow 0 RES.1.tree.nodes.length,pI RES.1.tree.next,ow 1 RES.1.tasks.length,pI RES.1.next],pI RES.2]) [] [Ak RES.1.tree.nodes,At RES.1.tasks] := by
 unfold Ua at hm
 refine SO Tryz.func208 rfl rfl [(0,.p (.agg (Ab p0))),(1,pI p1),(2,pI p2),(3,pI p3)] [] ?_
 intro cx hnt
 refine Sq (RD hnt (nn 3 []) [0] [(4,rr 1032),(8,rr 1064)] [] [(1032,bx (pm (Ab p0))),(AfT)] tv ?_)
 obtain ⟨r1,hr1,hm⟩ := bo hm
 refine Sq (Sq ?_)
 refine Jn (ι := Bool) (fun (y1 : Bool) => Aj [(1,pI p1),(2,pI p2),(3,pI p3),(4,rr 1032),(8,rr 1064),(37,pB y1)] [(1032,bx (pm (Ab p0))),(AfT)]) (fun y1 => (Ih p0 p1 p2 p3) y1 = some RES) ?_ ?_
 ·intro y1 hm
  unfold Ih at hm
  refine Ae hm ?_ ?_
  ·intro h7 hm
   refine Sq (RD hnt (nn 3 []) [1,2,3,4,37] [(9,pI 1)] [1032] [] tv ?_)
   refine DW.cv [] [] [] [(AcZ),(100000,ob0 (Ak [])),(100001,ob0 (At []))] (Conv.ads [(.o 1064 0,100000,6,elems Aq Bj []),(.o 1064 2,100001,4,elems Ay Bt [])]) ?_
   obtain rfl := sj hm
   exact DW.ret (Ah [Ak [],At []] [100000,100001] (.tup [.agg [ow 0 0,pI 0,ow 1 0,pI 0],pI 1]))
  ·intro h7 hm
   refine Sk ?_
   obtain ⟨r8,hr8,hm⟩ := bo hm
   refine Sq (RD hnt (nn 3 (o80 [] true r8 :: nn 6 [])) [37] [(10,rr 1080),(11,pB r8.2)] [] [(1080,bx (pm (Aq r8.1)))] (an (De p0.tree p1 r8 hr8) tv) ?_)
   refine Sq (Sq (RD hnt (nn 2 []) [11] [(47,pB (!r8.2))] [] [] tv ?_))
   refine Ae hm ?_ ?_
   ·intro h9 hm
    refine Sq (RD hnt (nn 3 []) [1,2,3,4,10,47] [(9,pI 4)] [1032,1080] [] tv ?_)
    refine DW.cv [] [] [] [(AcZ),(100000,ob0 (Ak [])),(100001,ob0 (At []))] (Conv.ads [(.o 1064 0,100000,6,elems Aq Bj []),(.o 1064 2,100001,4,elems Ay Bt [])]) ?_
    obtain rfl := sj hm
    exact DW.ret (Ah [Ak [],At []] [100000,100001] (.tup [.agg [ow 0 0,pI 0,ow 1 0,pI 0],pI 4]))
   ·intro h9 hm
    refine Sk ?_
    obtain ⟨r10,hr10,hm⟩ := bo hm
    refine Sq (Sq (RD hnt (nn 4 (o95 [] true r10 :: nn 2 [])) [47] [(55,pB ((Eb .i64 p2 r10) != 0))] [] [] (an (Jz p0.tree p1 r10 hr10) tv) ?_))
    refine Ae hm ?_ ?_
    ·intro h11 hm
     refine Sq (RD hnt (nn 3 []) [1,2,3,4,10,55] [(9,pI 9)] [1032,1080] [] tv ?_)
     refine DW.cv [] [] [] [(AcZ),(100000,ob0 (Ak [])),(100001,ob0 (At []))] (Conv.ads [(.o 1064 0,100000,6,elems Aq Bj []),(.o 1064 2,100001,4,elems Ay Bt [])]) ?_
     obtain rfl := sj hm
     exact DW.ret (Ah [Ak [],At []] [100000,100001] (.tup [.agg [ow 0 0,pI 0,ow 1 0,pI 0],pI 9]))
    ·intro h11 hm
     refine Sk ?_
     obtain ⟨r12,hr12,hm⟩ := bo hm
     refine Sq (RD hnt (nn 3 (o86 [] true r12 :: .no :: [])) [55] [(12,ow 1480 r12.length)] [] [(1480,ob0 (roI r12))] (an (Ru p0.tree p1 r12 hr12) tv) ?_)
     refine Sq (Sq (RD hnt (.no :: []) [] [(13,pI 0)] [] [] tv ?_))
     refine Bk ?_
     obtain ⟨hc1,hm⟩ := go1 hm
     refine DW.rangeO (fun (k1 : Nat) (s1 : Unit) => Aj [(1,pI p1),(2,pI p2),(3,pI p3),(4,rr 1032),(8,rr 1064),(10,rr 1080),(12,ow 1480 r12.length),(13,pI ((k1 : Nat) : Int))] [(1032,bx (pm (Ab p0))),(AfT),(1080,bx (pm (Aq r8.1))),(1480,ob0 (roI r12))]) 0 hm Conv.eqK ?_
     intro k1 s1 n1 hk1 hs1 he1
     refine Sq (Sq (RD hnt (nn 4 []) [] [(64,pB (decide (((k1 : Nat) : Int) < ((r12.length : Nat) : Int))))] [] [] tv ?_))
     refine Cb (decide (((k1 : Nat) : Int) < ((r12.length : Nat) : Int))) ?_ ?_
     ·intro h35
      have hlt1 : k1 < r12.length := by have := of_decide_eq_true h35; omega
      have hm := hs1 hlt1
      unfold Zj at hm
      refine Sk ?_
      refine Sq (Bk ?_)
      obtain ⟨r36,hr36,hm⟩ := bo hm
      refine Sq (RD hnt (nn 6 (o80 [] true r36 :: nn 6 [])) [64] [(14,rr 1112)] [] [(1112,bx (pm (Aq r36.1)))] (an (nn0 k1) (an (ltc hlt1) (an (by omega : k1 < r12.length) (an (De p0.tree (r12.getD k1 0) r36 hr36) tv)))) ?_)
      refine Sq (RD hnt (nn 5 []) [14] [(81,pB ((kand .i64 r36.1.control p3) != 0))] [1112] [] tv ?_)
      refine Ae hm ?_ ?_
      ·intro h37 hm
       refine Sq (RD hnt (nn 3 []) [1,2,3,4,10,12,13,81] [(9,pI 9)] [1032,1080,1480] [] tv ?_)
       refine DW.cv [] [] [] [(AcZ),(100000,ob0 (Ak [])),(100001,ob0 (At []))] (Conv.ads [(.o 1064 0,100000,6,elems Aq Bj []),(.o 1064 2,100001,4,elems Ay Bt [])]) ?_
       obtain rfl := sj hm
       exact DW.ret (Ah [Ak [],At []] [100000,100001] (.tup [.agg [ow 0 0,pI 0,ow 1 0,pI 0],pI 9]))
      ·intro h37 hm
       refine Sk ?_
       refine DW.done ?_
       show DW _ _ _ _ _
       refine RD hnt (nn 3 []) [81] [(13,pI (w64 (((k1 : Nat) : Int) + 1)))] [] [] tv ?_
       exact jD () ⟨hlt1,hm⟩ (Conv.tp [(13,pI (w64 (((k1 : Nat) : Int) + 1)))] [] (by kernel_rfl) (.cons rfl (.of_eq (congrArg pI (Bl hlt1 hc1))) .nil) .nil)
     ·intro h35
      have hge1 : ¬ k1 < r12.length := by have := of_decide_eq_false h35; omega
      have hm := he1 hge1
      unfold Aaf at hm
      refine DW.exit ?_
      refine Ao ?_
      refine Au ?_
      refine Am ?_
      show DW _ _ _ _ _
      refine Sq (RD hnt (nn 3 []) [12,13,64] [(16,pI r8.1.control)] [1480] [] tv ?_)
      refine Sq (RD hnt (nn 7 []) [2,3] [] [] [(c101e3 r8 p3 p2)] tv ?_)
      refine Sq (Sq (RD hnt (nn 4 []) [] [(17,pI (kand .i64 (kor .i64 (Eb .i64 r8.1.control p3) p2) 6))] [] [] tv ?_))
      refine Sq ?_
      refine Jn (ι := Bool) (fun (y4 : Bool) => Aj [(4,rr 1032),(8,rr 1064),(10,rr 1080),(108,pB y4)] [(1032,bx (pm (Ab p0))),(AfT),(c101e3 r8 p3 p2)]) (fun y4 => (Ls p0 p2 p3 r8) y4 = some RES) ?_ ?_
      ·intro y4 hm
       unfold Ls at hm
       refine Ae hm ?_ ?_
       ·intro h41 hm
        refine Sq (RD hnt (nn 3 []) [4,10,108] [(9,pI 6)] [1032,1080] [] tv ?_)
        refine DW.cv [] [] [] [(AcZ),(100000,ob0 (Ak [])),(100001,ob0 (At []))] (Conv.ads [(.o 1064 0,100000,6,elems Aq Bj []),(.o 1064 2,100001,4,elems Ay Bt [])]) ?_
        obtain rfl := sj hm
        exact DW.ret (Ah [Ak [],At []] [100000,100001] (.tup [.agg [ow 0 0,pI 0,ow 1 0,pI 0],pI 6]))
       ·intro h41 hm
        refine Sk ?_
        obtain ⟨r42,hr42,hm⟩ := bo hm
        refine Sq (RD hnt (.no :: o103 [] true r42 :: nn 2 []) [108] [(18,rr 1144)] [] [(1144,bx [ow 1888 r42.tree.nodes.length,pI r42.tree.next,ow 1889 r42.tasks.length,pI r42.next]),(1888,ob0 (Ak r42.tree.nodes)),(1889,ob0 (At r42.tasks))] (an (Su p0 r42 hr42) tv) ?_)
        obtain ⟨r43,hr43,hm⟩ := bo hm
        refine Sq (RD hnt (nn 3 (o104 [] true r43 :: nn 2 [])) [4,10] [] [1032,1080,1888] [(1144,bx [ow 1920 r43.nodes.length,pI r43.next,ow 1889 r42.tasks.length,pI r42.next]),(1920,ob0 (Ak r43.nodes))] (an (Aac p0.tree ({ id := r8.1.id,parent := r8.1.parent,name := r8.1.name,control := (kor .i64 (Eb .i64 r8.1.control p3) p2),kind := r8.1.kind,owner := r8.1.owner } : An) r43 hr43) tv) ?_)
        refine Sq (RD hnt (nn 3 []) [18] [(9,pI 0)] [1144] [(1064,bx [ow 1920 r43.nodes.length,pI r43.next,ow 1889 r42.tasks.length,pI r42.next])] tv ?_)
        obtain rfl := sj hm
        exact DW.ret (Ah [Ak r43.nodes,At r42.tasks] [1920,1889] (.tup [.agg [ow 0 r43.nodes.length,pI r43.next,ow 1 r42.tasks.length,pI r42.next],pI 0]))
      ·rcases bt ((Eb .i64 (kand .i64 (kor .i64 (Eb .i64 r8.1.control p3) p2) 6) r8.1.control) != 0) with h38 | h38
       ·replace hm := Bf h38 hm
        rcases bt (p1 != 1) with h39 | h39
        ·replace hm := Bf h39 hm
         obtain ⟨r40,hr40,hm⟩ := bo hm
         refine RD hnt (nn 7 (pT :: nn 3 (o97 [] true r40 :: nn 2 (pT :: [])))) [1,16,17] [(108,pB (decide (((r40.length : Nat) : Int) > 0)))] [] [] (an3 h38 (an3 h39 (an (No p0 p1 r40 hr40) (an3 h39 tv)))) ?_
         exact jD (decide (((r40.length : Nat) : Int) > 0)) hm Conv.eqK
        ·replace hm := Be h39 hm
         refine RD hnt (nn 7 (pT :: .no :: sk 5 (pF :: []))) [1,16,17] [(108,pB false)] [] [] (an3 h38 (an6 h39 tv)) ?_
         exact jD false hm Conv.eqK
       ·replace hm := Be h38 hm
        refine RD hnt (nn 5 (sk 2 (pF :: .no :: sk 5 (pF :: [])))) [1,16,17] [(108,pB false)] [] [] (an3 h38 (an6 ff tv)) ?_
        exact jD false hm Conv.eqK
 ·rcases bt (!r1) with h2 | h2
  ·replace hm := Bf h2 hm
   refine RD hnt (.no :: o92 [] true r1 :: nn 2 (sk 3 (pT :: .no :: sk 3 (pT :: .no :: sk 4 (pT :: []))))) [] [(37,pB true)] [] [] (an (Mz p0 r1 hr1) (an4 h2 (an3 tt (an6 tt tv)))) ?_
   exact jD true hm Conv.eqK
  ·replace hm := Be h2 hm
   obtain ⟨r3,hr3,hm⟩ := bo hm
   rcases bt (!r3) with h4 | h4
   ·replace hm := Bf h4 hm
    refine RD hnt (.no :: o92 [] true r1 :: nn 3 (o102 [] true r3 :: .no :: pF :: .no :: sk 3 (pT :: .no :: sk 4 (pT :: [])))) [] [(37,pB true)] [] [] (an (Mz p0 r1 hr1) (an2 h2 (an (Ql p2 r3 hr3) (an2 h2 (an4 h4 (an5 tt tv)))))) ?_
    exact jD true hm Conv.eqK
   ·replace hm := Be h4 hm
    obtain ⟨r5,hr5,hm⟩ := bo hm
    rcases bt (!r5) with h6 | h6
    ·replace hm := Bf h6 hm
     refine RD hnt (.no :: o92 [] true r1 :: nn 3 (o102 [] true r3 :: .no :: pF :: nn 2 (o102 [] true r5 :: .no :: pF :: .no :: sk 4 (pT :: [])))) [] [(37,pB true)] [] [] (an (Mz p0 r1 hr1) (an2 h2 (an (Ql p2 r3 hr3) (an2 h2 (an2 h4 (an (Ql p3 r5 hr5) (an2 h4 (an5 h6 tv)))))))) ?_
     exact jD true hm Conv.eqK
    ·replace hm := Be h6 hm
     refine RD hnt (.no :: o92 [] true r1 :: nn 3 (o102 [] true r3 :: .no :: pF :: nn 2 (o102 [] true r5 :: .no :: pF :: nn 5 (pF :: [])))) [] [(37,pB ((kand .i64 p2 p3) != 0))] [] [] (an (Mz p0 r1 hr1) (an2 h2 (an (Ql p2 r3 hr3) (an2 h2 (an2 h4 (an (Ql p3 r5 hr5) (an2 h4 (an5 h6 tv)))))))) ?_
     exact jD ((kand .i64 p2 p3) != 0) hm Conv.eqK
abbrev o101 (ks : List Nat) (b : Bool) (RES : Aa × Int) (sm : List Nat := []) : Orc := .call 208 ks b (.tup [.agg [ow 0 RES.1.tree.nodes.length,pI RES.1.tree.next,ow 1 RES.1.tasks.length,pI RES.1.next],pI RES.2]) [] [Ak RES.1.tree.nodes,At RES.1.tasks] sm

abbrev c90e1 : Nat × Obj := (1064,bx [ow 100000 0,pI 0,ow 100001 0,pI 0])
theorem Aga (p0 : Aa) (p1 : Int) (p2 : Int) (p3 : Int) (RES : Aa × Int) (hm : Rw p0 p1 p2 p3 = some RES) : Spec Tryz.prog 159 [.p (.agg (Ab p0)),pI p1,pI p2,pI p3] [] (.tup [.agg [ow 0 RES.1.tree.nodes.length,pI RES.1.tree.next,ow 1 RES.1.tasks.length,pI RES.1.next],pI RES.2]) [] [Ak RES.1.tree.nodes,At RES.1.tasks] := by
 unfold Rw at hm
 refine SO Tryz.func159 rfl rfl [(0,.p (.agg (Ab p0))),(1,pI p1),(2,pI p2),(3,pI p3)] [] ?_
 intro cx hnt
 refine Sq (RD hnt (nn 3 []) [0] [(4,rr 1032),(8,rr 1064)] [] [(1032,bx (pm (Ab p0))),(1064,bx [.p (.sl .nil 0 0 (fun _ => [])),pI 0,.p (.sl .nil 0 0 (fun _ => [])),pI 0])] tv ?_)
 obtain ⟨r1,hr1,hm⟩ := bo hm
 refine Sq (Sq (RD hnt (.no :: o91 [] true r1 :: .no :: []) [] [(14,pB (!r1))] [] [] (an (Mb p0 r1 hr1) tv) ?_))
 refine Ae hm ?_ ?_
 ·intro h2 hm
  refine Sq (RD hnt (nn 3 []) [1,2,3,4,14] [(9,pI 1)] [1032] [] tv ?_)
  refine DW.cv [] [] [] [(c90e1),(100000,ob0 (Ak [])),(100001,ob0 (At []))] (Conv.ads [(.o 1064 0,100000,6,elems Aq Bj []),(.o 1064 2,100001,4,elems Ay Bt [])]) ?_
  obtain rfl := sj hm
  exact DW.ret (Ah [Ak [],At []] [100000,100001] (.tup [.agg [ow 0 0,pI 0,ow 1 0,pI 0],pI 1]))
 ·intro h2 hm
  refine Sk ?_
  obtain ⟨r3,hr3,hm⟩ := bo hm
  refine Sq (RD hnt (nn 4 (o101 [] true r3 :: nn 6 [])) [1,2,3,4,14] [(10,rr 1080),(11,pI r3.2)] [1032] [(1080,bx [ow 1168 r3.1.tree.nodes.length,pI r3.1.tree.next,ow 1169 r3.1.tasks.length,pI r3.1.next]),(1168,ob0 (Ak r3.1.tree.nodes)),(1169,ob0 (At r3.1.tasks))] (an (AgO p0 p1 p2 p3 r3 hr3) tv) ?_)
  refine Sq (Sq (RD hnt (nn 2 []) [] [(25,pB (r3.2 != 0))] [] [] tv ?_))
  refine Ae hm ?_ ?_
  ·intro h4 hm
   refine Sq (RD hnt (nn 4 []) [10,11,25] [(9,pI r3.2)] [1080,1168,1169] [] tv ?_)
   refine DW.cv [] [] [] [(c90e1),(100000,ob0 (Ak [])),(100001,ob0 (At []))] (Conv.ads [(.o 1064 0,100000,6,elems Aq Bj []),(.o 1064 2,100001,4,elems Ay Bt [])]) ?_
   obtain rfl := sj hm
   exact DW.ret (Ah [Ak [],At []] [100000,100001] (.tup [.agg [ow 0 0,pI 0,ow 1 0,pI 0],pI r3.2]))
  ·intro h4 hm
   refine Sk ?_
   obtain ⟨r5,hr5,hm⟩ := bo hm
   refine Sq (Sq (RD hnt (.no :: o91 [] true r5 :: .no :: []) [11,25] [(30,pB (!r5))] [] [] (an (Mb r3.1 r5 hr5) tv) ?_))
   refine Ae hm ?_ ?_
   ·intro h6 hm
    refine Sq (RD hnt (nn 3 []) [10,30] [(9,pI 10)] [1080,1168,1169] [] tv ?_)
    refine DW.cv [] [] [] [(c90e1),(100000,ob0 (Ak [])),(100001,ob0 (At []))] (Conv.ads [(.o 1064 0,100000,6,elems Aq Bj []),(.o 1064 2,100001,4,elems Ay Bt [])]) ?_
    obtain rfl := sj hm
    exact DW.ret (Ah [Ak [],At []] [100000,100001] (.tup [.agg [ow 0 0,pI 0,ow 1 0,pI 0],pI 10]))
   ·intro h6 hm
    refine Sk ?_
    refine Sq (RD hnt (nn 3 []) [10,30] [(9,pI 0)] [1080] [(1064,bx [ow 1168 r3.1.tree.nodes.length,pI r3.1.tree.next,ow 1169 r3.1.tasks.length,pI r3.1.next])] tv ?_)
    obtain rfl := sj hm
    exact DW.ret (Ah [Ak r3.1.tree.nodes,At r3.1.tasks] [1168,1169] (.tup [.agg [ow 0 r3.1.tree.nodes.length,pI r3.1.tree.next,ow 1 r3.1.tasks.length,pI r3.1.next],pI 0]))
abbrev o90 (ks : List Nat) (b : Bool) (RES : Aa × Int) (sm : List Nat := []) : Orc := .call 159 ks b (.tup [.agg [ow 0 RES.1.tree.nodes.length,pI RES.1.tree.next,ow 1 RES.1.tasks.length,pI RES.1.next],pI RES.2]) [] [Ak RES.1.tree.nodes,At RES.1.tasks] sm

abbrev Afv : Nat × Obj := (1032,bx [.p (.sl .nil 0 0 (fun _ => [])),pI 0,.p (.sl .nil 0 0 (fun _ => [])),pI 0])
abbrev AbB : Nat × Obj := (1032,bx [ow 100000 0,pI 0,ow 100001 0,pI 0])
theorem Afj (p0 : Aa) (p1 : Int) (RES : Aa × Int) (hm : Qy p0 p1 = some RES) : Spec Tryz.prog 160 [.p (.agg (Ab p0)),pI p1] [] (.tup [.agg [ow 0 RES.1.tree.nodes.length,pI RES.1.tree.next,ow 1 RES.1.tasks.length,pI RES.1.next],pI RES.2]) [] [Ak RES.1.tree.nodes,At RES.1.tasks] := by
 unfold Qy at hm
 refine SO Tryz.func160 rfl rfl [(0,.p (.agg (Ab p0))),(1,pI p1)] [] ?_
 intro cx hnt
 refine Sq (RK hnt (nn 3 []) [(1,pI p1),(2,rr 1016),(4,rr 1032)] [(1016,bx (pm (Ab p0))),(Afv)] tv ?_)
 obtain ⟨r1,hr1,hm⟩ := bo hm
 refine Sq (Sq (RD hnt (.no :: o91 [] true r1 :: .no :: []) [] [(13,pB (!r1))] [] [] (an (Mb p0 r1 hr1) tv) ?_))
 refine Ae hm ?_ ?_
 ·intro h2 hm
  refine Sq (RD hnt (nn 3 []) [1,2,13] [(5,pI 1)] [1016] [] tv ?_)
  refine DW.cv [] [] [] [(AbB),(100000,ob0 (Ak [])),(100001,ob0 (At []))] (Conv.ads [(.o 1032 0,100000,6,elems Aq Bj []),(.o 1032 2,100001,4,elems Ay Bt [])]) ?_
  obtain rfl := sj hm
  exact DW.ret (Ah [Ak [],At []] [100000,100001] (.tup [.agg [ow 0 0,pI 0,ow 1 0,pI 0],pI 1]))
 ·intro h2 hm
  refine Sk ?_
  obtain ⟨r3,hr3,hm⟩ := bo hm
  refine Sq (RD hnt (nn 3 (o80 [] true r3 :: nn 6 [])) [13] [(6,rr 1048),(7,pB r3.2)] [] [(1048,bx (pm (Aq r3.1)))] (an (De p0.tree p1 r3 hr3) tv) ?_)
  refine Sq (Sq (RD hnt (nn 2 []) [7] [(23,pB (!r3.2))] [] [] tv ?_))
  refine Ae hm ?_ ?_
  ·intro h4 hm
   refine Sq (RD hnt (nn 3 []) [1,2,6,23] [(5,pI 4)] [1016,1048] [] tv ?_)
   refine DW.cv [] [] [] [(AbB),(100000,ob0 (Ak [])),(100001,ob0 (At []))] (Conv.ads [(.o 1032 0,100000,6,elems Aq Bj []),(.o 1032 2,100001,4,elems Ay Bt [])]) ?_
   obtain rfl := sj hm
   exact DW.ret (Ah [Ak [],At []] [100000,100001] (.tup [.agg [ow 0 0,pI 0,ow 1 0,pI 0],pI 4]))
  ·intro h4 hm
   refine Sk ?_
   refine Sq (Sq (DW.regJ (sl2 := [(1,pI p1),(2,rr 1016),(4,rr 1032),(6,rr 1048),(31,pB ((p1 == 1) || (r3.1.kind == 1)))]) (ob2 := [(1016,bx (pm (Ab p0))),(Afv),(1048,bx (pm (Aq r3.1)))]) ?_ ?_))
   ·rcases bt (p1 == 1) with h5 | h5
    ·exact RT hnt (nn 3 (sk 3 (pT :: []))) [(31,pB true)] (an4 h5 tv) (by kernel_rfl) (.cons rfl (.of_eq (by rw [h5]; try rfl)) .nil)
    ·exact RT hnt (nn 6 (pF :: [])) [(31,pB (r3.1.kind == 1))] (an4 h5 tv) (by kernel_rfl) (.cons rfl (.of_eq (by rw [h5]; try rfl)) .nil)
   ·refine Ae hm ?_ ?_
    ·intro h6 hm
     refine Sq (RD hnt (nn 3 []) [1,2,6,31] [(5,pI 9)] [1016,1048] [] tv ?_)
     refine DW.cv [] [] [] [(AbB),(100000,ob0 (Ak [])),(100001,ob0 (At []))] (Conv.ads [(.o 1032 0,100000,6,elems Aq Bj []),(.o 1032 2,100001,4,elems Ay Bt [])]) ?_
     obtain rfl := sj hm
     exact DW.ret (Ah [Ak [],At []] [100000,100001] (.tup [.agg [ow 0 0,pI 0,ow 1 0,pI 0],pI 9]))
    ·intro h6 hm
     refine Sk ?_
     obtain ⟨r7,hr7,hm⟩ := bo hm
     refine Sq (RD hnt (nn 4 (o80 [] true r7 :: nn 6 [])) [31] [(8,rr 1064)] [] [(1064,bx (pm (Aq r7.1)))] (an (De p0.tree r3.1.parent r7 hr7) tv) ?_)
     obtain ⟨r8,hr8,hm⟩ := bo hm
     refine Sq (Sq ?_)
     refine Jn (ι := Bool) (fun (y1 : Bool) => Aj [(1,pI p1),(2,rr 1016),(4,rr 1032),(6,rr 1048),(57,pB y1)] [(1016,bx (pm (Ab p0))),(Afv),(1048,bx (pm (Aq r3.1)))]) (fun y1 => (Jh p0 p1 r3) y1 = some RES) ?_ ?_
     ·intro y1 hm
      unfold Jh at hm
      refine Ae hm ?_ ?_
      ·intro h11 hm
       refine Sq (RD hnt (nn 3 []) [1,2,6,57] [(5,pI 10)] [1016,1048] [] tv ?_)
       refine DW.cv [] [] [] [(AbB),(100000,ob0 (Ak [])),(100001,ob0 (At []))] (Conv.ads [(.o 1032 0,100000,6,elems Aq Bj []),(.o 1032 2,100001,4,elems Ay Bt [])]) ?_
       obtain rfl := sj hm
       exact DW.ret (Ah [Ak [],At []] [100000,100001] (.tup [.agg [ow 0 0,pI 0,ow 1 0,pI 0],pI 10]))
      ·intro h11 hm
       refine Sk ?_
       refine Sq (Sq (RD hnt (nn 4 []) [57] [(62,pB ((kand .i64 r3.1.control 6) != 0))] [] [] tv ?_))
       refine Ae hm ?_ ?_
       ·intro h12 hm
        refine Sq (RD hnt (nn 3 []) [1,2,6,62] [(5,pI 9)] [1016,1048] [] tv ?_)
        refine DW.cv [] [] [] [(AbB),(100000,ob0 (Ak [])),(100001,ob0 (At []))] (Conv.ads [(.o 1032 0,100000,6,elems Aq Bj []),(.o 1032 2,100001,4,elems Ay Bt [])]) ?_
        obtain rfl := sj hm
        exact DW.ret (Ah [Ak [],At []] [100000,100001] (.tup [.agg [ow 0 0,pI 0,ow 1 0,pI 0],pI 9]))
       ·intro h12 hm
        refine Sk ?_
        refine Sq (RD hnt (nn 2 []) [62] [] [] [(1048,bx [pI r3.1.id,pI r3.1.parent,pS r3.1.name,pI r3.1.control,pI 1,pI r3.1.owner])] tv ?_)
        obtain ⟨r13,hr13,hm⟩ := bo hm
        refine Sq (RD hnt (.no :: o103 [] true r13 :: nn 2 []) [] [(10,rr 1080)] [] [(1080,bx [ow 1528 r13.tree.nodes.length,pI r13.tree.next,ow 1529 r13.tasks.length,pI r13.next]),(1528,ob0 (Ak r13.tree.nodes)),(1529,ob0 (At r13.tasks))] (an (Su p0 r13 hr13) tv) ?_)
        obtain ⟨r14,hr14,hm⟩ := bo hm
        refine Sq (RD hnt (nn 3 (o104 [] true r14 :: nn 2 [])) [6] [] [1048,1528] [(1080,bx [ow 1560 r14.nodes.length,pI r14.next,ow 1529 r13.tasks.length,pI r13.next]),(1560,ob0 (Ak r14.nodes))] (an (Aac p0.tree ({ id := r3.1.id,parent := r3.1.parent,name := r3.1.name,control := r3.1.control,kind := 1,owner := r3.1.owner } : An) r14 hr14) tv) ?_)
        obtain ⟨r15,hr15,hm⟩ := bo hm
        refine Sq (Sq ?_)
        refine Jn (ι := Bool) (fun (y2 : Bool) => Aj [(4,rr 1032),(10,rr 1080),(81,pB y2)] [(Afv),(1080,bx [ow 1560 r14.nodes.length,pI r14.next,ow 1529 r13.tasks.length,pI r13.next]),(1529,ob0 (At r13.tasks)),(1560,ob0 (Ak r14.nodes))]) (fun y2 => (Nr r13 r14) y2 = some RES) ?_ ?_
        ·intro y2 hm
         unfold Nr at hm
         refine Ae hm ?_ ?_
         ·intro h18 hm
          refine Sq (RD hnt (nn 3 []) [10,81] [(5,pI 6)] [1080,1529,1560] [] tv ?_)
          refine DW.cv [] [] [] [(AbB),(100000,ob0 (Ak [])),(100001,ob0 (At []))] (Conv.ads [(.o 1032 0,100000,6,elems Aq Bj []),(.o 1032 2,100001,4,elems Ay Bt [])]) ?_
          obtain rfl := sj hm
          exact DW.ret (Ah [Ak [],At []] [100000,100001] (.tup [.agg [ow 0 0,pI 0,ow 1 0,pI 0],pI 6]))
         ·intro h18 hm
          refine Sk ?_
          refine Sq (RD hnt (nn 3 []) [10,81] [(5,pI 0)] [1080] [(1032,bx [ow 1560 r14.nodes.length,pI r14.next,ow 1529 r13.tasks.length,pI r13.next])] tv ?_)
          obtain rfl := sj hm
          exact DW.ret (Ah [Ak r14.nodes,At r13.tasks] [1560,1529] (.tup [.agg [ow 0 r14.nodes.length,pI r14.next,ow 1 r13.tasks.length,pI r13.next],pI 0]))
        ·rcases bt (decide (((r15.length : Nat) : Int) > 0)) with h16 | h16
         ·replace hm := Bf h16 hm
          refine RD hnt (nn 2 (o97 [] true r15 :: nn 3 (sk 3 (pT :: [])))) [1,2] [(81,pB true)] [1016] [] (an (No p0 p1 r15 hr15) (an4 h16 tv)) ?_
          exact jD true hm Conv.eqK
         ·replace hm := Be h16 hm
          obtain ⟨r17,hr17,hm⟩ := bo hm
          refine RD hnt (nn 2 (o97 [] true r15 :: nn 4 (o91 [] true r17 :: .no :: pF :: []))) [1,2] [(81,pB (!r17))] [1016] [] (an (No p0 p1 r15 hr15) (an2 h16 (an (Mb ({ tree := r14,tasks := r13.tasks,next := r13.next } : Aa) r17 hr17) (an2 h16 tv)))) ?_
          exact jD (!r17) hm Conv.eqK
     ·rcases bt (r8 == 3) with h9 | h9
      ·replace hm := Bf h9 hm
       refine RD hnt (nn 4 (o100 [] true r8 :: nn 2 (sk 9 (pT :: [])))) [8] [(57,pB true)] [1064] [] (an (Hj p0.tree r7.1.id r8 hr8) (an6 h9 tv)) ?_
       exact jD true hm Conv.eqK
      ·replace hm := Be h9 hm
       rcases bt (r7.1.id != 1) with h10 | h10
       ·replace hm := Bf h10 hm
        refine RD hnt (nn 4 (o100 [] true r8 :: nn 10 (pT :: pF :: []))) [8] [(57,pB ((kand .i64 r7.1.control 6) != 0))] [1064] [] (an (Hj p0.tree r7.1.id r8 hr8) (an4 h9 (an4 h10 (an h9 (an h10 (an h9 tv)))))) ?_
        exact jD ((kand .i64 r7.1.control 6) != 0) hm Conv.eqK
       ·replace hm := Be h10 hm
        refine RD hnt (nn 4 (o100 [] true r8 :: nn 6 (sk 4 (pF :: pF :: [])))) [8] [(57,pB false)] [1064] [] (an (Hj p0.tree r7.1.id r8 hr8) (an4 h9 (an4 h10 (an h9 (an h10 (an h9 tv)))))) ?_
        exact jD false hm Conv.eqK
abbrev o105 (ks : List Nat) (b : Bool) (RES : Aa × Int) (sm : List Nat := []) : Orc := .call 160 ks b (.tup [.agg [ow 0 RES.1.tree.nodes.length,pI RES.1.tree.next,ow 1 RES.1.tasks.length,pI RES.1.next],pI RES.2]) [] [Ak RES.1.tree.nodes,At RES.1.tasks] sm

abbrev c87e1 : Nat × Obj := (1032,bx [.p (.sl .nil 0 0 (fun _ => [])),pI 0,.p (.sl .nil 0 0 (fun _ => [])),pI 0])
theorem AcL (p0 : Ar) (p1 : Aa) (RES : Aa × Ar) (hm : Np p0 p1 = some RES) : Spec Tryz.prog 82 [rr 0,.p (.agg (Ab p1))] [.box (pm (Ap p0))] (.p (.agg (Ab RES.1))) [.box (pm (Ap RES.2))] [] := by
 unfold Np at hm
 refine SO Tryz.func82 rfl rfl [(0,rr 0),(1,.p (.agg (Ab p1)))] [(0,bx (pm (Ap p0)))] ?_
 intro cx hnt
 refine Sq (RD hnt (nn 2 []) [1] [(3,rr 1024),(4,rr 1032)] [] [(1024,bx (pm (Ab p1))),(c87e1)] tv ?_)
 obtain ⟨r1,hr1,hm⟩ := bo hm
 refine Sq (RD hnt (nn 3 (o88 [0] true r1 :: .no :: [])) [] [(5,pI r1.1)] [] [(0,bx (pm (Ap r1.2)))] (an (Lt p0 p1.tree r1 hr1) (an tv tv)) ?_)
 obtain ⟨r2,hr2,hm⟩ := bo hm
 refine Sq (Sq (RD hnt (.no :: o72 [0] true r2 :: []) [] [(17,pI r2.1)] [] [(0,bx (pm (Ap r2.2)))] (an (Bo r1.2 5 r2 hr2) (an tv tv)) ?_))
 refine Jn (ι := Ar × Aa) (fun (y1 : Ar × Aa) => Aj [(3,rr 1024),(4,rr 1032)] [(0,bx (pm (Ap y1.1))),(1024,bx (pm (Ab y1.2))),(c87e1)]) (fun y1 => Gi y1 = some RES) ?_ ?_
 ·intro y1 hm
  unfold Gi at hm
  refine Sq (RD hnt (nn 2 []) [3] [] [1024] [(1032,bx (pm (Ab y1.2)))] tv ?_)
  obtain rfl := sj hm
  exact DW.ret (Ah [.box (pm (Ap y1.1))] [] (.p (.agg (Ab y1.2))))
 ·refine Bk ?_
  refine Sq (Sq (RD hnt (nn 2 []) [] [(18,pB (r2.1 == 0))] [] [] tv ?_))
  refine Jn (ι := Bool) (fun (y2 : Bool) => Aj [(0,rr 0),(3,rr 1024),(4,rr 1032),(5,pI r1.1),(17,pI r2.1),(18,pB y2)] [(0,bx (pm (Ap r2.2))),(1024,bx (pm (Ab p1))),(c87e1)]) (fun y2 => (Ix p1 r1 r2) y2 = some RES) ?_ ?_
  ·intro y2 hm
   unfold Ix at hm
   refine Ae hm ?_ ?_
   ·intro h4 hm
    obtain ⟨r5,hr5,hm⟩ := bo hm
    obtain ⟨r6,hr6,hm⟩ := bo hm
    refine Sq (RD hnt (nn 3 (o89 [0] true r5 :: o90 [] true r6 :: nn 6 [])) [0,5,17,18] [(6,rr 1048),(7,pI r6.2)] [] [(0,bx (pm (Ap r5.2))),(1048,bx [ow 1208 r6.1.tree.nodes.length,pI r6.1.tree.next,ow 1209 r6.1.tasks.length,pI r6.1.next]),(1208,ob0 (Ak r6.1.tree.nodes)),(1209,ob0 (At r6.1.tasks))] (an (Yq r2.2 r5 hr5) (an tv (an (Aga p1 r1.1 r5.1 0 r6 hr6) tv))) ?_)
    refine Sq (RD hnt (nn 2 []) [7] [(30,pB (r6.2 == 0))] [] [] tv ?_)
    refine Ae hm ?_ ?_
    ·intro h7 hm
     refine Sq (RD hnt (nn 2 []) [3,6,30] [] [1024,1048] [(1032,bx [ow 1208 r6.1.tree.nodes.length,pI r6.1.tree.next,ow 1209 r6.1.tasks.length,pI r6.1.next])] tv ?_)
     obtain rfl := sj hm
     exact DW.ret (Ah [.box (pm (Ap r5.2))] [] (.p (.agg (Ab r6.1))))
    ·intro h7 hm
     refine Sk ?_
     exact bD (r5.2,p1) hm Conv.t0
   ·intro h4 hm
    refine Sq (RD hnt (nn 2 []) [18] [(32,pB (r2.1 == 2))] [] [] tv ?_)
    refine Ae hm ?_ ?_
    ·intro h8 hm
     obtain ⟨r9,hr9,hm⟩ := bo hm
     refine Sq (RD hnt (nn 2 (o105 [] true r9 :: nn 6 [])) [0,5,17,32] [(8,rr 1064),(9,pI r9.2)] [] [(1064,bx [ow 1296 r9.1.tree.nodes.length,pI r9.1.tree.next,ow 1297 r9.1.tasks.length,pI r9.1.next]),(1296,ob0 (Ak r9.1.tree.nodes)),(1297,ob0 (At r9.1.tasks))] (an (Afj p1 r1.1 r9 hr9) tv) ?_)
     refine Sq (RD hnt (nn 2 []) [9] [(41,pB (r9.2 == 0))] [] [] tv ?_)
     refine Ae hm ?_ ?_
     ·intro h10 hm
      refine Sq (RD hnt (nn 2 []) [3,8,41] [] [1024,1064] [(1032,bx [ow 1296 r9.1.tree.nodes.length,pI r9.1.tree.next,ow 1297 r9.1.tasks.length,pI r9.1.next])] tv ?_)
      obtain rfl := sj hm
      exact DW.ret (Ah [.box (pm (Ap r2.2))] [] (.p (.agg (Ab r9.1))))
     ·intro h10 hm
      refine Sk ?_
      exact bD (r2.2,p1) hm Conv.t0
    ·intro h8 hm
     refine Sq (RD hnt (nn 2 []) [17,32] [(43,pB (r2.1 == 3))] [] [] tv ?_)
     refine Ae hm ?_ ?_
     ·intro h11 hm
      obtain ⟨r12,hr12,hm⟩ := bo hm
      refine Sq (RD hnt (nn 3 (o80 [] true r12 :: nn 6 [])) [43] [(10,rr 1080),(11,pB r12.2)] [] [(1080,bx (pm (Aq r12.1)))] (an (De p1.tree r1.1 r12 hr12) tv) ?_)
      refine Sq (DW.regJ (sl2 := [(0,rr 0),(3,rr 1024),(4,rr 1032),(10,rr 1080),(56,pB (r12.2 && (r1.1 != 1)))]) (ob2 := [(0,bx (pm (Ap r2.2))),(1024,bx (pm (Ab p1))),(c87e1),(1080,bx (pm (Aq r12.1)))]) ?_ ?_)
      ·rcases bt r12.2 with h13 | h13
       ·exact RT hnt (nn 4 (pT :: [])) [(56,pB (r1.1 != 1))] (an3 h13 tv) (by kernel_rfl) (.cons rfl (.of_eq (by rw [h13]; try rfl)) .nil)
       ·exact RT hnt (nn 2 (sk 2 (pF :: []))) [(56,pB false)] (an3 h13 tv) (by kernel_rfl) (.cons rfl (.of_eq (by rw [h13]; try rfl)) .nil)
      ·refine Ae hm ?_ ?_
       ·intro h14 hm
        obtain ⟨r15,hr15,hm⟩ := bo hm
        refine Sq (RD hnt (.no :: o72 [0] true r15 :: nn 2 []) [0,56] [] [] [(0,bx (pm (Ap r15.2))),(1080,bx [pI r12.1.id,pI r12.1.parent,pS r12.1.name,pI r12.1.control,pI r12.1.kind,pI r15.1])] (an (Bo r2.2 3 r15 hr15) (an tv tv)) ?_)
        obtain ⟨r16,hr16,hm⟩ := bo hm
        refine RD hnt (nn 3 (o104 [] true r16 :: nn 2 [])) [10] [] [1080] [(1024,bx [ow 1504 r16.nodes.length,pI r16.next,.p (Bb p1.tasks),pI p1.next]),(1504,ob0 (Ak r16.nodes))] (an (Aac p1.tree ({ id := r12.1.id,parent := r12.1.parent,name := r12.1.name,control := r12.1.control,kind := r12.1.kind,owner := r15.1 } : An) r16 hr16) tv) ?_
        exact bD (r15.2,({ tree := r16,tasks := p1.tasks,next := p1.next } : Aa)) hm (Conv.frz [1504])
       ·intro h14 hm
        refine Sk ?_
        exact bD (r2.2,p1) hm Conv.t0
     ·intro h11 hm
      refine Sk ?_
      exact bD (r2.2,p1) hm Conv.t0
  ·refine Ae hm ?_ ?_
   ·intro h3 hm
    refine Sk ?_
    exact jD (r2.1 == 0) hm Conv.eqK
   ·intro h3 hm
    refine RD hnt (nn 2 []) [] [(18,pB (r2.1 == 1))] [] [] tv ?_
    exact jD (r2.1 == 1) hm Conv.eqK
abbrev o87 (ks : List Nat) (b : Bool) (RES : Aa × Ar) (sm : List Nat := []) : Orc := .call 82 ks b (.p (.agg (Ab RES.1))) [.box (pm (Ap RES.2))] [] sm

theorem AaH (p0 : Aa) (p1 : Int) (RES : Int) (hm : Ph p0 p1 = some RES) : Spec Tryz.prog 83 [.p (.agg (Ab p0)),pI p1] [] (pI RES) [] [] := by
 unfold Ph at hm
 refine SO Tryz.func83 rfl rfl [(0,.p (.agg (Ab p0))),(1,pI p1)] [] ?_
 intro cx hnt
 refine Sq (RK hnt (nn 2 []) [(1,pI p1),(2,rr 1016)] [(1016,bx (pm (Ab p0)))] tv ?_)
 obtain ⟨r1,hr1,hm⟩ := bo hm
 refine Sq (Sq (RD hnt (.no :: o91 [] true r1 :: .no :: []) [] [(9,pB (!r1))] [] [] (an (Mb p0 r1 hr1) tv) ?_))
 refine Ae hm ?_ ?_
 ·intro h2 hm
  refine Sq (RK hnt (.no :: []) [(4,pI 1)] [] tv ?_)
  obtain rfl := sj hm
  exact DW.ret (Ah [] [] (pI 1))
 ·intro h2 hm
  refine Sk ?_
  obtain ⟨r3,hr3,hm⟩ := bo hm
  refine Sq (RD hnt (nn 3 (o80 [] true r3 :: nn 6 [])) [9] [(5,rr 1040),(6,pB r3.2)] [] [(1040,bx (pm (Aq r3.1)))] (an (De p0.tree p1 r3 hr3) tv) ?_)
  refine Sq (Bk ?_)
  refine Sq (RD hnt (nn 3 []) [6] [(17,pB (!r3.2))] [] [] tv ?_)
  refine Ae hm ?_ ?_
  ·intro h4 hm
   refine Sq (RK hnt (.no :: []) [(4,pI 4)] [] tv ?_)
   obtain rfl := sj hm
   exact DW.ret (Ah [] [] (pI 4))
  ·intro h4 hm
   obtain ⟨r5,hr5,hm⟩ := bo hm
   refine Sq (RD hnt (nn 3 (o100 [] true r5 :: nn 2 [])) [2,17] [(20,pB (r5 == 3))] [1016] [] (an (Hj p0.tree p1 r5 hr5) tv) ?_)
   refine Ae hm ?_ ?_
   ·intro h6 hm
    refine Sq (RK hnt (.no :: []) [(4,pI 10)] [] tv ?_)
    obtain rfl := sj hm
    exact DW.ret (Ah [] [] (pI 10))
   ·intro h6 hm
    refine Sq (DW.regJ (sl2 := [(26,pB ((p1 != 1) && ((kand .i64 r3.1.control 6) != 0)))]) (ob2 := []) ?_ ?_)
    ·rcases bt (p1 != 1) with h7 | h7
     ·exact RT hnt (nn 7 (pT :: .no :: [])) [(26,pB ((kand .i64 r3.1.control 6) != 0))] (an5 h7 tv) (by kernel_rfl) (.cons rfl (.of_eq (by rw [h7]; try rfl)) .nil)
     ·exact RT hnt (nn 3 (sk 4 (pF :: .no :: []))) [(26,pB false)] (an5 h7 tv) (by kernel_rfl) (.cons rfl (.of_eq (by rw [h7]; try rfl)) .nil)
    ·refine Ae hm ?_ ?_
     ·intro h8 hm
      refine Sq (RK hnt (.no :: []) [(4,pI 6)] [] tv ?_)
      obtain rfl := sj hm
      exact DW.ret (Ah [] [] (pI 6))
     ·intro h8 hm
      refine Sk ?_
      refine DW.done ?_
      show DW _ _ _ _ _
      refine Sq (RK hnt (.no :: []) [(4,pI 0)] [] tv ?_)
      obtain rfl := sj hm
      exact DW.ret (Ah [] [] (pI 0))
abbrev o106 (ks : List Nat) (b : Bool) (RES : Int) (sm : List Nat := []) : Orc := .call 83 ks b (pI RES) [] [] sm

abbrev Agg : Nat × Obj := (1032,bx [.p (.sl .nil 0 0 (fun _ => [])),pI 0,.p (.sl .nil 0 0 (fun _ => [])),pI 0])
abbrev c108e2 (r3 : Aa) : Nat × Obj := (1056,bx [ow 1152 r3.tree.nodes.length,pI r3.tree.next,ow 1153 r3.tasks.length,pI r3.next])
theorem AdX (p0 : Aa) (p1 : Aw) (RES : Aa × Int × Int) (hm : Vr p0 p1 = some RES) : Spec Tryz.prog 164 [.p (.agg (Ab p0)),.p (.agg (Ay p1))] [] (.tup [.agg [ow 0 RES.1.tree.nodes.length,pI RES.1.tree.next,ow 1 RES.1.tasks.length,pI RES.1.next],pI RES.2.1,pI RES.2.2]) [] [Ak RES.1.tree.nodes,At RES.1.tasks] := by
 unfold Vr at hm
 refine SO Tryz.func164 rfl rfl [(0,.p (.agg (Ab p0))),(1,.p (.agg (Ay p1)))] [] ?_
 intro cx hnt
 refine Sq (RK hnt (nn 5 []) [(2,rr 1016),(3,rr 1024),(4,rr 1032)] [(1016,bx (pm (Ab p0))),(1024,bx (pm (Ay p1))),(Agg)] tv ?_)
 refine Sq (Sq (DW.regJ (sl2 := [(2,rr 1016),(3,rr 1024),(4,rr 1032),(16,pB ((decide (((p0.tasks.length : Nat) : Int) ≥ 128)) || (decide (p0.next > 2147483647))))]) (ob2 := [(1016,bx (pm (Ab p0))),(1024,bx (pm (Ay p1))),(Agg)]) ?_ ?_))
 ·rcases bt (decide (((p0.tasks.length : Nat) : Int) ≥ 128)) with h1 | h1
  ·exact RT hnt (nn 5 (sk 3 (pT :: []))) [(16,pB true)] (an4 h1 tv) (by kernel_rfl) (.cons rfl (.of_eq (by rw [h1]; try rfl)) .nil)
  ·exact RT hnt (nn 8 (pF :: [])) [(16,pB (decide (p0.next > 2147483647)))] (an4 h1 tv) (by kernel_rfl) (.cons rfl (.of_eq (by rw [h1]; try rfl)) .nil)
 ·refine Ae hm ?_ ?_
  ·intro h2 hm
   refine Sq (RD hnt (nn 4 []) [2,3,16] [(5,pI 0),(6,pI 7)] [1016,1024] [] tv ?_)
   refine DW.cv [] [] [] [(1032,bx [ow 100000 0,pI 0,ow 100001 0,pI 0]),(100000,ob0 (Ak [])),(100001,ob0 (At []))] (Conv.ads [(.o 1032 0,100000,6,elems Aq Bj []),(.o 1032 2,100001,4,elems Ay Bt [])]) ?_
   obtain rfl := sj hm
   exact DW.ret (Ah [Ak [],At []] [100000,100001] (.tup [.agg [ow 0 0,pI 0,ow 1 0,pI 0],pI 0,pI 7]))
  ·intro h2 hm
   refine Sk ?_
   obtain ⟨r3,hr3,hm⟩ := bo hm
   refine Sq (RD hnt (.no :: o103 [] true r3 :: nn 2 []) [16] [(7,rr 1056)] [] [(c108e2 r3),(1152,ob0 (Ak r3.tree.nodes)),(1153,ob0 (At r3.tasks))] (an (Su p0 r3 hr3) tv) ?_)
   refine Sq (RD hnt (nn 4 []) [2] [] [1016] [(1024,bx [pI p0.next,pI p1.process,pI p1.group,pI p1.user])] tv ?_)
   refine Sq (Sq (RD hnt (nn 3 []) [] [(25,pB (p1.process == 0))] [] [] tv ?_))
   refine Jn (ι := Aw) (fun (y1 : Aw) => Aj [(3,rr 1024),(4,rr 1032),(7,rr 1056)] [(1024,bx (pm (Ay y1))),(Agg),(c108e2 r3),(1152,ob0 (Ak r3.tree.nodes)),(1153,ob0 (At r3.tasks))]) (fun y1 => (Uv r3) y1 = some RES) ?_ ?_
   ·intro y1 hm
    unfold Uv at hm
    obtain ⟨g5,hm⟩ := go1 hm
    refine Sq (RN hnt (nn 7 []) [(3,rr 1024),(4,rr 1032),(7,rr 1056)] [(1024,bx (pm (Ay y1))),(Agg),(1056,bx [ow 1152 r3.tree.nodes.length,pI r3.tree.next,ow 1153 (r3.tasks ++ [y1]).length,pI r3.next]),(1152,ob0 (Ak r3.tree.nodes)),(1153,ob0 (At (r3.tasks ++ [y1])))] [] [(1056,.box [ow 1152 r3.tree.nodes.length,pI r3.tree.next,ow 1153 (r3.tasks.length + 1),pI r3.next]),(1153,.row 4 (r3.tasks.length + 1) (Cp r3.tasks.length (Abk r3.tasks) (cut 4 [vi y1.id,vi y1.process,vi y1.group,vi y1.user])))] (an (by omega : (r3.tasks.length + 1) * 32 ≤ 140737488355328) tv) (by kernel_rfl) .nil (.cons rfl (.box (.cons .rfl (.cons .rfl (.cons (MLe.ownLen (enc := Ay) (d := Bt) (f := (Cp r3.tasks.length (Abk r3.tasks) (cut 4 [vi y1.id,vi y1.process,vi y1.group,vi y1.user]))) (RowIs.cat RowIs.elems (RowIs.lit (enc := Ay) (d := Bt) (n := 1) (f := (cut 4 [vi y1.id,vi y1.process,vi y1.group,vi y1.user])) [y1] rfl (fun | 0,_ => rfl | n + 1,h => absurd h (by omega))))) (.cons .rfl .nil))))) (.cons rfl (BLe.typed (RowIs.cat RowIs.elems (RowIs.lit (enc := Ay) (d := Bt) (n := 1) (f := (cut 4 [vi y1.id,vi y1.process,vi y1.group,vi y1.user])) [y1] rfl (fun | 0,_ => rfl | n + 1,h => absurd h (by omega))))) .nil)) ?_)
    refine Sq (RD hnt (nn 5 []) [] [] [] [(1056,bx [ow 1152 r3.tree.nodes.length,pI r3.tree.next,ow 1153 (r3.tasks ++ [y1]).length,pI (w64 (r3.next + 1))])] tv ?_)
    refine Sq (RD hnt (nn 6 []) [3,7] [(5,pI y1.id),(6,pI 0)] [1024,1056] [(1032,bx [ow 1152 r3.tree.nodes.length,pI r3.tree.next,ow 1153 (r3.tasks ++ [y1]).length,pI (w64 (r3.next + 1))])] tv ?_)
    obtain rfl := sj hm
    exact DW.ret (Ah [Ak r3.tree.nodes,At (r3.tasks ++ [y1])] [1152,1153] (.tup [.agg [ow 0 r3.tree.nodes.length,pI r3.tree.next,ow 1 (r3.tasks ++ [y1]).length,pI (w64 (r3.next + 1))],pI y1.id,pI 0]))
   ·refine Ae hm ?_ ?_
    ·intro h4 hm
     refine RD hnt (nn 4 []) [25] [] [] [(1024,bx [pI p0.next,pI p0.next,pI p1.group,pI p1.user])] tv ?_
     exact jD ({ id := p0.next,process := p0.next,group := p1.group,user := p1.user } : Aw) hm Conv.eqK
    ·intro h4 hm
     refine Sk ?_
     exact jD ({ id := p0.next,process := p1.process,group := p1.group,user := p1.user } : Aw) hm Conv.t0
abbrev o108 (ks : List Nat) (b : Bool) (RES : Aa × Int × Int) (sm : List Nat := []) : Orc := .call 164 ks b (.tup [.agg [ow 0 RES.1.tree.nodes.length,pI RES.1.tree.next,ow 1 RES.1.tasks.length,pI RES.1.next],pI RES.2.1,pI RES.2.2]) [] [Ak RES.1.tree.nodes,At RES.1.tasks] sm

abbrev c107e1 : Nat × Obj := (1048,bx [.p (.sl .nil 0 0 (fun _ => [])),pI 0,.p (.sl .nil 0 0 (fun _ => [])),pI 0])
theorem AgS (p0 : Aa) (p1 : Int) (p2 : Int) (RES : Aa × Int × Int) (hm : Ts p0 p1 p2 = some RES) : Spec Tryz.prog 84 [.p (.agg (Ab p0)),pI p1,pI p2] [] (.tup [.agg [ow 0 RES.1.tree.nodes.length,pI RES.1.tree.next,ow 1 RES.1.tasks.length,pI RES.1.next],pI RES.2.1,pI RES.2.2]) [] [Ak RES.1.tree.nodes,At RES.1.tasks] := by
 unfold Ts at hm
 refine SO Tryz.func84 rfl rfl [(0,.p (.agg (Ab p0))),(1,pI p1),(2,pI p2)] [] ?_
 intro cx hnt
 refine Sq (RD hnt (nn 4 []) [0] [(3,rr 1024),(6,rr 1048)] [] [(1024,bx (pm (Ab p0))),(c107e1)] tv ?_)
 obtain ⟨r1,hr1,hm⟩ := bo hm
 refine Sq (Sq ?_)
 refine Jn (ι := Bool) (fun (y1 : Bool) => Aj [(1,pI p1),(2,pI p2),(3,rr 1024),(6,rr 1048),(19,pB y1)] [(1024,bx (pm (Ab p0))),(c107e1)]) (fun y1 => (Nk p0 p1 p2) y1 = some RES) ?_ ?_
 ·intro y1 hm
  unfold Nk at hm
  refine Ae hm ?_ ?_
  ·intro h4 hm
   refine Sq (RD hnt (nn 4 []) [1,2,3,19] [(7,pI 0),(8,pI 1)] [1024] [] tv ?_)
   refine DW.cv [] [] [] [(1048,bx [ow 100000 0,pI 0,ow 100001 0,pI 0]),(100000,ob0 (Ak [])),(100001,ob0 (At []))] (Conv.ads [(.o 1048 0,100000,6,elems Aq Bj []),(.o 1048 2,100001,4,elems Ay Bt [])]) ?_
   obtain rfl := sj hm
   exact DW.ret (Ah [Ak [],At []] [100000,100001] (.tup [.agg [ow 0 0,pI 0,ow 1 0,pI 0],pI 0,pI 1]))
  ·intro h4 hm
   refine Sk ?_
   obtain ⟨r5,hr5,hm⟩ := bo hm
   refine Sq (Sq (RD hnt (nn 3 (o79 [] true r5 :: .no :: [])) [19] [(25,pB (!r5))] [] [] (an (Cu p0.tree p1 r5 hr5) tv) ?_))
   refine Ae hm ?_ ?_
   ·intro h6 hm
    refine Sq (RD hnt (nn 4 []) [1,2,3,25] [(7,pI 0),(8,pI 4)] [1024] [] tv ?_)
    refine DW.cv [] [] [] [(1048,bx [ow 100000 0,pI 0,ow 100001 0,pI 0]),(100000,ob0 (Ak [])),(100001,ob0 (At []))] (Conv.ads [(.o 1048 0,100000,6,elems Aq Bj []),(.o 1048 2,100001,4,elems Ay Bt [])]) ?_
    obtain rfl := sj hm
    exact DW.ret (Ah [Ak [],At []] [100000,100001] (.tup [.agg [ow 0 0,pI 0,ow 1 0,pI 0],pI 0,pI 4]))
   ·intro h6 hm
    refine Sk ?_
    obtain ⟨r7,hr7,hm⟩ := bo hm
    refine Sq (RK hnt (nn 4 (o108 [] true r7 :: nn 6 [])) [(6,rr 1048),(7,pI r7.2.1),(8,pI r7.2.2)] [(1048,bx [ow 1248 r7.1.tree.nodes.length,pI r7.1.tree.next,ow 1249 r7.1.tasks.length,pI r7.1.next]),(1248,ob0 (Ak r7.1.tree.nodes)),(1249,ob0 (At r7.1.tasks))] (an (AdX p0 ({ id := 0,process := 0,group := p1,user := p2 } : Aw) r7 hr7) tv) ?_)
    obtain rfl := sj hm
    exact DW.ret (Ah [Ak r7.1.tree.nodes,At r7.1.tasks] [1248,1249] (.tup [.agg [ow 0 r7.1.tree.nodes.length,pI r7.1.tree.next,ow 1 r7.1.tasks.length,pI r7.1.next],pI r7.2.1,pI r7.2.2]))
 ·rcases bt (!r1) with h2 | h2
  ·replace hm := Bf h2 hm
   refine RD hnt (.no :: o93 [] true r1 :: nn 2 (sk 2 (pT :: .no :: sk 2 (pT :: [])))) [] [(19,pB true)] [] [] (an (Dz p0 r1 hr1) (an3 h2 (an3 tt tv))) ?_
   exact jD true hm Conv.eqK
  ·replace hm := Be h2 hm
   rcases bt (decide (p2 < 0)) with h3 | h3
   ·replace hm := Bf h3 hm
    refine RD hnt (.no :: o93 [] true r1 :: nn 4 (pF :: .no :: sk 2 (pT :: []))) [] [(19,pB true)] [] [] (an (Dz p0 r1 hr1) (an3 h2 (an3 h3 tv))) ?_
    exact jD true hm Conv.eqK
   ·replace hm := Be h3 hm
    refine RD hnt (.no :: o93 [] true r1 :: nn 4 (pF :: nn 3 (pF :: []))) [] [(19,pB (decide (p2 > 1048576)))] [] [] (an (Dz p0 r1 hr1) (an3 h2 (an3 h3 tv))) ?_
    exact jD (decide (p2 > 1048576)) hm Conv.eqK
abbrev o107 (ks : List Nat) (b : Bool) (RES : Aa × Int × Int) (sm : List Nat := []) : Orc := .call 84 ks b (.tup [.agg [ow 0 RES.1.tree.nodes.length,pI RES.1.tree.next,ow 1 RES.1.tasks.length,pI RES.1.next],pI RES.2.1,pI RES.2.2]) [] [Ak RES.1.tree.nodes,At RES.1.tasks] sm

theorem Qx (p0 : Ar) (p1 : Aa) (RES : Int × Ar) (hm : Jf p0 p1 = some RES) : Spec Tryz.prog 21 [rr 0,.p (.agg (Ab p1))] [.box (pm (Ap p0))] (pI RES.1) [.box (pm (Ap RES.2))] [] := by
 unfold Jf at hm
 refine SO Tryz.func21 rfl rfl [(0,rr 0),(1,.p (.agg (Ab p1)))] [(0,bx (pm (Ap p0)))] ?_
 intro cx hnt
 refine Sq (RD hnt (nn 2 []) [1] [(3,rr 1024)] [] [(1024,bx (pm (Ab p1)))] tv ?_)
 obtain ⟨r1,hr1,hm⟩ := bo hm
 refine Sq (Sq ?_)
 refine Jn (ι := Bool) (fun (y1 : Bool) => Aj [(0,rr 0),(3,rr 1024),(12,pB y1)] [(0,bx (pm (Ap r1.2))),(1024,bx (pm (Ab p1)))]) (fun y1 => (Jb p1 r1) y1 = some RES) ?_ ?_
 ·intro y1 hm
  unfold Jb at hm
  refine Ae hm ?_ ?_
  ·intro h3 hm
   obtain ⟨r4,hr4,hm⟩ := bo hm
   refine Sq (RK hnt (.no :: o72 [0] true r4 :: nn 2 []) [(4,pI (w64 (r4.1 - 1)))] [(0,bx (pm (Ap r4.2)))] (an (Bo r1.2 9 r4 hr4) (an tv tv)) ?_)
   obtain rfl := sj hm
   exact DW.ret (Ah [.box (pm (Ap r4.2))] [] (pI (w64 (r4.1 - 1))))
  ·intro h3 hm
   refine Sk ?_
   obtain ⟨r5,hr5,hm⟩ := bo hm
   obtain ⟨g6,hm⟩ := go1 hm
   refine Sq (RK hnt (nn 6 (o72 [0] true r5 :: nn 4 [])) [(4,pI (p1.tasks.getD (Int.toNat r5.1) Bt).id)] [(0,bx (pm (Ap r5.2)))] (an (Bo r1.2 ((p1.tasks.length : Nat) : Int) r5 hr5) (an tv (an g6.1 (an g6.2 tv)))) ?_)
   obtain rfl := sj hm
   exact DW.ret (Ah [.box (pm (Ap r5.2))] [] (pI (p1.tasks.getD (Int.toNat r5.1) Bt).id))
 ·rcases bt r1.1 with h2 | h2
  ·replace hm := Bf h2 hm
   refine RD hnt (.no :: o84 [0] true r1 :: .no :: sk 4 (pT :: [])) [] [(12,pB true)] [] [(0,bx (pm (Ap r1.2)))] (an (Eh p0 15 r1 hr1) (an tv (an5 h2 tv))) ?_
   exact jD true hm Conv.eqK
  ·replace hm := Be h2 hm
   refine RD hnt (.no :: o84 [0] true r1 :: nn 5 (pF :: [])) [] [(12,pB (((p1.tasks.length : Nat) : Int) == 0))] [] [(0,bx (pm (Ap r1.2)))] (an (Eh p0 15 r1 hr1) (an tv (an5 h2 tv))) ?_
   exact jD (((p1.tasks.length : Nat) : Int) == 0) hm Conv.eqK
abbrev o109 (ks : List Nat) (b : Bool) (RES : Int × Ar) (sm : List Nat := []) : Orc := .call 21 ks b (pI RES.1) [.box (pm (Ap RES.2))] [] sm

theorem Ago (p0 : Aa) (p1 : Int) (RES : Aa × Int × Int) (hm : Ut p0 p1 = some RES) : Spec Tryz.prog 85 [.p (.agg (Ab p0)),pI p1] [] (.tup [.agg [ow 0 RES.1.tree.nodes.length,pI RES.1.tree.next,ow 1 RES.1.tasks.length,pI RES.1.next],pI RES.2.1,pI RES.2.2]) [] [Ak RES.1.tree.nodes,At RES.1.tasks] := by
 unfold Ut at hm
 refine SO Tryz.func85 rfl rfl [(0,.p (.agg (Ab p0))),(1,pI p1)] [] ?_
 intro cx hnt
 refine Sq (RK hnt (nn 4 []) [(1,pI p1),(2,rr 1016),(4,rr 1032)] [(1016,bx (pm (Ab p0))),(1032,bx [.p (.sl .nil 0 0 (fun _ => [])),pI 0,.p (.sl .nil 0 0 (fun _ => [])),pI 0])] tv ?_)
 obtain ⟨r1,hr1,hm⟩ := bo hm
 refine Sq (Sq (RD hnt (.no :: o93 [] true r1 :: .no :: []) [] [(11,pB (!r1))] [] [] (an (Dz p0 r1 hr1) tv) ?_))
 refine Ae hm ?_ ?_
 ·intro h2 hm
  refine Sq (RD hnt (nn 4 []) [1,2,11] [(5,pI 0),(6,pI 1)] [1016] [] tv ?_)
  refine DW.cv [] [] [] [(1032,bx [ow 100000 0,pI 0,ow 100001 0,pI 0]),(100000,ob0 (Ak [])),(100001,ob0 (At []))] (Conv.ads [(.o 1032 0,100000,6,elems Aq Bj []),(.o 1032 2,100001,4,elems Ay Bt [])]) ?_
  obtain rfl := sj hm
  exact DW.ret (Ah [Ak [],At []] [100000,100001] (.tup [.agg [ow 0 0,pI 0,ow 1 0,pI 0],pI 0,pI 1]))
 ·intro h2 hm
  refine Sk ?_
  obtain ⟨r3,hr3,hm⟩ := bo hm
  refine Sq (RD hnt (nn 2 (o98 [] true r3 :: nn 6 [])) [1,11] [(7,rr 1056),(8,pB r3.2)] [] [(1056,bx (pm (Ay r3.1)))] (an (Md p0 p1 r3 hr3) tv) ?_)
  refine Sq (Sq (RD hnt (nn 2 []) [8] [(20,pB (!r3.2))] [] [] tv ?_))
  refine Ae hm ?_ ?_
  ·intro h4 hm
   refine Sq (RD hnt (nn 4 []) [2,7,20] [(5,pI 0),(6,pI 4)] [1016,1056] [] tv ?_)
   refine DW.cv [] [] [] [(1032,bx [ow 100000 0,pI 0,ow 100001 0,pI 0]),(100000,ob0 (Ak [])),(100001,ob0 (At []))] (Conv.ads [(.o 1032 0,100000,6,elems Aq Bj []),(.o 1032 2,100001,4,elems Ay Bt [])]) ?_
   obtain rfl := sj hm
   exact DW.ret (Ah [Ak [],At []] [100000,100001] (.tup [.agg [ow 0 0,pI 0,ow 1 0,pI 0],pI 0,pI 4]))
  ·intro h4 hm
   refine Sk ?_
   obtain ⟨r5,hr5,hm⟩ := bo hm
   refine Sq (RK hnt (nn 2 (o108 [] true r5 :: nn 6 [])) [(4,rr 1032),(5,pI r5.2.1),(6,pI r5.2.2)] [(1032,bx [ow 1192 r5.1.tree.nodes.length,pI r5.1.tree.next,ow 1193 r5.1.tasks.length,pI r5.1.next]),(1192,ob0 (Ak r5.1.tree.nodes)),(1193,ob0 (At r5.1.tasks))] (an (AdX p0 r3.1 r5 hr5) tv) ?_)
   obtain rfl := sj hm
   exact DW.ret (Ah [Ak r5.1.tree.nodes,At r5.1.tasks] [1192,1193] (.tup [.agg [ow 0 r5.1.tree.nodes.length,pI r5.1.tree.next,ow 1 r5.1.tasks.length,pI r5.1.next],pI r5.2.1,pI r5.2.2]))
abbrev o110 (ks : List Nat) (b : Bool) (RES : Aa × Int × Int) (sm : List Nat := []) : Orc := .call 85 ks b (.tup [.agg [ow 0 RES.1.tree.nodes.length,pI RES.1.tree.next,ow 1 RES.1.tasks.length,pI RES.1.next],pI RES.2.1,pI RES.2.2]) [] [Ak RES.1.tree.nodes,At RES.1.tasks] sm

abbrev AdW (s1 : (List Aw) × Int) (p2 : Int) := ({ id := (s1.1.getD (Int.toNat s1.2) Bt).id,process := (s1.1.getD (Int.toNat s1.2) Bt).process,group := p2,user := (s1.1.getD (Int.toNat s1.2) Bt).user } : Aw)
abbrev Adn : Nat × Obj := (1048,bx [.p (.sl .nil 0 0 (fun _ => [])),pI 0,.p (.sl .nil 0 0 (fun _ => [])),pI 0])
abbrev c112e3 (s1 : (List Aw) × Int) (p2 : Int) := (Cc (Abk s1.1) (Int.toNat s1.2) [vi (s1.1.getD (Int.toNat s1.2) Bt).id,vi (s1.1.getD (Int.toNat s1.2) Bt).process,vi p2,vi (s1.1.getD (Int.toNat s1.2) Bt).user])
theorem Abz (p0 : Aa) (p1 : Int) (p2 : Int) (RES : Aa × Int) (hm : Rf p0 p1 p2 = some RES) : Spec Tryz.prog 64 [.p (.agg (Ab p0)),pI p1,pI p2] [] (.tup [.agg [ow 0 RES.1.tree.nodes.length,pI RES.1.tree.next,ow 1 RES.1.tasks.length,pI RES.1.next],pI RES.2]) [] [Ak RES.1.tree.nodes,At RES.1.tasks] := by
 unfold Rf at hm
 refine SO Tryz.func64 rfl rfl [(0,.p (.agg (Ab p0))),(1,pI p1),(2,pI p2)] [] ?_
 intro cx hnt
 refine Sq (RD hnt (nn 3 []) [0] [(3,rr 1024),(6,rr 1048)] [] [(1024,bx (pm (Ab p0))),(Adn)] tv ?_)
 obtain ⟨r1,hr1,hm⟩ := bo hm
 refine Sq (Sq (RD hnt (.no :: o93 [] true r1 :: .no :: []) [] [(14,pB (!r1))] [] [] (an (Dz p0 r1 hr1) tv) ?_))
 refine Ae hm ?_ ?_
 ·intro h2 hm
  refine Sq (RD hnt (nn 3 []) [1,2,3,14] [(7,pI 1)] [1024] [] tv ?_)
  refine DW.cv [] [] [] [(1048,bx [ow 100000 0,pI 0,ow 100001 0,pI 0]),(100000,ob0 (Ak [])),(100001,ob0 (At []))] (Conv.ads [(.o 1048 0,100000,6,elems Aq Bj []),(.o 1048 2,100001,4,elems Ay Bt [])]) ?_
  obtain rfl := sj hm
  exact DW.ret (Ah [Ak [],At []] [100000,100001] (.tup [.agg [ow 0 0,pI 0,ow 1 0,pI 0],pI 1]))
 ·intro h2 hm
  refine Sk ?_
  obtain ⟨r3,hr3,hm⟩ := bo hm
  refine Sq (Sq (RD hnt (nn 2 (o98 [] true r3 :: nn 6 [])) [14] [(9,pB r3.2)] [] [] (an (Md p0 p1 r3 hr3) tv) ?_))
  refine Sq ?_
  refine Jn (ι := Bool) (fun (y1 : Bool) => Aj [(1,pI p1),(2,pI p2),(3,rr 1024),(6,rr 1048),(30,pB y1)] [(1024,bx (pm (Ab p0))),(Adn)]) (fun y1 => (Qk p0 p1 p2) y1 = some RES) ?_ ?_
  ·intro y1 hm
   unfold Qk at hm
   refine Ae hm ?_ ?_
   ·intro h6 hm
    refine Sq (RD hnt (nn 3 []) [1,2,3,30] [(7,pI 4)] [1024] [] tv ?_)
    refine DW.cv [] [] [] [(1048,bx [ow 100000 0,pI 0,ow 100001 0,pI 0]),(100000,ob0 (Ak [])),(100001,ob0 (At []))] (Conv.ads [(.o 1048 0,100000,6,elems Aq Bj []),(.o 1048 2,100001,4,elems Ay Bt [])]) ?_
    obtain rfl := sj hm
    exact DW.ret (Ah [Ak [],At []] [100000,100001] (.tup [.agg [ow 0 0,pI 0,ow 1 0,pI 0],pI 4]))
   ·intro h6 hm
    refine Sk ?_
    obtain ⟨r7,hr7,hm⟩ := bo hm
    refine Sq (RD hnt (.no :: o103 [] true r7 :: nn 2 []) [3,30] [(10,rr 1080)] [1024] [(1080,bx [ow 1264 r7.tree.nodes.length,pI r7.tree.next,ow 1265 r7.tasks.length,pI r7.next]),(1264,ob0 (Ak r7.tree.nodes)),(1265,ob0 (At r7.tasks))] (an (Su p0 r7 hr7) tv) ?_)
    refine Sq (Sq (RD hnt (.no :: []) [] [(11,pI 0)] [] [] tv ?_))
    refine Bk ?_
    refine DW.whileO (fun (s1 : (List Aw) × Int) => Aj [(1,pI p1),(2,pI p2),(6,rr 1048),(10,rr 1080),(11,pI s1.2)] [(Adn),(1080,bx [ow 1264 r7.tree.nodes.length,pI r7.tree.next,ow 1265 s1.1.length,pI r7.next]),(1264,ob0 (Ak r7.tree.nodes)),(1265,ob0 (At s1.1))]) hm Conv.eqK ?_
    intro s1 n1 hm
    unfold Qp at hm
    refine Sq (Sq (RD hnt (nn 5 []) [] [(38,pB (decide (s1.2 < ((s1.1.length : Nat) : Int))))] [] [] tv ?_))
    refine Ae hm ?_ ?_
    ·intro h14 hm
     refine Sk ?_
     refine Sq ?_
     refine Jn (ι := List Aw) (fun (y3 : List Aw) => Aj [(1,pI p1),(2,pI p2),(6,rr 1048),(10,rr 1080),(11,pI s1.2)] [(Adn),(1080,bx [ow 1264 r7.tree.nodes.length,pI r7.tree.next,ow 1265 y3.length,pI r7.next]),(1264,ob0 (Ak r7.tree.nodes)),(1265,ob0 (At y3))]) (fun y3 => (Qo s1 n1) y3 = some RES) ?_ ?_
     ·intro y3 hm
      unfold Qo at hm
      refine RD hnt (nn 3 []) [] [(11,pI (w64 (s1.2 + 1)))] [] [] tv ?_
      exact jD (y3,(w64 (s1.2 + 1))) hm Conv.eqK
     ·refine Bk ?_
      obtain ⟨g15,g16,hm⟩ := go2 hm
      refine Sq (RD hnt (nn 8 []) [38] [(48,pB ((s1.1.getD (Int.toNat s1.2) Bt).id == p1))] [] [] (an g15.1 (an g15.2 (an g16 tv))) ?_)
      refine Ae hm ?_ ?_
      ·intro h17 hm
       obtain ⟨g18,g19,hm⟩ := go2 hm
       refine RN hnt (nn 7 []) [(1,pI p1),(2,pI p2),(6,rr 1048),(10,rr 1080),(11,pI s1.2)] [(Adn),(1080,bx [ow 1264 r7.tree.nodes.length,pI r7.tree.next,ow 1265 (s1.1.set (Int.toNat s1.2) (AdW s1 p2)).length,pI r7.next]),(1264,ob0 (Ak r7.tree.nodes)),(1265,ob0 (At (s1.1.set (Int.toNat s1.2) (AdW s1 p2))))] [] [(1080,.box [ow 1264 r7.tree.nodes.length,pI r7.tree.next,ow 1265 s1.1.length,pI r7.next]),(1265,.row 4 s1.1.length (c112e3 s1 p2))] (an g18.1 (an g18.2 (an g19 tv))) (by kernel_rfl) .nil (.cons rfl (.box (.cons .rfl (.cons .rfl (.cons (MLe.ownLen (enc := Ay) (d := Bt) (f := (c112e3 s1 p2)) (RowIs.upd RowIs.elems (AdW s1 p2) rfl)) (.cons .rfl .nil))))) (.cons rfl (BLe.typed (RowIs.upd RowIs.elems (AdW s1 p2) rfl)) .nil)) ?_
       exact bD (s1.1.set (Int.toNat s1.2) (AdW s1 p2)) hm .refl
      ·intro h17 hm
       refine Sk ?_
       exact bD s1.1 hm Conv.t0
    ·intro h14 hm
     refine DW.exit ?_
     refine Ao ?_
     refine Au ?_
     refine Am ?_
     show DW _ _ _ _ _
     refine Sq (RD hnt (nn 3 []) [1,2,10,11,38] [(7,pI 0)] [1080] [(1048,bx [ow 1264 r7.tree.nodes.length,pI r7.tree.next,ow 1265 s1.1.length,pI r7.next])] tv ?_)
     obtain rfl := sj hm
     exact DW.ret (Ah [Ak r7.tree.nodes,At s1.1] [1264,1265] (.tup [.agg [ow 0 r7.tree.nodes.length,pI r7.tree.next,ow 1 s1.1.length,pI r7.next],pI 0]))
  ·rcases bt (!r3.2) with h4 | h4
   ·replace hm := Bf h4 hm
    refine RD hnt (nn 3 (sk 5 (pT :: []))) [9] [(30,pB true)] [] [] (an6 h4 tv) ?_
    exact jD true hm Conv.eqK
   ·replace hm := Be h4 hm
    obtain ⟨r5,hr5,hm⟩ := bo hm
    refine RD hnt (nn 6 (o79 [] true r5 :: .no :: pF :: [])) [9] [(30,pB (!r5))] [] [] (an4 h4 (an (Cu p0.tree p2 r5 hr5) (an2 h4 tv))) ?_
    exact jD (!r5) hm Conv.eqK
abbrev o112 (ks : List Nat) (b : Bool) (RES : Aa × Int) (sm : List Nat := []) : Orc := .call 64 ks b (.tup [.agg [ow 0 RES.1.tree.nodes.length,pI RES.1.tree.next,ow 1 RES.1.tasks.length,pI RES.1.next],pI RES.2]) [] [Ak RES.1.tree.nodes,At RES.1.tasks] sm

abbrev Agk : Nat × Obj := (1048,bx [ow 100000 0,pI 0,ow 100001 0,pI 0])
abbrev c111e2 : Nat × Obj := (1048,bx [.p (.sl .nil 0 0 (fun _ => [])),pI 0,.p (.sl .nil 0 0 (fun _ => [])),pI 0])
theorem Abw (p0 : Aa) (p1 : Int) (p2 : Int) (RES : Aa × Int) (hm : Kp p0 p1 p2 = some RES) : Spec Tryz.prog 86 [.p (.agg (Ab p0)),pI p1,pI p2] [] (.tup [.agg [ow 0 RES.1.tree.nodes.length,pI RES.1.tree.next,ow 1 RES.1.tasks.length,pI RES.1.next],pI RES.2]) [] [Ak RES.1.tree.nodes,At RES.1.tasks] := by
 unfold Kp at hm
 refine SO Tryz.func86 rfl rfl [(0,.p (.agg (Ab p0))),(1,pI p1),(2,pI p2)] [] ?_
 intro cx hnt
 refine Sq (RD hnt (nn 3 []) [0] [(3,rr 1024),(6,rr 1048)] [] [(1024,bx (pm (Ab p0))),(c111e2)] tv ?_)
 obtain ⟨r1,hr1,hm⟩ := bo hm
 refine Sq (Sq (RD hnt (.no :: o91 [] true r1 :: .no :: []) [] [(17,pB (!r1))] [] [] (an (Mb p0 r1 hr1) tv) ?_))
 refine Ae hm ?_ ?_
 ·intro h2 hm
  refine Sq (RD hnt (nn 3 []) [1,2,3,17] [(7,pI 1)] [1024] [] tv ?_)
  refine DW.cv [] [] [] [(Agk),(100000,ob0 (Ak [])),(100001,ob0 (At []))] (Conv.ads [(.o 1048 0,100000,6,elems Aq Bj []),(.o 1048 2,100001,4,elems Ay Bt [])]) ?_
  obtain rfl := sj hm
  exact DW.ret (Ah [Ak [],At []] [100000,100001] (.tup [.agg [ow 0 0,pI 0,ow 1 0,pI 0],pI 1]))
 ·intro h2 hm
  refine Sk ?_
  obtain ⟨r3,hr3,hm⟩ := bo hm
  refine Sq (RD hnt (nn 2 (o98 [] true r3 :: nn 6 [])) [17] [(8,rr 1064),(9,pB r3.2)] [] [(1064,bx (pm (Ay r3.1)))] (an (Md p0 p1 r3 hr3) tv) ?_)
  refine Sq (Sq ?_)
  refine Jn (ι := Bool) (fun (y1 : Bool) => Aj [(1,pI p1),(2,pI p2),(3,rr 1024),(6,rr 1048),(8,rr 1064),(33,pB y1)] [(1024,bx (pm (Ab p0))),(c111e2),(1064,bx (pm (Ay r3.1)))]) (fun y1 => (Hc p0 p1 p2 r3) y1 = some RES) ?_ ?_
  ·intro y1 hm
   unfold Hc at hm
   refine Ae hm ?_ ?_
   ·intro h6 hm
    refine Sq (RD hnt (nn 3 []) [1,2,3,8,33] [(7,pI 4)] [1024,1064] [] tv ?_)
    refine DW.cv [] [] [] [(Agk),(100000,ob0 (Ak [])),(100001,ob0 (At []))] (Conv.ads [(.o 1048 0,100000,6,elems Aq Bj []),(.o 1048 2,100001,4,elems Ay Bt [])]) ?_
    obtain rfl := sj hm
    exact DW.ret (Ah [Ak [],At []] [100000,100001] (.tup [.agg [ow 0 0,pI 0,ow 1 0,pI 0],pI 4]))
   ·intro h6 hm
    refine Sk ?_
    obtain ⟨r7,hr7,hm⟩ := bo hm
    refine Sq (Sq (RD hnt (nn 2 (o106 [] true r7 :: .no :: [])) [33] [(10,pI r7)] [] [] (an (AaH p0 p2 r7 hr7) tv) ?_))
    refine Sq (RD hnt (nn 2 []) [] [(39,pB (r7 != 0))] [] [] tv ?_)
    refine Ae hm ?_ ?_
    ·intro h8 hm
     refine Sq (RD hnt (nn 4 []) [1,2,3,8,10,39] [(7,pI r7)] [1024,1064] [] tv ?_)
     refine DW.cv [] [] [] [(Agk),(100000,ob0 (Ak [])),(100001,ob0 (At []))] (Conv.ads [(.o 1048 0,100000,6,elems Aq Bj []),(.o 1048 2,100001,4,elems Ay Bt [])]) ?_
     obtain rfl := sj hm
     exact DW.ret (Ah [Ak [],At []] [100000,100001] (.tup [.agg [ow 0 0,pI 0,ow 1 0,pI 0],pI r7]))
    ·intro h8 hm
     refine Sk ?_
     obtain ⟨r9,hr9,hm⟩ := bo hm
     refine Sq (RD hnt (nn 3 (o99 [] true r9 :: nn 5 [])) [10,39] [(11,pI r9.1)] [] [] (an (Px p0.tree p2 r9 hr9) tv) ?_)
     obtain ⟨r10,hr10,hm⟩ := bo hm
     refine Sq (Sq (RD hnt (nn 4 (o99 [] true r10 :: nn 5 [])) [8] [(13,pI r10.1)] [1064] [] (an (Px p0.tree r3.1.group r10 hr10) tv) ?_))
     refine Sq (RD hnt (nn 3 []) [11,13] [(59,pB (r9.1 != r10.1))] [] [] tv ?_)
     refine Ae hm ?_ ?_
     ·intro h11 hm
      refine Sq (RD hnt (nn 3 []) [1,2,3,59] [(7,pI 9)] [1024] [] tv ?_)
      refine DW.cv [] [] [] [(Agk),(100000,ob0 (Ak [])),(100001,ob0 (At []))] (Conv.ads [(.o 1048 0,100000,6,elems Aq Bj []),(.o 1048 2,100001,4,elems Ay Bt [])]) ?_
      obtain rfl := sj hm
      exact DW.ret (Ah [Ak [],At []] [100000,100001] (.tup [.agg [ow 0 0,pI 0,ow 1 0,pI 0],pI 9]))
     ·intro h11 hm
      refine Sk ?_
      obtain ⟨r12,hr12,hm⟩ := bo hm
      refine Sq (RK hnt (nn 3 (o112 [] true r12 :: nn 4 [])) [(6,rr 1048),(7,pI r12.2)] [(1048,bx [ow 1512 r12.1.tree.nodes.length,pI r12.1.tree.next,ow 1513 r12.1.tasks.length,pI r12.1.next]),(1512,ob0 (Ak r12.1.tree.nodes)),(1513,ob0 (At r12.1.tasks))] (an (Abz p0 p1 p2 r12 hr12) tv) ?_)
      obtain rfl := sj hm
      exact DW.ret (Ah [Ak r12.1.tree.nodes,At r12.1.tasks] [1512,1513] (.tup [.agg [ow 0 r12.1.tree.nodes.length,pI r12.1.tree.next,ow 1 r12.1.tasks.length,pI r12.1.next],pI r12.2]))
  ·rcases bt (!r3.2) with h4 | h4
   ·replace hm := Bf h4 hm
    refine RD hnt (nn 3 (sk 5 (pT :: []))) [9] [(33,pB true)] [] [] (an6 h4 tv) ?_
    exact jD true hm Conv.eqK
   ·replace hm := Be h4 hm
    obtain ⟨r5,hr5,hm⟩ := bo hm
    refine RD hnt (nn 6 (o79 [] true r5 :: .no :: pF :: [])) [9] [(33,pB (!r5))] [] [] (an4 h4 (an (Cu p0.tree p2 r5 hr5) (an2 h4 tv))) ?_
    exact jD (!r5) hm Conv.eqK
abbrev o111 (ks : List Nat) (b : Bool) (RES : Aa × Int) (sm : List Nat := []) : Orc := .call 86 ks b (.tup [.agg [ow 0 RES.1.tree.nodes.length,pI RES.1.tree.next,ow 1 RES.1.tasks.length,pI RES.1.next],pI RES.2]) [] [Ak RES.1.tree.nodes,At RES.1.tasks] sm

abbrev Fc (p0 : Aa) (k1 : Nat) := (p0.tasks.getD k1 (default : Aw))
abbrev AcW : Nat × Obj := (1032,bx [.p (.sl .nil 0 0 (fun _ => [])),pI 0,.p (.sl .nil 0 0 (fun _ => [])),pI 0])
abbrev Adg (p0 : Aa) : Nat × Obj := (1016,bx (pm (Ab p0)))
theorem Ahz (p0 : Aa) (p1 : Int) (RES : Aa × Int) (hm : Wu p0 p1 = some RES) : Spec Tryz.prog 87 [.p (.agg (Ab p0)),pI p1] [] (.tup [.agg [ow 0 RES.1.tree.nodes.length,pI RES.1.tree.next,ow 1 RES.1.tasks.length,pI RES.1.next],pI RES.2]) [] [Ak RES.1.tree.nodes,At RES.1.tasks] := by
 unfold Wu at hm
 refine SO Tryz.func87 rfl rfl [(0,.p (.agg (Ab p0))),(1,pI p1)] [] ?_
 intro cx hnt
 refine Sq (RK hnt (nn 3 []) [(1,pI p1),(2,rr 1016),(4,rr 1032)] [(Adg p0),(AcW)] tv ?_)
 obtain ⟨r1,hr1,hm⟩ := bo hm
 refine Sq (Sq (RD hnt (.no :: o93 [] true r1 :: .no :: []) [] [(13,pB (!r1))] [] [] (an (Dz p0 r1 hr1) tv) ?_))
 refine Ae hm ?_ ?_
 ·intro h2 hm
  refine Sq (RD hnt (nn 3 []) [1,2,13] [(5,pI 1)] [1016] [] tv ?_)
  refine DW.cv [] [] [] [(1032,bx [ow 100000 0,pI 0,ow 100001 0,pI 0]),(100000,ob0 (Ak [])),(100001,ob0 (At []))] (Conv.ads [(.o 1032 0,100000,6,elems Aq Bj []),(.o 1032 2,100001,4,elems Ay Bt [])]) ?_
  obtain rfl := sj hm
  exact DW.ret (Ah [Ak [],At []] [100000,100001] (.tup [.agg [ow 0 0,pI 0,ow 1 0,pI 0],pI 1]))
 ·intro h2 hm
  refine Sk ?_
  obtain ⟨r3,hr3,hm⟩ := bo hm
  refine Sq (Sq (RD hnt (nn 2 (o98 [] true r3 :: nn 6 [])) [13] [(7,pB r3.2)] [] [] (an (Md p0 p1 r3 hr3) tv) ?_))
  refine Sq (RD hnt (nn 2 []) [7] [(22,pB (!r3.2))] [] [] tv ?_)
  refine Ae hm ?_ ?_
  ·intro h4 hm
   refine Sq (RD hnt (nn 3 []) [1,2,22] [(5,pI 4)] [1016] [] tv ?_)
   refine DW.cv [] [] [] [(1032,bx [ow 100000 0,pI 0,ow 100001 0,pI 0]),(100000,ob0 (Ak [])),(100001,ob0 (At []))] (Conv.ads [(.o 1032 0,100000,6,elems Aq Bj []),(.o 1032 2,100001,4,elems Ay Bt [])]) ?_
   obtain rfl := sj hm
   exact DW.ret (Ah [Ak [],At []] [100000,100001] (.tup [.agg [ow 0 0,pI 0,ow 1 0,pI 0],pI 4]))
  ·intro h4 hm
   refine Sk ?_
   obtain ⟨r5,hr5,hm⟩ := bo hm
   refine Sq (RD hnt (nn 2 (o83 [] true r5 :: nn 5 [])) [22] [(8,rr 1064)] [] [(1064,bx [ow 1208 r5.nodes.length,pI r5.next,.p (.sl .nil 0 0 (fun _ => [])),pI p0.next]),(1208,ob0 (Ak r5.nodes))] (an (Sr p0.tree r5 hr5) tv) ?_)
   refine Sq (Sq (RD hnt (.no :: []) [] [(9,pI 0)] [] [] tv ?_))
   refine Bk ?_
   obtain ⟨hc1,hm⟩ := go1 hm
   refine DW.rangeO (fun (k1 : Nat) (s1 : List Aw) => Aj [(1,pI p1),(2,rr 1016),(4,rr 1032),(8,rr 1064),(9,pI ((k1 : Nat) : Int))] [(Adg p0),(AcW),(1064,bx [ow 1208 r5.nodes.length,pI r5.next,ow 1448 s1.length,pI p0.next]),(1208,ob0 (Ak r5.nodes)),(1448,ob0 (At s1))]) Bt hm (Conv.ads [(.o 1064 2,1448,4,elems Ay Bt [])]) ?_
   intro k1 s1 n1 hk1 hs1 he1
   refine Sq (Sq (RD hnt (nn 5 []) [] [(34,pB (decide (((k1 : Nat) : Int) < ((p0.tasks.length : Nat) : Int))))] [] [] tv ?_))
   refine Cb (decide (((k1 : Nat) : Int) < ((p0.tasks.length : Nat) : Int))) ?_ ?_
   ·intro h15
    have hlt1 : k1 < p0.tasks.length := by have := of_decide_eq_true h15; omega
    have hm := hs1 hlt1
    unfold Wg at hm
    refine Sk ?_
    refine Sq ?_
    refine Jn (ι := List Aw) (fun (y3 : List Aw) => Aj [(1,pI p1),(2,rr 1016),(4,rr 1032),(8,rr 1064),(9,pI ((k1 : Nat) : Int))] [(Adg p0),(AcW),(1064,bx [ow 1208 r5.nodes.length,pI r5.next,ow 1448 y3.length,pI p0.next]),(1208,ob0 (Ak r5.nodes)),(1448,ob0 (At y3))]) (fun y3 => (Sj n1) y3 = some RES) ?_ ?_
    ·intro y3 hm
     unfold Sj at hm
     refine RD hnt (nn 3 []) [] [(9,pI (w64 (((k1 : Nat) : Int) + 1)))] [] [] tv ?_
     exact jD y3 ⟨hlt1,hm⟩ (Conv.tp [(9,pI (w64 (((k1 : Nat) : Int) + 1)))] [] (by kernel_rfl) (.cons rfl (.of_eq (congrArg pI (Bl hlt1 hc1))) .nil) .nil)
    ·refine Bk ?_
     refine Sq (RD hnt (nn 7 []) [34] [(10,rr 1080)] [] [(1080,bx (pm (Ay (Fc p0 k1))))] (an (nn0 k1) (an (ltc hlt1) tv)) ?_)
     refine Sq (DW.regJ (sl2 := [(1,pI p1),(2,rr 1016),(4,rr 1032),(8,rr 1064),(9,pI ((k1 : Nat) : Int)),(10,rr 1080),(51,pB (((Fc p0 k1).id != p1) && ((Fc p0 k1).process != p1)))]) (ob2 := [(Adg p0),(AcW),(1064,bx [ow 1208 r5.nodes.length,pI r5.next,ow 1448 s1.length,pI p0.next]),(1080,bx (pm (Ay (Fc p0 k1)))),(1208,ob0 (Ak r5.nodes)),(1448,ob0 (At s1))]) ?_ ?_)
     ·rcases bt ((Fc p0 k1).id != p1) with h16 | h16
      ·exact RT hnt (nn 9 (pT :: [])) [(51,pB ((Fc p0 k1).process != p1))] (an5 h16 tv) (by kernel_rfl) (.cons rfl (.of_eq (by rw [h16]; try rfl)) .nil)
      ·exact RT hnt (nn 5 (sk 4 (pF :: []))) [(51,pB false)] (an5 h16 tv) (by kernel_rfl) (.cons rfl (.of_eq (by rw [h16]; try rfl)) .nil)
     ·refine Ae hm ?_ ?_
      ·intro h17 hm
       obtain ⟨g18,hm⟩ := go1 hm
       refine RN hnt (nn 7 []) [(1,pI p1),(2,rr 1016),(4,rr 1032),(8,rr 1064),(9,pI ((k1 : Nat) : Int))] [(Adg p0),(AcW),(1064,bx [ow 1208 r5.nodes.length,pI r5.next,ow 1448 (s1 ++ [(Fc p0 k1)]).length,pI p0.next]),(1208,ob0 (Ak r5.nodes)),(1448,ob0 (At (s1 ++ [(Fc p0 k1)])))] [] [(1064,.box [ow 1208 r5.nodes.length,pI r5.next,ow 1448 (s1.length + 1),pI p0.next]),(1448,.row 4 (s1.length + 1) (Cp s1.length (Abk s1) (cut 4 [vi (Fc p0 k1).id,vi (Fc p0 k1).process,vi (Fc p0 k1).group,vi (Fc p0 k1).user])))] (an (by omega : (s1.length + 1) * 32 ≤ 140737488355328) tv) (by kernel_rfl) .nil (.cons rfl (.box (.cons .rfl (.cons .rfl (.cons (MLe.ownLen (enc := Ay) (d := Bt) (f := (Cp s1.length (Abk s1) (cut 4 [vi (Fc p0 k1).id,vi (Fc p0 k1).process,vi (Fc p0 k1).group,vi (Fc p0 k1).user]))) (RowIs.cat RowIs.elems (RowIs.lit (enc := Ay) (d := Bt) (n := 1) (f := (cut 4 [vi (Fc p0 k1).id,vi (Fc p0 k1).process,vi (Fc p0 k1).group,vi (Fc p0 k1).user])) [(Fc p0 k1)] rfl (fun | 0,_ => rfl | n + 1,h => absurd h (by omega))))) (.cons .rfl .nil))))) (.cons rfl (BLe.typed (RowIs.cat RowIs.elems (RowIs.lit (enc := Ay) (d := Bt) (n := 1) (f := (cut 4 [vi (Fc p0 k1).id,vi (Fc p0 k1).process,vi (Fc p0 k1).group,vi (Fc p0 k1).user])) [(Fc p0 k1)] rfl (fun | 0,_ => rfl | n + 1,h => absurd h (by omega))))) .nil)) ?_
       exact bD (s1 ++ [(Fc p0 k1)]) hm .refl
      ·intro h17 hm
       refine Sk ?_
       exact bD s1 hm Conv.t0
   ·intro h15
    have hge1 : ¬ k1 < p0.tasks.length := by have := of_decide_eq_false h15; omega
    have hm := he1 hge1
    unfold Vy at hm
    refine DW.exit ?_
    refine Ao ?_
    refine Au ?_
    refine Am ?_
    show DW _ _ _ _ _
    refine Sq (RD hnt (nn 3 []) [1,2,8,9,34] [(5,pI 0)] [1016,1064] [(1032,bx [ow 1208 r5.nodes.length,pI r5.next,ow 1448 s1.length,pI p0.next])] tv ?_)
    obtain rfl := sj hm
    exact DW.ret (Ah [Ak r5.nodes,At s1] [1208,1448] (.tup [.agg [ow 0 r5.nodes.length,pI r5.next,ow 1 s1.length,pI p0.next],pI 0]))
abbrev o113 (ks : List Nat) (b : Bool) (RES : Aa × Int) (sm : List Nat := []) : Orc := .call 87 ks b (.tup [.agg [ow 0 RES.1.tree.nodes.length,pI RES.1.tree.next,ow 1 RES.1.tasks.length,pI RES.1.next],pI RES.2]) [] [Ak RES.1.tree.nodes,At RES.1.tasks] sm

abbrev Acl : Nat × Obj := (1048,bx [.p (.sl .nil 0 0 (fun _ => [])),pI 0,.p (.sl .nil 0 0 (fun _ => [])),pI 0])
theorem Aak (p0 : Ar) (p1 : Int) (p2 : Int) (RES : Aa × Ar) (hm : Is p0 p1 p2 = some RES) : Spec Tryz.prog 16 [rr 0,pI p1,pI p2] [.box (pm (Ap p0))] (.p (.agg (Ab RES.1))) [.box (pm (Ap RES.2))] [] := by
 unfold Is at hm
 refine SO Tryz.func16 rfl rfl [(0,rr 0),(1,pI p1),(2,pI p2)] [(0,bx (pm (Ap p0)))] ?_
 intro cx hnt
 refine Sq (RD hnt (.no :: []) [] [(6,rr 1048)] [] [(Acl)] tv ?_)
 obtain ⟨r1,hr1,hm⟩ := bo hm
 refine Sq (RD hnt (o69 [] true r1 :: nn 2 []) [] [(7,rr 1056)] [] [(1056,bx [ow 1168 r1.tree.nodes.length,pI r1.tree.next,ow 1169 r1.tasks.length,pI r1.next]),(1168,ob0 (Ak r1.tree.nodes)),(1169,ob0 (At r1.tasks))] (an (Aim r1 hr1) tv) ?_)
 obtain ⟨r2,hr2,hm⟩ := bo hm
 refine Sq (RD hnt (nn 2 (o71 [0] true r2 :: nn 2 [])) [] [] [1168] [(0,bx (pm (Ap r2.2))),(1056,bx [.p (Az r2.1.nodes),pI r2.1.next,ow 1169 r1.tasks.length,pI r1.next])] (an (AdR p0 p1 r2 hr2) (an tv tv)) ?_)
 obtain ⟨r3,hr3,hm⟩ := bo hm
 refine Sq (Sq (RD hnt (nn 3 (o72 [0] true r3 :: .no :: [])) [1] [(8,pI r3.1)] [] [(0,bx (pm (Ap r3.2)))] (an (Bo r2.2 (w64 (p1 + 3)) r3 hr3) (an tv tv)) ?_))
 refine Bk ?_
 refine DW.whileO (fun (s1 : Ar × Aa × Int) => Aj [(0,rr 0),(2,pI p2),(6,rr 1048),(7,rr 1056),(8,pI s1.2.2)] [(0,bx (pm (Ap s1.1))),(Acl),(1056,bx (pm (Ab s1.2.1)))]) hm (Conv.frz [1169]) ?_
 intro s1 n1 hm
 unfold Nn at hm
 refine Sq (Sq (RD hnt (nn 2 []) [] [(31,pB (decide (s1.2.2 > 0)))] [] [] tv ?_))
 refine Ae hm ?_ ?_
 ·intro h56 hm
  refine Sk ?_
  refine Sq (Bk ?_)
  obtain ⟨r57,hr57,hm⟩ := bo hm
  refine RD hnt (nn 2 (o87 [0] true r57 :: .no :: [])) [31] [] [] [(0,bx (pm (Ap r57.2))),(1056,bx (pm (Ab r57.1)))] (an (AcL s1.1 s1.2.1 r57 hr57) (an tv tv)) ?_
  refine DW.done ?_
  show DW _ _ _ _ _
  refine RD hnt (nn 3 []) [] [(8,pI (w64 (s1.2.2 - 1)))] [] [] tv ?_
  exact jD (r57.2,r57.1,(w64 (s1.2.2 - 1))) hm Conv.eqK
 ·intro h56 hm
  refine DW.exit ?_
  refine Ao ?_
  refine Au ?_
  refine Am ?_
  show DW _ _ _ _ _
  obtain ⟨r58,hr58,hm⟩ := bo hm
  refine Sq (Sq (RD hnt (nn 3 (o72 [0] true r58 :: .no :: [])) [2,8,31] [(9,pI r58.1)] [] [(0,bx (pm (Ap r58.2)))] (an (Bo s1.1 (w64 (p2 + 1)) r58 hr58) (an tv tv)) ?_))
  refine Bk ?_
  refine DW.whileO (fun (s3 : Ar × Aa × Int) => Aj [(0,rr 0),(6,rr 1048),(7,rr 1056),(9,pI s3.2.2)] [(0,bx (pm (Ap s3.1))),(Acl),(1056,bx (pm (Ab s3.2.1)))]) hm Conv.eqK ?_
  intro s3 n3 hm
  unfold Nj at hm
  refine Sq (Sq (RD hnt (nn 2 []) [] [(42,pB (decide (s3.2.2 > 0)))] [] [] tv ?_))
  refine Ae hm ?_ ?_
  ·intro h82 hm
   refine Sk ?_
   refine Sq ?_
   refine Jn (ι := Ar × Aa) (fun (y13 : Ar × Aa) => Aj [(0,rr 0),(6,rr 1048),(7,rr 1056),(9,pI s3.2.2)] [(0,bx (pm (Ap y13.1))),(Acl),(1056,bx (pm (Ab y13.2)))]) (fun y13 => (Dh s3 n3) y13 = some RES) ?_ ?_
   ·intro y13 hm
    unfold Dh at hm
    refine RD hnt (nn 3 []) [] [(9,pI (w64 (s3.2.2 - 1)))] [] [] tv ?_
    exact jD (y13.1,y13.2,(w64 (s3.2.2 - 1))) hm Conv.eqK
   ·refine Bk ?_
    obtain ⟨r83,hr83,hm⟩ := bo hm
    refine Sq (RD hnt (nn 3 (o88 [0] true r83 :: .no :: [])) [42] [(10,pI r83.1)] [] [(0,bx (pm (Ap r83.2)))] (an (Lt s3.1 s3.2.1.tree r83 hr83) (an tv tv)) ?_)
    obtain ⟨r84,hr84,hm⟩ := bo hm
    refine Sq (Sq (RD hnt (nn 2 (o106 [] true r84 :: .no :: [])) [] [(52,pB (r84 != 0))] [] [] (an (AaH s3.2.1 r83.1 r84 hr84) tv) ?_))
    refine Ae hm ?_ ?_
    ·intro h85 hm
     refine DW.exit ?_
     exact Am (joinKQ (r83.2,s3.2.1) hm Conv.t0)
    ·intro h85 hm
     refine Sk ?_
     obtain ⟨r86,hr86,hm⟩ := bo hm
     obtain ⟨r87,hr87,hm⟩ := bo hm
     refine Sq (Sq (RD hnt (nn 3 (o72 [0] true r86 :: o107 [] true r87 :: nn 8 [])) [10,52] [(11,rr 1088),(13,pI r87.2.2)] [] [(0,bx (pm (Ap r86.2))),(1088,bx [ow 1464 r87.1.tree.nodes.length,pI r87.1.tree.next,ow 1465 r87.1.tasks.length,pI r87.1.next]),(1464,ob0 (Ak r87.1.tree.nodes)),(1465,ob0 (At r87.1.tasks))] (an (Bo r83.2 3 r86 hr86) (an tv (an (AgS s3.2.1 r83.1 r86.1 r87 hr87) tv))) ?_))
     refine Sq (RD hnt (nn 2 []) [13] [(63,pB (r87.2.2 == 0))] [] [] tv ?_)
     refine Jn (ι := Aa) (fun (y14 : Aa) => Aj [(0,rr 0),(6,rr 1048),(7,rr 1056),(9,pI s3.2.2)] [(0,bx (pm (Ap r86.2))),(Acl),(1056,bx (pm (Ab y14)))]) (fun y14 => (Fv s3 n3 r86) y14 = some RES) ?_ ?_
     ·intro y14 hm
      unfold Fv at hm
      obtain ⟨r89,hr89,hm⟩ := bo hm
      refine Sq (Sq (RD hnt (.no :: o84 [0] true r89 :: []) [] [(66,pB r89.1)] [] [(0,bx (pm (Ap r89.2)))] (an (Eh r86.2 3 r89 hr89) (an tv tv)) ?_))
      refine Jn (ι := Ar × Aa) (fun (y15 : Ar × Aa) => Aj [(0,rr 0),(6,rr 1048),(7,rr 1056),(9,pI s3.2.2)] [(0,bx (pm (Ap y15.1))),(Acl),(1056,bx (pm (Ab y15.2)))]) (fun y15 => (En s3 n3) y15 = some RES) ?_ ?_
      ·intro y15 hm
       unfold En at hm
       obtain ⟨r94,hr94,hm⟩ := bo hm
       refine Sq (Sq (RD hnt (.no :: o84 [0] true r94 :: []) [] [(80,pB r94.1)] [] [(0,bx (pm (Ap r94.2)))] (an (Eh y15.1 4 r94 hr94) (an tv tv)) ?_))
       refine Jn (ι := Ar × Aa) (fun (y16 : Ar × Aa) => Aj [(0,rr 0),(6,rr 1048),(7,rr 1056),(9,pI s3.2.2)] [(0,bx (pm (Ap y16.1))),(Acl),(1056,bx (pm (Ab y16.2)))]) (fun y16 => (Eo s3 n3) y16 = some RES) ?_ ?_
       ·intro y16 hm
        unfold Eo at hm
        obtain ⟨r100,hr100,hm⟩ := bo hm
        refine Sq (RD hnt (.no :: o84 [0] true r100 :: []) [] [(97,pB r100.1)] [] [(0,bx (pm (Ap r100.2)))] (an (Eh y16.1 8 r100 hr100) (an tv tv)) ?_)
        refine Ae hm ?_ ?_
        ·intro h101 hm
         obtain ⟨r102,hr102,hm⟩ := bo hm
         obtain ⟨r103,hr103,hm⟩ := bo hm
         refine Sq (RD hnt (nn 3 (o109 [0] true r102 :: o113 [] true r103 :: nn 6 [])) [97] [(19,rr 1152),(20,pI r103.2)] [] [(0,bx (pm (Ap r102.2))),(1152,bx [ow 1824 r103.1.tree.nodes.length,pI r103.1.tree.next,ow 1825 r103.1.tasks.length,pI r103.1.next]),(1824,ob0 (Ak r103.1.tree.nodes)),(1825,ob0 (At r103.1.tasks))] (an (Qx r100.2 y16.2 r102 hr102) (an tv (an (Ahz y16.2 r102.1 r103 hr103) tv))) ?_)
         refine Sq (RD hnt (nn 2 []) [20] [(107,pB (r103.2 == 0))] [] [] tv ?_)
         refine Ae hm ?_ ?_
         ·intro h104 hm
          refine RD hnt (nn 2 []) [19,107] [] [1152] [(1056,bx [ow 1824 r103.1.tree.nodes.length,pI r103.1.tree.next,ow 1825 r103.1.tasks.length,pI r103.1.next])] tv ?_
          exact bD (r102.2,r103.1) hm (Conv.frz [1824,1825])
         ·intro h104 hm
          refine Sk ?_
          exact bD (r102.2,y16.2) hm Conv.t0
        ·intro h101 hm
         refine Sk ?_
         exact bD (r100.2,y16.2) hm Conv.t0
       ·refine Ae hm ?_ ?_
        ·intro h95 hm
         obtain ⟨r96,hr96,hm⟩ := bo hm
         obtain ⟨r97,hr97,hm⟩ := bo hm
         obtain ⟨r98,hr98,hm⟩ := bo hm
         refine Sq (RD hnt (nn 3 (o109 [0] true r96 :: nn 3 (o88 [0] true r97 :: o111 [] true r98 :: nn 6 []))) [80] [(17,rr 1136),(18,pI r98.2)] [] [(0,bx (pm (Ap r97.2))),(1136,bx [ow 1720 r98.1.tree.nodes.length,pI r98.1.tree.next,ow 1721 r98.1.tasks.length,pI r98.1.next]),(1720,ob0 (Ak r98.1.tree.nodes)),(1721,ob0 (At r98.1.tasks))] (an (Qx r94.2 y15.2 r96 hr96) (an tv (an (Lt r96.2 y15.2.tree r97 hr97) (an tv (an (Abw y15.2 r96.1 r97.1 r98 hr98) tv))))) ?_)
         refine Sq (RD hnt (nn 2 []) [18] [(94,pB (r98.2 == 0))] [] [] tv ?_)
         refine Ae hm ?_ ?_
         ·intro h99 hm
          refine RD hnt (nn 2 []) [17,94] [] [1136] [(1056,bx [ow 1720 r98.1.tree.nodes.length,pI r98.1.tree.next,ow 1721 r98.1.tasks.length,pI r98.1.next])] tv ?_
          exact jD (r97.2,r98.1) hm (Conv.frz [1720,1721])
         ·intro h99 hm
          refine Sk ?_
          exact jD (r97.2,y15.2) hm Conv.t0
        ·intro h95 hm
         refine Sk ?_
         exact jD (r94.2,y15.2) hm Conv.t0
      ·refine Ae hm ?_ ?_
       ·intro h90 hm
        obtain ⟨r91,hr91,hm⟩ := bo hm
        obtain ⟨r92,hr92,hm⟩ := bo hm
        refine Sq (RD hnt (nn 3 (o109 [0] true r91 :: o110 [] true r92 :: nn 8 [])) [66] [(14,rr 1112),(16,pI r92.2.2)] [] [(0,bx (pm (Ap r91.2))),(1112,bx [ow 1576 r92.1.tree.nodes.length,pI r92.1.tree.next,ow 1577 r92.1.tasks.length,pI r92.1.next]),(1576,ob0 (Ak r92.1.tree.nodes)),(1577,ob0 (At r92.1.tasks))] (an (Qx r89.2 y14 r91 hr91) (an tv (an (Ago y14 r91.1 r92 hr92) tv))) ?_)
        refine Sq (RD hnt (nn 2 []) [16] [(77,pB (r92.2.2 == 0))] [] [] tv ?_)
        refine Ae hm ?_ ?_
        ·intro h93 hm
         refine RD hnt (nn 2 []) [14,77] [] [1112] [(1056,bx [ow 1576 r92.1.tree.nodes.length,pI r92.1.tree.next,ow 1577 r92.1.tasks.length,pI r92.1.next])] tv ?_
         exact jD (r91.2,r92.1) hm (Conv.frz [1576,1577])
        ·intro h93 hm
         refine Sk ?_
         exact jD (r91.2,y14) hm Conv.t0
       ·intro h90 hm
        refine Sk ?_
        exact jD (r89.2,y14) hm Conv.t0
     ·refine Ae hm ?_ ?_
      ·intro h88 hm
       refine RD hnt (nn 2 []) [11,63] [] [1088] [(1056,bx [ow 1464 r87.1.tree.nodes.length,pI r87.1.tree.next,ow 1465 r87.1.tasks.length,pI r87.1.next])] tv ?_
       exact jD r87.1 hm (Conv.frz [1464,1465])
      ·intro h88 hm
       refine Sk ?_
       exact jD s3.2.1 hm Conv.t0
  ·intro h82 hm
   refine DW.exit ?_
   refine Ao ?_
   refine Au ?_
   refine Am ?_
   show DW _ _ _ _ _
   refine Sq (RD hnt (nn 2 []) [0,7,9,42] [] [1056] [(1048,bx (pm (Ab s3.2.1)))] tv ?_)
   obtain rfl := sj hm
   exact DW.ret (Ah [.box (pm (Ap s3.1))] [] (.p (.agg (Ab s3.2.1))))
abbrev o68 (ks : List Nat) (b : Bool) (RES : Aa × Ar) (sm : List Nat := []) : Orc := .call 16 ks b (.p (.agg (Ab RES.1))) [.box (pm (Ap RES.2))] [] sm

theorem Acw (p0 : Ac) (p1 : Int) (RES : Ai) (hm : Tg p0 p1 = some RES) : Spec Tryz.prog 137 [.p (.agg (Al p0)),pI p1] [] (.p (.agg (Bd RES))) [] [] := by
 unfold Tg at hm
 refine SO Tryz.func137 rfl rfl [(0,.p (.agg (Al p0))),(1,pI p1)] [] ?_
 intro cx hnt
 refine Sq (RK hnt (nn 2 []) [(1,pI p1),(2,rr 1016),(4,rr 1032)] [(1016,bx (pm (Al p0))),(1032,bx [pI 0,pB false,pB false,pI 0])] tv ?_)
 refine Sq (Sq (RD hnt (.no :: []) [] [(5,pI 0)] [] [] tv ?_))
 refine Bk ?_
 obtain ⟨hc1,hm⟩ := go1 hm
 refine DW.rangeO (fun (k1 : Nat) (s1 : Unit) => Aj [(1,pI p1),(2,rr 1016),(4,rr 1032),(5,pI ((k1 : Nat) : Int))] [(1016,bx (pm (Al p0))),(1032,bx [pI 0,pB false,pB false,pI 0])]) Bh hm Conv.eqK ?_
 intro k1 s1 n1 hk1 hs1 he1
 refine Sq (Sq (RD hnt (nn 5 []) [] [(10,pB (decide (((k1 : Nat) : Int) < ((p0.frosts.length : Nat) : Int))))] [] [] tv ?_))
 refine Cb (decide (((k1 : Nat) : Int) < ((p0.frosts.length : Nat) : Int))) ?_ ?_
 ·intro h9
  have hlt1 : k1 < p0.frosts.length := by have := of_decide_eq_true h9; omega
  have hm := hs1 hlt1
  unfold AeQ at hm
  refine Sk ?_
  refine Sq (Bk ?_)
  refine Sq (RD hnt (nn 8 []) [10] [(20,pB ((p0.frosts.getD k1 (default : Ai)).group == p1))] [] [] (an (nn0 k1) (an (ltc hlt1) tv)) ?_)
  refine Ae hm ?_ ?_
  ·intro h10 hm
   refine Sq (RK hnt (nn 6 []) [(4,rr 1032)] [(1032,bx (pm (Bd (p0.frosts.getD k1 (default : Ai)))))] (an (nn0 k1) (an (ltc hlt1) tv)) ?_)
   obtain rfl := sj hm
   exact DW.ret (Ah [] [] (.p (.agg (Bd (p0.frosts.getD k1 (default : Ai))))))
  ·intro h10 hm
   refine Sk ?_
   refine DW.done ?_
   show DW _ _ _ _ _
   refine RD hnt (nn 3 []) [20] [(5,pI (w64 (((k1 : Nat) : Int) + 1)))] [] [] tv ?_
   exact jD () ⟨hlt1,hm⟩ (Conv.tp [(5,pI (w64 (((k1 : Nat) : Int) + 1)))] [] (by kernel_rfl) (.cons rfl (.of_eq (congrArg pI (Bl hlt1 hc1))) .nil) .nil)
 ·intro h9
  have hge1 : ¬ k1 < p0.frosts.length := by have := of_decide_eq_false h9; omega
  have hm := he1 hge1
  unfold AeN at hm
  refine DW.exit ?_
  refine Ao ?_
  refine Au ?_
  refine Am ?_
  show DW _ _ _ _ _
  refine Sq (RK hnt (nn 3 []) [(4,rr 1032)] [(1032,bx [pI p1,pB false,pB false,pI 0])] tv ?_)
  obtain rfl := sj hm
  exact DW.ret (Ah [] [] (.p (.agg [vi p1,vb false,vb false,vi 0])))
abbrev o117 (ks : List Nat) (b : Bool) (RES : Ai) (sm : List Nat := []) : Orc := .call 137 ks b (.p (.agg (Bd RES))) [] [] sm

theorem Uu (p0 : List Int) (p1 : Int) (RES : Bool) (hm : On p0 p1 = some RES) : Spec Tryz.prog 46 [.p (slI p0),pI p1] [] (pB RES) [] [] := by
 unfold On at hm
 refine SO Tryz.func46 rfl rfl [(0,.p (slI p0)),(1,pI p1)] [] ?_
 intro cx hnt
 refine Sq (RD hnt (.no :: []) [] [] [] [] tv ?_)
 refine Sq (Sq (RD hnt (.no :: []) [] [(5,pI 0)] [] [] tv ?_))
 refine Bk ?_
 obtain ⟨hc1,hm⟩ := go1 hm
 refine DW.rangeO (fun (k1 : Nat) (s1 : Unit) => Aj [(0,.p (slI p0)),(1,pI p1),(5,pI ((k1 : Nat) : Int))] []) 0 hm Conv.eqK ?_
 intro k1 s1 n1 hk1 hs1 he1
 refine Sq (Sq (RD hnt (nn 4 []) [] [(9,pB (decide (((k1 : Nat) : Int) < ((p0.length : Nat) : Int))))] [] [] tv ?_))
 refine Cb (decide (((k1 : Nat) : Int) < ((p0.length : Nat) : Int))) ?_ ?_
 ·intro h7
  have hlt1 : k1 < p0.length := by have := of_decide_eq_true h7; omega
  have hm := hs1 hlt1
  unfold Agl at hm
  refine Sk ?_
  refine Sq (Bk ?_)
  refine Sq (RD hnt (nn 6 []) [9] [(17,pB ((p0.getD k1 0) == p1))] [] [] (an (nn0 k1) (an (ltc hlt1) tv)) ?_)
  refine Ae hm ?_ ?_
  ·intro h8 hm
   refine Sq (RK hnt (.no :: []) [(4,pB true)] [] tv ?_)
   obtain rfl := sj hm
   exact DW.ret (Ah [] [] (pB true))
  ·intro h8 hm
   refine Sk ?_
   refine DW.done ?_
   show DW _ _ _ _ _
   refine RD hnt (nn 3 []) [17] [(5,pI (w64 (((k1 : Nat) : Int) + 1)))] [] [] tv ?_
   exact jD () ⟨hlt1,hm⟩ (Conv.tp [(5,pI (w64 (((k1 : Nat) : Int) + 1)))] [] (by kernel_rfl) (.cons rfl (.of_eq (congrArg pI (Bl hlt1 hc1))) .nil) .nil)
 ·intro h7
  have hge1 : ¬ k1 < p0.length := by have := of_decide_eq_false h7; omega
  have hm := he1 hge1
  unfold AfI at hm
  refine DW.exit ?_
  refine Ao ?_
  refine Au ?_
  refine Am ?_
  show DW _ _ _ _ _
  refine Sq (RK hnt (.no :: []) [(4,pB false)] [] tv ?_)
  obtain rfl := sj hm
  exact DW.ret (Ah [] [] (pB false))
abbrev o120 (ks : List Nat) (b : Bool) (RES : Bool) (sm : List Nat := []) : Orc := .call 46 ks b (pB RES) [] [] sm

theorem Io (p0 : Ac) (p1 : Int) (RES : Bool) (hm : Kl p0 p1 = some RES) : Spec Tryz.prog 138 [.p (.agg (Al p0)),pI p1] [] (pB RES) [] [] := by
 unfold Kl at hm
 refine SO Tryz.func138 rfl rfl [(0,.p (.agg (Al p0))),(1,pI p1)] [] ?_
 intro cx hnt
 refine Sq (RK hnt (nn 2 []) [(1,pI p1),(2,rr 1016)] [(1016,bx (pm (Al p0)))] tv ?_)
 obtain ⟨r1,hr1,hm⟩ := bo hm
 refine Sq (RK hnt (nn 3 (o120 [] true r1 :: .no :: [])) [(4,pB r1)] [] (an (Uu p0.stopped p1 r1 hr1) tv) ?_)
 obtain rfl := sj hm
 exact DW.ret (Ah [] [] (pB r1))
abbrev o119 (ks : List Nat) (b : Bool) (RES : Bool) (sm : List Nat := []) : Orc := .call 138 ks b (pB RES) [] [] sm
end Go.Dm


/- Go functions compute their models, printed by a program. -/
namespace Go.Dm
open Go.Proofs
set_option linter.unusedVariables false
theorem Ja (p0 : Ag) (p1 : Ac) (p2 : Int) (RES : Bool) (hm : Hg p0 p1 p2 = some RES) : Spec Tryz.prog 187 [.p (.agg (As p0)),.p (.agg (Al p1)),pI p2] [] (pB RES) [] [] := by
 unfold Hg at hm
 refine SO Tryz.func187 rfl rfl [(0,.p (.agg (As p0))),(1,.p (.agg (Al p1))),(2,pI p2)] [] ?_
 intro cx hnt
 refine Sq (RK hnt (nn 3 []) [(2,pI p2),(3,rr 1024),(4,rr 1032)] [(1024,bx (pm (As p0))),(1032,bx (pm (Al p1)))] tv ?_)
 obtain ⟨r1,hr1,hm⟩ := bo hm
 refine Sq (RD hnt (nn 2 (o82 [] true r1 :: .no :: [])) [2,3] [(7,ow 1088 r1.length)] [1024] [(1088,ob0 (roI r1))] (an (Jx p0 p2 r1 hr1) tv) ?_)
 refine Sq (Sq (RD hnt (.no :: []) [] [(8,pI 0)] [] [] tv ?_))
 refine Bk ?_
 obtain ⟨hc1,hm⟩ := go1 hm
 refine DW.rangeO (fun (k1 : Nat) (s1 : Unit) => Aj [(4,rr 1032),(7,ow 1088 r1.length),(8,pI ((k1 : Nat) : Int))] [(1032,bx (pm (Al p1))),(1088,ob0 (roI r1))]) 0 hm Conv.eqK ?_
 intro k1 s1 n1 hk1 hs1 he1
 refine Sq (Sq (RD hnt (nn 4 []) [] [(15,pB (decide (((k1 : Nat) : Int) < ((r1.length : Nat) : Int))))] [] [] tv ?_))
 refine Cb (decide (((k1 : Nat) : Int) < ((r1.length : Nat) : Int))) ?_ ?_
 ·intro h12
  have hlt1 : k1 < r1.length := by have := of_decide_eq_true h12; omega
  have hm := hs1 hlt1
  unfold Vq at hm
  refine Sk ?_
  refine Sq (Bk ?_)
  obtain ⟨r13,hr13,hm⟩ := bo hm
  refine Sq (RD hnt (nn 5 (o117 [] true r13 :: .no :: [])) [15] [(24,pB r13.want)] [] [] (an (nn0 k1) (an (ltc hlt1) (an (by omega : k1 < r1.length) (an (Acw p1 (r1.getD k1 0) r13 hr13) tv)))) ?_)
  refine Ae hm ?_ ?_
  ·intro h14 hm
   refine Sq (RK hnt (.no :: []) [(6,pB true)] [] tv ?_)
   obtain rfl := sj hm
   exact DW.ret (Ah [] [] (pB true))
  ·intro h14 hm
   refine Sk ?_
   refine DW.done ?_
   show DW _ _ _ _ _
   refine RD hnt (nn 3 []) [24] [(8,pI (w64 (((k1 : Nat) : Int) + 1)))] [] [] tv ?_
   exact jD () ⟨hlt1,hm⟩ (Conv.tp [(8,pI (w64 (((k1 : Nat) : Int) + 1)))] [] (by kernel_rfl) (.cons rfl (.of_eq (congrArg pI (Bl hlt1 hc1))) .nil) .nil)
 ·intro h12
  have hge1 : ¬ k1 < r1.length := by have := of_decide_eq_false h12; omega
  have hm := he1 hge1
  unfold Abt at hm
  refine DW.exit ?_
  refine Ao ?_
  refine Au ?_
  refine Am ?_
  show DW _ _ _ _ _
  refine Sq (RK hnt (.no :: []) [(6,pB false)] [] tv ?_)
  obtain rfl := sj hm
  exact DW.ret (Ah [] [] (pB false))
abbrev o121 (ks : List Nat) (b : Bool) (RES : Bool) (sm : List Nat := []) : Orc := .call 187 ks b (pB RES) [] [] sm

abbrev Nz (p0 : Aa) (k1 : Nat) := (p0.tasks.getD k1 (default : Aw))
abbrev AcT (p0 : Aa) : Nat × Obj := (1016,bx (pm (Ab p0)))
abbrev Adl (p1 : Ac) : Nat × Obj := (1024,bx (pm (Al p1)))
theorem Abp (p0 : Aa) (p1 : Ac) (RES : List Int) (hm : Ib p0 p1 = some RES) : Spec Tryz.prog 189 [.p (.agg (Ab p0)),.p (.agg (Al p1))] [] (ow 0 RES.length) [] [roI RES] := by
 unfold Ib at hm
 refine SO Tryz.func189 rfl rfl [(0,.p (.agg (Ab p0))),(1,.p (.agg (Al p1)))] [] ?_
 intro cx hnt
 refine Sq (RK hnt (nn 3 []) [(2,rr 1016),(3,rr 1024)] [(AcT p0),(Adl p1)] tv ?_)
 refine Sq (RD hnt (.no :: []) [] [(5,.p (.sl .nil 0 0 (fun _ => [])))] [] [] tv ?_)
 refine Sq (Sq (RD hnt (.no :: []) [] [(6,pI 0)] [] [] tv ?_))
 refine Bk ?_
 obtain ⟨hc1,hm⟩ := go1 hm
 refine DW.rangeO (fun (k1 : Nat) (s1 : List Int) => Aj [(2,rr 1016),(3,rr 1024),(5,ow 1336 s1.length),(6,pI ((k1 : Nat) : Int))] [(AcT p0),(Adl p1),(1336,ob0 (roI s1))]) Bt hm (Conv.ads [(.s 5,1336,1,elems Bm 0 [])]) ?_
 intro k1 s1 n1 hk1 hs1 he1
 refine Sq (Sq (RD hnt (nn 5 []) [] [(11,pB (decide (((k1 : Nat) : Int) < ((p0.tasks.length : Nat) : Int))))] [] [] tv ?_))
 refine Cb (decide (((k1 : Nat) : Int) < ((p0.tasks.length : Nat) : Int))) ?_ ?_
 ·intro h18
  have hlt1 : k1 < p0.tasks.length := by have := of_decide_eq_true h18; omega
  have hm := hs1 hlt1
  unfold Yx at hm
  refine Sk ?_
  refine Sq ?_
  refine Jn (ι := List Int) (fun (y5 : List Int) => Aj [(2,rr 1016),(3,rr 1024),(5,ow 1336 y5.length),(6,pI ((k1 : Nat) : Int))] [(AcT p0),(Adl p1),(1336,ob0 (roI y5))]) (fun y5 => (Qw n1) y5 = some RES) ?_ ?_
  ·intro y5 hm
   unfold Qw at hm
   refine RD hnt (nn 3 []) [] [(6,pI (w64 (((k1 : Nat) : Int) + 1)))] [] [] tv ?_
   exact jD y5 ⟨hlt1,hm⟩ (Conv.tp [(6,pI (w64 (((k1 : Nat) : Int) + 1)))] [] (by kernel_rfl) (.cons rfl (.of_eq (congrArg pI (Bl hlt1 hc1))) .nil) .nil)
  ·refine Bk ?_
   obtain ⟨r19,hr19,hm⟩ := bo hm
   refine Sq ?_
   refine Jn (ι := Bool) (fun (y6 : Bool) => Aj [(2,rr 1016),(3,rr 1024),(5,ow 1336 s1.length),(6,pI ((k1 : Nat) : Int)),(33,pB y6)] [(AcT p0),(Adl p1),(1336,ob0 (roI s1))]) (fun y6 => (Qh (Nz p0 k1) s1 n1) y6 = some RES) ?_ ?_
   ·intro y6 hm
    unfold Qh at hm
    refine Ae hm ?_ ?_
    ·intro h22 hm
     obtain ⟨g23,hm⟩ := go1 hm
     refine RN hnt (nn 10 []) [(2,rr 1016),(3,rr 1024),(5,ow 1336 (s1 ++ [(Nz p0 k1).id]).length),(6,pI ((k1 : Nat) : Int))] [(AcT p0),(Adl p1),(1336,ob0 (roI (s1 ++ [(Nz p0 k1).id])))] [(5,ow 1336 (s1.length + 1))] [(1336,.row 1 (s1.length + 1) (Cp s1.length (elI s1) (cut 1 [vi (Nz p0 k1).id])))] (an (nn0 k1) (an (ltc hlt1) (an (by omega : (s1.length + 1) * 8 ≤ 140737488355328) tv))) (by kernel_rfl) (.cons rfl (MLe.ownLen (enc := Bm) (d := 0) (f := (Cp s1.length (elI s1) (cut 1 [vi (Nz p0 k1).id]))) (RowIs.cat RowIs.elems (RowIs.lit (enc := Bm) (d := 0) (n := 1) (f := (cut 1 [vi (Nz p0 k1).id])) [(Nz p0 k1).id] rfl (fun | 0,_ => rfl | n + 1,h => absurd h (by omega))))) .nil) (.cons rfl (BLe.typed (RowIs.cat RowIs.elems (RowIs.lit (enc := Bm) (d := 0) (n := 1) (f := (cut 1 [vi (Nz p0 k1).id])) [(Nz p0 k1).id] rfl (fun | 0,_ => rfl | n + 1,h => absurd h (by omega))))) .nil) ?_
     exact bD (s1 ++ [(Nz p0 k1).id]) hm .refl
    ·intro h22 hm
     refine Sk ?_
     exact bD s1 hm Conv.t0
   ·rcases bt r19 with h20 | h20
    ·replace hm := Bf h20 hm
     obtain ⟨r21,hr21,hm⟩ := bo hm
     refine RD hnt (nn 7 (o119 [] true r19 :: nn 10 (o121 [] true r21 :: pT :: []))) [11] [(33,pB r21)] [] [] (an (nn0 k1) (an (ltc hlt1) (an (Io p1 (Nz p0 k1).id r19 hr19) (an h20 (an6 h20 (an (nn0 k1) (an (ltc hlt1) (an3 h20 (an (Ja p0.tree p1 (Nz p0 k1).group r21 hr21) (an h20 tv)))))))))) ?_
     exact jD r21 hm Conv.eqK
    ·replace hm := Be h20 hm
     refine RD hnt (nn 7 (o119 [] true r19 :: .no :: sk 10 (pF :: []))) [11] [(33,pB false)] [] [] (an (nn0 k1) (an (ltc hlt1) (an (Io p1 (Nz p0 k1).id r19 hr19) (an5 h20 (an6 h20 tv))))) ?_
     exact jD false hm Conv.eqK
 ·intro h18
  have hge1 : ¬ k1 < p0.tasks.length := by have := of_decide_eq_false h18; omega
  have hm := he1 hge1
  unfold Aai at hm
  refine DW.exit ?_
  refine Ao ?_
  refine Au ?_
  refine Am ?_
  show DW _ _ _ _ _
  refine Sq (RK hnt (nn 2 []) [(4,ow 1336 s1.length)] [(1336,ob0 (roI s1))] tv ?_)
  obtain rfl := sj hm
  exact DW.ret (Ah [roI s1] [1336] (ow 0 s1.length))
abbrev o118 (ks : List Nat) (b : Bool) (RES : List Int) (sm : List Nat := []) : Orc := .call 189 ks b (ow 0 RES.length) [] [roI RES] sm

theorem AaL (p0 : Aa) (p1 : Ac) (p2 : Int) (RES : Bool) (hm : Pi p0 p1 p2 = some RES) : Spec Tryz.prog 190 [.p (.agg (Ab p0)),.p (.agg (Al p1)),pI p2] [] (pB RES) [] [] := by
 unfold Pi at hm
 refine SO Tryz.func190 rfl rfl [(0,.p (.agg (Ab p0))),(1,.p (.agg (Al p1))),(2,pI p2)] [] ?_
 intro cx hnt
 refine Sq (RK hnt (nn 3 []) [(2,pI p2),(3,rr 1024),(4,rr 1032)] [(1024,bx (pm (Ab p0))),(1032,bx (pm (Al p1)))] tv ?_)
 obtain ⟨r1,hr1,hm⟩ := bo hm
 refine Sq (Sq (RD hnt (nn 4 (o121 [] true r1 :: .no :: [])) [] [(13,pB (!r1))] [] [] (an (Ja p0.tree p1 p2 r1 hr1) tv) ?_))
 refine Ae hm ?_ ?_
 ·intro h2 hm
  refine Sq (RK hnt (.no :: []) [(6,pB false)] [] tv ?_)
  obtain rfl := sj hm
  exact DW.ret (Ah [] [] (pB false))
 ·intro h2 hm
  refine Sk ?_
  refine Sq (Sq (RD hnt (.no :: []) [13] [(7,pI 0)] [] [] tv ?_))
  refine Bk ?_
  obtain ⟨hc1,hm⟩ := go1 hm
  refine DW.rangeO (fun (k1 : Nat) (s1 : Unit) => Aj [(2,pI p2),(3,rr 1024),(4,rr 1032),(7,pI ((k1 : Nat) : Int))] [(1024,bx (pm (Ab p0))),(1032,bx (pm (Al p1)))]) Bt hm Conv.eqK ?_
  intro k1 s1 n1 hk1 hs1 he1
  refine Sq (Sq (RD hnt (nn 5 []) [] [(18,pB (decide (((k1 : Nat) : Int) < ((p0.tasks.length : Nat) : Int))))] [] [] tv ?_))
  refine Cb (decide (((k1 : Nat) : Int) < ((p0.tasks.length : Nat) : Int))) ?_ ?_
  ·intro h19
   have hlt1 : k1 < p0.tasks.length := by have := of_decide_eq_true h19; omega
   have hm := hs1 hlt1
   unfold Xg at hm
   refine Sk ?_
   refine Sq (Bk ?_)
   obtain ⟨r20,hr20,hm⟩ := bo hm
   obtain ⟨r21,hr21,hm⟩ := bo hm
   refine Sq ?_
   refine Jn (ι := Bool) (fun (y3 : Bool) => Aj [(2,pI p2),(3,rr 1024),(4,rr 1032),(7,pI ((k1 : Nat) : Int)),(42,pB y3)] [(1024,bx (pm (Ab p0))),(1032,bx (pm (Al p1)))]) (fun y3 => (Oz n1) y3 = some RES) ?_ ?_
   ·intro y3 hm
    unfold Oz at hm
    refine Ae hm ?_ ?_
    ·intro h24 hm
     refine Sq (RK hnt (.no :: []) [(6,pB false)] [] tv ?_)
     obtain rfl := sj hm
     exact DW.ret (Ah [] [] (pB false))
    ·intro h24 hm
     refine Sk ?_
     refine DW.done ?_
     show DW _ _ _ _ _
     refine RD hnt (nn 3 []) [42] [(7,pI (w64 (((k1 : Nat) : Int) + 1)))] [] [] tv ?_
     exact jD () ⟨hlt1,hm⟩ (Conv.tp [(7,pI (w64 (((k1 : Nat) : Int) + 1)))] [] (by kernel_rfl) (.cons rfl (.of_eq (congrArg pI (Bl hlt1 hc1))) .nil) .nil)
   ·rcases bt r21 with h22 | h22
    ·replace hm := Bf h22 hm
     obtain ⟨r23,hr23,hm⟩ := bo hm
     refine RD hnt (nn 8 (o82 [] true r20 :: .no :: o120 [] true r21 :: nn 8 (o119 [] true r23 :: .no :: pT :: []))) [18] [(42,pB (!r23))] [] [] (an (nn0 k1) (an (ltc hlt1) (an (Jx p0.tree (p0.tasks.getD k1 (default : Aw)).group r20 hr20) (an (Uu r20 p2 r21 hr21) (an5 h22 (an (nn0 k1) (an (ltc hlt1) (an3 h22 (an (Io p1 (p0.tasks.getD k1 (default : Aw)).id r23 hr23) (an2 h22 tv)))))))))) ?_
     exact jD (!r23) hm Conv.eqK
    ·replace hm := Be h22 hm
     refine RD hnt (nn 8 (o82 [] true r20 :: .no :: o120 [] true r21 :: .no :: sk 9 (pF :: []))) [18] [(42,pB false)] [] [] (an (nn0 k1) (an (ltc hlt1) (an (Jx p0.tree (p0.tasks.getD k1 (default : Aw)).group r20 hr20) (an (Uu r20 p2 r21 hr21) (an4 h22 (an6 h22 tv)))))) ?_
     exact jD false hm Conv.eqK
  ·intro h19
   have hge1 : ¬ k1 < p0.tasks.length := by have := of_decide_eq_false h19; omega
   have hm := he1 hge1
   unfold AcI at hm
   refine DW.exit ?_
   refine Ao ?_
   refine Au ?_
   refine Am ?_
   show DW _ _ _ _ _
   refine Sq (RK hnt (.no :: []) [(6,pB true)] [] tv ?_)
   obtain rfl := sj hm
   exact DW.ret (Ah [] [] (pB true))
abbrev o123 (ks : List Nat) (b : Bool) (RES : Bool) (sm : List Nat := []) : Orc := .call 190 ks b (pB RES) [] [] sm

abbrev Adz : Nat × Obj := (1032,bx [.p (.sl .nil 0 0 (fun _ => [])),.p (.sl .nil 0 0 (fun _ => []))])
abbrev Si (p1 : Ac) (k1 : Nat) := (p1.frosts.getD k1 (default : Ai))
abbrev AdG (p0 : Aa) : Nat × Obj := (1016,bx (pm (Ab p0)))
abbrev AcV (p1 : Ac) : Nat × Obj := (1024,bx (pm (Al p1)))
theorem Tu (p0 : Aa) (p1 : Ac) (RES : Ac) (hm : Gl p0 p1 = some RES) : Spec Tryz.prog 188 [.p (.agg (Ab p0)),.p (.agg (Al p1))] [] (.agg [ow 0 RES.frosts.length,ow 1 RES.stopped.length]) [] [Af RES.frosts,roI RES.stopped] := by
 unfold Gl at hm
 refine SO Tryz.func188 rfl rfl [(0,.p (.agg (Ab p0))),(1,.p (.agg (Al p1)))] [] ?_
 intro cx hnt
 refine Sq (RK hnt (nn 3 []) [(2,rr 1016),(3,rr 1024),(4,rr 1032)] [(AdG p0),(AcV p1),(Adz)] tv ?_)
 obtain ⟨g1,hm⟩ := go1 hm
 refine Sq (RN hnt (nn 6 []) [(2,rr 1016),(3,rr 1024),(4,rr 1032),(5,rr 1040)] [(AdG p0),(AcV p1),(Adz),(1040,bx [.p (.sl .nil 0 0 (fun _ => [])),ow 1088 p1.stopped.length]),(1088,ob0 (roI p1.stopped))] [] [(1088,.row 1 p1.stopped.length (elI p1.stopped))] (an (by omega : p1.stopped.length * 8 ≤ 140737488355328) tv) (by kernel_rfl) .nil (.cons rfl (BLe.typed RowIs.elems) .nil) ?_)
 refine Sq (Sq (RD hnt (.no :: []) [] [(6,pI 0)] [] [] tv ?_))
 refine Bk ?_
 obtain ⟨hc1,hm⟩ := go1 hm
 refine DW.rangeO (fun (k1 : Nat) (s1 : List Ai) => Aj [(2,rr 1016),(3,rr 1024),(4,rr 1032),(5,rr 1040),(6,pI ((k1 : Nat) : Int))] [(AdG p0),(AcV p1),(Adz),(1040,bx [ow 1360 s1.length,ow 1088 p1.stopped.length]),(1088,ob0 (roI p1.stopped)),(1360,ob0 (Af s1))]) Bh hm (Conv.ads [(.o 1040 0,1360,4,elems Bd Bh [])]) ?_
 intro k1 s1 n1 hk1 hs1 he1
 refine Sq (Sq (RD hnt (nn 5 []) [] [(17,pB (decide (((k1 : Nat) : Int) < ((p1.frosts.length : Nat) : Int))))] [] [] tv ?_))
 refine Cb (decide (((k1 : Nat) : Int) < ((p1.frosts.length : Nat) : Int))) ?_ ?_
 ·intro h11
  have hlt1 : k1 < p1.frosts.length := by have := of_decide_eq_true h11; omega
  have hm := hs1 hlt1
  unfold Xj at hm
  refine Sk ?_
  refine Sq (Bk ?_)
  refine Sq (RD hnt (nn 7 []) [17] [(7,rr 1056)] [] [(1056,bx (pm (Bd (Si p1 k1))))] (an (nn0 k1) (an (ltc hlt1) tv)) ?_)
  obtain ⟨r12,hr12,hm⟩ := bo hm
  refine Sq (Sq (RD hnt (nn 4 (o123 [] true r12 :: .no :: [])) [] [(8,pB r12)] [] [] (an (AaL p0 p1 (Si p1 k1).group r12 hr12) tv) ?_))
  refine Sq (RD hnt (nn 4 []) [] [(33,pB (r12 != (Si p1 k1).frozen))] [] [] tv ?_)
  refine Jn (ι := Ai) (fun (y3 : Ai) => Aj [(2,rr 1016),(3,rr 1024),(4,rr 1032),(5,rr 1040),(6,pI ((k1 : Nat) : Int)),(7,rr 1056)] [(AdG p0),(AcV p1),(Adz),(1040,bx [ow 1360 s1.length,ow 1088 p1.stopped.length]),(1056,bx (pm (Bd y3))),(1088,ob0 (roI p1.stopped)),(1360,ob0 (Af s1))]) (fun y3 => (Mc s1 n1) y3 = some RES) ?_ ?_
  ·intro y3 hm
   unfold Mc at hm
   obtain ⟨g14,hm⟩ := go1 hm
   refine RN hnt (nn 7 []) [(2,rr 1016),(3,rr 1024),(4,rr 1032),(5,rr 1040),(6,pI ((k1 : Nat) : Int))] [(AdG p0),(AcV p1),(Adz),(1040,bx [ow 1360 (s1 ++ [y3]).length,ow 1088 p1.stopped.length]),(1088,ob0 (roI p1.stopped)),(1360,ob0 (Af (s1 ++ [y3])))] [] [(1040,.box [ow 1360 (s1.length + 1),ow 1088 p1.stopped.length]),(1360,.row 4 (s1.length + 1) (Cp s1.length (Kg s1) (cut 4 [vi y3.group,vb y3.want,vb y3.frozen,vi y3.changes])))] (an (by omega : (s1.length + 1) * 24 ≤ 140737488355328) tv) (by kernel_rfl) .nil (.cons rfl (.box (.cons (MLe.ownLen (enc := Bd) (d := Bh) (f := (Cp s1.length (Kg s1) (cut 4 [vi y3.group,vb y3.want,vb y3.frozen,vi y3.changes]))) (RowIs.cat RowIs.elems (RowIs.lit (enc := Bd) (d := Bh) (n := 1) (f := (cut 4 [vi y3.group,vb y3.want,vb y3.frozen,vi y3.changes])) [y3] rfl (fun | 0,_ => rfl | n + 1,h => absurd h (by omega))))) (.cons .rfl .nil))) (.cons rfl (BLe.typed (RowIs.cat RowIs.elems (RowIs.lit (enc := Bd) (d := Bh) (n := 1) (f := (cut 4 [vi y3.group,vb y3.want,vb y3.frozen,vi y3.changes])) [y3] rfl (fun | 0,_ => rfl | n + 1,h => absurd h (by omega))))) .nil)) ?_
   refine DW.done ?_
   show DW _ _ _ _ _
   refine RD hnt (nn 3 []) [] [(6,pI (w64 (((k1 : Nat) : Int) + 1)))] [] [] tv ?_
   exact jD (s1 ++ [y3]) ⟨hlt1,hm⟩ (Conv.tp [(6,pI (w64 (((k1 : Nat) : Int) + 1)))] [] (by kernel_rfl) (.cons rfl (.of_eq (congrArg pI (Bl hlt1 hc1))) .nil) .nil)
  ·refine Ae hm ?_ ?_
   ·intro h13 hm
    refine RD hnt (nn 9 []) [8,33] [] [] [(1056,bx [pI (Si p1 k1).group,pB (Si p1 k1).want,pB r12,pI (Mt (w64 ((Si p1 k1).changes + 1)) 1099511627776)])] tv ?_
    exact jD ({ group := (Si p1 k1).group,want := (Si p1 k1).want,frozen := r12,changes := (Mt (w64 ((Si p1 k1).changes + 1)) 1099511627776) } : Ai) hm Conv.eqK
   ·intro h13 hm
    refine Sk ?_
    exact jD (Si p1 k1) hm Conv.t0
 ·intro h11
  have hge1 : ¬ k1 < p1.frosts.length := by have := of_decide_eq_false h11; omega
  have hm := he1 hge1
  unfold AcE at hm
  refine DW.exit ?_
  refine Ao ?_
  refine Au ?_
  refine Am ?_
  show DW _ _ _ _ _
  refine Sq (RD hnt (nn 2 []) [2,3,5,6,17] [] [1016,1024,1040] [(1032,bx [ow 1360 s1.length,ow 1088 p1.stopped.length])] tv ?_)
  obtain rfl := sj hm
  exact DW.ret (Ah [Af s1,roI p1.stopped] [1360,1088] (.agg [ow 0 s1.length,ow 1 p1.stopped.length]))
abbrev o122 (ks : List Nat) (b : Bool) (RES : Ac) (sm : List Nat := []) : Orc := .call 188 ks b (.agg [ow 0 RES.frosts.length,ow 1 RES.stopped.length]) [] [Af RES.frosts,roI RES.stopped] sm

abbrev AfB : Nat × Obj := (1032,bx [.p (.sl .nil 0 0 (fun _ => [])),.p (.sl .nil 0 0 (fun _ => []))])
abbrev AdA (r20 : Ai) := (Vk 0 (Mt r20.changes 1099511627776))
theorem Afn (p0 : Aa) (p1 : Ac) (RES : Ac × Int) (hm : My p0 p1 = some RES) : Spec Tryz.prog 134 [.p (.agg (Ab p0)),.p (.agg (Al p1))] [] (.tup [.agg [ow 0 RES.1.frosts.length,ow 1 RES.1.stopped.length],pI RES.2]) [] [Af RES.1.frosts,roI RES.1.stopped] := by
 unfold My at hm
 refine SO Tryz.func134 rfl rfl [(0,.p (.agg (Ab p0))),(1,.p (.agg (Al p1)))] [] ?_
 intro cx hnt
 refine Sq (RK hnt (nn 4 []) [(2,rr 1016),(3,rr 1024),(4,rr 1032)] [(1016,bx (pm (Ab p0))),(1024,bx (pm (Al p1))),(AfB)] tv ?_)
 obtain ⟨r1,hr1,hm⟩ := bo hm
 refine Sq (Sq (RD hnt (.no :: o93 [] true r1 :: .no :: []) [] [(11,pB (!r1))] [] [] (an (Dz p0 r1 hr1) tv) ?_))
 refine Ae hm ?_ ?_
 ·intro h2 hm
  refine Sq (RD hnt (nn 3 []) [2,3,11] [(5,pI 1)] [1016,1024] [] tv ?_)
  refine DW.cv [] [] [] [(1032,bx [ow 100000 0,ow 100001 0]),(100000,ob0 (Af [])),(100001,ob0 (roI []))] (Conv.ads [(.o 1032 0,100000,4,elems Bd Bh []),(.o 1032 1,100001,1,elems Bm 0 [])]) ?_
  obtain rfl := sj hm
  exact DW.ret (Ah [Af [],roI []] [100000,100001] (.tup [.agg [ow 0 0,ow 1 0],pI 1]))
 ·intro h2 hm
  refine Sk ?_
  refine Sq (RD hnt (nn 3 []) [11] [(6,rr 1048)] [] [(1048,bx [.p (.sl .nil 0 0 (fun _ => [])),.p (.sl .nil 0 0 (fun _ => []))])] tv ?_)
  refine Sq (Sq (RD hnt (.no :: []) [] [(7,pI 0)] [] [] tv ?_))
  refine Bk ?_
  obtain ⟨hc1,hm⟩ := go1 hm
  refine DW.rangeO (fun (k1 : Nat) (s1 : List Ai) => Aj [(2,rr 1016),(3,rr 1024),(4,rr 1032),(6,rr 1048),(7,pI ((k1 : Nat) : Int))] [(1016,bx (pm (Ab p0))),(1024,bx (pm (Al p1))),(AfB),(1048,bx [ow 1384 s1.length,.p (.sl .nil 0 0 (fun _ => []))]),(1384,ob0 (Af s1))]) Bj hm (Conv.ads [(.o 1048 0,1384,4,elems Bd Bh [])]) ?_
  intro k1 s1 n1 hk1 hs1 he1
  refine Sq (Sq (RD hnt (nn 6 []) [] [(19,pB (decide (((k1 : Nat) : Int) < ((p0.tree.nodes.length : Nat) : Int))))] [] [] tv ?_))
  refine Cb (decide (((k1 : Nat) : Int) < ((p0.tree.nodes.length : Nat) : Int))) ?_ ?_
  ·intro h19
   have hlt1 : k1 < p0.tree.nodes.length := by have := of_decide_eq_true h19; omega
   have hm := hs1 hlt1
   unfold Vt at hm
   refine Sk ?_
   refine Sq (Bk ?_)
   obtain ⟨r20,hr20,hm⟩ := bo hm
   refine Sq (RD hnt (nn 8 (o117 [] true r20 :: nn 2 [])) [19] [(8,rr 1064)] [] [(1064,bx (pm (Bd r20)))] (an (nn0 k1) (an (ltc hlt1) (an (Acw p1 (p0.tree.nodes.getD k1 (default : An)).id r20 hr20) tv))) ?_)
   refine Sq (RD hnt (nn 6 []) [] [] [] [(1064,bx [pI r20.group,pB r20.want,pB r20.frozen,pI (AdA r20)])] tv ?_)
   refine Sq ?_
   refine Jn (ι := Ai) (fun (y3 : Ai) => Aj [(2,rr 1016),(3,rr 1024),(4,rr 1032),(6,rr 1048),(7,pI ((k1 : Nat) : Int)),(8,rr 1064)] [(1016,bx (pm (Ab p0))),(1024,bx (pm (Al p1))),(AfB),(1048,bx [ow 1384 s1.length,.p (.sl .nil 0 0 (fun _ => []))]),(1064,bx (pm (Bd y3))),(1384,ob0 (Af s1))]) (fun y3 => (Na s1 n1) y3 = some RES) ?_ ?_
   ·intro y3 hm
    unfold Na at hm
    obtain ⟨g22,hm⟩ := go1 hm
    refine RN hnt (nn 7 []) [(2,rr 1016),(3,rr 1024),(4,rr 1032),(6,rr 1048),(7,pI ((k1 : Nat) : Int))] [(1016,bx (pm (Ab p0))),(1024,bx (pm (Al p1))),(AfB),(1048,bx [ow 1384 (s1 ++ [y3]).length,.p (.sl .nil 0 0 (fun _ => []))]),(1384,ob0 (Af (s1 ++ [y3])))] [] [(1048,.box [ow 1384 (s1.length + 1),.p (.sl .nil 0 0 (fun _ => []))]),(1384,.row 4 (s1.length + 1) (Cp s1.length (Kg s1) (cut 4 [vi y3.group,vb y3.want,vb y3.frozen,vi y3.changes])))] (an (by omega : (s1.length + 1) * 24 ≤ 140737488355328) tv) (by kernel_rfl) .nil (.cons rfl (.box (.cons (MLe.ownLen (enc := Bd) (d := Bh) (f := (Cp s1.length (Kg s1) (cut 4 [vi y3.group,vb y3.want,vb y3.frozen,vi y3.changes]))) (RowIs.cat RowIs.elems (RowIs.lit (enc := Bd) (d := Bh) (n := 1) (f := (cut 4 [vi y3.group,vb y3.want,vb y3.frozen,vi y3.changes])) [y3] rfl (fun | 0,_ => rfl | n + 1,h => absurd h (by omega))))) (.cons .rfl .nil))) (.cons rfl (BLe.typed (RowIs.cat RowIs.elems (RowIs.lit (enc := Bd) (d := Bh) (n := 1) (f := (cut 4 [vi y3.group,vb y3.want,vb y3.frozen,vi y3.changes])) [y3] rfl (fun | 0,_ => rfl | n + 1,h => absurd h (by omega))))) .nil)) ?_
    refine DW.done ?_
    show DW _ _ _ _ _
    refine RD hnt (nn 3 []) [] [(7,pI (w64 (((k1 : Nat) : Int) + 1)))] [] [] tv ?_
    exact jD (s1 ++ [y3]) ⟨hlt1,hm⟩ (Conv.tp [(7,pI (w64 (((k1 : Nat) : Int) + 1)))] [] (by kernel_rfl) (.cons rfl (.of_eq (congrArg pI (Bl hlt1 hc1))) .nil) .nil)
   ·rcases bt r20.want with h21 | h21
    ·replace hm := Bf h21 hm
     refine RD hnt (nn 6 (pT :: nn 2 [])) [] [] [] [(1064,bx [pI r20.group,pB (r20.group != 1),pB r20.frozen,pI (AdA r20)])] (an4 h21 tv) ?_
     exact jD ({ group := r20.group,want := (r20.group != 1),frozen := r20.frozen,changes := (AdA r20) } : Ai) hm Conv.eqK
    ·replace hm := Be h21 hm
     refine RD hnt (nn 3 (sk 3 (pF :: nn 2 []))) [] [] [] [(1064,bx [pI r20.group,pB false,pB r20.frozen,pI (AdA r20)])] (an4 h21 tv) ?_
     exact jD ({ group := r20.group,want := false,frozen := r20.frozen,changes := (AdA r20) } : Ai) hm Conv.eqK
  ·intro h19
   have hge1 : ¬ k1 < p0.tree.nodes.length := by have := of_decide_eq_false h19; omega
   have hm := he1 hge1
   unfold Ra at hm
   refine DW.exit ?_
   refine Ao ?_
   refine Au ?_
   refine Am ?_
   show DW _ _ _ _ _
   refine Sq (RD hnt (nn 4 []) [3,7,19] [] [1024] [(1048,bx [ow 1384 s1.length,.p (slI p1.stopped)])] tv ?_)
   refine Sq (DW.cv [] [] [1384] [(1048,bx [.p (Ec s1),.p (slI p1.stopped)])] (Conv.frz [1384]) ?_)
   obtain ⟨r24,hr24,hm⟩ := bo hm
   refine RD hnt (nn 2 (o118 [] true r24 :: nn 2 [])) [] [] [] [(1048,bx [.p (Ec s1),ow 1440 r24.length]),(1440,ob0 (roI r24))] (an (Abp p0 ({ frosts := s1,stopped := p1.stopped } : Ac) r24 hr24) tv) ?_
   refine Sq (DW.cv [] [] [1440] [(1048,bx [.p (Ec s1),.p (slI r24)])] (Conv.frz [1440]) ?_)
   obtain ⟨r26,hr26,hm⟩ := bo hm
   refine RK hnt (nn 2 (o122 [] true r26 :: nn 2 [])) [(4,rr 1032),(5,pI 0)] [(1032,bx [ow 1472 r26.frosts.length,ow 1473 r26.stopped.length]),(1472,ob0 (Af r26.frosts)),(1473,ob0 (roI r26.stopped))] (an (Tu p0 ({ frosts := s1,stopped := r24 } : Ac) r26 hr26) tv) ?_
   obtain rfl := sj hm
   exact DW.ret (Ah [Af r26.frosts,roI r26.stopped] [1472,1473] (.tup [.agg [ow 0 r26.frosts.length,ow 1 r26.stopped.length],pI 0]))
abbrev o116 (ks : List Nat) (b : Bool) (RES : Ac × Int) (sm : List Nat := []) : Orc := .call 134 ks b (.tup [.agg [ow 0 RES.1.frosts.length,ow 1 RES.1.stopped.length],pI RES.2]) [] [Af RES.1.frosts,roI RES.1.stopped] sm

theorem Ahr (p0 : Aa) (RES : Ac) (hm : Wo p0 = some RES) : Spec Tryz.prog 129 [.p (.agg (Ab p0))] [] (.agg [ow 0 RES.frosts.length,ow 1 RES.stopped.length]) [] [Af RES.frosts,roI RES.stopped] := by
 unfold Wo at hm
 refine SO Tryz.func129 rfl rfl [(0,.p (.agg (Ab p0)))] [] ?_
 intro cx hnt
 refine Sq (RK hnt (nn 2 []) [(1,rr 1008),(2,rr 1016)] [(1008,bx (pm (Ab p0))),(1016,bx [.p (.sl .nil 0 0 (fun _ => [])),.p (.sl .nil 0 0 (fun _ => []))])] tv ?_)
 obtain ⟨r1,hr1,hm⟩ := bo hm
 refine Sq (RD hnt (nn 2 (o116 [] true r1 :: nn 6 [])) [1] [(3,rr 1024)] [1008] [(1024,bx [ow 1064 r1.1.frosts.length,ow 1065 r1.1.stopped.length]),(1064,ob0 (Af r1.1.frosts)),(1065,ob0 (roI r1.1.stopped))] (an (Spec.args (xs := [.p (.agg (Ab p0)),.p (.agg [.sl .nil 0 0 (fun _ => []),.sl .nil 0 0 (fun _ => [])])]) (Afn p0 ({ frosts := [],stopped := [] } : Ac) r1 hr1) (.cons .rfl (.cons (.p (.agg (.cons PLe.nilL (.cons PLe.nilL .nil)))) .nil))) tv) ?_)
 refine Sq (RD hnt (nn 2 []) [3] [] [1024] [(1016,bx [ow 1064 r1.1.frosts.length,ow 1065 r1.1.stopped.length])] tv ?_)
 obtain rfl := sj hm
 exact DW.ret (Ah [Af r1.1.frosts,roI r1.1.stopped] [1064,1065] (.agg [ow 0 r1.1.frosts.length,ow 1 r1.1.stopped.length]))
abbrev o115 (ks : List Nat) (b : Bool) (RES : Ac) (sm : List Nat := []) : Orc := .call 129 ks b (.agg [ow 0 RES.frosts.length,ow 1 RES.stopped.length]) [] [Af RES.frosts,roI RES.stopped] sm

abbrev Sc (p1 : Aa) (k1 : Nat) := (p1.tasks.getD k1 (default : Aw))
abbrev Adf (p1 : Aa) : Nat × Obj := (1032,bx (pm (Ab p1)))
theorem AcK (p0 : Ar) (p1 : Aa) (p2 : Bool) (RES : (List Int) × Ar) (hm : Mm p0 p1 p2 = some RES) : Spec Tryz.prog 56 [rr 0,.p (.agg (Ab p1)),pB p2] [.box (pm (Ap p0))] (ow 1 RES.1.length) [.box (pm (Ap RES.2))] [roI RES.1] := by
 unfold Mm at hm
 refine SO Tryz.func56 rfl rfl [(0,rr 0),(1,.p (.agg (Ab p1))),(2,pB p2)] [(0,bx (pm (Ap p0)))] ?_
 intro cx hnt
 refine Sq (RD hnt (nn 2 []) [1] [(4,rr 1032)] [] [(Adf p1)] tv ?_)
 refine Sq (RD hnt (.no :: []) [] [(7,.p (.sl .nil 0 0 (fun _ => [])))] [] [] tv ?_)
 refine Sq (Sq (RD hnt (.no :: []) [] [(8,pI 0)] [] [] tv ?_))
 refine Bk ?_
 obtain ⟨hc1,hm⟩ := go1 hm
 refine DW.rangeO (fun (k1 : Nat) (s1 : Ar × (List Int)) => Aj [(0,rr 0),(2,pB p2),(4,rr 1032),(7,ow 1240 s1.2.length),(8,pI ((k1 : Nat) : Int))] [(0,bx (pm (Ap s1.1))),(Adf p1),(1240,ob0 (roI s1.2))]) Bt hm (Conv.ads [(.s 7,1240,1,elems Bm 0 [])]) ?_
 intro k1 s1 n1 hk1 hs1 he1
 refine Sq (Sq (RD hnt (nn 5 []) [] [(13,pB (decide (((k1 : Nat) : Int) < ((p1.tasks.length : Nat) : Int))))] [] [] tv ?_))
 refine Cb (decide (((k1 : Nat) : Int) < ((p1.tasks.length : Nat) : Int))) ?_ ?_
 ·intro h12
  have hlt1 : k1 < p1.tasks.length := by have := of_decide_eq_true h12; omega
  have hm := hs1 hlt1
  unfold Rr at hm
  refine Sk ?_
  refine Sq ?_
  refine Jn (ι := Ar × (List Int)) (fun (y5 : Ar × (List Int)) => Aj [(0,rr 0),(2,pB p2),(4,rr 1032),(7,ow 1240 y5.2.length),(8,pI ((k1 : Nat) : Int))] [(0,bx (pm (Ap y5.1))),(Adf p1),(1240,ob0 (roI y5.2))]) (fun y5 => (Ko n1) y5 = some RES) ?_ ?_
  ·intro y5 hm
   unfold Ko at hm
   refine RD hnt (nn 3 []) [] [(8,pI (w64 (((k1 : Nat) : Int) + 1)))] [] [] tv ?_
   exact jD (y5.1,y5.2) ⟨hlt1,hm⟩ (Conv.tp [(8,pI (w64 (((k1 : Nat) : Int) + 1)))] [] (by kernel_rfl) (.cons rfl (.of_eq (congrArg pI (Bl hlt1 hc1))) .nil) .nil)
  ·refine Bk ?_
   refine Sq ?_
   refine Jn (ι := Ar × Bool) (fun (y6 : Ar × Bool) => Aj [(0,rr 0),(2,pB p2),(4,rr 1032),(7,ow 1240 s1.2.length),(8,pI ((k1 : Nat) : Int)),(21,pB y6.2)] [(0,bx (pm (Ap y6.1))),(Adf p1),(1240,ob0 (roI s1.2))]) (fun y6 => (Ip (Sc p1 k1) s1 n1) y6 = some RES) ?_ ?_
   ·intro y6 hm
    unfold Ip at hm
    refine Ae hm ?_ ?_
    ·intro h15 hm
     obtain ⟨g16,hm⟩ := go1 hm
     refine RN hnt (nn 10 []) [(0,rr 0),(2,pB p2),(4,rr 1032),(7,ow 1240 (s1.2 ++ [(Sc p1 k1).id]).length),(8,pI ((k1 : Nat) : Int))] [(0,bx (pm (Ap y6.1))),(Adf p1),(1240,ob0 (roI (s1.2 ++ [(Sc p1 k1).id])))] [(7,ow 1240 (s1.2.length + 1))] [(1240,.row 1 (s1.2.length + 1) (Cp s1.2.length (elI s1.2) (cut 1 [vi (Sc p1 k1).id])))] (an (nn0 k1) (an (ltc hlt1) (an (by omega : (s1.2.length + 1) * 8 ≤ 140737488355328) tv))) (by kernel_rfl) (.cons rfl (MLe.ownLen (enc := Bm) (d := 0) (f := (Cp s1.2.length (elI s1.2) (cut 1 [vi (Sc p1 k1).id]))) (RowIs.cat RowIs.elems (RowIs.lit (enc := Bm) (d := 0) (n := 1) (f := (cut 1 [vi (Sc p1 k1).id])) [(Sc p1 k1).id] rfl (fun | 0,_ => rfl | n + 1,h => absurd h (by omega))))) .nil) (.cons rfl (BLe.typed (RowIs.cat RowIs.elems (RowIs.lit (enc := Bm) (d := 0) (n := 1) (f := (cut 1 [vi (Sc p1 k1).id])) [(Sc p1 k1).id] rfl (fun | 0,_ => rfl | n + 1,h => absurd h (by omega))))) .nil) ?_
     exact bD (y6.1,(s1.2 ++ [(Sc p1 k1).id])) hm .refl
    ·intro h15 hm
     refine Sk ?_
     exact bD (y6.1,s1.2) hm Conv.t0
   ·rcases bt p2 with h13 | h13
    ·replace hm := Bf h13 hm
     refine RD hnt (nn 2 (sk 3 (pT :: []))) [13] [(21,pB true)] [] [] (an4 h13 tv) ?_
     exact jD (s1.1,true) hm Conv.eqK
    ·replace hm := Be h13 hm
     obtain ⟨r14,hr14,hm⟩ := bo hm
     refine RD hnt (nn 3 (o72 [0] true r14 :: .no :: pF :: [])) [13] [(21,pB (decide (r14.1 > 0)))] [] [(0,bx (pm (Ap r14.2)))] (an2 h13 (an (Bo s1.1 4 r14 hr14) (an tv (an2 h13 tv)))) ?_
     exact jD (r14.2,(decide (r14.1 > 0))) hm Conv.eqK
 ·intro h12
  have hge1 : ¬ k1 < p1.tasks.length := by have := of_decide_eq_false h12; omega
  have hm := he1 hge1
  unfold Xx at hm
  refine DW.exit ?_
  refine Ao ?_
  refine Au ?_
  refine Am ?_
  show DW _ _ _ _ _
  refine Sq (RD hnt (nn 2 []) [0,2,4,7,8,13] [(6,ow 1240 s1.2.length)] [1032] [] tv ?_)
  obtain rfl := sj hm
  exact DW.ret (Ah [.box (pm (Ap s1.1)),roI s1.2] [1240] (ow 1 s1.2.length))
abbrev o124 (ks : List Nat) (b : Bool) (RES : (List Int) × Ar) (sm : List Nat := []) : Orc := .call 56 ks b (ow 1 RES.1.length) [.box (pm (Ap RES.2))] [roI RES.1] sm

abbrev Za (p0 : Aa) : Nat × Obj := (1016,bx (pm (Ab p0)))
abbrev Zf (p1 : Ac) : Nat × Obj := (1024,bx (pm (Al p1)))
abbrev AcR (p1 : Ac) (k1 : Nat) := (p1.frosts.getD k1 (default : Ai))
theorem Aao (p0 : Aa) (p1 : Ac) (RES : Bool) (hm : Pj p0 p1 = some RES) : Spec Tryz.prog 135 [.p (.agg (Ab p0)),.p (.agg (Al p1))] [] (pB RES) [] [] := by
 unfold Pj at hm
 refine SO Tryz.func135 rfl rfl [(0,.p (.agg (Ab p0))),(1,.p (.agg (Al p1)))] [] ?_
 intro cx hnt
 refine Sq (RK hnt (nn 3 []) [(2,rr 1016),(3,rr 1024)] [(Za p0),(Zf p1)] tv ?_)
 obtain ⟨r1,hr1,hm⟩ := bo hm
 refine Sq (Sq ?_)
 refine Jn (ι := Bool) (fun (y1 : Bool) => Aj [(2,rr 1016),(3,rr 1024),(23,pB y1)] [(Za p0),(Zf p1)]) (fun y1 => (Pc p0 p1) y1 = some RES) ?_ ?_
 ·intro y1 hm
  unfold Pc at hm
  refine Ae hm ?_ ?_
  ·intro h3 hm
   refine Sq (RK hnt (.no :: []) [(4,pB false)] [] tv ?_)
   obtain rfl := sj hm
   exact DW.ret (Ah [] [] (pB false))
  ·intro h3 hm
   refine Sk ?_
   refine Sq (Sq (RD hnt (.no :: []) [23] [(5,pI 0)] [] [] tv ?_))
   refine Bk ?_
   obtain ⟨hc1,hm⟩ := go1 hm
   refine DW.rangeO (fun (k1 : Nat) (s1 : Unit) => Aj [(2,rr 1016),(3,rr 1024),(5,pI ((k1 : Nat) : Int))] [(Za p0),(Zf p1)]) Bh hm Conv.eqK ?_
   intro k1 s1 n1 hk1 hs1 he1
   refine Sq (Sq (RD hnt (nn 5 []) [] [(28,pB (decide (((k1 : Nat) : Int) < ((p1.frosts.length : Nat) : Int))))] [] [] tv ?_))
   refine Cb (decide (((k1 : Nat) : Int) < ((p1.frosts.length : Nat) : Int))) ?_ ?_
   ·intro h119
    have hlt1 : k1 < p1.frosts.length := by have := of_decide_eq_true h119; omega
    have hm := hs1 hlt1
    unfold Xo at hm
    refine Sk ?_
    refine Sq (Bk ?_)
    refine Sq (RD hnt (nn 7 []) [28] [(6,rr 1048)] [] [(1048,bx (pm (Bd (AcR p1 k1))))] (an (nn0 k1) (an (ltc hlt1) tv)) ?_)
    obtain ⟨g120,hm⟩ := go1 hm
    refine Sq ?_
    refine Jn (ι := Bool) (fun (y10 : Bool) => Aj [(2,rr 1016),(3,rr 1024),(5,pI ((k1 : Nat) : Int)),(55,pB y10)] [(Za p0),(Zf p1)]) (fun y10 => (Ld n1) y10 = some RES) ?_ ?_
    ·intro y10 hm
     unfold Ld at hm
     refine Ae hm ?_ ?_
     ·intro h124 hm
      refine Sq (RK hnt (.no :: []) [(4,pB false)] [] tv ?_)
      obtain rfl := sj hm
      exact DW.ret (Ah [] [] (pB false))
     ·intro h124 hm
      refine Sk ?_
      refine DW.done ?_
      show DW _ _ _ _ _
      refine RD hnt (nn 3 []) [55] [(5,pI (w64 (((k1 : Nat) : Int) + 1)))] [] [] tv ?_
      exact jD () ⟨hlt1,hm⟩ (Conv.tp [(5,pI (w64 (((k1 : Nat) : Int) + 1)))] [] (by kernel_rfl) (.cons rfl (.of_eq (congrArg pI (Bl hlt1 hc1))) .nil) .nil)
    ·rcases bt ((AcR p1 k1).group != (p0.tree.nodes.getD k1 Bj).id) with h121 | h121
     ·replace hm := Bf h121 hm
      refine RD hnt (nn 11 (sk 3 (pT :: .no :: sk 3 (pT :: [])))) [6] [(55,pB true)] [1048] [] (an (nn0 k1) (an (ltc g120) (an4 h121 (an4 tt tv)))) ?_
      exact jD true hm Conv.eqK
     ·replace hm := Be h121 hm
      rcases bt (decide ((AcR p1 k1).changes < 0)) with h122 | h122
      ·replace hm := Bf h122 hm
       refine RD hnt (nn 14 (pF :: .no :: sk 3 (pT :: []))) [6] [(55,pB true)] [1048] [] (an (nn0 k1) (an (ltc g120) (an4 h121 (an4 h122 tv)))) ?_
       exact jD true hm Conv.eqK
      ·replace hm := Be h122 hm
       refine RD hnt (nn 14 (pF :: nn 4 (pF :: []))) [6] [(55,pB (decide ((AcR p1 k1).changes > 1099511627776)))] [1048] [] (an (nn0 k1) (an (ltc g120) (an4 h121 (an4 h122 tv)))) ?_
       exact jD (decide ((AcR p1 k1).changes > 1099511627776)) hm Conv.eqK
   ·intro h119
    have hge1 : ¬ k1 < p1.frosts.length := by have := of_decide_eq_false h119; omega
    have hm := he1 hge1
    unfold Xs at hm
    refine DW.exit ?_
    refine Ao ?_
    refine Au ?_
    refine Am ?_
    show DW _ _ _ _ _
    refine Sq (Sq (RD hnt (.no :: []) [5,28] [(7,pI 0)] [] [] tv ?_))
    refine Bk ?_
    obtain ⟨hc10,hm⟩ := go1 hm
    refine DW.rangeO (fun (k10 : Nat) (s10 : Unit) => Aj [(2,rr 1016),(3,rr 1024),(7,pI ((k10 : Nat) : Int))] [(Za p0),(Zf p1)]) 0 hm Conv.eqK ?_
    intro k10 s10 n10 hk10 hs10 he10
    refine Sq (Sq (RD hnt (nn 5 []) [] [(60,pB (decide (((k10 : Nat) : Int) < ((p1.stopped.length : Nat) : Int))))] [] [] tv ?_))
    refine Cb (decide (((k10 : Nat) : Int) < ((p1.stopped.length : Nat) : Int))) ?_ ?_
    ·intro h173
     have hlt10 : k10 < p1.stopped.length := by have := of_decide_eq_true h173; omega
     have hm := hs10 hlt10
     unfold Vm at hm
     refine Sk ?_
     refine Sq (Bk ?_)
     obtain ⟨r174,hr174,hm⟩ := bo hm
     refine Sq (RD hnt (nn 6 (o98 [] true r174 :: nn 6 [])) [60] [(8,rr 1064),(9,pB r174.2)] [] [(1064,bx (pm (Ay r174.1)))] (an (nn0 k10) (an (ltc hlt10) (an (Md p0 (p1.stopped.getD k10 0) r174 hr174) tv))) ?_)
     refine Sq ?_
     refine Jn (ι := Bool) (fun (y13 : Bool) => Aj [(2,rr 1016),(3,rr 1024),(7,pI ((k10 : Nat) : Int)),(101,pB y13)] [(Za p0),(Zf p1)]) (fun y13 => (Hs n10) y13 = some RES) ?_ ?_
     ·intro y13 hm
      unfold Hs at hm
      refine Ae hm ?_ ?_
      ·intro h181 hm
       refine Sq (RK hnt (.no :: []) [(4,pB false)] [] tv ?_)
       obtain rfl := sj hm
       exact DW.ret (Ah [] [] (pB false))
      ·intro h181 hm
       refine Sk ?_
       refine DW.done ?_
       show DW _ _ _ _ _
       refine RD hnt (nn 3 []) [101] [(7,pI (w64 (((k10 : Nat) : Int) + 1)))] [] [] tv ?_
       exact jD () ⟨hlt10,hm⟩ (Conv.tp [(7,pI (w64 (((k10 : Nat) : Int) + 1)))] [] (by kernel_rfl) (.cons rfl (.of_eq (congrArg pI (Bl hlt10 hc10))) .nil) .nil)
     ·rcases bt (!r174.2) with h175 | h175
      ·replace hm := Bf h175 hm
       refine RD hnt (nn 3 (sk 16 (pT :: .no :: sk 7 (pT :: [])))) [8,9] [(101,pB true)] [1064] [] (an5 h175 (an2 tt (an6 tt tv))) ?_
       exact jD true hm Conv.eqK
      ·replace hm := Be h175 hm
       rcases bt (decide (((k10 : Nat) : Int) > 0)) with h176 | h176
       ·replace hm := Bf h176 hm
        obtain ⟨g177,hm⟩ := go1 hm
        rcases bt (decide ((p1.stopped.getD k10 0) ≤ (p1.stopped.getD (Int.toNat (w64 (((k10 : Nat) : Int) - 1))) 0))) with h178 | h178
        ·replace hm := Bf h178 hm
         refine RD hnt (nn 18 (pT :: pF :: .no :: sk 7 (pT :: []))) [8,9] [(101,pB true)] [1064] [] (an3 h175 (an4 h176 (an (nn0 k10) (an (ltc hlt10) (an6 h176 (an g177.1 (an g177.2 (an2 h176 (an h175 (an h176 (an h175 (an2 h178 (an6 h178 tv))))))))))))) ?_
         exact jD true hm Conv.eqK
        ·replace hm := Be h178 hm
         obtain ⟨r179,hr179,hm⟩ := bo hm
         refine RD hnt (nn 18 (pT :: pF :: nn 6 (o121 [] true r179 :: .no :: pF :: []))) [8,9] [(101,pB (!r179))] [1064] [] (an3 h175 (an4 h176 (an (nn0 k10) (an (ltc hlt10) (an6 h176 (an g177.1 (an g177.2 (an2 h176 (an h175 (an h176 (an h175 (an6 h178 (an (Ja p0.tree p1 r174.1.group r179 hr179) (an2 h178 tv)))))))))))))) ?_
         exact jD (!r179) hm Conv.eqK
       ·replace hm := Be h176 hm
        obtain ⟨r180,hr180,hm⟩ := bo hm
        refine RD hnt (nn 6 (sk 12 (pF :: pF :: nn 6 (o121 [] true r180 :: .no :: pF :: [])))) [8,9] [(101,pB (!r180))] [1064] [] (an3 h175 (an6 h176 (an6 h176 (an h175 (an h176 (an h175 (an6 ff (an (Ja p0.tree p1 r174.1.group r180 hr180) (an2 ff tv))))))))) ?_
        exact jD (!r180) hm Conv.eqK
    ·intro h173
     have hge10 : ¬ k10 < p1.stopped.length := by have := of_decide_eq_false h173; omega
     have hm := he10 hge10
     unfold Vj at hm
     refine DW.exit ?_
     refine Ao ?_
     refine Au ?_
     refine Am ?_
     show DW _ _ _ _ _
     refine Sq (Sq (RD hnt (.no :: []) [7,60] [(10,pI 0)] [] [] tv ?_))
     refine Bk ?_
     obtain ⟨hc13,hm⟩ := go1 hm
     refine DW.rangeO (fun (k13 : Nat) (s13 : Unit) => Aj [(2,rr 1016),(3,rr 1024),(10,pI ((k13 : Nat) : Int))] [(Za p0),(Zf p1)]) Bh hm Conv.eqK ?_
     intro k13 s13 n13 hk13 hs13 he13
     refine Sq (Sq (RD hnt (nn 5 []) [] [(106,pB (decide (((k13 : Nat) : Int) < ((p1.frosts.length : Nat) : Int))))] [] [] tv ?_))
     refine Cb (decide (((k13 : Nat) : Int) < ((p1.frosts.length : Nat) : Int))) ?_ ?_
     ·intro h192
      have hlt13 : k13 < p1.frosts.length := by have := of_decide_eq_true h192; omega
      have hm := hs13 hlt13
      unfold Vu at hm
      refine Sk ?_
      refine Sq (Bk ?_)
      obtain ⟨r193,hr193,hm⟩ := bo hm
      refine Sq (RD hnt (nn 14 (o123 [] true r193 :: .no :: [])) [106] [(124,pB ((p1.frosts.getD k13 (default : Ai)).frozen != r193))] [] [] (an (nn0 k13) (an (ltc hlt13) (an (nn0 k13) (an (ltc hlt13) (an (AaL p0 p1 (p1.frosts.getD k13 (default : Ai)).group r193 hr193) tv))))) ?_)
      refine Ae hm ?_ ?_
      ·intro h194 hm
       refine Sq (RK hnt (.no :: []) [(4,pB false)] [] tv ?_)
       obtain rfl := sj hm
       exact DW.ret (Ah [] [] (pB false))
      ·intro h194 hm
       refine Sk ?_
       refine DW.done ?_
       show DW _ _ _ _ _
       refine RD hnt (nn 3 []) [124] [(10,pI (w64 (((k13 : Nat) : Int) + 1)))] [] [] tv ?_
       exact jD () ⟨hlt13,hm⟩ (Conv.tp [(10,pI (w64 (((k13 : Nat) : Int) + 1)))] [] (by kernel_rfl) (.cons rfl (.of_eq (congrArg pI (Bl hlt13 hc13))) .nil) .nil)
     ·intro h192
      have hge13 : ¬ k13 < p1.frosts.length := by have := of_decide_eq_false h192; omega
      have hm := he13 hge13
      unfold AbD at hm
      refine DW.exit ?_
      refine Ao ?_
      refine Au ?_
      refine Am ?_
      show DW _ _ _ _ _
      refine Sq (RK hnt (.no :: []) [(4,pB true)] [] tv ?_)
      obtain rfl := sj hm
      exact DW.ret (Ah [] [] (pB true))
 ·rcases bt (!r1) with h2 | h2
  ·replace hm := Bf h2 hm
   refine RD hnt (.no :: o93 [] true r1 :: nn 2 (sk 8 (pT :: []))) [] [(23,pB true)] [] [] (an (Dz p0 r1 hr1) (an3 h2 (an6 h2 tv))) ?_
   exact jD true hm Conv.eqK
  ·replace hm := Be h2 hm
   refine RD hnt (.no :: o93 [] true r1 :: nn 10 (pF :: [])) [] [(23,pB (((p1.frosts.length : Nat) : Int) != ((p0.tree.nodes.length : Nat) : Int)))] [] [] (an (Dz p0 r1 hr1) (an3 h2 (an6 h2 tv))) ?_
   exact jD (((p1.frosts.length : Nat) : Int) != ((p0.tree.nodes.length : Nat) : Int)) hm Conv.eqK
abbrev o126 (ks : List Nat) (b : Bool) (RES : Bool) (sm : List Nat := []) : Orc := .call 135 ks b (pB RES) [] [] sm

abbrev It (p0 : Aa) (k1 : Nat) := (p0.tasks.getD k1 (default : Aw))
abbrev Adw : Nat × Obj := (1048,bx [.p (.sl .nil 0 0 (fun _ => [])),.p (.sl .nil 0 0 (fun _ => []))])
abbrev AdY (p0 : Aa) : Nat × Obj := (1024,bx (pm (Ab p0)))
abbrev Adt (p1 : Ac) : Nat × Obj := (1032,bx (pm (Al p1)))
theorem Agp (p0 : Aa) (p1 : Ac) (p2 : List Int) (RES : Ac × Int) (hm : Tv p0 p1 p2 = some RES) : Spec Tryz.prog 130 [.p (.agg (Ab p0)),.p (.agg (Al p1)),.p (slI p2)] [] (.tup [.agg [ow 0 RES.1.frosts.length,ow 1 RES.1.stopped.length],pI RES.2]) [] [Af RES.1.frosts,roI RES.1.stopped] := by
 unfold Tv at hm
 refine SO Tryz.func130 rfl rfl [(0,.p (.agg (Ab p0))),(1,.p (.agg (Al p1))),(2,.p (slI p2))] [] ?_
 intro cx hnt
 refine Sq (RK hnt (nn 4 []) [(2,.p (slI p2)),(3,rr 1024),(4,rr 1032),(6,rr 1048)] [(AdY p0),(Adt p1),(Adw)] tv ?_)
 obtain ⟨r1,hr1,hm⟩ := bo hm
 refine Sq (Sq (RD hnt (nn 2 (o126 [] true r1 :: .no :: [])) [] [(14,pB (!r1))] [] [] (an (Aao p0 p1 r1 hr1) tv) ?_))
 refine Ae hm ?_ ?_
 ·intro h2 hm
  refine Sq (RD hnt (nn 3 []) [2,3,4,14] [(7,pI 1)] [1024,1032] [] tv ?_)
  refine DW.cv [] [] [] [(1048,bx [ow 100000 0,ow 100001 0]),(100000,ob0 (Af [])),(100001,ob0 (roI []))] (Conv.ads [(.o 1048 0,100000,4,elems Bd Bh []),(.o 1048 1,100001,1,elems Bm 0 [])]) ?_
  obtain rfl := sj hm
  exact DW.ret (Ah [Af [],roI []] [100000,100001] (.tup [.agg [ow 0 0,ow 1 0],pI 1]))
 ·intro h2 hm
  refine Sk ?_
  refine Sq (RD hnt (.no :: []) [14] [(8,.p (.sl .nil 0 0 (fun _ => [])))] [] [] tv ?_)
  refine Sq (Sq (RD hnt (.no :: []) [] [(9,pI 0)] [] [] tv ?_))
  refine Bk ?_
  obtain ⟨hc1,hm⟩ := go1 hm
  refine DW.rangeO (fun (k1 : Nat) (s1 : List Int) => Aj [(2,.p (slI p2)),(3,rr 1024),(4,rr 1032),(6,rr 1048),(8,ow 1408 s1.length),(9,pI ((k1 : Nat) : Int))] [(AdY p0),(Adt p1),(Adw),(1408,ob0 (roI s1))]) Bt hm (Conv.ads [(.s 8,1408,1,elems Bm 0 [])]) ?_
  intro k1 s1 n1 hk1 hs1 he1
  refine Sq (Sq (RD hnt (nn 5 []) [] [(20,pB (decide (((k1 : Nat) : Int) < ((p0.tasks.length : Nat) : Int))))] [] [] tv ?_))
  refine Cb (decide (((k1 : Nat) : Int) < ((p0.tasks.length : Nat) : Int))) ?_ ?_
  ·intro h23
   have hlt1 : k1 < p0.tasks.length := by have := of_decide_eq_true h23; omega
   have hm := hs1 hlt1
   unfold Aae at hm
   refine Sk ?_
   refine Sq ?_
   refine Jn (ι := List Int) (fun (y5 : List Int) => Aj [(2,.p (slI p2)),(3,rr 1024),(4,rr 1032),(6,rr 1048),(8,ow 1408 y5.length),(9,pI ((k1 : Nat) : Int))] [(AdY p0),(Adt p1),(Adw),(1408,ob0 (roI y5))]) (fun y5 => (Qu n1) y5 = some RES) ?_ ?_
   ·intro y5 hm
    unfold Qu at hm
    refine RD hnt (nn 3 []) [] [(9,pI (w64 (((k1 : Nat) : Int) + 1)))] [] [] tv ?_
    exact jD y5 ⟨hlt1,hm⟩ (Conv.tp [(9,pI (w64 (((k1 : Nat) : Int) + 1)))] [] (by kernel_rfl) (.cons rfl (.of_eq (congrArg pI (Bl hlt1 hc1))) .nil) .nil)
   ·refine Bk ?_
    refine Sq (RD hnt (nn 7 []) [20] [(10,rr 1080)] [] [(1080,bx (pm (Ay (It p0 k1))))] (an (nn0 k1) (an (ltc hlt1) tv)) ?_)
    obtain ⟨r24,hr24,hm⟩ := bo hm
    refine Sq ?_
    refine Jn (ι := Bool) (fun (y6 : Bool) => Aj [(2,.p (slI p2)),(3,rr 1024),(4,rr 1032),(6,rr 1048),(8,ow 1408 s1.length),(9,pI ((k1 : Nat) : Int)),(10,rr 1080),(46,pB y6)] [(AdY p0),(Adt p1),(Adw),(1080,bx (pm (Ay (It p0 k1)))),(1408,ob0 (roI s1))]) (fun y6 => (Nf (It p0 k1) s1 n1) y6 = some RES) ?_ ?_
    ·intro y6 hm
     unfold Nf at hm
     refine Ae hm ?_ ?_
     ·intro h29 hm
      obtain ⟨g30,hm⟩ := go1 hm
      refine RN hnt (nn 6 []) [(2,.p (slI p2)),(3,rr 1024),(4,rr 1032),(6,rr 1048),(8,ow 1408 (s1 ++ [(It p0 k1).id]).length),(9,pI ((k1 : Nat) : Int))] [(AdY p0),(Adt p1),(Adw),(1408,ob0 (roI (s1 ++ [(It p0 k1).id])))] [(8,ow 1408 (s1.length + 1))] [(1408,.row 1 (s1.length + 1) (Cp s1.length (elI s1) (cut 1 [vi (It p0 k1).id])))] (an (by omega : (s1.length + 1) * 8 ≤ 140737488355328) tv) (by kernel_rfl) (.cons rfl (MLe.ownLen (enc := Bm) (d := 0) (f := (Cp s1.length (elI s1) (cut 1 [vi (It p0 k1).id]))) (RowIs.cat RowIs.elems (RowIs.lit (enc := Bm) (d := 0) (n := 1) (f := (cut 1 [vi (It p0 k1).id])) [(It p0 k1).id] rfl (fun | 0,_ => rfl | n + 1,h => absurd h (by omega))))) .nil) (.cons rfl (BLe.typed (RowIs.cat RowIs.elems (RowIs.lit (enc := Bm) (d := 0) (n := 1) (f := (cut 1 [vi (It p0 k1).id])) [(It p0 k1).id] rfl (fun | 0,_ => rfl | n + 1,h => absurd h (by omega))))) .nil) ?_
      exact bD (s1 ++ [(It p0 k1).id]) hm .refl
     ·intro h29 hm
      refine Sk ?_
      exact bD s1 hm Conv.t0
    ·rcases bt r24 with h25 | h25
     ·replace hm := Bf h25 hm
      refine RD hnt (nn 3 (o119 [] true r24 :: .no :: sk 13 (pT :: []))) [] [(46,pB true)] [] [] (an (Io p1 (It p0 k1).id r24 hr24) (an3 h25 (an6 h25 tv))) ?_
      exact jD true hm Conv.eqK
     ·replace hm := Be h25 hm
      obtain ⟨r26,hr26,hm⟩ := bo hm
      rcases bt r26 with h27 | h27
      ·replace hm := Bf h27 hm
       obtain ⟨r28,hr28,hm⟩ := bo hm
       refine RD hnt (nn 3 (o119 [] true r24 :: nn 6 (o121 [] true r26 :: nn 4 (o120 [] true r28 :: .no :: pT :: pF :: [])))) [] [(46,pB (!r28))] [] [] (an (Io p1 (It p0 k1).id r24 hr24) (an6 h25 (an (Ja p0.tree p1 (It p0 k1).group r26 hr26) (an h25 (an4 h27 (an (Uu p2 (It p0 k1).id r28 hr28) (an h27 (an h25 (an h27 (an h25 tv)))))))))) ?_
       exact jD (!r28) hm Conv.eqK
      ·replace hm := Be h27 hm
       refine RD hnt (nn 3 (o119 [] true r24 :: nn 6 (o121 [] true r26 :: .no :: sk 5 (pF :: pF :: [])))) [] [(46,pB false)] [] [] (an (Io p1 (It p0 k1).id r24 hr24) (an6 h25 (an (Ja p0.tree p1 (It p0 k1).group r26 hr26) (an h25 (an5 h27 (an h25 (an h27 (an h25 tv)))))))) ?_
       exact jD false hm Conv.eqK
  ·intro h23
   have hge1 : ¬ k1 < p0.tasks.length := by have := of_decide_eq_false h23; omega
   have hm := he1 hge1
   unfold Un at hm
   refine DW.exit ?_
   refine Ao ?_
   refine Au ?_
   refine Am ?_
   show DW _ _ _ _ _
   refine Sq (DW.cv [] [(8,.p (slI s1))] [1408] [] (Conv.frz [1408]) ?_)
   obtain ⟨r32,hr32,hm⟩ := bo hm
   refine RK hnt (nn 5 (o122 [] true r32 :: nn 2 [])) [(6,rr 1048),(7,pI 0)] [(1048,bx [ow 1456 r32.frosts.length,ow 1457 r32.stopped.length]),(1456,ob0 (Af r32.frosts)),(1457,ob0 (roI r32.stopped))] (an (Tu p0 ({ frosts := p1.frosts,stopped := s1 } : Ac) r32 hr32) tv) ?_
   obtain rfl := sj hm
   exact DW.ret (Ah [Af r32.frosts,roI r32.stopped] [1456,1457] (.tup [.agg [ow 0 r32.frosts.length,ow 1 r32.stopped.length],pI 0]))
abbrev o125 (ks : List Nat) (b : Bool) (RES : Ac × Int) (sm : List Nat := []) : Orc := .call 130 ks b (.tup [.agg [ow 0 RES.1.frosts.length,ow 1 RES.1.stopped.length],pI RES.2]) [] [Af RES.1.frosts,roI RES.1.stopped] sm

abbrev Adr (s1 : (List Ai) × Int) (p3 : Bool) := ({ group := (s1.1.getD (Int.toNat s1.2) Bh).group,want := p3,frozen := (s1.1.getD (Int.toNat s1.2) Bh).frozen,changes := (s1.1.getD (Int.toNat s1.2) Bh).changes } : Ai)
abbrev AdJ : Nat × Obj := (1064,bx [.p (.sl .nil 0 0 (fun _ => [])),.p (.sl .nil 0 0 (fun _ => []))])
abbrev c127e3 (s1 : (List Ai) × Int) (p3 : Bool) := (Cc (Kg s1.1) (Int.toNat s1.2) [vi (s1.1.getD (Int.toNat s1.2) Bh).group,vb p3,vb (s1.1.getD (Int.toNat s1.2) Bh).frozen,vi (s1.1.getD (Int.toNat s1.2) Bh).changes])
abbrev AcX (p0 : Aa) : Nat × Obj := (1032,bx (pm (Ab p0)))
theorem Ahs (p0 : Aa) (p1 : Ac) (p2 : Int) (p3 : Bool) (RES : Ac × Int) (hm : Wx p0 p1 p2 p3 = some RES) : Spec Tryz.prog 131 [.p (.agg (Ab p0)),.p (.agg (Al p1)),pI p2,pB p3] [] (.tup [.agg [ow 0 RES.1.frosts.length,ow 1 RES.1.stopped.length],pI RES.2]) [] [Af RES.1.frosts,roI RES.1.stopped] := by
 unfold Wx at hm
 refine SO Tryz.func131 rfl rfl [(0,.p (.agg (Ab p0))),(1,.p (.agg (Al p1))),(2,pI p2),(3,pB p3)] [] ?_
 intro cx hnt
 refine Sq (RD hnt (nn 4 []) [0,1] [(4,rr 1032),(5,rr 1040),(8,rr 1064)] [] [(AcX p0),(1040,bx (pm (Al p1))),(AdJ)] tv ?_)
 refine Sq (Bk ?_)
 obtain ⟨r1,hr1,hm⟩ := bo hm
 refine Sq (RD hnt (nn 2 (o126 [] true r1 :: nn 2 [])) [] [(11,pB (!r1))] [] [] (an (Aao p0 p1 r1 hr1) tv) ?_)
 refine Ae hm ?_ ?_
 ·intro h2 hm
  refine Sq (RD hnt (nn 3 []) [2,3,4,5,11] [(9,pI 1)] [1032,1040] [] tv ?_)
  refine DW.cv [] [] [] [(1064,bx [ow 100000 0,ow 100001 0]),(100000,ob0 (Af [])),(100001,ob0 (roI []))] (Conv.ads [(.o 1064 0,100000,4,elems Bd Bh []),(.o 1064 1,100001,1,elems Bm 0 [])]) ?_
  obtain rfl := sj hm
  exact DW.ret (Ah [Af [],roI []] [100000,100001] (.tup [.agg [ow 0 0,ow 1 0],pI 1]))
 ·intro h2 hm
  obtain ⟨r3,hr3,hm⟩ := bo hm
  refine Sq (RD hnt (nn 3 (o79 [] true r3 :: nn 2 [])) [11] [(17,pB (!r3))] [] [] (an (Cu p0.tree p2 r3 hr3) tv) ?_)
  refine Ae hm ?_ ?_
  ·intro h4 hm
   refine Sq (RD hnt (nn 3 []) [2,3,4,5,17] [(9,pI 4)] [1032,1040] [] tv ?_)
   refine DW.cv [] [] [] [(1064,bx [ow 100000 0,ow 100001 0]),(100000,ob0 (Af [])),(100001,ob0 (roI []))] (Conv.ads [(.o 1064 0,100000,4,elems Bd Bh []),(.o 1064 1,100001,1,elems Bm 0 [])]) ?_
   obtain rfl := sj hm
   exact DW.ret (Ah [Af [],roI []] [100000,100001] (.tup [.agg [ow 0 0,ow 1 0],pI 4]))
  ·intro h4 hm
   refine Sq (RD hnt (nn 3 []) [17] [(24,pB (p2 == 1))] [] [] tv ?_)
   refine Ae hm ?_ ?_
   ·intro h5 hm
    refine Sq (RD hnt (nn 3 []) [2,3,4,5,24] [(9,pI 9)] [1032,1040] [] tv ?_)
    refine DW.cv [] [] [] [(1064,bx [ow 100000 0,ow 100001 0]),(100000,ob0 (Af [])),(100001,ob0 (roI []))] (Conv.ads [(.o 1064 0,100000,4,elems Bd Bh []),(.o 1064 1,100001,1,elems Bm 0 [])]) ?_
    obtain rfl := sj hm
    exact DW.ret (Ah [Af [],roI []] [100000,100001] (.tup [.agg [ow 0 0,ow 1 0],pI 9]))
   ·intro h5 hm
    refine Sk ?_
    refine DW.done ?_
    show DW _ _ _ _ _
    obtain ⟨g6,hm⟩ := go1 hm
    refine Sq (RN hnt (nn 5 []) [(2,pI p2),(3,pB p3),(4,rr 1032),(5,rr 1040),(8,rr 1064)] [(AcX p0),(1040,bx [ow 1240 p1.frosts.length,.p (slI p1.stopped)]),(AdJ),(1240,ob0 (Af p1.frosts))] [] [(1240,.row 4 p1.frosts.length (Kg p1.frosts))] (an (by omega : p1.frosts.length * 24 ≤ 140737488355328) tv) (by kernel_rfl) .nil (.cons rfl (BLe.typed RowIs.elems) .nil) ?_)
    refine Sq (Sq (RD hnt (.no :: []) [] [(10,pI 0)] [] [] tv ?_))
    refine Bk ?_
    refine DW.whileO (fun (s1 : (List Ai) × Int) => Aj [(2,pI p2),(3,pB p3),(4,rr 1032),(5,rr 1040),(8,rr 1064),(10,pI s1.2)] [(AcX p0),(1040,bx [ow 1240 s1.1.length,.p (slI p1.stopped)]),(AdJ),(1240,ob0 (Af s1.1))]) hm Conv.eqK ?_
    intro s1 n1 hm
    unfold Wa at hm
    refine Sq (Sq (RD hnt (nn 5 []) [] [(36,pB (decide (s1.2 < ((s1.1.length : Nat) : Int))))] [] [] tv ?_))
    refine Ae hm ?_ ?_
    ·intro h17 hm
     refine Sk ?_
     refine Sq ?_
     refine Jn (ι := List Ai) (fun (y2 : List Ai) => Aj [(2,pI p2),(3,pB p3),(4,rr 1032),(5,rr 1040),(8,rr 1064),(10,pI s1.2)] [(AcX p0),(1040,bx [ow 1240 y2.length,.p (slI p1.stopped)]),(AdJ),(1240,ob0 (Af y2))]) (fun y2 => (Rx s1 n1) y2 = some RES) ?_ ?_
     ·intro y2 hm
      unfold Rx at hm
      refine RD hnt (nn 3 []) [] [(10,pI (w64 (s1.2 + 1)))] [] [] tv ?_
      exact jD (y2,(w64 (s1.2 + 1))) hm Conv.eqK
     ·refine Bk ?_
      obtain ⟨g18,g19,hm⟩ := go2 hm
      refine Sq (RD hnt (nn 8 []) [36] [(46,pB ((s1.1.getD (Int.toNat s1.2) Bh).group == p2))] [] [] (an g18.1 (an g18.2 (an g19 tv))) ?_)
      refine Ae hm ?_ ?_
      ·intro h20 hm
       obtain ⟨g21,g22,hm⟩ := go2 hm
       refine RN hnt (nn 7 []) [(2,pI p2),(3,pB p3),(4,rr 1032),(5,rr 1040),(8,rr 1064),(10,pI s1.2)] [(AcX p0),(1040,bx [ow 1240 (s1.1.set (Int.toNat s1.2) (Adr s1 p3)).length,.p (slI p1.stopped)]),(AdJ),(1240,ob0 (Af (s1.1.set (Int.toNat s1.2) (Adr s1 p3))))] [] [(1040,.box [ow 1240 s1.1.length,.p (slI p1.stopped)]),(1240,.row 4 s1.1.length (c127e3 s1 p3))] (an g21.1 (an g21.2 (an g22 tv))) (by kernel_rfl) .nil (.cons rfl (.box (.cons (MLe.ownLen (enc := Bd) (d := Bh) (f := (c127e3 s1 p3)) (RowIs.upd RowIs.elems (Adr s1 p3) rfl)) (.cons .rfl .nil))) (.cons rfl (BLe.typed (RowIs.upd RowIs.elems (Adr s1 p3) rfl)) .nil)) ?_
       exact bD (s1.1.set (Int.toNat s1.2) (Adr s1 p3)) hm .refl
      ·intro h20 hm
       refine Sk ?_
       exact bD s1.1 hm Conv.t0
    ·intro h17 hm
     refine DW.exit ?_
     refine Ao ?_
     refine Au ?_
     refine Am ?_
     show DW _ _ _ _ _
     refine Sq (DW.cv [] [] [1240] [(1040,bx [.p (Ec s1.1),.p (slI p1.stopped)])] (Conv.frz [1240]) ?_)
     obtain ⟨r24,hr24,hm⟩ := bo hm
     refine RD hnt (nn 2 (o118 [] true r24 :: nn 2 [])) [2,3,10,36] [] [] [(1040,bx [.p (Ec s1.1),ow 1440 r24.length]),(1440,ob0 (roI r24))] (an (Abp p0 ({ frosts := s1.1,stopped := p1.stopped } : Ac) r24 hr24) tv) ?_
     refine Sq (DW.cv [] [] [1440] [(1040,bx [.p (Ec s1.1),.p (slI r24)])] (Conv.frz [1440]) ?_)
     obtain ⟨r26,hr26,hm⟩ := bo hm
     refine RK hnt (nn 2 (o122 [] true r26 :: nn 2 [])) [(8,rr 1064),(9,pI 0)] [(1064,bx [ow 1472 r26.frosts.length,ow 1473 r26.stopped.length]),(1472,ob0 (Af r26.frosts)),(1473,ob0 (roI r26.stopped))] (an (Tu p0 ({ frosts := s1.1,stopped := r24 } : Ac) r26 hr26) tv) ?_
     obtain rfl := sj hm
     exact DW.ret (Ah [Af r26.frosts,roI r26.stopped] [1472,1473] (.tup [.agg [ow 0 r26.frosts.length,ow 1 r26.stopped.length],pI 0]))
abbrev o127 (ks : List Nat) (b : Bool) (RES : Ac × Int) (sm : List Nat := []) : Orc := .call 131 ks b (.tup [.agg [ow 0 RES.1.frosts.length,ow 1 RES.1.stopped.length],pI RES.2]) [] [Af RES.1.frosts,roI RES.1.stopped] sm

abbrev AdE : Nat × Obj := (1048,bx [.p (.sl .nil 0 0 (fun _ => [])),.p (.sl .nil 0 0 (fun _ => []))])
abbrev Ada (p1 : Aa) : Nat × Obj := (1032,bx (pm (Ab p1)))
theorem Abs (p0 : Ar) (p1 : Aa) (p2 : Int) (RES : Ac × Ar) (hm : Km p0 p1 p2 = some RES) : Spec Tryz.prog 60 [rr 0,.p (.agg (Ab p1)),pI p2] [.box (pm (Ap p0))] (.p (.agg (Al RES.1))) [.box (pm (Ap RES.2))] [] := by
 unfold Km at hm
 refine SO Tryz.func60 rfl rfl [(0,rr 0),(1,.p (.agg (Ab p1))),(2,pI p2)] [(0,bx (pm (Ap p0)))] ?_
 intro cx hnt
 refine Sq (RD hnt (nn 2 []) [1] [(4,rr 1032),(6,rr 1048)] [] [(Ada p1),(AdE)] tv ?_)
 obtain ⟨r1,hr1,hm⟩ := bo hm
 refine Sq (RD hnt (.no :: o115 [] true r1 :: nn 2 []) [] [(7,rr 1056)] [] [(1056,bx [ow 1096 r1.frosts.length,ow 1097 r1.stopped.length]),(1096,ob0 (Af r1.frosts)),(1097,ob0 (roI r1.stopped))] (an (Ahr p1 r1 hr1) tv) ?_)
 obtain ⟨r2,hr2,hm⟩ := bo hm
 refine Sq (Sq (RD hnt (nn 3 (o72 [0] true r2 :: .no :: [])) [2] [(8,pI r2.1)] [] [(0,bx (pm (Ap r2.2)))] (an (Bo p0 (w64 (p2 + 1)) r2 hr2) (an tv tv)) ?_))
 refine Bk ?_
 refine DW.whileO (fun (s1 : Ar × Ac × Int) => Aj [(0,rr 0),(4,rr 1032),(6,rr 1048),(7,rr 1056),(8,pI s1.2.2)] [(0,bx (pm (Ap s1.1))),(Ada p1),(AdE),(1056,bx (pm (Al s1.2.1)))]) hm (Conv.frz [1096,1097]) ?_
 intro s1 n1 hm
 unfold Pn at hm
 refine Sq (Sq (RD hnt (nn 2 []) [] [(18,pB (decide (s1.2.2 > 0)))] [] [] tv ?_))
 refine Ae hm ?_ ?_
 ·intro h16 hm
  refine Sk ?_
  refine Sq ?_
  refine Jn (ι := Ar × Ac) (fun (y3 : Ar × Ac) => Aj [(0,rr 0),(4,rr 1032),(6,rr 1048),(7,rr 1056),(8,pI s1.2.2)] [(0,bx (pm (Ap y3.1))),(Ada p1),(AdE),(1056,bx (pm (Al y3.2)))]) (fun y3 => (Iw s1 n1) y3 = some RES) ?_ ?_
  ·intro y3 hm
   unfold Iw at hm
   refine RD hnt (nn 3 []) [] [(8,pI (w64 (s1.2.2 - 1)))] [] [] tv ?_
   exact jD (y3.1,y3.2,(w64 (s1.2.2 - 1))) hm Conv.eqK
  ·refine Bk ?_
   obtain ⟨r17,hr17,hm⟩ := bo hm
   obtain ⟨r18,hr18,hm⟩ := bo hm
   refine Sq (RD hnt (nn 4 (o124 [0] true r17 :: o125 [] false r18 :: nn 6 [])) [18] [(9,rr 1072),(10,pI r18.2)] [] [(0,bx (pm (Ap r17.2))),(1072,bx [ow 1216 r18.1.frosts.length,ow 1217 r18.1.stopped.length]),(1216,ob0 (Af r18.1.frosts)),(1217,ob0 (roI r18.1.stopped))] (an (AcK s1.1 p1 false r17 hr17) (an tv (an (Agp p1 s1.2.1 r17.1 r18 hr18) tv))) ?_)
   obtain ⟨r19,hr19,hm⟩ := bo hm
   refine Sq (Sq (RD hnt (.no :: o84 [0] true r19 :: []) [] [(31,pB r19.1)] [] [(0,bx (pm (Ap r19.2)))] (an (Eh r17.2 2 r19 hr19) (an tv tv)) ?_))
   refine Jn (ι := Ar × Ac × Int) (fun (y4 : Ar × Ac × Int) => Aj [(0,rr 0),(4,rr 1032),(6,rr 1048),(7,rr 1056),(8,pI s1.2.2),(9,rr 1072),(10,pI y4.2.2)] [(0,bx (pm (Ap y4.1))),(Ada p1),(AdE),(1056,bx (pm (Al s1.2.1))),(1072,bx (pm (Al y4.2.1)))]) (fun y4 => (Fy s1 n1) y4 = some RES) ?_ ?_
   ·intro y4 hm
    unfold Fy at hm
    refine Sq (RD hnt (nn 2 []) [10] [(46,pB (y4.2.2 == 0))] [] [] tv ?_)
    refine Ae hm ?_ ?_
    ·intro h24 hm
     refine RD hnt (nn 2 []) [9,46] [] [1072] [(1056,bx (pm (Al y4.2.1)))] tv ?_
     exact bD (y4.1,y4.2.1) hm Conv.eqK
    ·intro h24 hm
     refine Sk ?_
     exact bD (y4.1,s1.2.1) hm Conv.t0
   ·refine Ae hm ?_ ?_
    ·intro h20 hm
     obtain ⟨r21,hr21,hm⟩ := bo hm
     obtain ⟨r22,hr22,hm⟩ := bo hm
     obtain ⟨r23,hr23,hm⟩ := bo hm
     refine RD hnt (nn 5 (o88 [0] true r21 :: .no :: o72 [0] true r22 :: .no :: o127 [] true r23 :: nn 5 [])) [31] [(10,pI r23.2)] [1216,1217] [(0,bx (pm (Ap r22.2))),(1072,bx [ow 1336 r23.1.frosts.length,ow 1337 r23.1.stopped.length]),(1336,ob0 (Af r23.1.frosts)),(1337,ob0 (roI r23.1.stopped))] (an (Lt r19.2 p1.tree r21 hr21) (an tv (an (Bo r21.2 3 r22 hr22) (an tv (an (Ahs p1 s1.2.1 r21.1 (decide (r22.1 > 0)) r23 hr23) tv))))) ?_
     exact jD (r22.2,r23.1,r23.2) hm (Conv.frz [1336,1337])
    ·intro h20 hm
     refine Sk ?_
     exact jD (r19.2,r18.1,r18.2) hm (Conv.trans (τ := Aj [(0,rr 0),(4,rr 1032),(6,rr 1048),(7,rr 1056),(8,pI s1.2.2),(9,rr 1072),(10,pI r18.2),(31,pB r19.1)] [(0,bx (pm (Ap r19.2))),(Ada p1),(AdE),(1056,bx (pm (Al s1.2.1))),(1072,bx (pm (Al r18.1)))]) (Conv.frz [1216,1217]) Conv.t0)
 ·intro h16 hm
  refine DW.exit ?_
  refine Ao ?_
  refine Au ?_
  refine Am ?_
  show DW _ _ _ _ _
  refine Sq (RD hnt (nn 2 []) [0,4,7,8,18] [] [1032,1056] [(1048,bx (pm (Al s1.2.1)))] tv ?_)
  obtain rfl := sj hm
  exact DW.ret (Ah [.box (pm (Ap s1.1))] [] (.p (.agg (Al s1.2.1))))
abbrev o114 (ks : List Nat) (b : Bool) (RES : Ac × Ar) (sm : List Nat := []) : Orc := .call 60 ks b (.p (.agg (Al RES.1))) [.box (pm (Ap RES.2))] [] sm

abbrev Wy (s4 : (List Int) × Int) (k1 : Int) (k4 : Int) := (s4.1.getD (Tr (Int.toNat k1) (Int.toNat k4)) 0)
abbrev AfF (k1 : Int) (p0 : List Int) : Nat × MV := (4,.own 0 0 (Int.toNat k1) (Fp p0.length (Int.toNat k1)))
abbrev c129e3 (s4 : (List Int) × Int) := (Ki s4.1 (Int.toNat s4.2) (Fp s4.1.length (Int.toNat s4.2)) 0)
theorem Abi (p0 : List Int) (RES : Nat × (List Int)) (hm : Hr p0 = some RES) : Spec Tryz.prog 139 [ow 0 p0.length] [roI p0] (ow 0 RES.1) [roI RES.2] [] := by
 unfold Hr at hm
 refine SO Tryz.func139 rfl rfl [(0,ow 0 p0.length)] [(0,ob0 (roI p0))] ?_
 intro cx hnt
 refine Sq (RD hnt (.no :: []) [] [] [] [] tv ?_)
 refine Sq (Sq (RD hnt (nn 3 []) [] [(8,pB (decide (((p0.length : Nat) : Int) < 2)))] [] [] tv ?_))
 refine Ae hm ?_ ?_
 ·intro h1 hm
  refine Sq (RK hnt (nn 2 []) [(2,ow 0 p0.length)] [(0,ob0 (roI p0))] tv ?_)
  obtain rfl := sj hm
  exact DW.ret (Ah [roI p0] [] (ow 0 p0.length))
 ·intro h1 hm
  refine Sk ?_
  refine Sq (Sq (RD hnt (.no :: []) [8] [(3,pI 1)] [] [] tv ?_))
  refine Bk ?_
  obtain ⟨hc1,hm⟩ := go1 hm
  refine DW.forO (fun (k1 : Int) (s1 : Unit) => Aj [(0,ow 0 p0.length),(3,pI k1)] [(0,ob0 (roI p0))]) (lo := 1) (hi := ((p0.length : Nat) : Int)) hm Conv.eqK ?_
  intro k1 s1 n1 hk1 hs1 he1
  refine Sq (Sq (RD hnt (nn 4 []) [] [(13,pB (decide (k1 < ((p0.length : Nat) : Int))))] [] [] tv ?_))
  refine Cb (decide (k1 < ((p0.length : Nat) : Int))) ?_ ?_
  ·intro h94
   have hlt1 : k1 < ((p0.length : Nat) : Int) := by have := of_decide_eq_true h94; omega
   have hm := hs1 hlt1
   unfold Oq at hm
   refine Sk ?_
   refine Sq (Bk ?_)
   obtain ⟨g95,g96,g97,g98,hm⟩ := go4 hm
   refine Sq (RD hnt (nn 10 []) [13] [(25,pB ((p0.getD (Int.toNat k1) 0) == (p0.getD (Int.toNat (w64 (k1 - 1))) 0)))] [] [] (an g95.1 (an g95.2 (an g96 (an g97.1 (an g97.2 (an g98 tv)))))) ?_)
   refine Ae hm ?_ ?_
   ·intro h99 hm
    obtain ⟨g100,hm⟩ := go1 hm
    refine Sq (RD hnt (nn 4 []) [25] [(AfF k1 p0)] [] [] (an (by omega : (0 : Int) ≤ k1) (an (by omega : k1 ≤ ((p0.length : Nat) : Int)) (an (by omega : ((p0.length : Nat) : Int) ≤ ((p0.length : Nat) : Int)) tv))) ?_)
    refine Sq (Sq (RD hnt (.no :: []) [] [(5,pI 1)] [] [] tv ?_))
    refine Bk ?_
    obtain ⟨hc4,hm⟩ := go1 hm
    refine DW.forO (fun (k4 : Int) (s4 : (List Int) × Int) => Aj [(0,ow 0 s4.1.length),(3,pI s4.2),(AfF k1 p0),(5,pI k4)] [(0,ob0 (roI s4.1))]) (lo := 1) (hi := (((Fp p0.length (Int.toNat k1)) : Nat) : Int)) hm Conv.eqK ?_
    intro k4 s4 n4 hk4 hs4 he4
    refine Sq (Sq (RD hnt (nn 4 []) [] [(32,pB (decide (k4 < (((Fp p0.length (Int.toNat k1)) : Nat) : Int))))] [] [] tv ?_))
    refine Cb (decide (k4 < (((Fp p0.length (Int.toNat k1)) : Nat) : Int))) ?_ ?_
    ·intro h127
     have hlt4 : k4 < (((Fp p0.length (Int.toNat k1)) : Nat) : Int) := by have := of_decide_eq_true h127; omega
     have hm := hs4 hlt4
     unfold Om at hm
     refine Sk ?_
     refine Sq ?_
     refine Jn (ι := (List Int) × Int) (fun (y9 : (List Int) × Int) => Aj [(0,ow 0 y9.1.length),(3,pI y9.2),(AfF k1 p0),(5,pI k4)] [(0,ob0 (roI y9.1))]) (fun y9 => (Ku n4) y9 = some RES) ?_ ?_
     ·intro y9 hm
      unfold Ku at hm
      refine RD hnt (nn 3 []) [] [(5,pI (w64 (k4 + 1)))] [] [] tv ?_
      exact jD (y9.1,y9.2) ⟨hlt4,hm⟩ (Conv.tp [(5,pI (w64 (k4 + 1)))] [] (by kernel_rfl) (.cons rfl (.of_eq (congrArg pI (Ti (lo := 1) (hi := (((Fp p0.length (Int.toNat k1)) : Nat) : Int)) (by omega) hk4 hlt4 (by omega)))) .nil) .nil)
     ·refine Bk ?_
      obtain ⟨g128,g129,g130,g131,hm⟩ := go4 hm
      refine Sq (RD hnt (nn 10 []) [32] [(44,pB ((Wy s4 k1 k4) != (s4.1.getD (Tr (Int.toNat k1) (Int.toNat (w64 (k4 - 1)))) 0)))] [] [] (an g128.1 (an g128.2 (an g129 (an g130.1 (an g130.2 (an g131 tv)))))) ?_)
      refine Ae hm ?_ ?_
      ·intro h132 hm
       obtain ⟨g133,g134,g135,g136,hm⟩ := go4 hm
       refine Sq (RN hnt (nn 8 []) [(0,ow 0 (s4.1.set (Int.toNat s4.2) (Wy s4 k1 k4)).length),(3,pI s4.2),(AfF k1 p0),(5,pI k4)] [(0,ob0 (roI (s4.1.set (Int.toNat s4.2) (Wy s4 k1 k4))))] [(0,ow 0 s4.1.length)] [(0,.row 1 s4.1.length (Cc (elI s4.1) (Int.toNat s4.2) [vi (Wy s4 k1 k4)]))] (an g133.1 (an g133.2 (an g134 (an g135.1 (an g135.2 (an g136 tv)))))) (by kernel_rfl) (.cons rfl (MLe.ownLen (enc := Bm) (d := 0) (f := (Cc (elI s4.1) (Int.toNat s4.2) [vi (Wy s4 k1 k4)])) (RowIs.upd RowIs.elems (Wy s4 k1 k4) rfl)) .nil) (.cons rfl (BLe.typed (RowIs.upd RowIs.elems (Wy s4 k1 k4) rfl)) .nil) ?_)
       refine RD hnt (nn 3 []) [] [(3,pI (w64 (s4.2 + 1)))] [] [] tv ?_
       exact bD ((s4.1.set (Int.toNat s4.2) (Wy s4 k1 k4)),(w64 (s4.2 + 1))) hm Conv.eqK
      ·intro h132 hm
       refine Sk ?_
       exact bD (s4.1,s4.2) hm Conv.t0
    ·intro h127
     have hge4 : ¬ k4 < (((Fp p0.length (Int.toNat k1)) : Nat) : Int) := by have := of_decide_eq_false h127; omega
     have hm := he4 hge4
     unfold Oo at hm
     refine DW.exit ?_
     refine Ao ?_
     refine Au ?_
     refine Am ?_
     show DW _ _ _ _ _
     obtain ⟨g137,g138,hm⟩ := go2 hm
     refine Sq (RN hnt (nn 4 []) [(0,ow 0 (c129e3 s4).length),(3,pI s4.2)] [(0,ob0 (roI (c129e3 s4)))] [(0,ow 0 s4.1.length)] [(0,.row 1 s4.1.length (Lv (elI s4.1) (Int.toNat s4.2) (Fp s4.1.length (Int.toNat s4.2)) (fun _ => [vi 0])))] (an (by omega : (0 : Int) ≤ s4.2) (an (by omega : s4.2 ≤ ((s4.1.length : Nat) : Int)) (an (by omega : ((s4.1.length : Nat) : Int) ≤ ((s4.1.length : Nat) : Int)) (an g138 tv)))) (by kernel_rfl) (.cons rfl (MLe.ownLen (enc := Bm) (d := 0) (f := (Lv (elI s4.1) (Int.toNat s4.2) (Fp s4.1.length (Int.toNat s4.2)) (fun _ => [vi 0]))) (RowIs.fill RowIs.elems 0 rfl (by first | exact g138 | omega))) .nil) (.cons rfl (BLe.typed (RowIs.fill RowIs.elems 0 rfl (by first | exact g138 | omega))) .nil) ?_)
     obtain ⟨g139,hm⟩ := go1 hm
     refine Sq (RD hnt (nn 4 []) [0,3] [(2,ow 0 (Int.toNat s4.2))] [] [] (an (by omega : (0 : Int) ≤ 0) (an (by omega : (0 : Int) ≤ s4.2) (an (by omega : s4.2 ≤ (((Ki s4.1 (Int.toNat s4.2) (Fp s4.1.length (Int.toNat s4.2)) 0).length : Nat) : Int)) tv))) ?_)
     obtain rfl := sj hm
     exact DW.ret (Ah [roI (c129e3 s4)] [] (ow 0 (Int.toNat s4.2)))
   ·intro h99 hm
    refine Sk ?_
    refine DW.done ?_
    show DW _ _ _ _ _
    refine RD hnt (nn 3 []) [25] [(3,pI (w64 (k1 + 1)))] [] [] tv ?_
    exact jD () ⟨hlt1,hm⟩ (Conv.tp [(3,pI (w64 (k1 + 1)))] [] (by kernel_rfl) (.cons rfl (.of_eq (congrArg pI (Ti (lo := 1) (hi := ((p0.length : Nat) : Int)) (by omega) hk1 hlt1 (by omega)))) .nil) .nil)
  ·intro h94
   have hge1 : ¬ k1 < ((p0.length : Nat) : Int) := by have := of_decide_eq_false h94; omega
   have hm := he1 hge1
   unfold Uh at hm
   refine DW.exit ?_
   refine Ao ?_
   refine Au ?_
   refine Am ?_
   show DW _ _ _ _ _
   refine Sq (RK hnt (nn 2 []) [(2,ow 0 p0.length)] [(0,ob0 (roI p0))] tv ?_)
   obtain rfl := sj hm
   exact DW.ret (Ah [roI p0] [] (ow 0 p0.length))
abbrev o129 (ks : List Nat) (b : Bool) (RES : Nat × (List Int)) (sm : List Nat := []) : Orc := .call 139 ks b (ow 0 RES.1) [roI RES.2] [] sm

abbrev Tq : Nat × Obj := (1032,bx [.p (.sl .nil 0 0 (fun _ => [])),.p (.sl .nil 0 0 (fun _ => []))])
abbrev c128e2 (r48 : freezer × Nat) : Nat × Obj := (1128,bx [.p (Az r48.1.h.tree.nodes),pI r48.1.h.tree.next,.p (Bb r48.1.h.tasks),pI r48.1.h.next,ow 1400 r48.1.f.frosts.length,ow 1464 r48.2])
abbrev Adh (r39 : Ai) := (Mt (Vk r39.changes 0) 1099511627776)
abbrev c128e4 (p0 : Aa) (s1 : List Ai) : Nat × Obj := (1128,bx [.p (Az p0.tree.nodes),pI p0.tree.next,.p (Bb p0.tasks),pI p0.next,ow 1400 s1.length,.p (.sl .nil 0 0 (fun _ => []))])
abbrev Afx (p0 : Aa) : Nat × MV := (20,pI ((p0.tree.nodes.length : Nat) : Int))
theorem Xv (p0 : Aa) (p1 : Ac) (RES : Ac × Int) (hm : Mf p0 p1 = some RES) : Spec Tryz.prog 65 [.p (.agg (Ab p0)),.p (.agg (Al p1))] [] (.tup [.agg [ow 0 RES.1.frosts.length,ow 1 RES.1.stopped.length],pI RES.2]) [] [Af RES.1.frosts,roI RES.1.stopped] := by
 unfold Mf at hm
 refine SO Tryz.func65 rfl rfl [(0,.p (.agg (Ab p0))),(1,.p (.agg (Al p1)))] [] ?_
 intro cx hnt
 refine Sq (RK hnt (nn 4 []) [(2,rr 1016),(3,rr 1024),(4,rr 1032)] [(1016,bx (pm (Ab p0))),(1024,bx (pm (Al p1))),(Tq)] tv ?_)
 obtain ⟨r1,hr1,hm⟩ := bo hm
 refine Sq (Sq (RD hnt (.no :: o6 [] true r1 :: .no :: []) [] [(12,pB (!r1))] [] [] (an (Od p0 r1 hr1) tv) ?_))
 refine Ae hm ?_ ?_
 ·intro h2 hm
  refine Sq (RD hnt (nn 3 []) [2,3,12] [(5,pI 1)] [1016,1024] [] tv ?_)
  refine DW.cv [] [] [] [(1032,bx [ow 100000 0,ow 100001 0]),(100000,ob0 (Af [])),(100001,ob0 (roI []))] (Conv.ads [(.o 1032 0,100000,4,elems Bd Bh []),(.o 1032 1,100001,1,elems Bm 0 [])]) ?_
  obtain rfl := sj hm
  exact DW.ret (Ah [Af [],roI []] [100000,100001] (.tup [.agg [ow 0 0,ow 1 0],pI 1]))
 ·intro h2 hm
  refine Sk ?_
  refine Sq (RD hnt (nn 4 []) [12] [(6,rr 1128)] [] [(1128,bx [.p (Az p0.tree.nodes),pI p0.tree.next,.p (Bb p0.tasks),pI p0.next,.p (.sl .nil 0 0 (fun _ => [])),.p (.sl .nil 0 0 (fun _ => []))])] tv ?_)
  refine Sq (Sq (RD hnt (nn 5 []) [2] [(19,.p (Az p0.tree.nodes)),(Afx p0),(21,pI 0)] [1016] [] tv ?_))
  refine Bk ?_
  obtain ⟨hc1,hm⟩ := go1 hm
  refine DW.rangeO (fun (k1 : Nat) (s1 : List Ai) => Aj [(3,rr 1024),(4,rr 1032),(6,rr 1128),(19,.p (Az p0.tree.nodes)),(Afx p0),(21,pI ((k1 : Nat) : Int))] [(1024,bx (pm (Al p1))),(Tq),(c128e4 p0 s1),(1400,ob0 (Af s1))]) Bj hm (Conv.ads [(.o 1128 4,1400,4,elems Bd Bh [])]) ?_
  intro k1 s1 n1 hk1 hs1 he1
  refine Sq (RD hnt (.no :: []) [] [(22,pB (decide (((k1 : Nat) : Int) < ((p0.tree.nodes.length : Nat) : Int))))] [] [] tv ?_)
  refine Sq (Cb (decide (((k1 : Nat) : Int) < ((p0.tree.nodes.length : Nat) : Int))) ?_ ?_)
  ·intro h38
   have hlt1 : k1 < p0.tree.nodes.length := by have := of_decide_eq_true h38; omega
   have hm := hs1 hlt1
   unfold Ub at hm
   refine Sk ?_
   refine Sq (Bk ?_)
   refine Sq (RD hnt (nn 4 []) [22] [(8,rr 1064)] [] [(1064,bx (pm (Aq (p0.tree.nodes.getD k1 (default : An)))))] (an (nn0 k1) (an (ltc hlt1) tv)) ?_)
   obtain ⟨r39,hr39,hm⟩ := bo hm
   refine Sq (RD hnt (nn 3 (o26 [] true r39 :: nn 2 [])) [] [(9,rr 1072)] [] [(1072,bx (pm (Bd r39)))] (an (Bc p1 (p0.tree.nodes.getD k1 (default : An)).id r39 hr39) tv) ?_)
   refine Sq (RD hnt (nn 6 []) [] [] [] [(1072,bx [pI r39.group,pB r39.want,pB r39.frozen,pI (Adh r39)])] tv ?_)
   refine Sq ?_
   refine Jn (ι := Ai) (fun (y3 : Ai) => Aj [(3,rr 1024),(4,rr 1032),(6,rr 1128),(9,rr 1072),(19,.p (Az p0.tree.nodes)),(Afx p0),(21,pI ((k1 : Nat) : Int))] [(1024,bx (pm (Al p1))),(Tq),(1072,bx (pm (Bd y3))),(c128e4 p0 s1),(1400,ob0 (Af s1))]) (fun y3 => (Mh s1 n1) y3 = some RES) ?_ ?_
   ·intro y3 hm
    unfold Mh at hm
    obtain ⟨g41,hm⟩ := go1 hm
    refine RN hnt (nn 13 []) [(3,rr 1024),(4,rr 1032),(6,rr 1128),(19,.p (Az p0.tree.nodes)),(Afx p0),(21,pI ((k1 : Nat) : Int))] [(1024,bx (pm (Al p1))),(Tq),(1128,bx [.p (Az p0.tree.nodes),pI p0.tree.next,.p (Bb p0.tasks),pI p0.next,ow 1400 (s1 ++ [y3]).length,.p (.sl .nil 0 0 (fun _ => []))]),(1400,ob0 (Af (s1 ++ [y3])))] [] [(1128,.box [.p (Az p0.tree.nodes),pI p0.tree.next,.p (Bb p0.tasks),pI p0.next,ow 1400 (s1.length + 1),.p (.sl .nil 0 0 (fun _ => []))]),(1400,.row 4 (s1.length + 1) (Cp s1.length (Kg s1) (cut 4 [vi y3.group,vb y3.want,vb y3.frozen,vi y3.changes])))] (an (by omega : (s1.length + 1) * 24 ≤ 140737488355328) tv) (by kernel_rfl) .nil (.cons rfl (.box (.cons .rfl (.cons .rfl (.cons .rfl (.cons .rfl (.cons (MLe.ownLen (enc := Bd) (d := Bh) (f := (Cp s1.length (Kg s1) (cut 4 [vi y3.group,vb y3.want,vb y3.frozen,vi y3.changes]))) (RowIs.cat RowIs.elems (RowIs.lit (enc := Bd) (d := Bh) (n := 1) (f := (cut 4 [vi y3.group,vb y3.want,vb y3.frozen,vi y3.changes])) [y3] rfl (fun | 0,_ => rfl | n + 1,h => absurd h (by omega))))) (.cons .rfl .nil))))))) (.cons rfl (BLe.typed (RowIs.cat RowIs.elems (RowIs.lit (enc := Bd) (d := Bh) (n := 1) (f := (cut 4 [vi y3.group,vb y3.want,vb y3.frozen,vi y3.changes])) [y3] rfl (fun | 0,_ => rfl | n + 1,h => absurd h (by omega))))) .nil)) ?_
    refine DW.done ?_
    show DW _ _ _ _ _
    refine RD hnt (nn 2 []) [] [(21,pI (w64 (((k1 : Nat) : Int) + 1)))] [] [] tv ?_
    exact jD (s1 ++ [y3]) ⟨hlt1,hm⟩ (Conv.tp [(21,pI (w64 (((k1 : Nat) : Int) + 1)))] [] (by kernel_rfl) (.cons rfl (.of_eq (congrArg pI (Bl hlt1 hc1))) .nil) .nil)
   ·rcases bt r39.want with h40 | h40
    ·replace hm := Bf h40 hm
     refine RD hnt (nn 6 (pT :: nn 2 [])) [8] [] [1064] [(1072,bx [pI r39.group,pB ((p0.tree.nodes.getD k1 (default : An)).id != 1),pB r39.frozen,pI (Adh r39)])] (an4 h40 tv) ?_
     exact jD ({ group := r39.group,want := ((p0.tree.nodes.getD k1 (default : An)).id != 1),frozen := r39.frozen,changes := (Adh r39) } : Ai) hm Conv.eqK
    ·replace hm := Be h40 hm
     refine RD hnt (nn 3 (sk 3 (pF :: nn 2 []))) [8] [] [1064] [(1072,bx [pI r39.group,pB false,pB r39.frozen,pI (Adh r39)])] (an4 h40 tv) ?_
     exact jD ({ group := r39.group,want := false,frozen := r39.frozen,changes := (Adh r39) } : Ai) hm Conv.eqK
  ·intro h38
   have hge1 : ¬ k1 < p0.tree.nodes.length := by have := of_decide_eq_false h38; omega
   have hm := he1 hge1
   unfold Pv at hm
   refine DW.exit ?_
   refine Ao ?_
   refine Au ?_
   refine Am ?_
   show DW _ _ _ _ _
   obtain ⟨r42,hr42,hm⟩ := bo hm
   refine Sq (RD hnt (nn 3 (o37 [] true r42 :: nn 4 [])) [3,19,20,21,22] [] [1024] [(1128,bx [.p (Az p0.tree.nodes),pI p0.tree.next,.p (Bb p0.tasks),pI p0.next,ow 1400 s1.length,ow 1464 r42.length]),(1464,ob0 (roI r42))] (an (Ug p1.stopped r42 hr42) tv) ?_)
   obtain ⟨r43,hr43,hm⟩ := bo hm
   obtain ⟨g44,hm⟩ := go1 hm
   refine Sq (RN hnt (nn 5 (o44 [1464] true r43 :: [])) [(4,rr 1032),(6,rr 1128)] [(Tq),(1128,bx [.p (Az p0.tree.nodes),pI p0.tree.next,.p (Bb p0.tasks),pI p0.next,ow 1400 s1.length,ow 1464 r43.length]),(1400,ob0 (Af s1)),(1464,ob0 (roI r43))] [] [(1128,.box [.p (Az p0.tree.nodes),pI p0.tree.next,.p (Bb p0.tasks),pI p0.next,ow 1400 s1.length,ow 1464 r42.length])] (an (Uz r42 r43 hr43) (an (⟨rfl,g44⟩ : Body.same (roI r42) (roI r43)) tv)) (by kernel_rfl) .nil (.cons rfl (.box (.cons .rfl (.cons .rfl (.cons .rfl (.cons .rfl (.cons .rfl (.cons (MLe.of_eq (congrArg (MV.own 1464 0 0) g44)) .nil))))))) .nil) ?_)
   obtain ⟨r45,hr45,hm⟩ := bo hm
   obtain ⟨g46,g47,hm⟩ := go2 hm
   refine Sq (RD hnt (nn 6 (o129 [1464] true r45 :: nn 4 [])) [] [] [] [(1128,bx [.p (Az p0.tree.nodes),pI p0.tree.next,.p (Bb p0.tasks),pI p0.next,ow 1400 s1.length,ow 1464 r45.1]),(1464,ob0 (roI r45.2))] (an (Abi r43 r45 hr45) (an (⟨rfl,g46⟩ : Body.same (roI r43) (roI r45.2)) tv)) ?_)
   refine Sq (DW.conv (τ := Aj [(4,rr 1032),(6,rr 1128)] [(Tq),(1128,bx [.p (Az p0.tree.nodes),pI p0.tree.next,.p (Bb p0.tasks),pI p0.next,ow 1400 s1.length,ow 1464 (r45.2.take r45.1).length]),(1400,ob0 (Af s1)),(1464,ob0 (roI (r45.2.take r45.1)))]) (Conv.trans (τ := Aj [(4,rr 1032),(6,rr 1128)] [(Tq),(1128,bx [.p (Az p0.tree.nodes),pI p0.tree.next,.p (Bb p0.tasks),pI p0.next,ow 1400 s1.length,ow 1464 r45.1]),(1400,ob0 (Af s1)),(1464,ob0 (.row 1 r45.1 (elI r45.2)))]) (Conv.cut 1464 r45.1 (And.intro (show r45.1 ≤ r45.2.length by omega) (an (Nat.le_of_eq (Nat.zero_add r45.1)) tv))) (Conv.tp [] [(1128,.box [.p (Az p0.tree.nodes),pI p0.tree.next,.p (Bb p0.tasks),pI p0.next,ow 1400 s1.length,ow 1464 r45.1]),(1464,.row 1 r45.1 (elI r45.2))] (by kernel_rfl) .nil (.cons rfl (.box (.cons .rfl (.cons .rfl (.cons .rfl (.cons .rfl (.cons .rfl (.cons (MLe.ownLen (enc := Bm) (d := 0) (f := (elI r45.2)) (RowIs.elems.take (by omega))) .nil))))))) (.cons rfl (BLe.typed (RowIs.elems.take (by omega))) .nil)))) ?_)
   obtain ⟨r48,hr48,hm⟩ := bo hm
   obtain ⟨g49,g50,g51,hm⟩ := go3 hm
   refine RD hnt (.no :: o38 [1128,1400,1464] true r48 :: []) [] [] [] [(c128e2 r48),(1400,ob0 (Af r48.1.f.frosts)),(1464,ob0 (roI r48.1.f.stopped))] (an (Qc ({ h := p0,f := ({ frosts := s1,stopped := (r45.2.take r45.1) } : Ac) } : freezer) r48 hr48) (an tv (an (⟨rfl,g49⟩ : Body.same (Af s1) (Af r48.1.f.frosts)) (an (⟨rfl,g50⟩ : Body.same (roI (r45.2.take r45.1)) (roI r48.1.f.stopped)) tv)))) ?_
   refine Sq (DW.conv (τ := Aj [(4,rr 1032),(6,rr 1128)] [(Tq),(1128,bx [.p (Az r48.1.h.tree.nodes),pI r48.1.h.tree.next,.p (Bb r48.1.h.tasks),pI r48.1.h.next,ow 1400 r48.1.f.frosts.length,ow 1464 (r48.1.f.stopped.take r48.2).length]),(1400,ob0 (Af r48.1.f.frosts)),(1464,ob0 (roI (r48.1.f.stopped.take r48.2)))]) (Conv.trans (τ := Aj [(4,rr 1032),(6,rr 1128)] [(Tq),(c128e2 r48),(1400,ob0 (Af r48.1.f.frosts)),(1464,ob0 (.row 1 r48.2 (elI r48.1.f.stopped)))]) (Conv.cut 1464 r48.2 (And.intro (show r48.2 ≤ r48.1.f.stopped.length by omega) (an (Nat.le_of_eq (Nat.zero_add r48.2)) tv))) (Conv.tp [] [(1128,.box [.p (Az r48.1.h.tree.nodes),pI r48.1.h.tree.next,.p (Bb r48.1.h.tasks),pI r48.1.h.next,ow 1400 r48.1.f.frosts.length,ow 1464 r48.2]),(1464,.row 1 r48.2 (elI r48.1.f.stopped))] (by kernel_rfl) .nil (.cons rfl (.box (.cons .rfl (.cons .rfl (.cons .rfl (.cons .rfl (.cons .rfl (.cons (MLe.ownLen (enc := Bm) (d := 0) (f := (elI r48.1.f.stopped)) (RowIs.elems.take (by omega))) .nil))))))) (.cons rfl (BLe.typed (RowIs.elems.take (by omega))) .nil)))) ?_)
   obtain ⟨r52,hr52,hm⟩ := bo hm
   obtain ⟨g53,g54,hm⟩ := go2 hm
   refine RK hnt (.no :: o42 [1128,1400,1464] true r52 :: nn 2 []) [(4,rr 1032),(5,pI 0)] [(1032,bx [ow 1400 r52.2.f.frosts.length,ow 1464 r52.2.f.stopped.length]),(1400,ob0 (Af r52.2.f.frosts)),(1464,ob0 (roI r52.2.f.stopped))] (an (Kw ({ h := r48.1.h,f := ({ frosts := r48.1.f.frosts,stopped := (r48.1.f.stopped.take r48.2) } : Ac) } : freezer) r52 hr52) (an tv (an (⟨rfl,g53⟩ : Body.same (Af r48.1.f.frosts) (Af r52.2.f.frosts)) (an (⟨rfl,g54⟩ : Body.same (roI (r48.1.f.stopped.take r48.2)) (roI r52.2.f.stopped)) tv)))) ?_
   obtain rfl := sj hm
   exact DW.ret (Ah [Af r52.2.f.frosts,roI r52.2.f.stopped] [1400,1464] (.tup [.agg [ow 0 r52.2.f.frosts.length,ow 1 r52.2.f.stopped.length],pI 0]))
abbrev o128 (ks : List Nat) (b : Bool) (RES : Ac × Int) (sm : List Nat := []) : Orc := .call 65 ks b (.tup [.agg [ow 0 RES.1.frosts.length,ow 1 RES.1.stopped.length],pI RES.2]) [] [Af RES.1.frosts,roI RES.1.stopped] sm

theorem AeB (p0 : Ag) (p1 : Ac) (p2 : Int) (RES : Bool) (hm : Oy p0 p1 p2 = some RES) : Spec Tryz.prog 59 [.p (.agg (As p0)),.p (.agg (Al p1)),pI p2] [] (pB RES) [] [] := by
 unfold Oy at hm
 refine SO Tryz.func59 rfl rfl [(0,.p (.agg (As p0))),(1,.p (.agg (Al p1))),(2,pI p2)] [] ?_
 intro cx hnt
 refine Sq (RK hnt (nn 3 []) [(2,pI p2),(3,rr 1024),(4,rr 1032)] [(1024,bx (pm (As p0))),(1032,bx (pm (Al p1)))] tv ?_)
 obtain ⟨r1,hr1,hm⟩ := bo hm
 refine Sq ?_
 refine Jn (ι := Bool) (fun (y1 : Bool) => Aj [(6,pB y1)] []) (fun y1 => Pz y1 = some RES) ?_ ?_
 ·intro y1 hm
  unfold Pz at hm
  obtain rfl := sj hm
  exact DW.ret (Ah [] [] (pB y1))
 ·rcases bt r1 with h2 | h2
  ·replace hm := Bf h2 hm
   obtain ⟨r3,hr3,hm⟩ := bo hm
   refine RK hnt (.no :: o7 [] true r1 :: nn 4 (o23 [] true r3 :: pT :: .no :: [])) [(6,pB r3)] [] (an (Vb p0 r1 hr1) (an4 h2 (an (Jk p0 p1 p2 r3 hr3) (an h2 tv)))) ?_
   exact jD r3 hm .refl
  ·replace hm := Be h2 hm
   refine RK hnt (.no :: o7 [] true r1 :: .no :: sk 4 (pF :: .no :: [])) [(6,pB false)] [] (an (Vb p0 r1 hr1) (an5 h2 tv)) ?_
   exact jD false hm .refl
abbrev o130 (ks : List Nat) (b : Bool) (RES : Bool) (sm : List Nat := []) : Orc := .call 59 ks b (pB RES) [] [] sm

abbrev c1e1 (r13 : Ac × Int) : Nat × Obj := (1064,bx [ow 1480 r13.1.frosts.length,ow 1481 r13.1.stopped.length])
abbrev c1e2 (r6 : Ac × Ar) : Nat × Obj := (1040,bx (pm (Al r6.1)))
abbrev c1e3 (y1 : Aa × Int) (k1 : Nat) := (y1.1.tasks.getD k1 (default : Aw))
abbrev c1e4 (r5 : Aa × Ar) : Nat × Obj := (1032,bx (pm (Ab r5.1)))
theorem AbI (p0 : List Int) (RES : Bool) (hm : Kq p0 = some RES) : Spec Tryz.prog 9 [.p (slI p0)] [] (pB RES) [] [] := by
 unfold Kq at hm
 refine SO Tryz.func9 rfl rfl [(0,.p (slI p0))] [] ?_
 intro cx hnt
 refine Sq (RK hnt (.no :: []) [(0,.p (slI p0))] [] tv ?_)
 obtain ⟨r1,hr1,hm⟩ := bo hm
 refine Sq (Sq (RD hnt (.no :: o2 [] true r1 :: .no :: []) [] [(16,pB (!r1))] [] [] (an (Agv p0 r1 hr1) tv) ?_))
 refine Ae hm ?_ ?_
 ·intro h2 hm
  obtain ⟨r3,hr3,hm⟩ := bo hm
  refine Sq (RK hnt (o3 [] true r3 :: .no :: []) [(2,pB r3)] [] (an (Abr r3 hr3) tv) ?_)
  obtain rfl := sj hm
  exact DW.ret (Ah [] [] (pB r3))
 ·intro h2 hm
  refine Sk ?_
  obtain ⟨r4,hr4,hm⟩ := bo hm
  refine Sq (RK hnt (.no :: o67 [] true r4 :: .no :: []) [(3,rr 1152)] [(1152,bx (pm (Ap r4)))] (an (Aho p0 r4 hr4) tv) ?_)
  obtain ⟨r5,hr5,hm⟩ := bo hm
  refine Sq (RK hnt (.no :: o68 [1152] true r5 :: nn 2 []) [(3,rr 1152),(4,rr 1032)] [(c1e4 r5),(1152,bx (pm (Ap r5.2)))] (an (Aak r4 6 6 r5 hr5) (an tv tv)) ?_)
  obtain ⟨r6,hr6,hm⟩ := bo hm
  refine Sq (RD hnt (nn 2 (o114 [1152] true r6 :: nn 2 [])) [] [(5,rr 1040)] [] [(c1e2 r6),(1152,bx (pm (Ap r6.2)))] (an (Abs r5.2 r5.1 6 r6 hr6) (an tv tv)) ?_)
  refine Sq (RD hnt (nn 4 []) [] [(6,rr 1048),(7,pI 0)] [] [(1048,bx (pm (Ab r5.1)))] tv ?_)
  refine Sq (Sq (RD hnt (nn 4 []) [] [(29,pB (decide (((r5.1.tasks.length : Nat) : Int) > 0)))] [] [] tv ?_))
  refine Jn (ι := Aa × Int) (fun (y1 : Aa × Int) => Aj [(4,rr 1032),(5,rr 1040),(6,rr 1048),(7,pI y1.2)] [(c1e4 r5),(c1e2 r6),(1048,bx (pm (Ab y1.1)))]) (fun y1 => (Hd r5 r6) y1 = some RES) ?_ ?_
  ·intro y1 hm
   unfold Hd at hm
   obtain ⟨r13,hr13,hm⟩ := bo hm
   refine Sq (RD hnt (nn 2 (o128 [] true r13 :: nn 6 [])) [] [(8,rr 1064),(9,pI r13.2)] [] [(c1e1 r13),(1480,ob0 (Af r13.1.frosts)),(1481,ob0 (roI r13.1.stopped))] (an (Xv y1.1 r6.1 r13 hr13) tv) ?_)
   refine Sq (Sq ?_)
   refine Jn (ι := Bool) (fun (y2 : Bool) => Aj [(4,rr 1032),(5,rr 1040),(6,rr 1048),(8,rr 1064),(74,pB y2)] [(c1e4 r5),(c1e2 r6),(1048,bx (pm (Ab y1.1))),(c1e1 r13),(1480,ob0 (Af r13.1.frosts)),(1481,ob0 (roI r13.1.stopped))]) (fun y2 => (Hb r5 r6 y1 r13) y2 = some RES) ?_ ?_
   ·intro y2 hm
    unfold Hb at hm
    refine Ae hm ?_ ?_
    ·intro h17 hm
     refine Sq (RK hnt (.no :: []) [(2,pB false)] [] tv ?_)
     obtain rfl := sj hm
     exact DW.ret (Ah [] [] (pB false))
    ·intro h17 hm
     refine Sk ?_
     refine Sq (Sq (RD hnt (.no :: []) [74] [(10,pI 0)] [] [] tv ?_))
     refine Bk ?_
     obtain ⟨hc1,hm⟩ := go1 hm
     refine DW.rangeO (fun (k1 : Nat) (s1 : Unit) => Aj [(4,rr 1032),(5,rr 1040),(6,rr 1048),(8,rr 1064),(10,pI ((k1 : Nat) : Int))] [(c1e4 r5),(c1e2 r6),(1048,bx (pm (Ab y1.1))),(c1e1 r13),(1480,ob0 (Af r13.1.frosts)),(1481,ob0 (roI r13.1.stopped))]) Bt hm Conv.eqK ?_
     intro k1 s1 n1 hk1 hs1 he1
     refine Sq (Sq (RD hnt (nn 5 []) [] [(79,pB (decide (((k1 : Nat) : Int) < ((y1.1.tasks.length : Nat) : Int))))] [] [] tv ?_))
     refine Cb (decide (((k1 : Nat) : Int) < ((y1.1.tasks.length : Nat) : Int))) ?_ ?_
     ·intro h42
      have hlt1 : k1 < y1.1.tasks.length := by have := of_decide_eq_true h42; omega
      have hm := hs1 hlt1
      unfold Pr at hm
      refine Sk ?_
      refine Sq (Bk ?_)
      refine Sq (RD hnt (nn 7 []) [79] [(11,rr 1088)] [] [(1088,bx (pm (Ay (c1e3 y1 k1))))] (an (nn0 k1) (an (ltc hlt1) tv)) ?_)
      obtain ⟨r43,hr43,hm⟩ := bo hm
      obtain ⟨r44,hr44,hm⟩ := bo hm
      refine Sq ?_
      refine Jn (ι := Bool) (fun (y7 : Bool) => Aj [(4,rr 1032),(5,rr 1040),(6,rr 1048),(8,rr 1064),(10,pI ((k1 : Nat) : Int)),(103,pB y7)] [(c1e4 r5),(c1e2 r6),(1048,bx (pm (Ab y1.1))),(c1e1 r13),(1480,ob0 (Af r13.1.frosts)),(1481,ob0 (roI r13.1.stopped))]) (fun y7 => (Iv n1) y7 = some RES) ?_ ?_
      ·intro y7 hm
       unfold Iv at hm
       refine Ae hm ?_ ?_
       ·intro h47 hm
        refine Sq (RK hnt (.no :: []) [(2,pB false)] [] tv ?_)
        obtain rfl := sj hm
        exact DW.ret (Ah [] [] (pB false))
       ·intro h47 hm
        refine Sk ?_
        refine DW.done ?_
        show DW _ _ _ _ _
        refine RD hnt (nn 3 []) [103] [(10,pI (w64 (((k1 : Nat) : Int) + 1)))] [] [] tv ?_
        exact jD () ⟨hlt1,hm⟩ (Conv.tp [(10,pI (w64 (((k1 : Nat) : Int) + 1)))] [] (by kernel_rfl) (.cons rfl (.of_eq (congrArg pI (Bl hlt1 hc1))) .nil) .nil)
      ·rcases bt r44 with h45 | h45
       ·replace hm := Bf h45 hm
        obtain ⟨r46,hr46,hm⟩ := bo hm
        refine RD hnt (nn 3 (o32 [] true r43 :: nn 3 (o32 [] true r44 :: nn 6 (o130 [] true r46 :: pT :: .no :: [])))) [11] [(103,pB (r43 != r46))] [1088] [] (an (Ek r13.1 (c1e3 y1 k1).id r43 hr43) (an (Ek r6.1 (c1e3 y1 k1).id r44 hr44) (an6 h45 (an (AeB y1.1.tree r13.1 (c1e3 y1 k1).group r46 hr46) (an h45 tv))))) ?_
        exact jD (r43 != r46) hm Conv.eqK
       ·replace hm := Be h45 hm
        refine RD hnt (nn 3 (o32 [] true r43 :: nn 3 (o32 [] true r44 :: .no :: sk 6 (pF :: .no :: [])))) [11] [(103,pB (r43 != false))] [1088] [] (an (Ek r13.1 (c1e3 y1 k1).id r43 hr43) (an (Ek r6.1 (c1e3 y1 k1).id r44 hr44) (an h45 (an6 h45 tv)))) ?_
        exact jD (r43 != false) hm Conv.eqK
     ·intro h42
      have hge1 : ¬ k1 < y1.1.tasks.length := by have := of_decide_eq_false h42; omega
      have hm := he1 hge1
      unfold Pq at hm
      refine DW.exit ?_
      refine Ao ?_
      refine Au ?_
      refine Am ?_
      show DW _ _ _ _ _
      obtain ⟨r48,hr48,hm⟩ := bo hm
      refine Sq (RK hnt (nn 2 (o128 [] true r48 :: nn 6 [])) [(5,rr 1040),(12,rr 1096),(13,pI r48.2)] [(c1e2 r6),(1096,bx [ow 1856 r48.1.frosts.length,ow 1857 r48.1.stopped.length]),(1856,ob0 (Af r48.1.frosts)),(1857,ob0 (roI r48.1.stopped))] (an (Xv r5.1 r6.1 r48 hr48) tv) ?_)
      refine Sq ?_
      refine Jn (ι := Bool) (fun (y8 : Bool) => Aj [(2,pB y8)] []) (fun y8 => Iu y8 = some RES) ?_ ?_
      ·intro y8 hm
       unfold Iu at hm
       obtain rfl := sj hm
       exact DW.ret (Ah [] [] (pB y8))
      ·rcases bt (r48.2 == 0) with h49 | h49
       ·replace hm := Bf h49 hm
        obtain ⟨r50,hr50,hm⟩ := bo hm
        rcases bt r50 with h51 | h51
        ·replace hm := Bf h51 hm
         obtain ⟨r52,hr52,hm⟩ := bo hm
         refine RK hnt (nn 5 (o64 [] true r50 :: pT :: .no :: o3 [] true r52 :: pT :: .no :: [])) [(2,pB r52)] [] (an3 h49 (an (Cm r48.1 r6.1 r50 hr50) (an h49 (an h51 (an (Abr r52 hr52) (an h51 tv)))))) ?_
         exact jD r52 hm .refl
        ·replace hm := Be h51 hm
         refine RK hnt (nn 5 (o64 [] true r50 :: pT :: .no :: .skip :: pF :: .no :: [])) [(2,pB false)] [] (an3 h49 (an (Cm r48.1 r6.1 r50 hr50) (an h49 (an2 h51 tv)))) ?_
         exact jD false hm .refl
       ·replace hm := Be h49 hm
        refine RK hnt (nn 3 (sk 3 (pF :: .no :: .skip :: pF :: .no :: []))) [(2,pB false)] [] (an4 h49 (an2 ff tv)) ?_
        exact jD false hm .refl
   ·rcases bt (y1.2 != 0) with h14 | h14
    ·replace hm := Bf h14 hm
     refine RD hnt (nn 3 (sk 2 (pT :: .no :: sk 4 (pT :: [])))) [7,9] [(74,pB true)] [] [] (an3 h14 (an5 tt tv)) ?_
     exact jD true hm Conv.eqK
    ·replace hm := Be h14 hm
     rcases bt (r13.2 != 0) with h15 | h15
     ·replace hm := Bf h15 hm
      refine RD hnt (nn 5 (pF :: .no :: sk 4 (pT :: []))) [7,9] [(74,pB true)] [] [] (an3 h14 (an5 h15 tv)) ?_
      exact jD true hm Conv.eqK
     ·replace hm := Be h15 hm
      obtain ⟨r16,hr16,hm⟩ := bo hm
      refine RD hnt (nn 5 (pF :: nn 3 (o21 [] true r16 :: .no :: pF :: []))) [7,9] [(74,pB (!r16))] [] [] (an3 h14 (an3 h15 (an (Sz y1.1 r13.1 r16 hr16) (an2 h15 tv)))) ?_
      exact jD (!r16) hm Conv.eqK
  ·refine Ae hm ?_ ?_
   ·intro h7 hm
    obtain ⟨r8,hr8,hm⟩ := bo hm
    obtain ⟨g9,hm⟩ := go1 hm
    obtain ⟨r10,hr10,hm⟩ := bo hm
    obtain ⟨g11,hm⟩ := go1 hm
    obtain ⟨r12,hr12,hm⟩ := bo hm
    refine RD hnt (nn 7 (o72 [1152] true r8 :: nn 11 (o72 [1152] true r10 :: nn 3 (o112 [] true r12 :: nn 5 [])))) [3,29] [(7,pI r12.2)] [1152] [(1048,bx [ow 1432 r12.1.tree.nodes.length,pI r12.1.tree.next,ow 1433 r12.1.tasks.length,pI r12.1.next]),(1432,ob0 (Ak r12.1.tree.nodes)),(1433,ob0 (At r12.1.tasks))] (an (Bo r6.2 ((r5.1.tasks.length : Nat) : Int) r8 hr8) (an tv (an g9.1 (an g9.2 (an (Bo r8.2 ((r5.1.tree.nodes.length : Nat) : Int) r10 hr10) (an tv (an g11.1 (an g11.2 (an (Abz r5.1 (r5.1.tasks.getD (Int.toNat r8.1) Bt).id (r5.1.tree.nodes.getD (Int.toNat r10.1) Bj).id r12 hr12) tv))))))))) ?_
    exact jD (r12.1,r12.2) hm (Conv.frz [1432,1433])
   ·intro h7 hm
    refine Sk ?_
    exact jD (r5.1,0) hm Conv.t0
abbrev o1 (ks : List Nat) (b : Bool) (RES : Bool) (sm : List Nat := []) : Orc := .call 9 ks b (pB RES) [] [] sm
end Go.Dm

