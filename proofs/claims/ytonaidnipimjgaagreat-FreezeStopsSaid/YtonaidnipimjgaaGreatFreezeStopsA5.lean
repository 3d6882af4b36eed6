/- Texts of the proof of FreezeStops: the data machine, the models of the Go functions, their contracts. -/
import Derived.Test.YtonaidnipimjgaaGreatFreezeStopsA4
set_option linter.unusedVariables false
set_option linter.unusedSimpArgs false
/- Go functions compute their models, printed by a program. -/
namespace Go.Dm
open Go.Proofs
set_option linter.unusedVariables false
abbrev Vm (p0 : Aa) (k1 : Nat) := (p0.tasks.getD k1 (default : Au))
theorem Ns (p0 : Aa) (p1 : Int) (RES : List Int) (hm : Hs p0 p1 = some RES) : Spec Tryz.prog 26 [.p (.agg (Ab p0)),pI p1] [] (ow 0 RES.length) [] [roI RES] := by
 unfold Hs at hm
 refine SO Tryz.func26 rfl rfl [(0,.p (.agg (Ab p0))),(1,pI p1)] [] ?_
 intro cx hnt
 refine Sq (RK hnt (nn 2 []) [(1,pI p1),(2,rr 1016)] [(1016,bx (pm (Ab p0)))] tv ?_)
 obtain ⟨r1,hr1,hm⟩ := bo hm
 refine Sq (Sq (RD hnt (.no :: o93 [] true r1 :: .no :: []) [] [(9,pB (!r1))] [] [] (an (Ea p0 r1 hr1) tv) ?_))
 refine Ae hm ?_ ?_
 ·intro h2 hm
  refine Sq (RK hnt (.no :: []) [(4,.p (.sl .nil 0 0 (fun _ => [])))] [] tv ?_)
  refine DW.cv [] [(4,ow 100000 0)] [] [(100000,ob0 (roI []))] (Conv.ads [(.s 4,100000,1,elems Bn 0 [])]) ?_
  obtain rfl := sj hm
  exact DW.ret (Ag [roI []] [100000] (ow 0 0))
 ·intro h2 hm
  refine Sk ?_
  refine Sq (RD hnt (.no :: []) [9] [(5,.p (.sl .nil 0 0 (fun _ => [])))] [] [] tv ?_)
  refine Sq (Sq (RD hnt (.no :: []) [] [(6,pI 0)] [] [] tv ?_))
  refine Bk ?_
  obtain ⟨hc1,hm⟩ := go1 hm
  refine DW.rangeO (fun (k1 : Nat) (s1 : List Int) => Aj [(1,pI p1),(2,rr 1016),(5,ow 1264 s1.length),(6,pI ((k1 : Nat) : Int))] [(1016,bx (pm (Ab p0))),(1264,ob0 (roI s1))]) Br hm (Conv.ads [(.s 5,1264,1,elems Bn 0 [])]) ?_
  intro k1 s1 n1 hk1 hs1 he1
  refine Sq (Sq (RD hnt (nn 5 []) [] [(14,pB (decide (((k1 : Nat) : Int) < ((p0.tasks.length : Nat) : Int))))] [] [] tv ?_))
  refine Cb (decide (((k1 : Nat) : Int) < ((p0.tasks.length : Nat) : Int))) ?_ ?_
  ·intro h12
   have hlt1 : k1 < p0.tasks.length := by have := of_decide_eq_true h12; omega
   have hm := hs1 hlt1
   unfold Zl at hm
   refine Sk ?_
   refine Sq ?_
   refine Jn (ι := List Int) (fun (y3 : List Int) => Aj [(1,pI p1),(2,rr 1016),(5,ow 1264 y3.length),(6,pI ((k1 : Nat) : Int))] [(1016,bx (pm (Ab p0))),(1264,ob0 (roI y3))]) (fun y3 => (Qn n1) y3 = some RES) ?_ ?_
   ·intro y3 hm
    unfold Qn at hm
    refine RD hnt (nn 3 []) [] [(6,pI (w64 (((k1 : Nat) : Int) + 1)))] [] [] tv ?_
    exact jD y3 ⟨hlt1,hm⟩ (Conv.tp [(6,pI (w64 (((k1 : Nat) : Int) + 1)))] [] (by kernel_rfl) (.cons rfl (.of_eq (congrArg pI (Bl hlt1 hc1))) .nil) .nil)
   ·refine Bk ?_
    refine Sq (RD hnt (nn 8 []) [14] [(24,pB ((Vm p0 k1).group == p1))] [] [] (an (nn0 k1) (an (ltc hlt1) tv)) ?_)
    refine Ae hm ?_ ?_
    ·intro h13 hm
     obtain ⟨g14,hm⟩ := go1 hm
     refine RN hnt (nn 10 []) [(1,pI p1),(2,rr 1016),(5,ow 1264 (s1 ++ [(Vm p0 k1).id]).length),(6,pI ((k1 : Nat) : Int))] [(1016,bx (pm (Ab p0))),(1264,ob0 (roI (s1 ++ [(Vm p0 k1).id])))] [(5,ow 1264 (s1.length + 1))] [(1264,.row 1 (s1.length + 1) (Cw s1.length (elI s1) (cut 1 [vi (Vm p0 k1).id])))] (an (nn0 k1) (an (ltc hlt1) (an (by omega : (s1.length + 1) * 8 ≤ 140737488355328) tv))) (by kernel_rfl) (.cons rfl (MLe.ownLen (enc := Bn) (d := 0) (f := (Cw s1.length (elI s1) (cut 1 [vi (Vm p0 k1).id]))) (RowIs.cat RowIs.elems (RowIs.lit (enc := Bn) (d := 0) (n := 1) (f := (cut 1 [vi (Vm p0 k1).id])) [(Vm p0 k1).id] rfl (fun | 0,_ => rfl | n + 1,h => absurd h (by omega))))) .nil) (.cons rfl (BLe.typed (RowIs.cat RowIs.elems (RowIs.lit (enc := Bn) (d := 0) (n := 1) (f := (cut 1 [vi (Vm p0 k1).id])) [(Vm p0 k1).id] rfl (fun | 0,_ => rfl | n + 1,h => absurd h (by omega))))) .nil) ?_
     exact bD (s1 ++ [(Vm p0 k1).id]) hm .refl
    ·intro h13 hm
     refine Sk ?_
     exact bD s1 hm Conv.t0
  ·intro h12
   have hge1 : ¬ k1 < p0.tasks.length := by have := of_decide_eq_false h12; omega
   have hm := he1 hge1
   unfold AcN at hm
   refine DW.exit ?_
   refine Ao ?_
   refine Aw ?_
   refine Ak ?_
   show DW _ _ _ _ _
   refine Sq (RK hnt (nn 2 []) [(4,ow 1264 s1.length)] [(1264,ob0 (roI s1))] tv ?_)
   obtain rfl := sj hm
   exact DW.ret (Ag [roI s1] [1264] (ow 0 s1.length))
abbrev o97 (ks : List Nat) (b : Bool) (RES : List Int) (sm : List Nat := []) : Orc := .call 26 ks b (ow 0 RES.length) [] [roI RES] sm

abbrev Xl (p0 : Aa) (k1 : Nat) := (p0.tree.nodes.getD k1 (default : An))
theorem Nu (p0 : Aa) (RES : Bool) (hm : Rh p0 = some RES) : Spec Tryz.prog 209 [.p (.agg (Ab p0))] [] (pB RES) [] [] := by
 unfold Rh at hm
 refine SO Tryz.func209 rfl rfl [(0,.p (.agg (Ab p0)))] [] ?_
 intro cx hnt
 refine Sq (RK hnt (nn 2 []) [(1,rr 1008)] [(1008,bx (pm (Ab p0)))] tv ?_)
 obtain ⟨r1,hr1,hm⟩ := bo hm
 refine Sq (Sq (RD hnt (.no :: o93 [] true r1 :: .no :: []) [] [(7,pB (!r1))] [] [] (an (Ea p0 r1 hr1) tv) ?_))
 refine Ae hm ?_ ?_
 ·intro h2 hm
  refine Sq (RK hnt (.no :: []) [(2,pB false)] [] tv ?_)
  obtain rfl := sj hm
  exact DW.ret (Ag [] [] (pB false))
 ·intro h2 hm
  refine Sk ?_
  refine Sq (Sq (RD hnt (.no :: []) [7] [(3,pI 0)] [] [] tv ?_))
  refine Bk ?_
  obtain ⟨hc1,hm⟩ := go1 hm
  refine DW.rangeO (fun (k1 : Nat) (s1 : Unit) => Aj [(1,rr 1008),(3,pI ((k1 : Nat) : Int))] [(1008,bx (pm (Ab p0)))]) Bj hm Conv.eqK ?_
  intro k1 s1 n1 hk1 hs1 he1
  refine Sq (Sq (RD hnt (nn 6 []) [] [(13,pB (decide (((k1 : Nat) : Int) < ((p0.tree.nodes.length : Nat) : Int))))] [] [] tv ?_))
  refine Cb (decide (((k1 : Nat) : Int) < ((p0.tree.nodes.length : Nat) : Int))) ?_ ?_
  ·intro h19
   have hlt1 : k1 < p0.tree.nodes.length := by have := of_decide_eq_true h19; omega
   have hm := hs1 hlt1
   unfold Zr at hm
   refine Sk ?_
   refine Sq (Bk ?_)
   refine Sq (RD hnt (nn 8 []) [13] [(4,rr 1032)] [] [(1032,bx (pm (Ar (Xl p0 k1))))] (an (nn0 k1) (an (ltc hlt1) tv)) ?_)
   obtain ⟨r20,hr20,hm⟩ := bo hm
   refine Sq ?_
   refine Jn (ι := Bool) (fun (y3 : Bool) => Aj [(1,rr 1008),(3,pI ((k1 : Nat) : Int)),(49,pB y3)] [(1008,bx (pm (Ab p0)))]) (fun y3 => (Jt n1) y3 = some RES) ?_ ?_
   ·intro y3 hm
    unfold Jt at hm
    refine Ae hm ?_ ?_
    ·intro h25 hm
     refine Sq (RK hnt (.no :: []) [(2,pB false)] [] tv ?_)
     obtain rfl := sj hm
     exact DW.ret (Ag [] [] (pB false))
    ·intro h25 hm
     refine Sk ?_
     refine DW.done ?_
     show DW _ _ _ _ _
     refine RD hnt (nn 3 []) [49] [(3,pI (w64 (((k1 : Nat) : Int) + 1)))] [] [] tv ?_
     exact jD () ⟨hlt1,hm⟩ (Conv.tp [(3,pI (w64 (((k1 : Nat) : Int) + 1)))] [] (by kernel_rfl) (.cons rfl (.of_eq (congrArg pI (Bl hlt1 hc1))) .nil) .nil)
   ·rcases bt ((Eb .i64 (Xl p0 k1).control r20) != 0) with h21 | h21
    ·replace hm := Bd h21 hm
     refine RD hnt (nn 6 (o95 [] true r20 :: nn 3 (sk 17 (pT :: [])))) [4] [(49,pB true)] [1032] [] (an (Jr p0.tree (Xl p0 k1).id r20 hr20) (an2 h21 (an6 h21 tv))) ?_
     exact jD true hm Conv.eqK
    ·replace hm := Bc h21 hm
     rcases bt ((Xl p0 k1).id != 1) with h22 | h22
     ·replace hm := Bd h22 hm
      rcases bt ((kand .i64 (Xl p0 k1).control 6) != 0) with h23 | h23
      ·replace hm := Bd h23 hm
       obtain ⟨r24,hr24,hm⟩ := bo hm
       refine RD hnt (nn 6 (o95 [] true r20 :: nn 11 (pT :: nn 4 (o97 [] true r24 :: nn 2 (pT :: pF :: []))))) [4] [(49,pB (decide (((r24.length : Nat) : Int) > 0)))] [1032] [] (an (Jr p0.tree (Xl p0 k1).id r20 hr20) (an4 h21 (an4 h22 (an h21 (an h22 (an h21 (an4 h23 (an (Ns p0 (Xl p0 k1).id r24 hr24) (an2 h23 (an h21 (an h23 (an h21 tv)))))))))))) ?_
       exact jD (decide (((r24.length : Nat) : Int) > 0)) hm Conv.eqK
      ·replace hm := Bc h23 hm
       refine RD hnt (nn 6 (o95 [] true r20 :: nn 11 (pT :: .no :: sk 6 (pF :: pF :: [])))) [4] [(49,pB false)] [1032] [] (an (Jr p0.tree (Xl p0 k1).id r20 hr20) (an4 h21 (an4 h22 (an h21 (an h22 (an h21 (an6 h23 (an h21 (an h23 (an h21 tv)))))))))) ?_
       exact jD false hm Conv.eqK
     ·replace hm := Bc h22 hm
      refine RD hnt (nn 6 (o95 [] true r20 :: nn 7 (sk 4 (pF :: .no :: sk 6 (pF :: pF :: []))))) [4] [(49,pB false)] [1032] [] (an (Jr p0.tree (Xl p0 k1).id r20 hr20) (an4 h21 (an4 h22 (an h21 (an h22 (an h21 (an6 ff (an h21 (an ff (an h21 tv)))))))))) ?_
      exact jD false hm Conv.eqK
  ·intro h19
   have hge1 : ¬ k1 < p0.tree.nodes.length := by have := of_decide_eq_false h19; omega
   have hm := he1 hge1
   unfold AcW at hm
   refine DW.exit ?_
   refine Ao ?_
   refine Aw ?_
   refine Ak ?_
   show DW _ _ _ _ _
   refine Sq (RK hnt (.no :: []) [(2,pB true)] [] tv ?_)
   obtain rfl := sj hm
   exact DW.ret (Ag [] [] (pB true))
abbrev o92 (ks : List Nat) (b : Bool) (RES : Bool) (sm : List Nat := []) : Orc := .call 209 ks b (pB RES) [] [] sm

theorem Lz (p0 : Aa) (p1 : Int) (RES : Au × Bool) (hm : Gu p0 p1 = some RES) : Spec Tryz.prog 23 [.p (.agg (Ab p0)),pI p1] [] (.p (.tup [.agg (Ax RES.1),vb RES.2])) [] [] := by
 unfold Gu at hm
 refine SO Tryz.func23 rfl rfl [(0,.p (.agg (Ab p0))),(1,pI p1)] [] ?_
 intro cx hnt
 refine Sq (RK hnt (nn 3 []) [(1,pI p1),(2,rr 1016),(4,rr 1032)] [(1016,bx (pm (Ab p0))),(1032,bx [pI 0,pI 0,pI 0,pI 0])] tv ?_)
 obtain ⟨r1,hr1,hm⟩ := bo hm
 refine Sq (Sq (RD hnt (.no :: o93 [] true r1 :: .no :: []) [] [(9,pB (!r1))] [] [] (an (Ea p0 r1 hr1) tv) ?_))
 refine Ae hm ?_ ?_
 ·intro h2 hm
  refine Sq (RD hnt (nn 3 []) [1,2,9] [(5,pB false)] [1016] [] tv ?_)
  obtain rfl := sj hm
  exact DW.ret (Ag [] [] (.p (.tup [.agg [vi 0,vi 0,vi 0,vi 0],vb false])))
 ·intro h2 hm
  refine Sk ?_
  refine Sq (Sq (RD hnt (.no :: []) [9] [(6,pI 0)] [] [] tv ?_))
  refine Bk ?_
  obtain ⟨hc1,hm⟩ := go1 hm
  refine DW.rangeO (fun (k1 : Nat) (s1 : Unit) => Aj [(1,pI p1),(2,rr 1016),(4,rr 1032),(6,pI ((k1 : Nat) : Int))] [(1016,bx (pm (Ab p0))),(1032,bx [pI 0,pI 0,pI 0,pI 0])]) Br hm Conv.eqK ?_
  intro k1 s1 n1 hk1 hs1 he1
  refine Sq (Sq (RD hnt (nn 5 []) [] [(15,pB (decide (((k1 : Nat) : Int) < ((p0.tasks.length : Nat) : Int))))] [] [] tv ?_))
  refine Cb (decide (((k1 : Nat) : Int) < ((p0.tasks.length : Nat) : Int))) ?_ ?_
  ·intro h11
   have hlt1 : k1 < p0.tasks.length := by have := of_decide_eq_true h11; omega
   have hm := hs1 hlt1
   unfold Aet at hm
   refine Sk ?_
   refine Sq (Bk ?_)
   refine Sq (RD hnt (nn 8 []) [15] [(25,pB ((p0.tasks.getD k1 (default : Au)).id == p1))] [] [] (an (nn0 k1) (an (ltc hlt1) tv)) ?_)
   refine Ae hm ?_ ?_
   ·intro h12 hm
    refine Sq (RK hnt (nn 7 []) [(4,rr 1032),(5,pB true)] [(1032,bx (pm (Ax (p0.tasks.getD k1 (default : Au)))))] (an (nn0 k1) (an (ltc hlt1) tv)) ?_)
    obtain rfl := sj hm
    exact DW.ret (Ag [] [] (.p (.tup [.agg (Ax (p0.tasks.getD k1 (default : Au))),vb true])))
   ·intro h12 hm
    refine Sk ?_
    refine DW.done ?_
    show DW _ _ _ _ _
    refine RD hnt (nn 3 []) [25] [(6,pI (w64 (((k1 : Nat) : Int) + 1)))] [] [] tv ?_
    exact jD () ⟨hlt1,hm⟩ (Conv.tp [(6,pI (w64 (((k1 : Nat) : Int) + 1)))] [] (by kernel_rfl) (.cons rfl (.of_eq (congrArg pI (Bl hlt1 hc1))) .nil) .nil)
  ·intro h11
   have hge1 : ¬ k1 < p0.tasks.length := by have := of_decide_eq_false h11; omega
   have hm := he1 hge1
   unfold Aej at hm
   refine DW.exit ?_
   refine Ao ?_
   refine Aw ?_
   refine Ak ?_
   show DW _ _ _ _ _
   refine Sq (RD hnt (nn 3 []) [1,2,6,15] [(5,pB false)] [1016] [] tv ?_)
   obtain rfl := sj hm
   exact DW.ret (Ag [] [] (.p (.tup [.agg [vi 0,vi 0,vi 0,vi 0],vb false])))
abbrev o98 (ks : List Nat) (b : Bool) (RES : Au × Bool) (sm : List Nat := []) : Orc := .call 23 ks b (.p (.tup [.agg (Ax RES.1),vb RES.2])) [] [] sm

theorem Po (p0 : Af) (p1 : Int) (RES : Int × Bool) (hm : Ks p0 p1 = some RES) : Spec Tryz.prog 165 [.p (.agg (As p0)),pI p1] [] (.p (.tup [vi RES.1,vb RES.2])) [] [] := by
 unfold Ks at hm
 refine SO Tryz.func165 rfl rfl [(0,.p (.agg (As p0))),(1,pI p1)] [] ?_
 intro cx hnt
 refine Sq (RK hnt (nn 3 []) [(1,pI p1),(2,rr 1016)] [(1016,bx (pm (As p0)))] tv ?_)
 obtain ⟨r1,hr1,hm⟩ := bo hm
 refine Sq (RD hnt (nn 2 (o82 [] true r1 :: .no :: [])) [1] [(6,ow 1096 r1.length)] [] [(1096,ob0 (roI r1))] (an (Jq p0 p1 r1 hr1) tv) ?_)
 refine Sq (Sq (RD hnt (.no :: []) [] [(7,pI 0)] [] [] tv ?_))
 refine Bk ?_
 obtain ⟨hc1,hm⟩ := go1 hm
 refine DW.rangeO (fun (k1 : Nat) (s1 : Unit) => Aj [(2,rr 1016),(6,ow 1096 r1.length),(7,pI ((k1 : Nat) : Int))] [(1016,bx (pm (As p0))),(1096,ob0 (roI r1))]) 0 hm Conv.eqK ?_
 intro k1 s1 n1 hk1 hs1 he1
 refine Sq (Sq (RD hnt (nn 4 []) [] [(16,pB (decide (((k1 : Nat) : Int) < ((r1.length : Nat) : Int))))] [] [] tv ?_))
 refine Cb (decide (((k1 : Nat) : Int) < ((r1.length : Nat) : Int))) ?_ ?_
 ·intro h16
  have hlt1 : k1 < r1.length := by have := of_decide_eq_true h16; omega
  have hm := hs1 hlt1
  unfold Wx at hm
  refine Sk ?_
  refine Sq (Bk ?_)
  obtain ⟨r17,hr17,hm⟩ := bo hm
  refine Sq (RD hnt (nn 5 (o80 [] true r17 :: nn 6 [])) [16] [(8,rr 1064)] [] [(1064,bx (pm (Ar r17.1)))] (an (nn0 k1) (an (ltc hlt1) (an (by omega : k1 < r1.length) (an (De p0 (r1.getD k1 0) r17 hr17) tv)))) ?_)
  refine Sq (RD hnt (nn 3 []) [8] [(30,pB (r17.1.kind != 1))] [1064] [] tv ?_)
  refine Ae hm ?_ ?_
  ·intro h18 hm
   refine Sq (RK hnt (nn 6 []) [(4,pI (r1.getD k1 0)),(5,pB true)] [] (an (nn0 k1) (an (ltc hlt1) (an (by omega : k1 < r1.length) tv))) ?_)
   obtain rfl := sj hm
   exact DW.ret (Ag [] [] (.p (.tup [vi (r1.getD k1 0),vb true])))
  ·intro h18 hm
   refine Sk ?_
   refine DW.done ?_
   show DW _ _ _ _ _
   refine RD hnt (nn 3 []) [30] [(7,pI (w64 (((k1 : Nat) : Int) + 1)))] [] [] tv ?_
   exact jD () ⟨hlt1,hm⟩ (Conv.tp [(7,pI (w64 (((k1 : Nat) : Int) + 1)))] [] (by kernel_rfl) (.cons rfl (.of_eq (congrArg pI (Bl hlt1 hc1))) .nil) .nil)
 ·intro h16
  have hge1 : ¬ k1 < r1.length := by have := of_decide_eq_false h16; omega
  have hm := he1 hge1
  unfold Aca at hm
  refine DW.exit ?_
  refine Ao ?_
  refine Aw ?_
  refine Ak ?_
  show DW _ _ _ _ _
  refine Sq (RK hnt (nn 2 []) [(4,pI 0),(5,pB false)] [] tv ?_)
  obtain rfl := sj hm
  exact DW.ret (Ag [] [] (.p (.tup [vi 0,vb false])))
abbrev o99 (ks : List Nat) (b : Bool) (RES : Int × Bool) (sm : List Nat := []) : Orc := .call 165 ks b (.p (.tup [vi RES.1,vb RES.2])) [] [] sm

theorem AfV (rec : Af → Int → Option Int) (ih : ∀ (p0 : Af) (p1 : Int) (RES : Int),rec p0 p1 = some RES → Spec Tryz.prog 163 [.p (.agg (As p0)),pI p1] [] (pI RES) [] []) (p0 : Af) (p1 : Int) (RES : Int) (hm : Qx rec p0 p1 = some RES) : Spec Tryz.prog 163 [.p (.agg (As p0)),pI p1] [] (pI RES) [] [] := by
 unfold Qx at hm
 refine SO Tryz.func163 rfl rfl [(0,.p (.agg (As p0))),(1,pI p1)] [] ?_
 intro cx hnt
 refine Sq (RK hnt (nn 2 []) [(1,pI p1),(2,rr 1016)] [(1016,bx (pm (As p0)))] tv ?_)
 obtain ⟨r1,hr1,hm⟩ := bo hm
 refine Sq (RD hnt (nn 2 (o80 [] true r1 :: nn 6 [])) [] [(5,rr 1040),(6,pB r1.2)] [] [(1040,bx (pm (Ar r1.1)))] (an (De p0 p1 r1 hr1) tv) ?_)
 refine Sq (Sq (RD hnt (nn 2 []) [6] [(20,pB (!r1.2))] [] [] tv ?_))
 refine Ae hm ?_ ?_
 ·intro h2 hm
  refine Sq (RK hnt (.no :: []) [(4,pI 0)] [] tv ?_)
  obtain rfl := sj hm
  exact DW.ret (Ag [] [] (pI 0))
 ·intro h2 hm
  refine Sk ?_
  refine Sq (Sq (RD hnt (nn 3 []) [20] [(23,pB (r1.1.kind == 1))] [] [] tv ?_))
  refine Ae hm ?_ ?_
  ·intro h3 hm
   refine Sq (RK hnt (.no :: []) [(4,pI 2)] [] tv ?_)
   obtain rfl := sj hm
   exact DW.ret (Ag [] [] (pI 2))
  ·intro h3 hm
   refine Sk ?_
   obtain ⟨r4,hr4,hm⟩ := bo hm
   refine Sq (Sq (RD hnt (nn 3 (o80 [] true r4 :: nn 6 [])) [5,23] [(7,rr 1056),(8,pB r4.2)] [1040] [(1056,bx (pm (Ar r4.1)))] (an (De p0 r1.1.parent r4 hr4) tv) ?_))
   refine Sq ?_
   refine Jn (ι := Bool) (fun (y1 : Bool) => Aj [(1,pI p1),(2,rr 1016),(43,pB y1)] [(1016,bx (pm (As p0)))]) (fun y1 => (Ml p0 p1) y1 = some RES) ?_ ?_
   ·intro y1 hm
    unfold Ml at hm
    refine Ae hm ?_ ?_
    ·intro h8 hm
     refine Sq (RK hnt (.no :: []) [(4,pI 3)] [] tv ?_)
     obtain rfl := sj hm
     exact DW.ret (Ag [] [] (pI 3))
    ·intro h8 hm
     refine Sk ?_
     obtain ⟨r9,hr9,hm⟩ := bo hm
     refine Sq (RD hnt (nn 2 (o86 [] true r9 :: .no :: [])) [1,43] [(9,ow 1368 r9.length)] [] [(1368,ob0 (roI r9))] (an (Ro p0 p1 r9 hr9) tv) ?_)
     refine Sq (Sq (RD hnt (.no :: []) [] [(10,pI 0)] [] [] tv ?_))
     refine Bk ?_
     obtain ⟨hc1,hm⟩ := go1 hm
     refine DW.rangeO (fun (k1 : Nat) (s1 : Unit) => Aj [(2,rr 1016),(9,ow 1368 r9.length),(10,pI ((k1 : Nat) : Int))] [(1016,bx (pm (As p0))),(1368,ob0 (roI r9))]) 0 hm Conv.eqK ?_
     intro k1 s1 n1 hk1 hs1 he1
     refine Sq (Sq (RD hnt (nn 4 []) [] [(50,pB (decide (((k1 : Nat) : Int) < ((r9.length : Nat) : Int))))] [] [] tv ?_))
     refine Cb (decide (((k1 : Nat) : Int) < ((r9.length : Nat) : Int))) ?_ ?_
     ·intro h20
      have hlt1 : k1 < r9.length := by have := of_decide_eq_true h20; omega
      have hm := hs1 hlt1
      unfold AaO at hm
      refine Sk ?_
      refine Sq (Bk ?_)
      obtain ⟨r21,hr21,hm⟩ := bo hm
      refine Sq (RD hnt (nn 5 (o80 [] true r21 :: nn 6 [])) [50] [(11,rr 1088)] [] [(1088,bx (pm (Ar r21.1)))] (an (nn0 k1) (an (ltc hlt1) (an (by omega : k1 < r9.length) (an (De p0 (r9.getD k1 0) r21 hr21) tv)))) ?_)
      refine Sq (RD hnt (nn 3 []) [11] [(64,pB (r21.1.kind == 1))] [1088] [] tv ?_)
      refine Ae hm ?_ ?_
      ·intro h22 hm
       refine Sq (RK hnt (.no :: []) [(4,pI 1)] [] tv ?_)
       obtain rfl := sj hm
       exact DW.ret (Ag [] [] (pI 1))
      ·intro h22 hm
       refine Sk ?_
       refine DW.done ?_
       show DW _ _ _ _ _
       refine RD hnt (nn 3 []) [64] [(10,pI (w64 (((k1 : Nat) : Int) + 1)))] [] [] tv ?_
       exact jD () ⟨hlt1,hm⟩ (Conv.tp [(10,pI (w64 (((k1 : Nat) : Int) + 1)))] [] (by kernel_rfl) (.cons rfl (.of_eq (congrArg pI (Bl hlt1 hc1))) .nil) .nil)
     ·intro h20
      have hge1 : ¬ k1 < r9.length := by have := of_decide_eq_false h20; omega
      have hm := he1 hge1
      unfold Aen at hm
      refine DW.exit ?_
      refine Ao ?_
      refine Aw ?_
      refine Ak ?_
      show DW _ _ _ _ _
      refine Sq (RK hnt (.no :: []) [(4,pI 0)] [] tv ?_)
      obtain rfl := sj hm
      exact DW.ret (Ag [] [] (pI 0))
   ·rcases bt r4.2 with h5 | h5
    ·replace hm := Bd h5 hm
     rcases bt (r4.1.kind == 1) with h6 | h6
     ·replace hm := Bd h6 hm
      refine RD hnt (nn 6 (sk 5 (pT :: pT :: []))) [7,8] [(43,pB true)] [1056] [] (an4 h5 (an5 h6 (an h5 (an h6 (an h5 tv))))) ?_
      exact jD true hm Conv.eqK
     ·replace hm := Bc h6 hm
      obtain ⟨r7,hr7,hm⟩ := bo hm
      refine RD hnt (nn 9 (.call 163 [] true (pI r7) [] [] [] :: .no :: pF :: pT :: [])) [7,8] [(43,pB (r7 == 3))] [1056] [] (an4 h5 (an4 h6 (an (ih p0 r4.1.id r7 hr7) (an h6 (an h5 (an h6 (an h5 tv))))))) ?_
      exact jD (r7 == 3) hm Conv.eqK
    ·replace hm := Bc h5 hm
     refine RD hnt (nn 2 (sk 10 (pF :: []))) [7,8] [(43,pB false)] [1056] [] (an6 h5 tv) ?_
     exact jD false hm Conv.eqK
theorem Abh : ∀ (n : Nat) (p0 : Af) (p1 : Int) (RES : Int),Kn n p0 p1 = some RES → Spec Tryz.prog 163 [.p (.agg (As p0)),pI p1] [] (pI RES) [] []
  | 0,p0,p1,RES,hm => by simp [Kn] at hm
  | n + 1,p0,p1,RES,hm => AfV (Kn n) (Abh n) p0 p1 RES hm
theorem Hg (p0 : Af) (p1 : Int) (RES : Int) (hm : Mf p0 p1 = some RES) : Spec Tryz.prog 163 [.p (.agg (As p0)),pI p1] [] (pI RES) [] [] := Abh Dz p0 p1 RES hm
abbrev o100 (ks : List Nat) (b : Bool) (RES : Int) (sm : List Nat := []) : Orc := .call 163 ks b (pI RES) [] [] sm

abbrev Vr (p0 : Aa) (k4 : Nat) := (p0.tree.nodes.getD k4 (default : An))
abbrev c91e2 (p0 : Aa) : Nat × Obj := (1008,bx (pm (Ab p0)))
theorem Ly (p0 : Aa) (RES : Bool) (hm : Kv p0 = some RES) : Spec Tryz.prog 162 [.p (.agg (Ab p0))] [] (pB RES) [] [] := by
 unfold Kv at hm
 refine SO Tryz.func162 rfl rfl [(0,.p (.agg (Ab p0)))] [] ?_
 intro cx hnt
 refine Sq (RK hnt (nn 2 []) [(1,rr 1008)] [(c91e2 p0)] tv ?_)
 obtain ⟨r1,hr1,hm⟩ := bo hm
 refine Sq (Sq (RD hnt (.no :: o92 [] true r1 :: .no :: []) [] [(16,pB (!r1))] [] [] (an (Nu p0 r1 hr1) tv) ?_))
 refine Ae hm ?_ ?_
 ·intro h2 hm
  refine Sq (RK hnt (.no :: []) [(2,pB false)] [] tv ?_)
  obtain rfl := sj hm
  exact DW.ret (Ag [] [] (pB false))
 ·intro h2 hm
  refine Sk ?_
  refine Sq (Sq (RD hnt (.no :: []) [16] [(3,pI 0)] [] [] tv ?_))
  refine Bk ?_
  obtain ⟨hc1,hm⟩ := go1 hm
  refine DW.rangeO (fun (k1 : Nat) (s1 : Unit) => Aj [(1,rr 1008),(3,pI ((k1 : Nat) : Int))] [(c91e2 p0)]) Br hm Conv.eqK ?_
  intro k1 s1 n1 hk1 hs1 he1
  refine Sq (Sq (RD hnt (nn 5 []) [] [(21,pB (decide (((k1 : Nat) : Int) < ((p0.tasks.length : Nat) : Int))))] [] [] tv ?_))
  refine Cb (decide (((k1 : Nat) : Int) < ((p0.tasks.length : Nat) : Int))) ?_ ?_
  ·intro h99
   have hlt1 : k1 < p0.tasks.length := by have := of_decide_eq_true h99; omega
   have hm := hs1 hlt1
   unfold AaE at hm
   refine Sk ?_
   refine Sq (Bk ?_)
   obtain ⟨r100,hr100,hm⟩ := bo hm
   refine Sq (RD hnt (nn 7 (o98 [] true r100 :: nn 6 [])) [21] [(4,rr 1032)] [] [(1032,bx (pm (Ax r100.1)))] (an (nn0 k1) (an (ltc hlt1) (an (Lz p0 (p0.tasks.getD k1 (default : Au)).process r100 hr100) tv))) ?_)
   obtain ⟨r101,hr101,hm⟩ := bo hm
   refine Sq (RD hnt (nn 8 (o99 [] true r101 :: nn 5 [])) [] [(6,pI r101.1)] [] [] (an (nn0 k1) (an (ltc hlt1) (an (Po p0.tree (p0.tasks.getD k1 (default : Au)).group r101 hr101) tv))) ?_)
   obtain ⟨r102,hr102,hm⟩ := bo hm
   refine Sq (RD hnt (nn 4 (o99 [] true r102 :: nn 5 [])) [4] [(8,pI r102.1)] [1032] [] (an (Po p0.tree r100.1.group r102 hr102) tv) ?_)
   refine Sq (RD hnt (nn 3 []) [6,8] [(57,pB (r101.1 != r102.1))] [] [] tv ?_)
   refine Ae hm ?_ ?_
   ·intro h103 hm
    refine Sq (RK hnt (.no :: []) [(2,pB false)] [] tv ?_)
    obtain rfl := sj hm
    exact DW.ret (Ag [] [] (pB false))
   ·intro h103 hm
    refine Sk ?_
    refine DW.done ?_
    show DW _ _ _ _ _
    refine RD hnt (nn 3 []) [57] [(3,pI (w64 (((k1 : Nat) : Int) + 1)))] [] [] tv ?_
    exact jD () ⟨hlt1,hm⟩ (Conv.tp [(3,pI (w64 (((k1 : Nat) : Int) + 1)))] [] (by kernel_rfl) (.cons rfl (.of_eq (congrArg pI (Bl hlt1 hc1))) .nil) .nil)
  ·intro h99
   have hge1 : ¬ k1 < p0.tasks.length := by have := of_decide_eq_false h99; omega
   have hm := he1 hge1
   unfold AaC at hm
   refine DW.exit ?_
   refine Ao ?_
   refine Aw ?_
   refine Ak ?_
   show DW _ _ _ _ _
   refine Sq (Sq (RD hnt (.no :: []) [3,21] [(10,pI 0)] [] [] tv ?_))
   refine Bk ?_
   obtain ⟨hc4,hm⟩ := go1 hm
   refine DW.rangeO (fun (k4 : Nat) (s4 : Unit) => Aj [(1,rr 1008),(10,pI ((k4 : Nat) : Int))] [(c91e2 p0)]) Bj hm Conv.eqK ?_
   intro k4 s4 n4 hk4 hs4 he4
   refine Sq (Sq (RD hnt (nn 6 []) [] [(63,pB (decide (((k4 : Nat) : Int) < ((p0.tree.nodes.length : Nat) : Int))))] [] [] tv ?_))
   refine Cb (decide (((k4 : Nat) : Int) < ((p0.tree.nodes.length : Nat) : Int))) ?_ ?_
   ·intro h132
    have hlt4 : k4 < p0.tree.nodes.length := by have := of_decide_eq_true h132; omega
    have hm := hs4 hlt4
    unfold AaF at hm
    refine Sk ?_
    refine Sq (Bk ?_)
    refine Sq (RD hnt (nn 8 []) [63] [(11,rr 1088)] [] [(1088,bx (pm (Ar (Vr p0 k4))))] (an (nn0 k4) (an (ltc hlt4) tv)) ?_)
    obtain ⟨r133,hr133,hm⟩ := bo hm
    refine Sq (RD hnt (nn 4 (o80 [] true r133 :: nn 6 [])) [] [(12,rr 1096)] [] [(1096,bx (pm (Ar r133.1)))] (an (De p0.tree (Vr p0 k4).parent r133 hr133) tv) ?_)
    obtain ⟨r134,hr134,hm⟩ := bo hm
    refine Sq (Sq ?_)
    refine Jn (ι := Bool) (fun (y17 : Bool) => Aj [(1,rr 1008),(10,pI ((k4 : Nat) : Int)),(11,rr 1088),(12,rr 1096),(98,pB y17)] [(c91e2 p0),(1088,bx (pm (Ar (Vr p0 k4)))),(1096,bx (pm (Ar r133.1)))]) (fun y17 => (Ll p0 (Vr p0 k4) n4 r133) y17 = some RES) ?_ ?_
    ·intro y17 hm
     unfold Ll at hm
     refine Ae hm ?_ ?_
     ·intro h138 hm
      refine Sq (RK hnt (.no :: []) [(2,pB false)] [] tv ?_)
      obtain rfl := sj hm
      exact DW.ret (Ag [] [] (pB false))
     ·intro h138 hm
      refine Sk ?_
      refine Sq ?_
      refine Jn (ι := Bool) (fun (y18 : Bool) => Aj [(1,rr 1008),(10,pI ((k4 : Nat) : Int)),(120,pB y18)] [(c91e2 p0)]) (fun y18 => (Jm n4) y18 = some RES) ?_ ?_
      ·intro y18 hm
       unfold Jm at hm
       refine Ae hm ?_ ?_
       ·intro h144 hm
        refine Sq (RK hnt (.no :: []) [(2,pB false)] [] tv ?_)
        obtain rfl := sj hm
        exact DW.ret (Ag [] [] (pB false))
       ·intro h144 hm
        refine Sk ?_
        refine DW.done ?_
        show DW _ _ _ _ _
        refine RD hnt (nn 3 []) [120] [(10,pI (w64 (((k4 : Nat) : Int) + 1)))] [] [] tv ?_
        exact jD () ⟨hlt4,hm⟩ (Conv.tp [(10,pI (w64 (((k4 : Nat) : Int) + 1)))] [] (by kernel_rfl) (.cons rfl (.of_eq (congrArg pI (Bl hlt4 hc4))) .nil) .nil)
      ·rcases bt ((Vr p0 k4).kind == 1) with h139 | h139
       ·replace hm := Bd h139 hm
        rcases bt (r133.1.id != 1) with h140 | h140
        ·replace hm := Bd h140 hm
         rcases bt ((kand .i64 r133.1.control 6) != 0) with h141 | h141
         ·replace hm := Bd h141 hm
          refine RD hnt (nn 12 (pT :: .no :: sk 6 (pT :: pT :: []))) [11,12,98] [(120,pB true)] [1088,1096] [] (an4 h139 (an4 h140 (an h139 (an h140 (an h139 (an6 h141 (an h139 (an h141 (an h139 tv))))))))) ?_
          exact jD true hm Conv.eqK
         ·replace hm := Bc h141 hm
          obtain ⟨r142,hr142,hm⟩ := bo hm
          refine RD hnt (nn 12 (pT :: nn 5 (o100 [] true r142 :: .no :: pF :: pT :: []))) [11,12,98] [(120,pB (r142 == 3))] [1088,1096] [] (an4 h139 (an4 h140 (an h139 (an h140 (an h139 (an5 h141 (an (Hg p0.tree r133.1.id r142 hr142) (an h141 (an h139 (an h141 (an h139 tv))))))))))) ?_
          exact jD (r142 == 3) hm Conv.eqK
        ·replace hm := Bc h140 hm
         obtain ⟨r143,hr143,hm⟩ := bo hm
         refine RD hnt (nn 8 (sk 4 (pF :: nn 5 (o100 [] true r143 :: .no :: pF :: pT :: [])))) [11,12,98] [(120,pB (r143 == 3))] [1088,1096] [] (an4 h139 (an4 h140 (an h139 (an h140 (an h139 (an5 ff (an (Hg p0.tree r133.1.id r143 hr143) (an ff (an h139 (an ff (an h139 tv))))))))))) ?_
         exact jD (r143 == 3) hm Conv.eqK
       ·replace hm := Bc h139 hm
        refine RD hnt (nn 4 (sk 17 (pF :: []))) [11,12,98] [(120,pB false)] [1088,1096] [] (an2 h139 (an6 h139 tv)) ?_
        exact jD false hm Conv.eqK
    ·rcases bt (r134 == 3) with h135 | h135
     ·replace hm := Bd h135 hm
      rcases bt ((Vr p0 k4).control != 0) with h136 | h136
      ·replace hm := Bd h136 hm
       refine RD hnt (nn 4 (o100 [] true r134 :: nn 6 (sk 6 (pT :: pT :: [])))) [] [(98,pB true)] [] [] (an (Hg p0.tree (Vr p0 k4).id r134 hr134) (an4 h135 (an6 h136 (an h135 (an h136 (an h135 tv)))))) ?_
       exact jD true hm Conv.eqK
      ·replace hm := Bc h136 hm
       obtain ⟨r137,hr137,hm⟩ := bo hm
       refine RD hnt (nn 4 (o100 [] true r134 :: nn 9 (o97 [] true r137 :: nn 2 (pF :: pT :: [])))) [] [(98,pB (decide (((r137.length : Nat) : Int) > 0)))] [] [] (an (Hg p0.tree (Vr p0 k4).id r134 hr134) (an4 h135 (an4 h136 (an (Ns p0 (Vr p0 k4).id r137 hr137) (an2 h136 (an h135 (an h136 (an h135 tv)))))))) ?_
       exact jD (decide (((r137.length : Nat) : Int) > 0)) hm Conv.eqK
     ·replace hm := Bc h135 hm
      refine RD hnt (nn 4 (o100 [] true r134 :: nn 2 (sk 11 (pF :: [])))) [] [(98,pB false)] [] [] (an (Hg p0.tree (Vr p0 k4).id r134 hr134) (an6 h135 tv)) ?_
      exact jD false hm Conv.eqK
   ·intro h132
    have hge4 : ¬ k4 < p0.tree.nodes.length := by have := of_decide_eq_false h132; omega
    have hm := he4 hge4
    unfold Aeu at hm
    refine DW.exit ?_
    refine Ao ?_
    refine Aw ?_
    refine Ak ?_
    show DW _ _ _ _ _
    refine Sq (RK hnt (.no :: []) [(2,pB true)] [] tv ?_)
    obtain rfl := sj hm
    exact DW.ret (Ag [] [] (pB true))
abbrev o91 (ks : List Nat) (b : Bool) (RES : Bool) (sm : List Nat := []) : Orc := .call 162 ks b (pB RES) [] [] sm

theorem Qk (p0 : Int) (RES : Bool) (hm : Yj p0 = some RES) : Spec Tryz.prog 234 [pI p0] [] (pB RES) [] [] := by
 unfold Yj at hm
 refine SO Tryz.func234 rfl rfl [(0,pI p0)] [] ?_
 intro cx hnt
 refine Sq (RK hnt (.no :: []) [(0,pI p0)] [] tv ?_)
 refine Sq (DW.regJ (sl2 := [(2,pB ((decide (p0 ≥ 0)) && (decide (p0 ≤ 31))))]) (ob2 := []) ?_ ?_)
 ·rcases bt (decide (p0 ≥ 0)) with h1 | h1
  ·exact RT hnt (nn 5 (pT :: .no :: [])) [(2,pB (decide (p0 ≤ 31)))] (an3 h1 tv) (by kernel_rfl) (.cons rfl (.of_eq (by rw [h1]; try rfl)) .nil)
  ·exact RT hnt (nn 3 (sk 2 (pF :: .no :: []))) [(2,pB false)] (an3 h1 tv) (by kernel_rfl) (.cons rfl (.of_eq (by rw [h1]; try rfl)) .nil)
 ·refine DW.ret ?_
  obtain rfl := sj hm
  exact Ag [] [] (pB ((decide (p0 ≥ 0)) && (decide (p0 ≤ 31))))
abbrev o102 (ks : List Nat) (b : Bool) (RES : Bool) (sm : List Nat := []) : Orc := .call 234 ks b (pB RES) [] [] sm

theorem Sl (p0 : Aa) (RES : Aa) (hm : Nw p0 = some RES) : Spec Tryz.prog 88 [.p (.agg (Ab p0))] [] (.agg [ow 0 RES.tree.nodes.length,pI RES.tree.next,ow 1 RES.tasks.length,pI RES.next]) [] [Ah RES.tree.nodes,At RES.tasks] := by
 unfold Nw at hm
 refine SO Tryz.func88 rfl rfl [(0,.p (.agg (Ab p0)))] [] ?_
 intro cx hnt
 refine Sq (RK hnt (nn 2 []) [(1,rr 1008),(2,rr 1016)] [(1008,bx (pm (Ab p0))),(1016,bx [.p (.sl .nil 0 0 (fun _ => [])),pI 0,.p (.sl .nil 0 0 (fun _ => [])),pI 0])] tv ?_)
 obtain ⟨r1,hr1,hm⟩ := bo hm
 obtain ⟨g2,hm⟩ := go1 hm
 refine Sq (RN hnt (nn 2 (o83 [] true r1 :: nn 7 [])) [(2,rr 1016)] [(1016,bx [ow 1040 r1.nodes.length,pI r1.next,ow 1064 p0.tasks.length,pI p0.next]),(1040,ob0 (Ah r1.nodes)),(1064,ob0 (At p0.tasks))] [] [(1064,.row 4 p0.tasks.length (Abd p0.tasks))] (an (Sp p0.tree r1 hr1) (an (by omega : p0.tasks.length * 32 ≤ 140737488355328) tv)) (by kernel_rfl) .nil (.cons rfl (BLe.typed RowIs.elems) .nil) ?_)
 obtain rfl := sj hm
 exact DW.ret (Ag [Ah r1.nodes,At p0.tasks] [1040,1064] (.agg [ow 0 r1.nodes.length,pI r1.next,ow 1 p0.tasks.length,pI p0.next]))
abbrev o103 (ks : List Nat) (b : Bool) (RES : Aa) (sm : List Nat := []) : Orc := .call 88 ks b (.agg [ow 0 RES.tree.nodes.length,pI RES.tree.next,ow 1 RES.tasks.length,pI RES.next]) [] [Ah RES.tree.nodes,At RES.tasks] sm

abbrev Afj : Nat × Obj := (1032,bx [.p (.sl .nil 0 0 (fun _ => [])),pI 0])
theorem Yv (p0 : Af) (p1 : An) (RES : Af) (hm : Sy p0 p1 = some RES) : Spec Tryz.prog 161 [.p (.agg (As p0)),.p (.agg (Ar p1))] [] (.agg [ow 0 RES.nodes.length,pI RES.next]) [] [Ah RES.nodes] := by
 unfold Sy at hm
 refine SO Tryz.func161 rfl rfl [(0,.p (.agg (As p0))),(1,.p (.agg (Ar p1)))] [] ?_
 intro cx hnt
 refine Sq (RK hnt (nn 3 []) [(2,rr 1016),(3,rr 1024),(4,rr 1032)] [(1016,bx (pm (As p0))),(1024,bx (pm (Ar p1))),(Afj)] tv ?_)
 obtain ⟨r1,hr1,hm⟩ := bo hm
 refine Sq (RD hnt (.no :: o83 [] true r1 :: nn 2 []) [2] [(5,rr 1040)] [1016] [(1040,bx [ow 1064 r1.nodes.length,pI r1.next]),(1064,ob0 (Ah r1.nodes))] (an (Sp p0 r1 hr1) tv) ?_)
 refine Sq (Sq (RD hnt (.no :: []) [] [(6,pI 0)] [] [] tv ?_))
 refine Bk ?_
 refine DW.whileO (fun (s1 : (List An) × Int) => Aj [(3,rr 1024),(4,rr 1032),(5,rr 1040),(6,pI s1.2)] [(1024,bx (pm (Ar p1))),(Afj),(1040,bx [ow 1064 s1.1.length,pI r1.next]),(1064,ob0 (Ah s1.1))]) hm Conv.eqK ?_
 intro s1 n1 hm
 unfold Abt at hm
 refine Sq (Sq (RD hnt (nn 5 []) [] [(13,pB (decide (s1.2 < ((s1.1.length : Nat) : Int))))] [] [] tv ?_))
 refine Ae hm ?_ ?_
 ·intro h8 hm
  refine Sk ?_
  refine Sq ?_
  refine Jn (ι := List An) (fun (y2 : List An) => Aj [(3,rr 1024),(4,rr 1032),(5,rr 1040),(6,pI s1.2)] [(1024,bx (pm (Ar p1))),(Afj),(1040,bx [ow 1064 y2.length,pI r1.next]),(1064,ob0 (Ah y2))]) (fun y2 => (Tk s1 n1) y2 = some RES) ?_ ?_
  ·intro y2 hm
   unfold Tk at hm
   refine RD hnt (nn 3 []) [] [(6,pI (w64 (s1.2 + 1)))] [] [] tv ?_
   exact jD (y2,(w64 (s1.2 + 1))) hm Conv.eqK
  ·refine Bk ?_
   obtain ⟨g9,g10,hm⟩ := go2 hm
   refine Sq (RD hnt (nn 9 []) [13] [(24,pB ((s1.1.getD (Int.toNat s1.2) Bj).id == p1.id))] [] [] (an g9.1 (an g9.2 (an g10 tv))) ?_)
   refine Ae hm ?_ ?_
   ·intro h11 hm
    obtain ⟨g12,g13,hm⟩ := go2 hm
    refine RN hnt (nn 6 []) [(3,rr 1024),(4,rr 1032),(5,rr 1040),(6,pI s1.2)] [(1024,bx (pm (Ar p1))),(Afj),(1040,bx [ow 1064 (s1.1.set (Int.toNat s1.2) p1).length,pI r1.next]),(1064,ob0 (Ah (s1.1.set (Int.toNat s1.2) p1)))] [] [(1040,.box [ow 1064 s1.1.length,pI r1.next]),(1064,.row 6 s1.1.length (Cc (We s1.1) (Int.toNat s1.2) [vi p1.id,vi p1.parent,vs p1.name,vi p1.control,vi p1.kind,vi p1.owner]))] (an g12.1 (an g12.2 (an g13 tv))) (by kernel_rfl) .nil (.cons rfl (.box (.cons (MLe.ownLen (enc := Ar) (d := Bj) (f := (Cc (We s1.1) (Int.toNat s1.2) [vi p1.id,vi p1.parent,vs p1.name,vi p1.control,vi p1.kind,vi p1.owner])) (RowIs.upd RowIs.elems p1 rfl)) (.cons .rfl .nil))) (.cons rfl (BLe.typed (RowIs.upd RowIs.elems p1 rfl)) .nil)) ?_
    exact bD (s1.1.set (Int.toNat s1.2) p1) hm .refl
   ·intro h11 hm
    refine Sk ?_
    exact bD s1.1 hm Conv.t0
 ·intro h8 hm
  refine DW.exit ?_
  refine Ao ?_
  refine Aw ?_
  refine Ak ?_
  show DW _ _ _ _ _
  refine Sq (RD hnt (nn 2 []) [3,5,6,13] [] [1024,1040] [(1032,bx [ow 1064 s1.1.length,pI r1.next])] tv ?_)
  obtain rfl := sj hm
  exact DW.ret (Ag [Ah s1.1] [1064] (.agg [ow 0 s1.1.length,pI r1.next]))
abbrev o104 (ks : List Nat) (b : Bool) (RES : Af) (sm : List Nat := []) : Orc := .call 161 ks b (.agg [ow 0 RES.nodes.length,pI RES.next]) [] [Ah RES.nodes] sm

abbrev Aft : Nat × Obj := (1064,bx [.p (.sl .nil 0 0 (fun _ => [])),pI 0,.p (.sl .nil 0 0 (fun _ => [])),pI 0])
abbrev AcU : Nat × Obj := (1064,bx [ow 100000 0,pI 0,ow 100001 0,pI 0])
abbrev c101e3 (r8 : An × Bool) (p3 : Int) (p2 : Int) : Nat × Obj := (1080,bx [pI r8.1.id,pI r8.1.parent,pS r8.1.name,pI (kor .i64 (Eb .i64 r8.1.control p3) p2),pI r8.1.kind,pI r8.1.owner])
theorem Aga (p0 : Aa) (p1 : Int) (p2 : Int) (p3 : Int) (RES : Aa × Int) (hm : Ud p0 p1 p2 p3 = some RES) : Spec Tryz.prog 208 [.p (.agg (Ab p0)),pI p1,pI p2,pI p3] [] (.tup [.agg [ow 0 RES.1.tree.nodes.length,pI RES.1.tree.next,ow 1 RES.1.tasks.length,pI RES.1.next],pI RES.2]) [] [Ah RES.1.tree.nodes,At RES.1.tasks] := by
 unfold Ud at hm
 refine SO Tryz.func208 rfl rfl [(0,.p (.agg (Ab p0))),(1,pI p1),(2,pI p2),(3,pI p3)] [] ?_
 intro cx hnt
 refine Sq (RD hnt (nn 3 []) [0] [(4,rr 1032),(8,rr 1064)] [] [(1032,bx (pm (Ab p0))),(Aft)] tv ?_)
 obtain ⟨r1,hr1,hm⟩ := bo hm
 refine Sq (Sq ?_)
 refine Jn (ι := Bool) (fun (y1 : Bool) => Aj [(1,pI p1),(2,pI p2),(3,pI p3),(4,rr 1032),(8,rr 1064),(37,pB y1)] [(1032,bx (pm (Ab p0))),(Aft)]) (fun y1 => (Ib p0 p1 p2 p3) y1 = some RES) ?_ ?_
 ·intro y1 hm
  unfold Ib at hm
  refine Ae hm ?_ ?_
  ·intro h7 hm
   refine Sq (RD hnt (nn 3 []) [1,2,3,4,37] [(9,pI 1)] [1032] [] tv ?_)
   refine DW.cv [] [] [] [(AcU),(100000,ob0 (Ah [])),(100001,ob0 (At []))] (Conv.ads [(.o 1064 0,100000,6,elems Ar Bj []),(.o 1064 2,100001,4,elems Ax Br [])]) ?_
   obtain rfl := sj hm
   exact DW.ret (Ag [Ah [],At []] [100000,100001] (.tup [.agg [ow 0 0,pI 0,ow 1 0,pI 0],pI 1]))
  ·intro h7 hm
   refine Sk ?_
   obtain ⟨r8,hr8,hm⟩ := bo hm
   refine Sq (RD hnt (nn 3 (o80 [] true r8 :: nn 6 [])) [37] [(10,rr 1080),(11,pB r8.2)] [] [(1080,bx (pm (Ar r8.1)))] (an (De p0.tree p1 r8 hr8) tv) ?_)
   refine Sq (Sq (RD hnt (nn 2 []) [11] [(47,pB (!r8.2))] [] [] tv ?_))
   refine Ae hm ?_ ?_
   ·intro h9 hm
    refine Sq (RD hnt (nn 3 []) [1,2,3,4,10,47] [(9,pI 4)] [1032,1080] [] tv ?_)
    refine DW.cv [] [] [] [(AcU),(100000,ob0 (Ah [])),(100001,ob0 (At []))] (Conv.ads [(.o 1064 0,100000,6,elems Ar Bj []),(.o 1064 2,100001,4,elems Ax Br [])]) ?_
    obtain rfl := sj hm
    exact DW.ret (Ag [Ah [],At []] [100000,100001] (.tup [.agg [ow 0 0,pI 0,ow 1 0,pI 0],pI 4]))
   ·intro h9 hm
    refine Sk ?_
    obtain ⟨r10,hr10,hm⟩ := bo hm
    refine Sq (Sq (RD hnt (nn 4 (o95 [] true r10 :: nn 2 [])) [47] [(55,pB ((Eb .i64 p2 r10) != 0))] [] [] (an (Jr p0.tree p1 r10 hr10) tv) ?_))
    refine Ae hm ?_ ?_
    ·intro h11 hm
     refine Sq (RD hnt (nn 3 []) [1,2,3,4,10,55] [(9,pI 9)] [1032,1080] [] tv ?_)
     refine DW.cv [] [] [] [(AcU),(100000,ob0 (Ah [])),(100001,ob0 (At []))] (Conv.ads [(.o 1064 0,100000,6,elems Ar Bj []),(.o 1064 2,100001,4,elems Ax Br [])]) ?_
     obtain rfl := sj hm
     exact DW.ret (Ag [Ah [],At []] [100000,100001] (.tup [.agg [ow 0 0,pI 0,ow 1 0,pI 0],pI 9]))
    ·intro h11 hm
     refine Sk ?_
     obtain ⟨r12,hr12,hm⟩ := bo hm
     refine Sq (RD hnt (nn 3 (o86 [] true r12 :: .no :: [])) [55] [(12,ow 1480 r12.length)] [] [(1480,ob0 (roI r12))] (an (Ro p0.tree p1 r12 hr12) tv) ?_)
     refine Sq (Sq (RD hnt (.no :: []) [] [(13,pI 0)] [] [] tv ?_))
     refine Bk ?_
     obtain ⟨hc1,hm⟩ := go1 hm
     refine DW.rangeO (fun (k1 : Nat) (s1 : Unit) => Aj [(1,pI p1),(2,pI p2),(3,pI p3),(4,rr 1032),(8,rr 1064),(10,rr 1080),(12,ow 1480 r12.length),(13,pI ((k1 : Nat) : Int))] [(1032,bx (pm (Ab p0))),(Aft),(1080,bx (pm (Ar r8.1))),(1480,ob0 (roI r12))]) 0 hm Conv.eqK ?_
     intro k1 s1 n1 hk1 hs1 he1
     refine Sq (Sq (RD hnt (nn 4 []) [] [(64,pB (decide (((k1 : Nat) : Int) < ((r12.length : Nat) : Int))))] [] [] tv ?_))
     refine Cb (decide (((k1 : Nat) : Int) < ((r12.length : Nat) : Int))) ?_ ?_
     ·intro h35
      have hlt1 : k1 < r12.length := by have := of_decide_eq_true h35; omega
      have hm := hs1 hlt1
      unfold Zb at hm
      refine Sk ?_
      refine Sq (Bk ?_)
      obtain ⟨r36,hr36,hm⟩ := bo hm
      refine Sq (RD hnt (nn 6 (o80 [] true r36 :: nn 6 [])) [64] [(14,rr 1112)] [] [(1112,bx (pm (Ar r36.1)))] (an (nn0 k1) (an (ltc hlt1) (an (by omega : k1 < r12.length) (an (De p0.tree (r12.getD k1 0) r36 hr36) tv)))) ?_)
      refine Sq (RD hnt (nn 5 []) [14] [(81,pB ((kand .i64 r36.1.control p3) != 0))] [1112] [] tv ?_)
      refine Ae hm ?_ ?_
      ·intro h37 hm
       refine Sq (RD hnt (nn 3 []) [1,2,3,4,10,12,13,81] [(9,pI 9)] [1032,1080,1480] [] tv ?_)
       refine DW.cv [] [] [] [(AcU),(100000,ob0 (Ah [])),(100001,ob0 (At []))] (Conv.ads [(.o 1064 0,100000,6,elems Ar Bj []),(.o 1064 2,100001,4,elems Ax Br [])]) ?_
       obtain rfl := sj hm
       exact DW.ret (Ag [Ah [],At []] [100000,100001] (.tup [.agg [ow 0 0,pI 0,ow 1 0,pI 0],pI 9]))
      ·intro h37 hm
       refine Sk ?_
       refine DW.done ?_
       show DW _ _ _ _ _
       refine RD hnt (nn 3 []) [81] [(13,pI (w64 (((k1 : Nat) : Int) + 1)))] [] [] tv ?_
       exact jD () ⟨hlt1,hm⟩ (Conv.tp [(13,pI (w64 (((k1 : Nat) : Int) + 1)))] [] (by kernel_rfl) (.cons rfl (.of_eq (congrArg pI (Bl hlt1 hc1))) .nil) .nil)
     ·intro h35
      have hge1 : ¬ k1 < r12.length := by have := of_decide_eq_false h35; omega
      have hm := he1 hge1
      unfold Zt at hm
      refine DW.exit ?_
      refine Ao ?_
      refine Aw ?_
      refine Ak ?_
      show DW _ _ _ _ _
      refine Sq (RD hnt (nn 3 []) [12,13,64] [(16,pI r8.1.control)] [1480] [] tv ?_)
      refine Sq (RD hnt (nn 7 []) [2,3] [] [] [(c101e3 r8 p3 p2)] tv ?_)
      refine Sq (Sq (RD hnt (nn 4 []) [] [(17,pI (kand .i64 (kor .i64 (Eb .i64 r8.1.control p3) p2) 6))] [] [] tv ?_))
      refine Sq ?_
      refine Jn (ι := Bool) (fun (y4 : Bool) => Aj [(4,rr 1032),(8,rr 1064),(10,rr 1080),(108,pB y4)] [(1032,bx (pm (Ab p0))),(Aft),(c101e3 r8 p3 p2)]) (fun y4 => (Lk p0 p2 p3 r8) y4 = some RES) ?_ ?_
      ·intro y4 hm
       unfold Lk at hm
       refine Ae hm ?_ ?_
       ·intro h41 hm
        refine Sq (RD hnt (nn 3 []) [4,10,108] [(9,pI 6)] [1032,1080] [] tv ?_)
        refine DW.cv [] [] [] [(AcU),(100000,ob0 (Ah [])),(100001,ob0 (At []))] (Conv.ads [(.o 1064 0,100000,6,elems Ar Bj []),(.o 1064 2,100001,4,elems Ax Br [])]) ?_
        obtain rfl := sj hm
        exact DW.ret (Ag [Ah [],At []] [100000,100001] (.tup [.agg [ow 0 0,pI 0,ow 1 0,pI 0],pI 6]))
       ·intro h41 hm
        refine Sk ?_
        obtain ⟨r42,hr42,hm⟩ := bo hm
        refine Sq (RD hnt (.no :: o103 [] true r42 :: nn 2 []) [108] [(18,rr 1144)] [] [(1144,bx [ow 1888 r42.tree.nodes.length,pI r42.tree.next,ow 1889 r42.tasks.length,pI r42.next]),(1888,ob0 (Ah r42.tree.nodes)),(1889,ob0 (At r42.tasks))] (an (Sl p0 r42 hr42) tv) ?_)
        obtain ⟨r43,hr43,hm⟩ := bo hm
        refine Sq (RD hnt (nn 3 (o104 [] true r43 :: nn 2 [])) [4,10] [] [1032,1080,1888] [(1144,bx [ow 1920 r43.nodes.length,pI r43.next,ow 1889 r42.tasks.length,pI r42.next]),(1920,ob0 (Ah r43.nodes))] (an (Yv p0.tree ({ id := r8.1.id,parent := r8.1.parent,name := r8.1.name,control := (kor .i64 (Eb .i64 r8.1.control p3) p2),kind := r8.1.kind,owner := r8.1.owner } : An) r43 hr43) tv) ?_)
        refine Sq (RD hnt (nn 3 []) [18] [(9,pI 0)] [1144] [(1064,bx [ow 1920 r43.nodes.length,pI r43.next,ow 1889 r42.tasks.length,pI r42.next])] tv ?_)
        obtain rfl := sj hm
        exact DW.ret (Ag [Ah r43.nodes,At r42.tasks] [1920,1889] (.tup [.agg [ow 0 r43.nodes.length,pI r43.next,ow 1 r42.tasks.length,pI r42.next],pI 0]))
      ·rcases bt ((Eb .i64 (kand .i64 (kor .i64 (Eb .i64 r8.1.control p3) p2) 6) r8.1.control) != 0) with h38 | h38
       ·replace hm := Bd h38 hm
        rcases bt (p1 != 1) with h39 | h39
        ·replace hm := Bd h39 hm
         obtain ⟨r40,hr40,hm⟩ := bo hm
         refine RD hnt (nn 7 (pT :: nn 3 (o97 [] true r40 :: nn 2 (pT :: [])))) [1,16,17] [(108,pB (decide (((r40.length : Nat) : Int) > 0)))] [] [] (an3 h38 (an3 h39 (an (Ns p0 p1 r40 hr40) (an3 h39 tv)))) ?_
         exact jD (decide (((r40.length : Nat) : Int) > 0)) hm Conv.eqK
        ·replace hm := Bc h39 hm
         refine RD hnt (nn 7 (pT :: .no :: sk 5 (pF :: []))) [1,16,17] [(108,pB false)] [] [] (an3 h38 (an6 h39 tv)) ?_
         exact jD false hm Conv.eqK
       ·replace hm := Bc h38 hm
        refine RD hnt (nn 5 (sk 2 (pF :: .no :: sk 5 (pF :: [])))) [1,16,17] [(108,pB false)] [] [] (an3 h38 (an6 ff tv)) ?_
        exact jD false hm Conv.eqK
 ·rcases bt (!r1) with h2 | h2
  ·replace hm := Bd h2 hm
   refine RD hnt (.no :: o92 [] true r1 :: nn 2 (sk 3 (pT :: .no :: sk 3 (pT :: .no :: sk 4 (pT :: []))))) [] [(37,pB true)] [] [] (an (Nu p0 r1 hr1) (an4 h2 (an3 tt (an6 tt tv)))) ?_
   exact jD true hm Conv.eqK
  ·replace hm := Bc h2 hm
   obtain ⟨r3,hr3,hm⟩ := bo hm
   rcases bt (!r3) with h4 | h4
   ·replace hm := Bd h4 hm
    refine RD hnt (.no :: o92 [] true r1 :: nn 3 (o102 [] true r3 :: .no :: pF :: .no :: sk 3 (pT :: .no :: sk 4 (pT :: [])))) [] [(37,pB true)] [] [] (an (Nu p0 r1 hr1) (an2 h2 (an (Qk p2 r3 hr3) (an2 h2 (an4 h4 (an5 tt tv)))))) ?_
    exact jD true hm Conv.eqK
   ·replace hm := Bc h4 hm
    obtain ⟨r5,hr5,hm⟩ := bo hm
    rcases bt (!r5) with h6 | h6
    ·replace hm := Bd h6 hm
     refine RD hnt (.no :: o92 [] true r1 :: nn 3 (o102 [] true r3 :: .no :: pF :: nn 2 (o102 [] true r5 :: .no :: pF :: .no :: sk 4 (pT :: [])))) [] [(37,pB true)] [] [] (an (Nu p0 r1 hr1) (an2 h2 (an (Qk p2 r3 hr3) (an2 h2 (an2 h4 (an (Qk p3 r5 hr5) (an2 h4 (an5 h6 tv)))))))) ?_
     exact jD true hm Conv.eqK
    ·replace hm := Bc h6 hm
     refine RD hnt (.no :: o92 [] true r1 :: nn 3 (o102 [] true r3 :: .no :: pF :: nn 2 (o102 [] true r5 :: .no :: pF :: nn 5 (pF :: [])))) [] [(37,pB ((kand .i64 p2 p3) != 0))] [] [] (an (Nu p0 r1 hr1) (an2 h2 (an (Qk p2 r3 hr3) (an2 h2 (an2 h4 (an (Qk p3 r5 hr5) (an2 h4 (an5 h6 tv)))))))) ?_
     exact jD ((kand .i64 p2 p3) != 0) hm Conv.eqK
abbrev o101 (ks : List Nat) (b : Bool) (RES : Aa × Int) (sm : List Nat := []) : Orc := .call 208 ks b (.tup [.agg [ow 0 RES.1.tree.nodes.length,pI RES.1.tree.next,ow 1 RES.1.tasks.length,pI RES.1.next],pI RES.2]) [] [Ah RES.1.tree.nodes,At RES.1.tasks] sm

abbrev c90e1 : Nat × Obj := (1064,bx [ow 100000 0,pI 0,ow 100001 0,pI 0])
theorem Afn (p0 : Aa) (p1 : Int) (p2 : Int) (p3 : Int) (RES : Aa × Int) (hm : Rw p0 p1 p2 p3 = some RES) : Spec Tryz.prog 159 [.p (.agg (Ab p0)),pI p1,pI p2,pI p3] [] (.tup [.agg [ow 0 RES.1.tree.nodes.length,pI RES.1.tree.next,ow 1 RES.1.tasks.length,pI RES.1.next],pI RES.2]) [] [Ah RES.1.tree.nodes,At RES.1.tasks] := by
 unfold Rw at hm
 refine SO Tryz.func159 rfl rfl [(0,.p (.agg (Ab p0))),(1,pI p1),(2,pI p2),(3,pI p3)] [] ?_
 intro cx hnt
 refine Sq (RD hnt (nn 3 []) [0] [(4,rr 1032),(8,rr 1064)] [] [(1032,bx (pm (Ab p0))),(1064,bx [.p (.sl .nil 0 0 (fun _ => [])),pI 0,.p (.sl .nil 0 0 (fun _ => [])),pI 0])] tv ?_)
 obtain ⟨r1,hr1,hm⟩ := bo hm
 refine Sq (Sq (RD hnt (.no :: o91 [] true r1 :: .no :: []) [] [(14,pB (!r1))] [] [] (an (Ly p0 r1 hr1) tv) ?_))
 refine Ae hm ?_ ?_
 ·intro h2 hm
  refine Sq (RD hnt (nn 3 []) [1,2,3,4,14] [(9,pI 1)] [1032] [] tv ?_)
  refine DW.cv [] [] [] [(c90e1),(100000,ob0 (Ah [])),(100001,ob0 (At []))] (Conv.ads [(.o 1064 0,100000,6,elems Ar Bj []),(.o 1064 2,100001,4,elems Ax Br [])]) ?_
  obtain rfl := sj hm
  exact DW.ret (Ag [Ah [],At []] [100000,100001] (.tup [.agg [ow 0 0,pI 0,ow 1 0,pI 0],pI 1]))
 ·intro h2 hm
  refine Sk ?_
  obtain ⟨r3,hr3,hm⟩ := bo hm
  refine Sq (RD hnt (nn 4 (o101 [] true r3 :: nn 6 [])) [1,2,3,4,14] [(10,rr 1080),(11,pI r3.2)] [1032] [(1080,bx [ow 1168 r3.1.tree.nodes.length,pI r3.1.tree.next,ow 1169 r3.1.tasks.length,pI r3.1.next]),(1168,ob0 (Ah r3.1.tree.nodes)),(1169,ob0 (At r3.1.tasks))] (an (Aga p0 p1 p2 p3 r3 hr3) tv) ?_)
  refine Sq (Sq (RD hnt (nn 2 []) [] [(25,pB (r3.2 != 0))] [] [] tv ?_))
  refine Ae hm ?_ ?_
  ·intro h4 hm
   refine Sq (RD hnt (nn 4 []) [10,11,25] [(9,pI r3.2)] [1080,1168,1169] [] tv ?_)
   refine DW.cv [] [] [] [(c90e1),(100000,ob0 (Ah [])),(100001,ob0 (At []))] (Conv.ads [(.o 1064 0,100000,6,elems Ar Bj []),(.o 1064 2,100001,4,elems Ax Br [])]) ?_
   obtain rfl := sj hm
   exact DW.ret (Ag [Ah [],At []] [100000,100001] (.tup [.agg [ow 0 0,pI 0,ow 1 0,pI 0],pI r3.2]))
  ·intro h4 hm
   refine Sk ?_
   obtain ⟨r5,hr5,hm⟩ := bo hm
   refine Sq (Sq (RD hnt (.no :: o91 [] true r5 :: .no :: []) [11,25] [(30,pB (!r5))] [] [] (an (Ly r3.1 r5 hr5) tv) ?_))
   refine Ae hm ?_ ?_
   ·intro h6 hm
    refine Sq (RD hnt (nn 3 []) [10,30] [(9,pI 10)] [1080,1168,1169] [] tv ?_)
    refine DW.cv [] [] [] [(c90e1),(100000,ob0 (Ah [])),(100001,ob0 (At []))] (Conv.ads [(.o 1064 0,100000,6,elems Ar Bj []),(.o 1064 2,100001,4,elems Ax Br [])]) ?_
    obtain rfl := sj hm
    exact DW.ret (Ag [Ah [],At []] [100000,100001] (.tup [.agg [ow 0 0,pI 0,ow 1 0,pI 0],pI 10]))
   ·intro h6 hm
    refine Sk ?_
    refine Sq (RD hnt (nn 3 []) [10,30] [(9,pI 0)] [1080] [(1064,bx [ow 1168 r3.1.tree.nodes.length,pI r3.1.tree.next,ow 1169 r3.1.tasks.length,pI r3.1.next])] tv ?_)
    obtain rfl := sj hm
    exact DW.ret (Ag [Ah r3.1.tree.nodes,At r3.1.tasks] [1168,1169] (.tup [.agg [ow 0 r3.1.tree.nodes.length,pI r3.1.tree.next,ow 1 r3.1.tasks.length,pI r3.1.next],pI 0]))
abbrev o90 (ks : List Nat) (b : Bool) (RES : Aa × Int) (sm : List Nat := []) : Orc := .call 159 ks b (.tup [.agg [ow 0 RES.1.tree.nodes.length,pI RES.1.tree.next,ow 1 RES.1.tasks.length,pI RES.1.next],pI RES.2]) [] [Ah RES.1.tree.nodes,At RES.1.tasks] sm

abbrev AfK : Nat × Obj := (1032,bx [.p (.sl .nil 0 0 (fun _ => [])),pI 0,.p (.sl .nil 0 0 (fun _ => [])),pI 0])
abbrev Abo : Nat × Obj := (1032,bx [ow 100000 0,pI 0,ow 100001 0,pI 0])
theorem AeN (p0 : Aa) (p1 : Int) (RES : Aa × Int) (hm : Qf p0 p1 = some RES) : Spec Tryz.prog 160 [.p (.agg (Ab p0)),pI p1] [] (.tup [.agg [ow 0 RES.1.tree.nodes.length,pI RES.1.tree.next,ow 1 RES.1.tasks.length,pI RES.1.next],pI RES.2]) [] [Ah RES.1.tree.nodes,At RES.1.tasks] := by
 unfold Qf at hm
 refine SO Tryz.func160 rfl rfl [(0,.p (.agg (Ab p0))),(1,pI p1)] [] ?_
 intro cx hnt
 refine Sq (RK hnt (nn 3 []) [(1,pI p1),(2,rr 1016),(4,rr 1032)] [(1016,bx (pm (Ab p0))),(AfK)] tv ?_)
 obtain ⟨r1,hr1,hm⟩ := bo hm
 refine Sq (Sq (RD hnt (.no :: o91 [] true r1 :: .no :: []) [] [(13,pB (!r1))] [] [] (an (Ly p0 r1 hr1) tv) ?_))
 refine Ae hm ?_ ?_
 ·intro h2 hm
  refine Sq (RD hnt (nn 3 []) [1,2,13] [(5,pI 1)] [1016] [] tv ?_)
  refine DW.cv [] [] [] [(Abo),(100000,ob0 (Ah [])),(100001,ob0 (At []))] (Conv.ads [(.o 1032 0,100000,6,elems Ar Bj []),(.o 1032 2,100001,4,elems Ax Br [])]) ?_
  obtain rfl := sj hm
  exact DW.ret (Ag [Ah [],At []] [100000,100001] (.tup [.agg [ow 0 0,pI 0,ow 1 0,pI 0],pI 1]))
 ·intro h2 hm
  refine Sk ?_
  obtain ⟨r3,hr3,hm⟩ := bo hm
  refine Sq (RD hnt (nn 3 (o80 [] true r3 :: nn 6 [])) [13] [(6,rr 1048),(7,pB r3.2)] [] [(1048,bx (pm (Ar r3.1)))] (an (De p0.tree p1 r3 hr3) tv) ?_)
  refine Sq (Sq (RD hnt (nn 2 []) [7] [(23,pB (!r3.2))] [] [] tv ?_))
  refine Ae hm ?_ ?_
  ·intro h4 hm
   refine Sq (RD hnt (nn 3 []) [1,2,6,23] [(5,pI 4)] [1016,1048] [] tv ?_)
   refine DW.cv [] [] [] [(Abo),(100000,ob0 (Ah [])),(100001,ob0 (At []))] (Conv.ads [(.o 1032 0,100000,6,elems Ar Bj []),(.o 1032 2,100001,4,elems Ax Br [])]) ?_
   obtain rfl := sj hm
   exact DW.ret (Ag [Ah [],At []] [100000,100001] (.tup [.agg [ow 0 0,pI 0,ow 1 0,pI 0],pI 4]))
  ·intro h4 hm
   refine Sk ?_
   refine Sq (Sq (DW.regJ (sl2 := [(1,pI p1),(2,rr 1016),(4,rr 1032),(6,rr 1048),(31,pB ((p1 == 1) || (r3.1.kind == 1)))]) (ob2 := [(1016,bx (pm (Ab p0))),(AfK),(1048,bx (pm (Ar r3.1)))]) ?_ ?_))
   ·rcases bt (p1 == 1) with h5 | h5
    ·exact RT hnt (nn 3 (sk 3 (pT :: []))) [(31,pB true)] (an4 h5 tv) (by kernel_rfl) (.cons rfl (.of_eq (by rw [h5]; try rfl)) .nil)
    ·exact RT hnt (nn 6 (pF :: [])) [(31,pB (r3.1.kind == 1))] (an4 h5 tv) (by kernel_rfl) (.cons rfl (.of_eq (by rw [h5]; try rfl)) .nil)
   ·refine Ae hm ?_ ?_
    ·intro h6 hm
     refine Sq (RD hnt (nn 3 []) [1,2,6,31] [(5,pI 9)] [1016,1048] [] tv ?_)
     refine DW.cv [] [] [] [(Abo),(100000,ob0 (Ah [])),(100001,ob0 (At []))] (Conv.ads [(.o 1032 0,100000,6,elems Ar Bj []),(.o 1032 2,100001,4,elems Ax Br [])]) ?_
     obtain rfl := sj hm
     exact DW.ret (Ag [Ah [],At []] [100000,100001] (.tup [.agg [ow 0 0,pI 0,ow 1 0,pI 0],pI 9]))
    ·intro h6 hm
     refine Sk ?_
     obtain ⟨r7,hr7,hm⟩ := bo hm
     refine Sq (RD hnt (nn 4 (o80 [] true r7 :: nn 6 [])) [31] [(8,rr 1064)] [] [(1064,bx (pm (Ar r7.1)))] (an (De p0.tree r3.1.parent r7 hr7) tv) ?_)
     obtain ⟨r8,hr8,hm⟩ := bo hm
     refine Sq (Sq ?_)
     refine Jn (ι := Bool) (fun (y1 : Bool) => Aj [(1,pI p1),(2,rr 1016),(4,rr 1032),(6,rr 1048),(57,pB y1)] [(1016,bx (pm (Ab p0))),(AfK),(1048,bx (pm (Ar r3.1)))]) (fun y1 => (Ja p0 p1 r3) y1 = some RES) ?_ ?_
     ·intro y1 hm
      unfold Ja at hm
      refine Ae hm ?_ ?_
      ·intro h11 hm
       refine Sq (RD hnt (nn 3 []) [1,2,6,57] [(5,pI 10)] [1016,1048] [] tv ?_)
       refine DW.cv [] [] [] [(Abo),(100000,ob0 (Ah [])),(100001,ob0 (At []))] (Conv.ads [(.o 1032 0,100000,6,elems Ar Bj []),(.o 1032 2,100001,4,elems Ax Br [])]) ?_
       obtain rfl := sj hm
       exact DW.ret (Ag [Ah [],At []] [100000,100001] (.tup [.agg [ow 0 0,pI 0,ow 1 0,pI 0],pI 10]))
      ·intro h11 hm
       refine Sk ?_
       refine Sq (Sq (RD hnt (nn 4 []) [57] [(62,pB ((kand .i64 r3.1.control 6) != 0))] [] [] tv ?_))
       refine Ae hm ?_ ?_
       ·intro h12 hm
        refine Sq (RD hnt (nn 3 []) [1,2,6,62] [(5,pI 9)] [1016,1048] [] tv ?_)
        refine DW.cv [] [] [] [(Abo),(100000,ob0 (Ah [])),(100001,ob0 (At []))] (Conv.ads [(.o 1032 0,100000,6,elems Ar Bj []),(.o 1032 2,100001,4,elems Ax Br [])]) ?_
        obtain rfl := sj hm
        exact DW.ret (Ag [Ah [],At []] [100000,100001] (.tup [.agg [ow 0 0,pI 0,ow 1 0,pI 0],pI 9]))
       ·intro h12 hm
        refine Sk ?_
        refine Sq (RD hnt (nn 2 []) [62] [] [] [(1048,bx [pI r3.1.id,pI r3.1.parent,pS r3.1.name,pI r3.1.control,pI 1,pI r3.1.owner])] tv ?_)
        obtain ⟨r13,hr13,hm⟩ := bo hm
        refine Sq (RD hnt (.no :: o103 [] true r13 :: nn 2 []) [] [(10,rr 1080)] [] [(1080,bx [ow 1528 r13.tree.nodes.length,pI r13.tree.next,ow 1529 r13.tasks.length,pI r13.next]),(1528,ob0 (Ah r13.tree.nodes)),(1529,ob0 (At r13.tasks))] (an (Sl p0 r13 hr13) tv) ?_)
        obtain ⟨r14,hr14,hm⟩ := bo hm
        refine Sq (RD hnt (nn 3 (o104 [] true r14 :: nn 2 [])) [6] [] [1048,1528] [(1080,bx [ow 1560 r14.nodes.length,pI r14.next,ow 1529 r13.tasks.length,pI r13.next]),(1560,ob0 (Ah r14.nodes))] (an (Yv p0.tree ({ id := r3.1.id,parent := r3.1.parent,name := r3.1.name,control := r3.1.control,kind := 1,owner := r3.1.owner } : An) r14 hr14) tv) ?_)
        obtain ⟨r15,hr15,hm⟩ := bo hm
        refine Sq (Sq ?_)
        refine Jn (ι := Bool) (fun (y2 : Bool) => Aj [(4,rr 1032),(10,rr 1080),(81,pB y2)] [(AfK),(1080,bx [ow 1560 r14.nodes.length,pI r14.next,ow 1529 r13.tasks.length,pI r13.next]),(1529,ob0 (At r13.tasks)),(1560,ob0 (Ah r14.nodes))]) (fun y2 => (Ng r13 r14) y2 = some RES) ?_ ?_
        ·intro y2 hm
         unfold Ng at hm
         refine Ae hm ?_ ?_
         ·intro h18 hm
          refine Sq (RD hnt (nn 3 []) [10,81] [(5,pI 6)] [1080,1529,1560] [] tv ?_)
          refine DW.cv [] [] [] [(Abo),(100000,ob0 (Ah [])),(100001,ob0 (At []))] (Conv.ads [(.o 1032 0,100000,6,elems Ar Bj []),(.o 1032 2,100001,4,elems Ax Br [])]) ?_
          obtain rfl := sj hm
          exact DW.ret (Ag [Ah [],At []] [100000,100001] (.tup [.agg [ow 0 0,pI 0,ow 1 0,pI 0],pI 6]))
         ·intro h18 hm
          refine Sk ?_
          refine Sq (RD hnt (nn 3 []) [10,81] [(5,pI 0)] [1080] [(1032,bx [ow 1560 r14.nodes.length,pI r14.next,ow 1529 r13.tasks.length,pI r13.next])] tv ?_)
          obtain rfl := sj hm
          exact DW.ret (Ag [Ah r14.nodes,At r13.tasks] [1560,1529] (.tup [.agg [ow 0 r14.nodes.length,pI r14.next,ow 1 r13.tasks.length,pI r13.next],pI 0]))
        ·rcases bt (decide (((r15.length : Nat) : Int) > 0)) with h16 | h16
         ·replace hm := Bd h16 hm
          refine RD hnt (nn 2 (o97 [] true r15 :: nn 3 (sk 3 (pT :: [])))) [1,2] [(81,pB true)] [1016] [] (an (Ns p0 p1 r15 hr15) (an4 h16 tv)) ?_
          exact jD true hm Conv.eqK
         ·replace hm := Bc h16 hm
          obtain ⟨r17,hr17,hm⟩ := bo hm
          refine RD hnt (nn 2 (o97 [] true r15 :: nn 4 (o91 [] true r17 :: .no :: pF :: []))) [1,2] [(81,pB (!r17))] [1016] [] (an (Ns p0 p1 r15 hr15) (an2 h16 (an (Ly ({ tree := r14,tasks := r13.tasks,next := r13.next } : Aa) r17 hr17) (an2 h16 tv)))) ?_
          exact jD (!r17) hm Conv.eqK
     ·rcases bt (r8 == 3) with h9 | h9
      ·replace hm := Bd h9 hm
       refine RD hnt (nn 4 (o100 [] true r8 :: nn 2 (sk 9 (pT :: [])))) [8] [(57,pB true)] [1064] [] (an (Hg p0.tree r7.1.id r8 hr8) (an6 h9 tv)) ?_
       exact jD true hm Conv.eqK
      ·replace hm := Bc h9 hm
       rcases bt (r7.1.id != 1) with h10 | h10
       ·replace hm := Bd h10 hm
        refine RD hnt (nn 4 (o100 [] true r8 :: nn 10 (pT :: pF :: []))) [8] [(57,pB ((kand .i64 r7.1.control 6) != 0))] [1064] [] (an (Hg p0.tree r7.1.id r8 hr8) (an4 h9 (an4 h10 (an h9 (an h10 (an h9 tv)))))) ?_
        exact jD ((kand .i64 r7.1.control 6) != 0) hm Conv.eqK
       ·replace hm := Bc h10 hm
        refine RD hnt (nn 4 (o100 [] true r8 :: nn 6 (sk 4 (pF :: pF :: [])))) [8] [(57,pB false)] [1064] [] (an (Hg p0.tree r7.1.id r8 hr8) (an4 h9 (an4 h10 (an h9 (an h10 (an h9 tv)))))) ?_
        exact jD false hm Conv.eqK
abbrev o105 (ks : List Nat) (b : Bool) (RES : Aa × Int) (sm : List Nat := []) : Orc := .call 160 ks b (.tup [.agg [ow 0 RES.1.tree.nodes.length,pI RES.1.tree.next,ow 1 RES.1.tasks.length,pI RES.1.next],pI RES.2]) [] [Ah RES.1.tree.nodes,At RES.1.tasks] sm

abbrev c87e1 : Nat × Obj := (1032,bx [.p (.sl .nil 0 0 (fun _ => [])),pI 0,.p (.sl .nil 0 0 (fun _ => [])),pI 0])
theorem AcL (p0 : Aq) (p1 : Aa) (RES : Aa × Aq) (hm : Nf p0 p1 = some RES) : Spec Tryz.prog 82 [rr 0,.p (.agg (Ab p1))] [.box (pm (Ap p0))] (.p (.agg (Ab RES.1))) [.box (pm (Ap RES.2))] [] := by
 unfold Nf at hm
 refine SO Tryz.func82 rfl rfl [(0,rr 0),(1,.p (.agg (Ab p1)))] [(0,bx (pm (Ap p0)))] ?_
 intro cx hnt
 refine Sq (RD hnt (nn 2 []) [1] [(3,rr 1024),(4,rr 1032)] [] [(1024,bx (pm (Ab p1))),(c87e1)] tv ?_)
 obtain ⟨r1,hr1,hm⟩ := bo hm
 refine Sq (RD hnt (nn 3 (o88 [0] true r1 :: .no :: [])) [] [(5,pI r1.1)] [] [(0,bx (pm (Ap r1.2)))] (an (Lo p0 p1.tree r1 hr1) (an tv tv)) ?_)
 obtain ⟨r2,hr2,hm⟩ := bo hm
 refine Sq (Sq (RD hnt (.no :: o72 [0] true r2 :: []) [] [(17,pI r2.1)] [] [(0,bx (pm (Ap r2.2)))] (an (Bs r1.2 5 r2 hr2) (an tv tv)) ?_))
 refine Jn (ι := Aq × Aa) (fun (y1 : Aq × Aa) => Aj [(3,rr 1024),(4,rr 1032)] [(0,bx (pm (Ap y1.1))),(1024,bx (pm (Ab y1.2))),(c87e1)]) (fun y1 => Gj y1 = some RES) ?_ ?_
 ·intro y1 hm
  unfold Gj at hm
  refine Sq (RD hnt (nn 2 []) [3] [] [1024] [(1032,bx (pm (Ab y1.2)))] tv ?_)
  obtain rfl := sj hm
  exact DW.ret (Ag [.box (pm (Ap y1.1))] [] (.p (.agg (Ab y1.2))))
 ·refine Bk ?_
  refine Sq (Sq (RD hnt (nn 2 []) [] [(18,pB (r2.1 == 0))] [] [] tv ?_))
  refine Jn (ι := Bool) (fun (y2 : Bool) => Aj [(0,rr 0),(3,rr 1024),(4,rr 1032),(5,pI r1.1),(17,pI r2.1),(18,pB y2)] [(0,bx (pm (Ap r2.2))),(1024,bx (pm (Ab p1))),(c87e1)]) (fun y2 => (Ix p1 r1 r2) y2 = some RES) ?_ ?_
  ·intro y2 hm
   unfold Ix at hm
   refine Ae hm ?_ ?_
   ·intro h4 hm
    obtain ⟨r5,hr5,hm⟩ := bo hm
    obtain ⟨r6,hr6,hm⟩ := bo hm
    refine Sq (RD hnt (nn 3 (o89 [0] true r5 :: o90 [] true r6 :: nn 6 [])) [0,5,17,18] [(6,rr 1048),(7,pI r6.2)] [] [(0,bx (pm (Ap r5.2))),(1048,bx [ow 1208 r6.1.tree.nodes.length,pI r6.1.tree.next,ow 1209 r6.1.tasks.length,pI r6.1.next]),(1208,ob0 (Ah r6.1.tree.nodes)),(1209,ob0 (At r6.1.tasks))] (an (Xr r2.2 r5 hr5) (an tv (an (Afn p1 r1.1 r5.1 0 r6 hr6) tv))) ?_)
    refine Sq (RD hnt (nn 2 []) [7] [(30,pB (r6.2 == 0))] [] [] tv ?_)
    refine Ae hm ?_ ?_
    ·intro h7 hm
     refine Sq (RD hnt (nn 2 []) [3,6,30] [] [1024,1048] [(1032,bx [ow 1208 r6.1.tree.nodes.length,pI r6.1.tree.next,ow 1209 r6.1.tasks.length,pI r6.1.next])] tv ?_)
     obtain rfl := sj hm
     exact DW.ret (Ag [.box (pm (Ap r5.2))] [] (.p (.agg (Ab r6.1))))
    ·intro h7 hm
     refine Sk ?_
     exact bD (r5.2,p1) hm Conv.t0
   ·intro h4 hm
    refine Sq (RD hnt (nn 2 []) [18] [(32,pB (r2.1 == 2))] [] [] tv ?_)
    refine Ae hm ?_ ?_
    ·intro h8 hm
     obtain ⟨r9,hr9,hm⟩ := bo hm
     refine Sq (RD hnt (nn 2 (o105 [] true r9 :: nn 6 [])) [0,5,17,32] [(8,rr 1064),(9,pI r9.2)] [] [(1064,bx [ow 1296 r9.1.tree.nodes.length,pI r9.1.tree.next,ow 1297 r9.1.tasks.length,pI r9.1.next]),(1296,ob0 (Ah r9.1.tree.nodes)),(1297,ob0 (At r9.1.tasks))] (an (AeN p1 r1.1 r9 hr9) tv) ?_)
     refine Sq (RD hnt (nn 2 []) [9] [(41,pB (r9.2 == 0))] [] [] tv ?_)
     refine Ae hm ?_ ?_
     ·intro h10 hm
      refine Sq (RD hnt (nn 2 []) [3,8,41] [] [1024,1064] [(1032,bx [ow 1296 r9.1.tree.nodes.length,pI r9.1.tree.next,ow 1297 r9.1.tasks.length,pI r9.1.next])] tv ?_)
      obtain rfl := sj hm
      exact DW.ret (Ag [.box (pm (Ap r2.2))] [] (.p (.agg (Ab r9.1))))
     ·intro h10 hm
      refine Sk ?_
      exact bD (r2.2,p1) hm Conv.t0
    ·intro h8 hm
     refine Sq (RD hnt (nn 2 []) [17,32] [(43,pB (r2.1 == 3))] [] [] tv ?_)
     refine Ae hm ?_ ?_
     ·intro h11 hm
      obtain ⟨r12,hr12,hm⟩ := bo hm
      refine Sq (RD hnt (nn 3 (o80 [] true r12 :: nn 6 [])) [43] [(10,rr 1080),(11,pB r12.2)] [] [(1080,bx (pm (Ar r12.1)))] (an (De p1.tree r1.1 r12 hr12) tv) ?_)
      refine Sq (DW.regJ (sl2 := [(0,rr 0),(3,rr 1024),(4,rr 1032),(10,rr 1080),(56,pB (r12.2 && (r1.1 != 1)))]) (ob2 := [(0,bx (pm (Ap r2.2))),(1024,bx (pm (Ab p1))),(c87e1),(1080,bx (pm (Ar r12.1)))]) ?_ ?_)
      ·rcases bt r12.2 with h13 | h13
       ·exact RT hnt (nn 4 (pT :: [])) [(56,pB (r1.1 != 1))] (an3 h13 tv) (by kernel_rfl) (.cons rfl (.of_eq (by rw [h13]; try rfl)) .nil)
       ·exact RT hnt (nn 2 (sk 2 (pF :: []))) [(56,pB false)] (an3 h13 tv) (by kernel_rfl) (.cons rfl (.of_eq (by rw [h13]; try rfl)) .nil)
      ·refine Ae hm ?_ ?_
       ·intro h14 hm
        obtain ⟨r15,hr15,hm⟩ := bo hm
        refine Sq (RD hnt (.no :: o72 [0] true r15 :: nn 2 []) [0,56] [] [] [(0,bx (pm (Ap r15.2))),(1080,bx [pI r12.1.id,pI r12.1.parent,pS r12.1.name,pI r12.1.control,pI r12.1.kind,pI r15.1])] (an (Bs r2.2 3 r15 hr15) (an tv tv)) ?_)
        obtain ⟨r16,hr16,hm⟩ := bo hm
        refine RD hnt (nn 3 (o104 [] true r16 :: nn 2 [])) [10] [] [1080] [(1024,bx [ow 1504 r16.nodes.length,pI r16.next,.p (Bg p1.tasks),pI p1.next]),(1504,ob0 (Ah r16.nodes))] (an (Yv p1.tree ({ id := r12.1.id,parent := r12.1.parent,name := r12.1.name,control := r12.1.control,kind := r12.1.kind,owner := r15.1 } : An) r16 hr16) tv) ?_
        exact bD (r15.2,({ tree := r16,tasks := p1.tasks,next := p1.next } : Aa)) hm (Conv.frz [1504])
       ·intro h14 hm
        refine Sk ?_
        exact bD (r2.2,p1) hm Conv.t0
     ·intro h11 hm
      refine Sk ?_
      exact bD (r2.2,p1) hm Conv.t0
  ·refine Ae hm ?_ ?_
   ·intro h3 hm
    refine Sk ?_
    exact jD (r2.1 == 0) hm Conv.eqK
   ·intro h3 hm
    refine RD hnt (nn 2 []) [] [(18,pB (r2.1 == 1))] [] [] tv ?_
    exact jD (r2.1 == 1) hm Conv.eqK
abbrev o87 (ks : List Nat) (b : Bool) (RES : Aa × Aq) (sm : List Nat := []) : Orc := .call 82 ks b (.p (.agg (Ab RES.1))) [.box (pm (Ap RES.2))] [] sm

theorem Aau (p0 : Aa) (p1 : Int) (RES : Int) (hm : Pc p0 p1 = some RES) : Spec Tryz.prog 83 [.p (.agg (Ab p0)),pI p1] [] (pI RES) [] [] := by
 unfold Pc at hm
 refine SO Tryz.func83 rfl rfl [(0,.p (.agg (Ab p0))),(1,pI p1)] [] ?_
 intro cx hnt
 refine Sq (RK hnt (nn 2 []) [(1,pI p1),(2,rr 1016)] [(1016,bx (pm (Ab p0)))] tv ?_)
 obtain ⟨r1,hr1,hm⟩ := bo hm
 refine Sq (Sq (RD hnt (.no :: o91 [] true r1 :: .no :: []) [] [(9,pB (!r1))] [] [] (an (Ly p0 r1 hr1) tv) ?_))
 refine Ae hm ?_ ?_
 ·intro h2 hm
  refine Sq (RK hnt (.no :: []) [(4,pI 1)] [] tv ?_)
  obtain rfl := sj hm
  exact DW.ret (Ag [] [] (pI 1))
 ·intro h2 hm
  refine Sk ?_
  obtain ⟨r3,hr3,hm⟩ := bo hm
  refine Sq (RD hnt (nn 3 (o80 [] true r3 :: nn 6 [])) [9] [(5,rr 1040),(6,pB r3.2)] [] [(1040,bx (pm (Ar r3.1)))] (an (De p0.tree p1 r3 hr3) tv) ?_)
  refine Sq (Bk ?_)
  refine Sq (RD hnt (nn 3 []) [6] [(17,pB (!r3.2))] [] [] tv ?_)
  refine Ae hm ?_ ?_
  ·intro h4 hm
   refine Sq (RK hnt (.no :: []) [(4,pI 4)] [] tv ?_)
   obtain rfl := sj hm
   exact DW.ret (Ag [] [] (pI 4))
  ·intro h4 hm
   obtain ⟨r5,hr5,hm⟩ := bo hm
   refine Sq (RD hnt (nn 3 (o100 [] true r5 :: nn 2 [])) [2,17] [(20,pB (r5 == 3))] [1016] [] (an (Hg p0.tree p1 r5 hr5) tv) ?_)
   refine Ae hm ?_ ?_
   ·intro h6 hm
    refine Sq (RK hnt (.no :: []) [(4,pI 10)] [] tv ?_)
    obtain rfl := sj hm
    exact DW.ret (Ag [] [] (pI 10))
   ·intro h6 hm
    refine Sq (DW.regJ (sl2 := [(26,pB ((p1 != 1) && ((kand .i64 r3.1.control 6) != 0)))]) (ob2 := []) ?_ ?_)
    ·rcases bt (p1 != 1) with h7 | h7
     ·exact RT hnt (nn 7 (pT :: .no :: [])) [(26,pB ((kand .i64 r3.1.control 6) != 0))] (an5 h7 tv) (by kernel_rfl) (.cons rfl (.of_eq (by rw [h7]; try rfl)) .nil)
     ·exact RT hnt (nn 3 (sk 4 (pF :: .no :: []))) [(26,pB false)] (an5 h7 tv) (by kernel_rfl) (.cons rfl (.of_eq (by rw [h7]; try rfl)) .nil)
    ·refine Ae hm ?_ ?_
     ·intro h8 hm
      refine Sq (RK hnt (.no :: []) [(4,pI 6)] [] tv ?_)
      obtain rfl := sj hm
      exact DW.ret (Ag [] [] (pI 6))
     ·intro h8 hm
      refine Sk ?_
      refine DW.done ?_
      show DW _ _ _ _ _
      refine Sq (RK hnt (.no :: []) [(4,pI 0)] [] tv ?_)
      obtain rfl := sj hm
      exact DW.ret (Ag [] [] (pI 0))
abbrev o106 (ks : List Nat) (b : Bool) (RES : Int) (sm : List Nat := []) : Orc := .call 83 ks b (pI RES) [] [] sm

abbrev AeZ : Nat × Obj := (1032,bx [.p (.sl .nil 0 0 (fun _ => [])),pI 0,.p (.sl .nil 0 0 (fun _ => [])),pI 0])
abbrev c108e2 (r3 : Aa) : Nat × Obj := (1056,bx [ow 1152 r3.tree.nodes.length,pI r3.tree.next,ow 1153 r3.tasks.length,pI r3.next])
theorem Adh (p0 : Aa) (p1 : Au) (RES : Aa × Int × Int) (hm : Va p0 p1 = some RES) : Spec Tryz.prog 164 [.p (.agg (Ab p0)),.p (.agg (Ax p1))] [] (.tup [.agg [ow 0 RES.1.tree.nodes.length,pI RES.1.tree.next,ow 1 RES.1.tasks.length,pI RES.1.next],pI RES.2.1,pI RES.2.2]) [] [Ah RES.1.tree.nodes,At RES.1.tasks] := by
 unfold Va at hm
 refine SO Tryz.func164 rfl rfl [(0,.p (.agg (Ab p0))),(1,.p (.agg (Ax p1)))] [] ?_
 intro cx hnt
 refine Sq (RK hnt (nn 5 []) [(2,rr 1016),(3,rr 1024),(4,rr 1032)] [(1016,bx (pm (Ab p0))),(1024,bx (pm (Ax p1))),(AeZ)] tv ?_)
 refine Sq (Sq (DW.regJ (sl2 := [(2,rr 1016),(3,rr 1024),(4,rr 1032),(16,pB ((decide (((p0.tasks.length : Nat) : Int) ≥ 128)) || (decide (p0.next > 2147483647))))]) (ob2 := [(1016,bx (pm (Ab p0))),(1024,bx (pm (Ax p1))),(AeZ)]) ?_ ?_))
 ·rcases bt (decide (((p0.tasks.length : Nat) : Int) ≥ 128)) with h1 | h1
  ·exact RT hnt (nn 5 (sk 3 (pT :: []))) [(16,pB true)] (an4 h1 tv) (by kernel_rfl) (.cons rfl (.of_eq (by rw [h1]; try rfl)) .nil)
  ·exact RT hnt (nn 8 (pF :: [])) [(16,pB (decide (p0.next > 2147483647)))] (an4 h1 tv) (by kernel_rfl) (.cons rfl (.of_eq (by rw [h1]; try rfl)) .nil)
 ·refine Ae hm ?_ ?_
  ·intro h2 hm
   refine Sq (RD hnt (nn 4 []) [2,3,16] [(5,pI 0),(6,pI 7)] [1016,1024] [] tv ?_)
   refine DW.cv [] [] [] [(1032,bx [ow 100000 0,pI 0,ow 100001 0,pI 0]),(100000,ob0 (Ah [])),(100001,ob0 (At []))] (Conv.ads [(.o 1032 0,100000,6,elems Ar Bj []),(.o 1032 2,100001,4,elems Ax Br [])]) ?_
   obtain rfl := sj hm
   exact DW.ret (Ag [Ah [],At []] [100000,100001] (.tup [.agg [ow 0 0,pI 0,ow 1 0,pI 0],pI 0,pI 7]))
  ·intro h2 hm
   refine Sk ?_
   obtain ⟨r3,hr3,hm⟩ := bo hm
   refine Sq (RD hnt (.no :: o103 [] true r3 :: nn 2 []) [16] [(7,rr 1056)] [] [(c108e2 r3),(1152,ob0 (Ah r3.tree.nodes)),(1153,ob0 (At r3.tasks))] (an (Sl p0 r3 hr3) tv) ?_)
   refine Sq (RD hnt (nn 4 []) [2] [] [1016] [(1024,bx [pI p0.next,pI p1.process,pI p1.group,pI p1.user])] tv ?_)
   refine Sq (Sq (RD hnt (nn 3 []) [] [(25,pB (p1.process == 0))] [] [] tv ?_))
   refine Jn (ι := Au) (fun (y1 : Au) => Aj [(3,rr 1024),(4,rr 1032),(7,rr 1056)] [(1024,bx (pm (Ax y1))),(AeZ),(c108e2 r3),(1152,ob0 (Ah r3.tree.nodes)),(1153,ob0 (At r3.tasks))]) (fun y1 => (Ue r3) y1 = some RES) ?_ ?_
   ·intro y1 hm
    unfold Ue at hm
    obtain ⟨g5,hm⟩ := go1 hm
    refine Sq (RN hnt (nn 7 []) [(3,rr 1024),(4,rr 1032),(7,rr 1056)] [(1024,bx (pm (Ax y1))),(AeZ),(1056,bx [ow 1152 r3.tree.nodes.length,pI r3.tree.next,ow 1153 (r3.tasks ++ [y1]).length,pI r3.next]),(1152,ob0 (Ah r3.tree.nodes)),(1153,ob0 (At (r3.tasks ++ [y1])))] [] [(1056,.box [ow 1152 r3.tree.nodes.length,pI r3.tree.next,ow 1153 (r3.tasks.length + 1),pI r3.next]),(1153,.row 4 (r3.tasks.length + 1) (Cw r3.tasks.length (Abd r3.tasks) (cut 4 [vi y1.id,vi y1.process,vi y1.group,vi y1.user])))] (an (by omega : (r3.tasks.length + 1) * 32 ≤ 140737488355328) tv) (by kernel_rfl) .nil (.cons rfl (.box (.cons .rfl (.cons .rfl (.cons (MLe.ownLen (enc := Ax) (d := Br) (f := (Cw r3.tasks.length (Abd r3.tasks) (cut 4 [vi y1.id,vi y1.process,vi y1.group,vi y1.user]))) (RowIs.cat RowIs.elems (RowIs.lit (enc := Ax) (d := Br) (n := 1) (f := (cut 4 [vi y1.id,vi y1.process,vi y1.group,vi y1.user])) [y1] rfl (fun | 0,_ => rfl | n + 1,h => absurd h (by omega))))) (.cons .rfl .nil))))) (.cons rfl (BLe.typed (RowIs.cat RowIs.elems (RowIs.lit (enc := Ax) (d := Br) (n := 1) (f := (cut 4 [vi y1.id,vi y1.process,vi y1.group,vi y1.user])) [y1] rfl (fun | 0,_ => rfl | n + 1,h => absurd h (by omega))))) .nil)) ?_)
    refine Sq (RD hnt (nn 5 []) [] [] [] [(1056,bx [ow 1152 r3.tree.nodes.length,pI r3.tree.next,ow 1153 (r3.tasks ++ [y1]).length,pI (w64 (r3.next + 1))])] tv ?_)
    refine Sq (RD hnt (nn 6 []) [3,7] [(5,pI y1.id),(6,pI 0)] [1024,1056] [(1032,bx [ow 1152 r3.tree.nodes.length,pI r3.tree.next,ow 1153 (r3.tasks ++ [y1]).length,pI (w64 (r3.next + 1))])] tv ?_)
    obtain rfl := sj hm
    exact DW.ret (Ag [Ah r3.tree.nodes,At (r3.tasks ++ [y1])] [1152,1153] (.tup [.agg [ow 0 r3.tree.nodes.length,pI r3.tree.next,ow 1 (r3.tasks ++ [y1]).length,pI (w64 (r3.next + 1))],pI y1.id,pI 0]))
   ·refine Ae hm ?_ ?_
    ·intro h4 hm
     refine RD hnt (nn 4 []) [25] [] [] [(1024,bx [pI p0.next,pI p0.next,pI p1.group,pI p1.user])] tv ?_
     exact jD ({ id := p0.next,process := p0.next,group := p1.group,user := p1.user } : Au) hm Conv.eqK
    ·intro h4 hm
     refine Sk ?_
     exact jD ({ id := p0.next,process := p1.process,group := p1.group,user := p1.user } : Au) hm Conv.t0
abbrev o108 (ks : List Nat) (b : Bool) (RES : Aa × Int × Int) (sm : List Nat := []) : Orc := .call 164 ks b (.tup [.agg [ow 0 RES.1.tree.nodes.length,pI RES.1.tree.next,ow 1 RES.1.tasks.length,pI RES.1.next],pI RES.2.1,pI RES.2.2]) [] [Ah RES.1.tree.nodes,At RES.1.tasks] sm

abbrev c107e1 : Nat × Obj := (1048,bx [.p (.sl .nil 0 0 (fun _ => [])),pI 0,.p (.sl .nil 0 0 (fun _ => [])),pI 0])
theorem Agg (p0 : Aa) (p1 : Int) (p2 : Int) (RES : Aa × Int × Int) (hm : Tq p0 p1 p2 = some RES) : Spec Tryz.prog 84 [.p (.agg (Ab p0)),pI p1,pI p2] [] (.tup [.agg [ow 0 RES.1.tree.nodes.length,pI RES.1.tree.next,ow 1 RES.1.tasks.length,pI RES.1.next],pI RES.2.1,pI RES.2.2]) [] [Ah RES.1.tree.nodes,At RES.1.tasks] := by
 unfold Tq at hm
 refine SO Tryz.func84 rfl rfl [(0,.p (.agg (Ab p0))),(1,pI p1),(2,pI p2)] [] ?_
 intro cx hnt
 refine Sq (RD hnt (nn 4 []) [0] [(3,rr 1024),(6,rr 1048)] [] [(1024,bx (pm (Ab p0))),(c107e1)] tv ?_)
 obtain ⟨r1,hr1,hm⟩ := bo hm
 refine Sq (Sq ?_)
 refine Jn (ι := Bool) (fun (y1 : Bool) => Aj [(1,pI p1),(2,pI p2),(3,rr 1024),(6,rr 1048),(19,pB y1)] [(1024,bx (pm (Ab p0))),(c107e1)]) (fun y1 => (Mt p0 p1 p2) y1 = some RES) ?_ ?_
 ·intro y1 hm
  unfold Mt at hm
  refine Ae hm ?_ ?_
  ·intro h4 hm
   refine Sq (RD hnt (nn 4 []) [1,2,3,19] [(7,pI 0),(8,pI 1)] [1024] [] tv ?_)
   refine DW.cv [] [] [] [(1048,bx [ow 100000 0,pI 0,ow 100001 0,pI 0]),(100000,ob0 (Ah [])),(100001,ob0 (At []))] (Conv.ads [(.o 1048 0,100000,6,elems Ar Bj []),(.o 1048 2,100001,4,elems Ax Br [])]) ?_
   obtain rfl := sj hm
   exact DW.ret (Ag [Ah [],At []] [100000,100001] (.tup [.agg [ow 0 0,pI 0,ow 1 0,pI 0],pI 0,pI 1]))
  ·intro h4 hm
   refine Sk ?_
   obtain ⟨r5,hr5,hm⟩ := bo hm
   refine Sq (Sq (RD hnt (nn 3 (o79 [] true r5 :: .no :: [])) [19] [(25,pB (!r5))] [] [] (an (Cu p0.tree p1 r5 hr5) tv) ?_))
   refine Ae hm ?_ ?_
   ·intro h6 hm
    refine Sq (RD hnt (nn 4 []) [1,2,3,25] [(7,pI 0),(8,pI 4)] [1024] [] tv ?_)
    refine DW.cv [] [] [] [(1048,bx [ow 100000 0,pI 0,ow 100001 0,pI 0]),(100000,ob0 (Ah [])),(100001,ob0 (At []))] (Conv.ads [(.o 1048 0,100000,6,elems Ar Bj []),(.o 1048 2,100001,4,elems Ax Br [])]) ?_
    obtain rfl := sj hm
    exact DW.ret (Ag [Ah [],At []] [100000,100001] (.tup [.agg [ow 0 0,pI 0,ow 1 0,pI 0],pI 0,pI 4]))
   ·intro h6 hm
    refine Sk ?_
    obtain ⟨r7,hr7,hm⟩ := bo hm
    refine Sq (RK hnt (nn 4 (o108 [] true r7 :: nn 6 [])) [(6,rr 1048),(7,pI r7.2.1),(8,pI r7.2.2)] [(1048,bx [ow 1248 r7.1.tree.nodes.length,pI r7.1.tree.next,ow 1249 r7.1.tasks.length,pI r7.1.next]),(1248,ob0 (Ah r7.1.tree.nodes)),(1249,ob0 (At r7.1.tasks))] (an (Adh p0 ({ id := 0,process := 0,group := p1,user := p2 } : Au) r7 hr7) tv) ?_)
    obtain rfl := sj hm
    exact DW.ret (Ag [Ah r7.1.tree.nodes,At r7.1.tasks] [1248,1249] (.tup [.agg [ow 0 r7.1.tree.nodes.length,pI r7.1.tree.next,ow 1 r7.1.tasks.length,pI r7.1.next],pI r7.2.1,pI r7.2.2]))
 ·rcases bt (!r1) with h2 | h2
  ·replace hm := Bd h2 hm
   refine RD hnt (.no :: o93 [] true r1 :: nn 2 (sk 2 (pT :: .no :: sk 2 (pT :: [])))) [] [(19,pB true)] [] [] (an (Ea p0 r1 hr1) (an3 h2 (an3 tt tv))) ?_
   exact jD true hm Conv.eqK
  ·replace hm := Bc h2 hm
   rcases bt (decide (p2 < 0)) with h3 | h3
   ·replace hm := Bd h3 hm
    refine RD hnt (.no :: o93 [] true r1 :: nn 4 (pF :: .no :: sk 2 (pT :: []))) [] [(19,pB true)] [] [] (an (Ea p0 r1 hr1) (an3 h2 (an3 h3 tv))) ?_
    exact jD true hm Conv.eqK
   ·replace hm := Bc h3 hm
    refine RD hnt (.no :: o93 [] true r1 :: nn 4 (pF :: nn 3 (pF :: []))) [] [(19,pB (decide (p2 > 1048576)))] [] [] (an (Ea p0 r1 hr1) (an3 h2 (an3 h3 tv))) ?_
    exact jD (decide (p2 > 1048576)) hm Conv.eqK
abbrev o107 (ks : List Nat) (b : Bool) (RES : Aa × Int × Int) (sm : List Nat := []) : Orc := .call 84 ks b (.tup [.agg [ow 0 RES.1.tree.nodes.length,pI RES.1.tree.next,ow 1 RES.1.tasks.length,pI RES.1.next],pI RES.2.1,pI RES.2.2]) [] [Ah RES.1.tree.nodes,At RES.1.tasks] sm

theorem Ql (p0 : Aq) (p1 : Aa) (RES : Int × Aq) (hm : Is p0 p1 = some RES) : Spec Tryz.prog 21 [rr 0,.p (.agg (Ab p1))] [.box (pm (Ap p0))] (pI RES.1) [.box (pm (Ap RES.2))] [] := by
 unfold Is at hm
 refine SO Tryz.func21 rfl rfl [(0,rr 0),(1,.p (.agg (Ab p1)))] [(0,bx (pm (Ap p0)))] ?_
 intro cx hnt
 refine Sq (RD hnt (nn 2 []) [1] [(3,rr 1024)] [] [(1024,bx (pm (Ab p1)))] tv ?_)
 obtain ⟨r1,hr1,hm⟩ := bo hm
 refine Sq (Sq ?_)
 refine Jn (ι := Bool) (fun (y1 : Bool) => Aj [(0,rr 0),(3,rr 1024),(12,pB y1)] [(0,bx (pm (Ap r1.2))),(1024,bx (pm (Ab p1)))]) (fun y1 => (Ir p1 r1) y1 = some RES) ?_ ?_
 ·intro y1 hm
  unfold Ir at hm
  refine Ae hm ?_ ?_
  ·intro h3 hm
   obtain ⟨r4,hr4,hm⟩ := bo hm
   refine Sq (RK hnt (.no :: o72 [0] true r4 :: nn 2 []) [(4,pI (w64 (r4.1 - 1)))] [(0,bx (pm (Ap r4.2)))] (an (Bs r1.2 9 r4 hr4) (an tv tv)) ?_)
   obtain rfl := sj hm
   exact DW.ret (Ag [.box (pm (Ap r4.2))] [] (pI (w64 (r4.1 - 1))))
  ·intro h3 hm
   refine Sk ?_
   obtain ⟨r5,hr5,hm⟩ := bo hm
   obtain ⟨g6,hm⟩ := go1 hm
   refine Sq (RK hnt (nn 6 (o72 [0] true r5 :: nn 4 [])) [(4,pI (p1.tasks.getD (Int.toNat r5.1) Br).id)] [(0,bx (pm (Ap r5.2)))] (an (Bs r1.2 ((p1.tasks.length : Nat) : Int) r5 hr5) (an tv (an g6.1 (an g6.2 tv)))) ?_)
   obtain rfl := sj hm
   exact DW.ret (Ag [.box (pm (Ap r5.2))] [] (pI (p1.tasks.getD (Int.toNat r5.1) Br).id))
 ·rcases bt r1.1 with h2 | h2
  ·replace hm := Bd h2 hm
   refine RD hnt (.no :: o84 [0] true r1 :: .no :: sk 4 (pT :: [])) [] [(12,pB true)] [] [(0,bx (pm (Ap r1.2)))] (an (Ej p0 15 r1 hr1) (an tv (an5 h2 tv))) ?_
   exact jD true hm Conv.eqK
  ·replace hm := Bc h2 hm
   refine RD hnt (.no :: o84 [0] true r1 :: nn 5 (pF :: [])) [] [(12,pB (((p1.tasks.length : Nat) : Int) == 0))] [] [(0,bx (pm (Ap r1.2)))] (an (Ej p0 15 r1 hr1) (an tv (an5 h2 tv))) ?_
   exact jD (((p1.tasks.length : Nat) : Int) == 0) hm Conv.eqK
abbrev o109 (ks : List Nat) (b : Bool) (RES : Int × Aq) (sm : List Nat := []) : Orc := .call 21 ks b (pI RES.1) [.box (pm (Ap RES.2))] [] sm

theorem Agh (p0 : Aa) (p1 : Int) (RES : Aa × Int × Int) (hm : Tw p0 p1 = some RES) : Spec Tryz.prog 85 [.p (.agg (Ab p0)),pI p1] [] (.tup [.agg [ow 0 RES.1.tree.nodes.length,pI RES.1.tree.next,ow 1 RES.1.tasks.length,pI RES.1.next],pI RES.2.1,pI RES.2.2]) [] [Ah RES.1.tree.nodes,At RES.1.tasks] := by
 unfold Tw at hm
 refine SO Tryz.func85 rfl rfl [(0,.p (.agg (Ab p0))),(1,pI p1)] [] ?_
 intro cx hnt
 refine Sq (RK hnt (nn 4 []) [(1,pI p1),(2,rr 1016),(4,rr 1032)] [(1016,bx (pm (Ab p0))),(1032,bx [.p (.sl .nil 0 0 (fun _ => [])),pI 0,.p (.sl .nil 0 0 (fun _ => [])),pI 0])] tv ?_)
 obtain ⟨r1,hr1,hm⟩ := bo hm
 refine Sq (Sq (RD hnt (.no :: o93 [] true r1 :: .no :: []) [] [(11,pB (!r1))] [] [] (an (Ea p0 r1 hr1) tv) ?_))
 refine Ae hm ?_ ?_
 ·intro h2 hm
  refine Sq (RD hnt (nn 4 []) [1,2,11] [(5,pI 0),(6,pI 1)] [1016] [] tv ?_)
  refine DW.cv [] [] [] [(1032,bx [ow 100000 0,pI 0,ow 100001 0,pI 0]),(100000,ob0 (Ah [])),(100001,ob0 (At []))] (Conv.ads [(.o 1032 0,100000,6,elems Ar Bj []),(.o 1032 2,100001,4,elems Ax Br [])]) ?_
  obtain rfl := sj hm
  exact DW.ret (Ag [Ah [],At []] [100000,100001] (.tup [.agg [ow 0 0,pI 0,ow 1 0,pI 0],pI 0,pI 1]))
 ·intro h2 hm
  refine Sk ?_
  obtain ⟨r3,hr3,hm⟩ := bo hm
  refine Sq (RD hnt (nn 2 (o98 [] true r3 :: nn 6 [])) [1,11] [(7,rr 1056),(8,pB r3.2)] [] [(1056,bx (pm (Ax r3.1)))] (an (Lz p0 p1 r3 hr3) tv) ?_)
  refine Sq (Sq (RD hnt (nn 2 []) [8] [(20,pB (!r3.2))] [] [] tv ?_))
  refine Ae hm ?_ ?_
  ·intro h4 hm
   refine Sq (RD hnt (nn 4 []) [2,7,20] [(5,pI 0),(6,pI 4)] [1016,1056] [] tv ?_)
   refine DW.cv [] [] [] [(1032,bx [ow 100000 0,pI 0,ow 100001 0,pI 0]),(100000,ob0 (Ah [])),(100001,ob0 (At []))] (Conv.ads [(.o 1032 0,100000,6,elems Ar Bj []),(.o 1032 2,100001,4,elems Ax Br [])]) ?_
   obtain rfl := sj hm
   exact DW.ret (Ag [Ah [],At []] [100000,100001] (.tup [.agg [ow 0 0,pI 0,ow 1 0,pI 0],pI 0,pI 4]))
  ·intro h4 hm
   refine Sk ?_
   obtain ⟨r5,hr5,hm⟩ := bo hm
   refine Sq (RK hnt (nn 2 (o108 [] true r5 :: nn 6 [])) [(4,rr 1032),(5,pI r5.2.1),(6,pI r5.2.2)] [(1032,bx [ow 1192 r5.1.tree.nodes.length,pI r5.1.tree.next,ow 1193 r5.1.tasks.length,pI r5.1.next]),(1192,ob0 (Ah r5.1.tree.nodes)),(1193,ob0 (At r5.1.tasks))] (an (Adh p0 r3.1 r5 hr5) tv) ?_)
   obtain rfl := sj hm
   exact DW.ret (Ag [Ah r5.1.tree.nodes,At r5.1.tasks] [1192,1193] (.tup [.agg [ow 0 r5.1.tree.nodes.length,pI r5.1.tree.next,ow 1 r5.1.tasks.length,pI r5.1.next],pI r5.2.1,pI r5.2.2]))
abbrev o110 (ks : List Nat) (b : Bool) (RES : Aa × Int × Int) (sm : List Nat := []) : Orc := .call 85 ks b (.tup [.agg [ow 0 RES.1.tree.nodes.length,pI RES.1.tree.next,ow 1 RES.1.tasks.length,pI RES.1.next],pI RES.2.1,pI RES.2.2]) [] [Ah RES.1.tree.nodes,At RES.1.tasks] sm

abbrev Adj (s1 : (List Au) × Int) (p2 : Int) := ({ id := (s1.1.getD (Int.toNat s1.2) Br).id,process := (s1.1.getD (Int.toNat s1.2) Br).process,group := p2,user := (s1.1.getD (Int.toNat s1.2) Br).user } : Au)
abbrev Adq : Nat × Obj := (1048,bx [.p (.sl .nil 0 0 (fun _ => [])),pI 0,.p (.sl .nil 0 0 (fun _ => [])),pI 0])
abbrev c112e3 (s1 : (List Au) × Int) (p2 : Int) := (Cc (Abd s1.1) (Int.toNat s1.2) [vi (s1.1.getD (Int.toNat s1.2) Br).id,vi (s1.1.getD (Int.toNat s1.2) Br).process,vi p2,vi (s1.1.getD (Int.toNat s1.2) Br).user])
theorem AfR (p0 : Aa) (p1 : Int) (p2 : Int) (RES : Aa × Int) (hm : Tj p0 p1 p2 = some RES) : Spec Tryz.prog 64 [.p (.agg (Ab p0)),pI p1,pI p2] [] (.tup [.agg [ow 0 RES.1.tree.nodes.length,pI RES.1.tree.next,ow 1 RES.1.tasks.length,pI RES.1.next],pI RES.2]) [] [Ah RES.1.tree.nodes,At RES.1.tasks] := by
 unfold Tj at hm
 refine SO Tryz.func64 rfl rfl [(0,.p (.agg (Ab p0))),(1,pI p1),(2,pI p2)] [] ?_
 intro cx hnt
 refine Sq (RD hnt (nn 3 []) [0] [(3,rr 1024),(6,rr 1048)] [] [(1024,bx (pm (Ab p0))),(Adq)] tv ?_)
 obtain ⟨r1,hr1,hm⟩ := bo hm
 refine Sq (Sq (RD hnt (.no :: o93 [] true r1 :: .no :: []) [] [(14,pB (!r1))] [] [] (an (Ea p0 r1 hr1) tv) ?_))
 refine Ae hm ?_ ?_
 ·intro h2 hm
  refine Sq (RD hnt (nn 3 []) [1,2,3,14] [(7,pI 1)] [1024] [] tv ?_)
  refine DW.cv [] [] [] [(1048,bx [ow 100000 0,pI 0,ow 100001 0,pI 0]),(100000,ob0 (Ah [])),(100001,ob0 (At []))] (Conv.ads [(.o 1048 0,100000,6,elems Ar Bj []),(.o 1048 2,100001,4,elems Ax Br [])]) ?_
  obtain rfl := sj hm
  exact DW.ret (Ag [Ah [],At []] [100000,100001] (.tup [.agg [ow 0 0,pI 0,ow 1 0,pI 0],pI 1]))
 ·intro h2 hm
  refine Sk ?_
  obtain ⟨r3,hr3,hm⟩ := bo hm
  refine Sq (Sq (RD hnt (nn 2 (o98 [] true r3 :: nn 6 [])) [14] [(9,pB r3.2)] [] [] (an (Lz p0 p1 r3 hr3) tv) ?_))
  refine Sq ?_
  refine Jn (ι := Bool) (fun (y1 : Bool) => Aj [(1,pI p1),(2,pI p2),(3,rr 1024),(6,rr 1048),(30,pB y1)] [(1024,bx (pm (Ab p0))),(Adq)]) (fun y1 => (Py p0 p1 p2) y1 = some RES) ?_ ?_
  ·intro y1 hm
   unfold Py at hm
   refine Ae hm ?_ ?_
   ·intro h6 hm
    refine Sq (RD hnt (nn 3 []) [1,2,3,30] [(7,pI 4)] [1024] [] tv ?_)
    refine DW.cv [] [] [] [(1048,bx [ow 100000 0,pI 0,ow 100001 0,pI 0]),(100000,ob0 (Ah [])),(100001,ob0 (At []))] (Conv.ads [(.o 1048 0,100000,6,elems Ar Bj []),(.o 1048 2,100001,4,elems Ax Br [])]) ?_
    obtain rfl := sj hm
    exact DW.ret (Ag [Ah [],At []] [100000,100001] (.tup [.agg [ow 0 0,pI 0,ow 1 0,pI 0],pI 4]))
   ·intro h6 hm
    refine Sk ?_
    obtain ⟨r7,hr7,hm⟩ := bo hm
    refine Sq (RD hnt (.no :: o103 [] true r7 :: nn 2 []) [3,30] [(10,rr 1080)] [1024] [(1080,bx [ow 1264 r7.tree.nodes.length,pI r7.tree.next,ow 1265 r7.tasks.length,pI r7.next]),(1264,ob0 (Ah r7.tree.nodes)),(1265,ob0 (At r7.tasks))] (an (Sl p0 r7 hr7) tv) ?_)
    refine Sq (Sq (RD hnt (.no :: []) [] [(11,pI 0)] [] [] tv ?_))
    refine Bk ?_
    refine DW.whileO (fun (s1 : (List Au) × Int) => Aj [(1,pI p1),(2,pI p2),(6,rr 1048),(10,rr 1080),(11,pI s1.2)] [(Adq),(1080,bx [ow 1264 r7.tree.nodes.length,pI r7.tree.next,ow 1265 s1.1.length,pI r7.next]),(1264,ob0 (Ah r7.tree.nodes)),(1265,ob0 (At s1.1))]) hm Conv.eqK ?_
    intro s1 n1 hm
    unfold Qm at hm
    refine Sq (Sq (RD hnt (nn 5 []) [] [(38,pB (decide (s1.2 < ((s1.1.length : Nat) : Int))))] [] [] tv ?_))
    refine Ae hm ?_ ?_
    ·intro h14 hm
     refine Sk ?_
     refine Sq ?_
     refine Jn (ι := List Au) (fun (y3 : List Au) => Aj [(1,pI p1),(2,pI p2),(6,rr 1048),(10,rr 1080),(11,pI s1.2)] [(Adq),(1080,bx [ow 1264 r7.tree.nodes.length,pI r7.tree.next,ow 1265 y3.length,pI r7.next]),(1264,ob0 (Ah r7.tree.nodes)),(1265,ob0 (At y3))]) (fun y3 => (Qt s1 n1) y3 = some RES) ?_ ?_
     ·intro y3 hm
      unfold Qt at hm
      refine RD hnt (nn 3 []) [] [(11,pI (w64 (s1.2 + 1)))] [] [] tv ?_
      exact jD (y3,(w64 (s1.2 + 1))) hm Conv.eqK
     ·refine Bk ?_
      obtain ⟨g15,g16,hm⟩ := go2 hm
      refine Sq (RD hnt (nn 8 []) [38] [(48,pB ((s1.1.getD (Int.toNat s1.2) Br).id == p1))] [] [] (an g15.1 (an g15.2 (an g16 tv))) ?_)
      refine Ae hm ?_ ?_
      ·intro h17 hm
       obtain ⟨g18,g19,hm⟩ := go2 hm
       refine RN hnt (nn 7 []) [(1,pI p1),(2,pI p2),(6,rr 1048),(10,rr 1080),(11,pI s1.2)] [(Adq),(1080,bx [ow 1264 r7.tree.nodes.length,pI r7.tree.next,ow 1265 (s1.1.set (Int.toNat s1.2) (Adj s1 p2)).length,pI r7.next]),(1264,ob0 (Ah r7.tree.nodes)),(1265,ob0 (At (s1.1.set (Int.toNat s1.2) (Adj s1 p2))))] [] [(1080,.box [ow 1264 r7.tree.nodes.length,pI r7.tree.next,ow 1265 s1.1.length,pI r7.next]),(1265,.row 4 s1.1.length (c112e3 s1 p2))] (an g18.1 (an g18.2 (an g19 tv))) (by kernel_rfl) .nil (.cons rfl (.box (.cons .rfl (.cons .rfl (.cons (MLe.ownLen (enc := Ax) (d := Br) (f := (c112e3 s1 p2)) (RowIs.upd RowIs.elems (Adj s1 p2) rfl)) (.cons .rfl .nil))))) (.cons rfl (BLe.typed (RowIs.upd RowIs.elems (Adj s1 p2) rfl)) .nil)) ?_
       exact bD (s1.1.set (Int.toNat s1.2) (Adj s1 p2)) hm .refl
      ·intro h17 hm
       refine Sk ?_
       exact bD s1.1 hm Conv.t0
    ·intro h14 hm
     refine DW.exit ?_
     refine Ao ?_
     refine Aw ?_
     refine Ak ?_
     show DW _ _ _ _ _
     refine Sq (RD hnt (nn 3 []) [1,2,10,11,38] [(7,pI 0)] [1080] [(1048,bx [ow 1264 r7.tree.nodes.length,pI r7.tree.next,ow 1265 s1.1.length,pI r7.next])] tv ?_)
     obtain rfl := sj hm
     exact DW.ret (Ag [Ah r7.tree.nodes,At s1.1] [1264,1265] (.tup [.agg [ow 0 r7.tree.nodes.length,pI r7.tree.next,ow 1 s1.1.length,pI r7.next],pI 0]))
  ·rcases bt (!r3.2) with h4 | h4
   ·replace hm := Bd h4 hm
    refine RD hnt (nn 3 (sk 5 (pT :: []))) [9] [(30,pB true)] [] [] (an6 h4 tv) ?_
    exact jD true hm Conv.eqK
   ·replace hm := Bc h4 hm
    obtain ⟨r5,hr5,hm⟩ := bo hm
    refine RD hnt (nn 6 (o79 [] true r5 :: .no :: pF :: [])) [9] [(30,pB (!r5))] [] [] (an4 h4 (an (Cu p0.tree p2 r5 hr5) (an2 h4 tv))) ?_
    exact jD (!r5) hm Conv.eqK
abbrev o112 (ks : List Nat) (b : Bool) (RES : Aa × Int) (sm : List Nat := []) : Orc := .call 64 ks b (.tup [.agg [ow 0 RES.1.tree.nodes.length,pI RES.1.tree.next,ow 1 RES.1.tasks.length,pI RES.1.next],pI RES.2]) [] [Ah RES.1.tree.nodes,At RES.1.tasks] sm

abbrev AfB : Nat × Obj := (1048,bx [ow 100000 0,pI 0,ow 100001 0,pI 0])
abbrev c111e2 : Nat × Obj := (1048,bx [.p (.sl .nil 0 0 (fun _ => [])),pI 0,.p (.sl .nil 0 0 (fun _ => [])),pI 0])
theorem Abl (p0 : Aa) (p1 : Int) (p2 : Int) (RES : Aa × Int) (hm : Kl p0 p1 p2 = some RES) : Spec Tryz.prog 86 [.p (.agg (Ab p0)),pI p1,pI p2] [] (.tup [.agg [ow 0 RES.1.tree.nodes.length,pI RES.1.tree.next,ow 1 RES.1.tasks.length,pI RES.1.next],pI RES.2]) [] [Ah RES.1.tree.nodes,At RES.1.tasks] := by
 unfold Kl at hm
 refine SO Tryz.func86 rfl rfl [(0,.p (.agg (Ab p0))),(1,pI p1),(2,pI p2)] [] ?_
 intro cx hnt
 refine Sq (RD hnt (nn 3 []) [0] [(3,rr 1024),(6,rr 1048)] [] [(1024,bx (pm (Ab p0))),(c111e2)] tv ?_)
 obtain ⟨r1,hr1,hm⟩ := bo hm
 refine Sq (Sq (RD hnt (.no :: o91 [] true r1 :: .no :: []) [] [(17,pB (!r1))] [] [] (an (Ly p0 r1 hr1) tv) ?_))
 refine Ae hm ?_ ?_
 ·intro h2 hm
  refine Sq (RD hnt (nn 3 []) [1,2,3,17] [(7,pI 1)] [1024] [] tv ?_)
  refine DW.cv [] [] [] [(AfB),(100000,ob0 (Ah [])),(100001,ob0 (At []))] (Conv.ads [(.o 1048 0,100000,6,elems Ar Bj []),(.o 1048 2,100001,4,elems Ax Br [])]) ?_
  obtain rfl := sj hm
  exact DW.ret (Ag [Ah [],At []] [100000,100001] (.tup [.agg [ow 0 0,pI 0,ow 1 0,pI 0],pI 1]))
 ·intro h2 hm
  refine Sk ?_
  obtain ⟨r3,hr3,hm⟩ := bo hm
  refine Sq (RD hnt (nn 2 (o98 [] true r3 :: nn 6 [])) [17] [(8,rr 1064),(9,pB r3.2)] [] [(1064,bx (pm (Ax r3.1)))] (an (Lz p0 p1 r3 hr3) tv) ?_)
  refine Sq (Sq ?_)
  refine Jn (ι := Bool) (fun (y1 : Bool) => Aj [(1,pI p1),(2,pI p2),(3,rr 1024),(6,rr 1048),(8,rr 1064),(33,pB y1)] [(1024,bx (pm (Ab p0))),(c111e2),(1064,bx (pm (Ax r3.1)))]) (fun y1 => (Gw p0 p1 p2 r3) y1 = some RES) ?_ ?_
  ·intro y1 hm
   unfold Gw at hm
   refine Ae hm ?_ ?_
   ·intro h6 hm
    refine Sq (RD hnt (nn 3 []) [1,2,3,8,33] [(7,pI 4)] [1024,1064] [] tv ?_)
    refine DW.cv [] [] [] [(AfB),(100000,ob0 (Ah [])),(100001,ob0 (At []))] (Conv.ads [(.o 1048 0,100000,6,elems Ar Bj []),(.o 1048 2,100001,4,elems Ax Br [])]) ?_
    obtain rfl := sj hm
    exact DW.ret (Ag [Ah [],At []] [100000,100001] (.tup [.agg [ow 0 0,pI 0,ow 1 0,pI 0],pI 4]))
   ·intro h6 hm
    refine Sk ?_
    obtain ⟨r7,hr7,hm⟩ := bo hm
    refine Sq (Sq (RD hnt (nn 2 (o106 [] true r7 :: .no :: [])) [33] [(10,pI r7)] [] [] (an (Aau p0 p2 r7 hr7) tv) ?_))
    refine Sq (RD hnt (nn 2 []) [] [(39,pB (r7 != 0))] [] [] tv ?_)
    refine Ae hm ?_ ?_
    ·intro h8 hm
     refine Sq (RD hnt (nn 4 []) [1,2,3,8,10,39] [(7,pI r7)] [1024,1064] [] tv ?_)
     refine DW.cv [] [] [] [(AfB),(100000,ob0 (Ah [])),(100001,ob0 (At []))] (Conv.ads [(.o 1048 0,100000,6,elems Ar Bj []),(.o 1048 2,100001,4,elems Ax Br [])]) ?_
     obtain rfl := sj hm
     exact DW.ret (Ag [Ah [],At []] [100000,100001] (.tup [.agg [ow 0 0,pI 0,ow 1 0,pI 0],pI r7]))
    ·intro h8 hm
     refine Sk ?_
     obtain ⟨r9,hr9,hm⟩ := bo hm
     refine Sq (RD hnt (nn 3 (o99 [] true r9 :: nn 5 [])) [10,39] [(11,pI r9.1)] [] [] (an (Po p0.tree p2 r9 hr9) tv) ?_)
     obtain ⟨r10,hr10,hm⟩ := bo hm
     refine Sq (Sq (RD hnt (nn 4 (o99 [] true r10 :: nn 5 [])) [8] [(13,pI r10.1)] [1064] [] (an (Po p0.tree r3.1.group r10 hr10) tv) ?_))
     refine Sq (RD hnt (nn 3 []) [11,13] [(59,pB (r9.1 != r10.1))] [] [] tv ?_)
     refine Ae hm ?_ ?_
     ·intro h11 hm
      refine Sq (RD hnt (nn 3 []) [1,2,3,59] [(7,pI 9)] [1024] [] tv ?_)
      refine DW.cv [] [] [] [(AfB),(100000,ob0 (Ah [])),(100001,ob0 (At []))] (Conv.ads [(.o 1048 0,100000,6,elems Ar Bj []),(.o 1048 2,100001,4,elems Ax Br [])]) ?_
      obtain rfl := sj hm
      exact DW.ret (Ag [Ah [],At []] [100000,100001] (.tup [.agg [ow 0 0,pI 0,ow 1 0,pI 0],pI 9]))
     ·intro h11 hm
      refine Sk ?_
      obtain ⟨r12,hr12,hm⟩ := bo hm
      refine Sq (RK hnt (nn 3 (o112 [] true r12 :: nn 4 [])) [(6,rr 1048),(7,pI r12.2)] [(1048,bx [ow 1512 r12.1.tree.nodes.length,pI r12.1.tree.next,ow 1513 r12.1.tasks.length,pI r12.1.next]),(1512,ob0 (Ah r12.1.tree.nodes)),(1513,ob0 (At r12.1.tasks))] (an (AfR p0 p1 p2 r12 hr12) tv) ?_)
      obtain rfl := sj hm
      exact DW.ret (Ag [Ah r12.1.tree.nodes,At r12.1.tasks] [1512,1513] (.tup [.agg [ow 0 r12.1.tree.nodes.length,pI r12.1.tree.next,ow 1 r12.1.tasks.length,pI r12.1.next],pI r12.2]))
  ·rcases bt (!r3.2) with h4 | h4
   ·replace hm := Bd h4 hm
    refine RD hnt (nn 3 (sk 5 (pT :: []))) [9] [(33,pB true)] [] [] (an6 h4 tv) ?_
    exact jD true hm Conv.eqK
   ·replace hm := Bc h4 hm
    obtain ⟨r5,hr5,hm⟩ := bo hm
    refine RD hnt (nn 6 (o79 [] true r5 :: .no :: pF :: [])) [9] [(33,pB (!r5))] [] [] (an4 h4 (an (Cu p0.tree p2 r5 hr5) (an2 h4 tv))) ?_
    exact jD (!r5) hm Conv.eqK
abbrev o111 (ks : List Nat) (b : Bool) (RES : Aa × Int) (sm : List Nat := []) : Orc := .call 86 ks b (.tup [.agg [ow 0 RES.1.tree.nodes.length,pI RES.1.tree.next,ow 1 RES.1.tasks.length,pI RES.1.next],pI RES.2]) [] [Ah RES.1.tree.nodes,At RES.1.tasks] sm

abbrev Ev (p0 : Aa) (k1 : Nat) := (p0.tasks.getD k1 (default : Au))
abbrev Ads : Nat × Obj := (1032,bx [.p (.sl .nil 0 0 (fun _ => [])),pI 0,.p (.sl .nil 0 0 (fun _ => [])),pI 0])
abbrev Adu (p0 : Aa) : Nat × Obj := (1016,bx (pm (Ab p0)))
theorem Ahd (p0 : Aa) (p1 : Int) (RES : Aa × Int) (hm : Wn p0 p1 = some RES) : Spec Tryz.prog 87 [.p (.agg (Ab p0)),pI p1] [] (.tup [.agg [ow 0 RES.1.tree.nodes.length,pI RES.1.tree.next,ow 1 RES.1.tasks.length,pI RES.1.next],pI RES.2]) [] [Ah RES.1.tree.nodes,At RES.1.tasks] := by
 unfold Wn at hm
 refine SO Tryz.func87 rfl rfl [(0,.p (.agg (Ab p0))),(1,pI p1)] [] ?_
 intro cx hnt
 refine Sq (RK hnt (nn 3 []) [(1,pI p1),(2,rr 1016),(4,rr 1032)] [(Adu p0),(Ads)] tv ?_)
 obtain ⟨r1,hr1,hm⟩ := bo hm
 refine Sq (Sq (RD hnt (.no :: o93 [] true r1 :: .no :: []) [] [(13,pB (!r1))] [] [] (an (Ea p0 r1 hr1) tv) ?_))
 refine Ae hm ?_ ?_
 ·intro h2 hm
  refine Sq (RD hnt (nn 3 []) [1,2,13] [(5,pI 1)] [1016] [] tv ?_)
  refine DW.cv [] [] [] [(1032,bx [ow 100000 0,pI 0,ow 100001 0,pI 0]),(100000,ob0 (Ah [])),(100001,ob0 (At []))] (Conv.ads [(.o 1032 0,100000,6,elems Ar Bj []),(.o 1032 2,100001,4,elems Ax Br [])]) ?_
  obtain rfl := sj hm
  exact DW.ret (Ag [Ah [],At []] [100000,100001] (.tup [.agg [ow 0 0,pI 0,ow 1 0,pI 0],pI 1]))
 ·intro h2 hm
  refine Sk ?_
  obtain ⟨r3,hr3,hm⟩ := bo hm
  refine Sq (Sq (RD hnt (nn 2 (o98 [] true r3 :: nn 6 [])) [13] [(7,pB r3.2)] [] [] (an (Lz p0 p1 r3 hr3) tv) ?_))
  refine Sq (RD hnt (nn 2 []) [7] [(22,pB (!r3.2))] [] [] tv ?_)
  refine Ae hm ?_ ?_
  ·intro h4 hm
   refine Sq (RD hnt (nn 3 []) [1,2,22] [(5,pI 4)] [1016] [] tv ?_)
   refine DW.cv [] [] [] [(1032,bx [ow 100000 0,pI 0,ow 100001 0,pI 0]),(100000,ob0 (Ah [])),(100001,ob0 (At []))] (Conv.ads [(.o 1032 0,100000,6,elems Ar Bj []),(.o 1032 2,100001,4,elems Ax Br [])]) ?_
   obtain rfl := sj hm
   exact DW.ret (Ag [Ah [],At []] [100000,100001] (.tup [.agg [ow 0 0,pI 0,ow 1 0,pI 0],pI 4]))
  ·intro h4 hm
   refine Sk ?_
   obtain ⟨r5,hr5,hm⟩ := bo hm
   refine Sq (RD hnt (nn 2 (o83 [] true r5 :: nn 5 [])) [22] [(8,rr 1064)] [] [(1064,bx [ow 1208 r5.nodes.length,pI r5.next,.p (.sl .nil 0 0 (fun _ => [])),pI p0.next]),(1208,ob0 (Ah r5.nodes))] (an (Sp p0.tree r5 hr5) tv) ?_)
   refine Sq (Sq (RD hnt (.no :: []) [] [(9,pI 0)] [] [] tv ?_))
   refine Bk ?_
   obtain ⟨hc1,hm⟩ := go1 hm
   refine DW.rangeO (fun (k1 : Nat) (s1 : List Au) => Aj [(1,pI p1),(2,rr 1016),(4,rr 1032),(8,rr 1064),(9,pI ((k1 : Nat) : Int))] [(Adu p0),(Ads),(1064,bx [ow 1208 r5.nodes.length,pI r5.next,ow 1448 s1.length,pI p0.next]),(1208,ob0 (Ah r5.nodes)),(1448,ob0 (At s1))]) Br hm (Conv.ads [(.o 1064 2,1448,4,elems Ax Br [])]) ?_
   intro k1 s1 n1 hk1 hs1 he1
   refine Sq (Sq (RD hnt (nn 5 []) [] [(34,pB (decide (((k1 : Nat) : Int) < ((p0.tasks.length : Nat) : Int))))] [] [] tv ?_))
   refine Cb (decide (((k1 : Nat) : Int) < ((p0.tasks.length : Nat) : Int))) ?_ ?_
   ·intro h15
    have hlt1 : k1 < p0.tasks.length := by have := of_decide_eq_true h15; omega
    have hm := hs1 hlt1
    unfold Vo at hm
    refine Sk ?_
    refine Sq ?_
    refine Jn (ι := List Au) (fun (y3 : List Au) => Aj [(1,pI p1),(2,rr 1016),(4,rr 1032),(8,rr 1064),(9,pI ((k1 : Nat) : Int))] [(Adu p0),(Ads),(1064,bx [ow 1208 r5.nodes.length,pI r5.next,ow 1448 y3.length,pI p0.next]),(1208,ob0 (Ah r5.nodes)),(1448,ob0 (At y3))]) (fun y3 => (Sa n1) y3 = some RES) ?_ ?_
    ·intro y3 hm
     unfold Sa at hm
     refine RD hnt (nn 3 []) [] [(9,pI (w64 (((k1 : Nat) : Int) + 1)))] [] [] tv ?_
     exact jD y3 ⟨hlt1,hm⟩ (Conv.tp [(9,pI (w64 (((k1 : Nat) : Int) + 1)))] [] (by kernel_rfl) (.cons rfl (.of_eq (congrArg pI (Bl hlt1 hc1))) .nil) .nil)
    ·refine Bk ?_
     refine Sq (RD hnt (nn 7 []) [34] [(10,rr 1080)] [] [(1080,bx (pm (Ax (Ev p0 k1))))] (an (nn0 k1) (an (ltc hlt1) tv)) ?_)
     refine Sq (DW.regJ (sl2 := [(1,pI p1),(2,rr 1016),(4,rr 1032),(8,rr 1064),(9,pI ((k1 : Nat) : Int)),(10,rr 1080),(51,pB (((Ev p0 k1).id != p1) && ((Ev p0 k1).process != p1)))]) (ob2 := [(Adu p0),(Ads),(1064,bx [ow 1208 r5.nodes.length,pI r5.next,ow 1448 s1.length,pI p0.next]),(1080,bx (pm (Ax (Ev p0 k1)))),(1208,ob0 (Ah r5.nodes)),(1448,ob0 (At s1))]) ?_ ?_)
     ·rcases bt ((Ev p0 k1).id != p1) with h16 | h16
      ·exact RT hnt (nn 9 (pT :: [])) [(51,pB ((Ev p0 k1).process != p1))] (an5 h16 tv) (by kernel_rfl) (.cons rfl (.of_eq (by rw [h16]; try rfl)) .nil)
      ·exact RT hnt (nn 5 (sk 4 (pF :: []))) [(51,pB false)] (an5 h16 tv) (by kernel_rfl) (.cons rfl (.of_eq (by rw [h16]; try rfl)) .nil)
     ·refine Ae hm ?_ ?_
      ·intro h17 hm
       obtain ⟨g18,hm⟩ := go1 hm
       refine RN hnt (nn 7 []) [(1,pI p1),(2,rr 1016),(4,rr 1032),(8,rr 1064),(9,pI ((k1 : Nat) : Int))] [(Adu p0),(Ads),(1064,bx [ow 1208 r5.nodes.length,pI r5.next,ow 1448 (s1 ++ [(Ev p0 k1)]).length,pI p0.next]),(1208,ob0 (Ah r5.nodes)),(1448,ob0 (At (s1 ++ [(Ev p0 k1)])))] [] [(1064,.box [ow 1208 r5.nodes.length,pI r5.next,ow 1448 (s1.length + 1),pI p0.next]),(1448,.row 4 (s1.length + 1) (Cw s1.length (Abd s1) (cut 4 [vi (Ev p0 k1).id,vi (Ev p0 k1).process,vi (Ev p0 k1).group,vi (Ev p0 k1).user])))] (an (by omega : (s1.length + 1) * 32 ≤ 140737488355328) tv) (by kernel_rfl) .nil (.cons rfl (.box (.cons .rfl (.cons .rfl (.cons (MLe.ownLen (enc := Ax) (d := Br) (f := (Cw s1.length (Abd s1) (cut 4 [vi (Ev p0 k1).id,vi (Ev p0 k1).process,vi (Ev p0 k1).group,vi (Ev p0 k1).user]))) (RowIs.cat RowIs.elems (RowIs.lit (enc := Ax) (d := Br) (n := 1) (f := (cut 4 [vi (Ev p0 k1).id,vi (Ev p0 k1).process,vi (Ev p0 k1).group,vi (Ev p0 k1).user])) [(Ev p0 k1)] rfl (fun | 0,_ => rfl | n + 1,h => absurd h (by omega))))) (.cons .rfl .nil))))) (.cons rfl (BLe.typed (RowIs.cat RowIs.elems (RowIs.lit (enc := Ax) (d := Br) (n := 1) (f := (cut 4 [vi (Ev p0 k1).id,vi (Ev p0 k1).process,vi (Ev p0 k1).group,vi (Ev p0 k1).user])) [(Ev p0 k1)] rfl (fun | 0,_ => rfl | n + 1,h => absurd h (by omega))))) .nil)) ?_
       exact bD (s1 ++ [(Ev p0 k1)]) hm .refl
      ·intro h17 hm
       refine Sk ?_
       exact bD s1 hm Conv.t0
   ·intro h15
    have hge1 : ¬ k1 < p0.tasks.length := by have := of_decide_eq_false h15; omega
    have hm := he1 hge1
    unfold Vs at hm
    refine DW.exit ?_
    refine Ao ?_
    refine Aw ?_
    refine Ak ?_
    show DW _ _ _ _ _
    refine Sq (RD hnt (nn 3 []) [1,2,8,9,34] [(5,pI 0)] [1016,1064] [(1032,bx [ow 1208 r5.nodes.length,pI r5.next,ow 1448 s1.length,pI p0.next])] tv ?_)
    obtain rfl := sj hm
    exact DW.ret (Ag [Ah r5.nodes,At s1] [1208,1448] (.tup [.agg [ow 0 r5.nodes.length,pI r5.next,ow 1 s1.length,pI p0.next],pI 0]))
abbrev o113 (ks : List Nat) (b : Bool) (RES : Aa × Int) (sm : List Nat := []) : Orc := .call 87 ks b (.tup [.agg [ow 0 RES.1.tree.nodes.length,pI RES.1.tree.next,ow 1 RES.1.tasks.length,pI RES.1.next],pI RES.2]) [] [Ah RES.1.tree.nodes,At RES.1.tasks] sm

abbrev AbJ : Nat × Obj := (1048,bx [.p (.sl .nil 0 0 (fun _ => [])),pI 0,.p (.sl .nil 0 0 (fun _ => [])),pI 0])
theorem Zw (p0 : Aq) (p1 : Int) (p2 : Int) (RES : Aa × Aq) (hm : Io p0 p1 p2 = some RES) : Spec Tryz.prog 16 [rr 0,pI p1,pI p2] [.box (pm (Ap p0))] (.p (.agg (Ab RES.1))) [.box (pm (Ap RES.2))] [] := by
 unfold Io at hm
 refine SO Tryz.func16 rfl rfl [(0,rr 0),(1,pI p1),(2,pI p2)] [(0,bx (pm (Ap p0)))] ?_
 intro cx hnt
 refine Sq (RD hnt (.no :: []) [] [(6,rr 1048)] [] [(AbJ)] tv ?_)
 obtain ⟨r1,hr1,hm⟩ := bo hm
 refine Sq (RD hnt (o69 [] true r1 :: nn 2 []) [] [(7,rr 1056)] [] [(1056,bx [ow 1168 r1.tree.nodes.length,pI r1.tree.next,ow 1169 r1.tasks.length,pI r1.next]),(1168,ob0 (Ah r1.tree.nodes)),(1169,ob0 (At r1.tasks))] (an (AhI r1 hr1) tv) ?_)
 obtain ⟨r2,hr2,hm⟩ := bo hm
 refine Sq (RD hnt (nn 2 (o71 [0] true r2 :: nn 2 [])) [] [] [1168] [(0,bx (pm (Ap r2.2))),(1056,bx [.p (Bb r2.1.nodes),pI r2.1.next,ow 1169 r1.tasks.length,pI r1.next])] (an (Acw p0 p1 r2 hr2) (an tv tv)) ?_)
 obtain ⟨r3,hr3,hm⟩ := bo hm
 refine Sq (Sq (RD hnt (nn 3 (o72 [0] true r3 :: .no :: [])) [1] [(8,pI r3.1)] [] [(0,bx (pm (Ap r3.2)))] (an (Bs r2.2 (w64 (p1 + 3)) r3 hr3) (an tv tv)) ?_))
 refine Bk ?_
 refine DW.whileO (fun (s1 : Aq × Aa × Int) => Aj [(0,rr 0),(2,pI p2),(6,rr 1048),(7,rr 1056),(8,pI s1.2.2)] [(0,bx (pm (Ap s1.1))),(AbJ),(1056,bx (pm (Ab s1.2.1)))]) hm (Conv.frz [1169]) ?_
 intro s1 n1 hm
 unfold Nb at hm
 refine Sq (Sq (RD hnt (nn 2 []) [] [(31,pB (decide (s1.2.2 > 0)))] [] [] tv ?_))
 refine Ae hm ?_ ?_
 ·intro h56 hm
  refine Sk ?_
  refine Sq (Bk ?_)
  obtain ⟨r57,hr57,hm⟩ := bo hm
  refine RD hnt (nn 2 (o87 [0] true r57 :: .no :: [])) [31] [] [] [(0,bx (pm (Ap r57.2))),(1056,bx (pm (Ab r57.1)))] (an (AcL s1.1 s1.2.1 r57 hr57) (an tv tv)) ?_
  refine DW.done ?_
  show DW _ _ _ _ _
  refine RD hnt (nn 3 []) [] [(8,pI (w64 (s1.2.2 - 1)))] [] [] tv ?_
  exact jD (r57.2,r57.1,(w64 (s1.2.2 - 1))) hm Conv.eqK
 ·intro h56 hm
  refine DW.exit ?_
  refine Ao ?_
  refine Aw ?_
  refine Ak ?_
  show DW _ _ _ _ _
  obtain ⟨r58,hr58,hm⟩ := bo hm
  refine Sq (Sq (RD hnt (nn 3 (o72 [0] true r58 :: .no :: [])) [2,8,31] [(9,pI r58.1)] [] [(0,bx (pm (Ap r58.2)))] (an (Bs s1.1 (w64 (p2 + 1)) r58 hr58) (an tv tv)) ?_))
  refine Bk ?_
  refine DW.whileO (fun (s3 : Aq × Aa × Int) => Aj [(0,rr 0),(6,rr 1048),(7,rr 1056),(9,pI s3.2.2)] [(0,bx (pm (Ap s3.1))),(AbJ),(1056,bx (pm (Ab s3.2.1)))]) hm Conv.eqK ?_
  intro s3 n3 hm
  unfold Np at hm
  refine Sq (Sq (RD hnt (nn 2 []) [] [(42,pB (decide (s3.2.2 > 0)))] [] [] tv ?_))
  refine Ae hm ?_ ?_
  ·intro h82 hm
   refine Sk ?_
   refine Sq ?_
   refine Jn (ι := Aq × Aa) (fun (y13 : Aq × Aa) => Aj [(0,rr 0),(6,rr 1048),(7,rr 1056),(9,pI s3.2.2)] [(0,bx (pm (Ap y13.1))),(AbJ),(1056,bx (pm (Ab y13.2)))]) (fun y13 => (Dg s3 n3) y13 = some RES) ?_ ?_
   ·intro y13 hm
    unfold Dg at hm
    refine RD hnt (nn 3 []) [] [(9,pI (w64 (s3.2.2 - 1)))] [] [] tv ?_
    exact jD (y13.1,y13.2,(w64 (s3.2.2 - 1))) hm Conv.eqK
   ·refine Bk ?_
    obtain ⟨r83,hr83,hm⟩ := bo hm
    refine Sq (RD hnt (nn 3 (o88 [0] true r83 :: .no :: [])) [42] [(10,pI r83.1)] [] [(0,bx (pm (Ap r83.2)))] (an (Lo s3.1 s3.2.1.tree r83 hr83) (an tv tv)) ?_)
    obtain ⟨r84,hr84,hm⟩ := bo hm
    refine Sq (Sq (RD hnt (nn 2 (o106 [] true r84 :: .no :: [])) [] [(52,pB (r84 != 0))] [] [] (an (Aau s3.2.1 r83.1 r84 hr84) tv) ?_))
    refine Ae hm ?_ ?_
    ·intro h85 hm
     refine DW.exit ?_
     exact Ak (joinKQ (r83.2,s3.2.1) hm Conv.t0)
    ·intro h85 hm
     refine Sk ?_
     obtain ⟨r86,hr86,hm⟩ := bo hm
     obtain ⟨r87,hr87,hm⟩ := bo hm
     refine Sq (Sq (RD hnt (nn 3 (o72 [0] true r86 :: o107 [] true r87 :: nn 8 [])) [10,52] [(11,rr 1088),(13,pI r87.2.2)] [] [(0,bx (pm (Ap r86.2))),(1088,bx [ow 1464 r87.1.tree.nodes.length,pI r87.1.tree.next,ow 1465 r87.1.tasks.length,pI r87.1.next]),(1464,ob0 (Ah r87.1.tree.nodes)),(1465,ob0 (At r87.1.tasks))] (an (Bs r83.2 3 r86 hr86) (an tv (an (Agg s3.2.1 r83.1 r86.1 r87 hr87) tv))) ?_))
     refine Sq (RD hnt (nn 2 []) [13] [(63,pB (r87.2.2 == 0))] [] [] tv ?_)
     refine Jn (ι := Aa) (fun (y14 : Aa) => Aj [(0,rr 0),(6,rr 1048),(7,rr 1056),(9,pI s3.2.2)] [(0,bx (pm (Ap r86.2))),(AbJ),(1056,bx (pm (Ab y14)))]) (fun y14 => (Fu s3 n3 r86) y14 = some RES) ?_ ?_
     ·intro y14 hm
      unfold Fu at hm
      obtain ⟨r89,hr89,hm⟩ := bo hm
      refine Sq (Sq (RD hnt (.no :: o84 [0] true r89 :: []) [] [(66,pB r89.1)] [] [(0,bx (pm (Ap r89.2)))] (an (Ej r86.2 3 r89 hr89) (an tv tv)) ?_))
      refine Jn (ι := Aq × Aa) (fun (y15 : Aq × Aa) => Aj [(0,rr 0),(6,rr 1048),(7,rr 1056),(9,pI s3.2.2)] [(0,bx (pm (Ap y15.1))),(AbJ),(1056,bx (pm (Ab y15.2)))]) (fun y15 => (Eo s3 n3) y15 = some RES) ?_ ?_
      ·intro y15 hm
       unfold Eo at hm
       obtain ⟨r94,hr94,hm⟩ := bo hm
       refine Sq (Sq (RD hnt (.no :: o84 [0] true r94 :: []) [] [(80,pB r94.1)] [] [(0,bx (pm (Ap r94.2)))] (an (Ej y15.1 4 r94 hr94) (an tv tv)) ?_))
       refine Jn (ι := Aq × Aa) (fun (y16 : Aq × Aa) => Aj [(0,rr 0),(6,rr 1048),(7,rr 1056),(9,pI s3.2.2)] [(0,bx (pm (Ap y16.1))),(AbJ),(1056,bx (pm (Ab y16.2)))]) (fun y16 => (En s3 n3) y16 = some RES) ?_ ?_
       ·intro y16 hm
        unfold En at hm
        obtain ⟨r100,hr100,hm⟩ := bo hm
        refine Sq (RD hnt (.no :: o84 [0] true r100 :: []) [] [(97,pB r100.1)] [] [(0,bx (pm (Ap r100.2)))] (an (Ej y16.1 8 r100 hr100) (an tv tv)) ?_)
        refine Ae hm ?_ ?_
        ·intro h101 hm
         obtain ⟨r102,hr102,hm⟩ := bo hm
         obtain ⟨r103,hr103,hm⟩ := bo hm
         refine Sq (RD hnt (nn 3 (o109 [0] true r102 :: o113 [] true r103 :: nn 6 [])) [97] [(19,rr 1152),(20,pI r103.2)] [] [(0,bx (pm (Ap r102.2))),(1152,bx [ow 1824 r103.1.tree.nodes.length,pI r103.1.tree.next,ow 1825 r103.1.tasks.length,pI r103.1.next]),(1824,ob0 (Ah r103.1.tree.nodes)),(1825,ob0 (At r103.1.tasks))] (an (Ql r100.2 y16.2 r102 hr102) (an tv (an (Ahd y16.2 r102.1 r103 hr103) tv))) ?_)
         refine Sq (RD hnt (nn 2 []) [20] [(107,pB (r103.2 == 0))] [] [] tv ?_)
         refine Ae hm ?_ ?_
         ·intro h104 hm
          refine RD hnt (nn 2 []) [19,107] [] [1152] [(1056,bx [ow 1824 r103.1.tree.nodes.length,pI r103.1.tree.next,ow 1825 r103.1.tasks.length,pI r103.1.next])] tv ?_
          exact bD (r102.2,r103.1) hm (Conv.frz [1824,1825])
         ·intro h104 hm
          refine Sk ?_
          exact bD (r102.2,y16.2) hm Conv.t0
        ·intro h101 hm
         refine Sk ?_
         exact bD (r100.2,y16.2) hm Conv.t0
       ·refine Ae hm ?_ ?_
        ·intro h95 hm
         obtain ⟨r96,hr96,hm⟩ := bo hm
         obtain ⟨r97,hr97,hm⟩ := bo hm
         obtain ⟨r98,hr98,hm⟩ := bo hm
         refine Sq (RD hnt (nn 3 (o109 [0] true r96 :: nn 3 (o88 [0] true r97 :: o111 [] true r98 :: nn 6 []))) [80] [(17,rr 1136),(18,pI r98.2)] [] [(0,bx (pm (Ap r97.2))),(1136,bx [ow 1720 r98.1.tree.nodes.length,pI r98.1.tree.next,ow 1721 r98.1.tasks.length,pI r98.1.next]),(1720,ob0 (Ah r98.1.tree.nodes)),(1721,ob0 (At r98.1.tasks))] (an (Ql r94.2 y15.2 r96 hr96) (an tv (an (Lo r96.2 y15.2.tree r97 hr97) (an tv (an (Abl y15.2 r96.1 r97.1 r98 hr98) tv))))) ?_)
         refine Sq (RD hnt (nn 2 []) [18] [(94,pB (r98.2 == 0))] [] [] tv ?_)
         refine Ae hm ?_ ?_
         ·intro h99 hm
          refine RD hnt (nn 2 []) [17,94] [] [1136] [(1056,bx [ow 1720 r98.1.tree.nodes.length,pI r98.1.tree.next,ow 1721 r98.1.tasks.length,pI r98.1.next])] tv ?_
          exact jD (r97.2,r98.1) hm (Conv.frz [1720,1721])
         ·intro h99 hm
          refine Sk ?_
          exact jD (r97.2,y15.2) hm Conv.t0
        ·intro h95 hm
         refine Sk ?_
         exact jD (r94.2,y15.2) hm Conv.t0
      ·refine Ae hm ?_ ?_
       ·intro h90 hm
        obtain ⟨r91,hr91,hm⟩ := bo hm
        obtain ⟨r92,hr92,hm⟩ := bo hm
        refine Sq (RD hnt (nn 3 (o109 [0] true r91 :: o110 [] true r92 :: nn 8 [])) [66] [(14,rr 1112),(16,pI r92.2.2)] [] [(0,bx (pm (Ap r91.2))),(1112,bx [ow 1576 r92.1.tree.nodes.length,pI r92.1.tree.next,ow 1577 r92.1.tasks.length,pI r92.1.next]),(1576,ob0 (Ah r92.1.tree.nodes)),(1577,ob0 (At r92.1.tasks))] (an (Ql r89.2 y14 r91 hr91) (an tv (an (Agh y14 r91.1 r92 hr92) tv))) ?_)
        refine Sq (RD hnt (nn 2 []) [16] [(77,pB (r92.2.2 == 0))] [] [] tv ?_)
        refine Ae hm ?_ ?_
        ·intro h93 hm
         refine RD hnt (nn 2 []) [14,77] [] [1112] [(1056,bx [ow 1576 r92.1.tree.nodes.length,pI r92.1.tree.next,ow 1577 r92.1.tasks.length,pI r92.1.next])] tv ?_
         exact jD (r91.2,r92.1) hm (Conv.frz [1576,1577])
        ·intro h93 hm
         refine Sk ?_
         exact jD (r91.2,y14) hm Conv.t0
       ·intro h90 hm
        refine Sk ?_
        exact jD (r89.2,y14) hm Conv.t0
     ·refine Ae hm ?_ ?_
      ·intro h88 hm
       refine RD hnt (nn 2 []) [11,63] [] [1088] [(1056,bx [ow 1464 r87.1.tree.nodes.length,pI r87.1.tree.next,ow 1465 r87.1.tasks.length,pI r87.1.next])] tv ?_
       exact jD r87.1 hm (Conv.frz [1464,1465])
      ·intro h88 hm
       refine Sk ?_
       exact jD s3.2.1 hm Conv.t0
  ·intro h82 hm
   refine DW.exit ?_
   refine Ao ?_
   refine Aw ?_
   refine Ak ?_
   show DW _ _ _ _ _
   refine Sq (RD hnt (nn 2 []) [0,7,9,42] [] [1056] [(1048,bx (pm (Ab s3.2.1)))] tv ?_)
   obtain rfl := sj hm
   exact DW.ret (Ag [.box (pm (Ap s3.1))] [] (.p (.agg (Ab s3.2.1))))
abbrev o68 (ks : List Nat) (b : Bool) (RES : Aa × Aq) (sm : List Nat := []) : Orc := .call 16 ks b (.p (.agg (Ab RES.1))) [.box (pm (Ap RES.2))] [] sm

theorem Acg (p0 : Ac) (p1 : Int) (RES : Al) (hm : Tb p0 p1 = some RES) : Spec Tryz.prog 137 [.p (.agg (Ai p0)),pI p1] [] (.p (.agg (Bh RES))) [] [] := by
 unfold Tb at hm
 refine SO Tryz.func137 rfl rfl [(0,.p (.agg (Ai p0))),(1,pI p1)] [] ?_
 intro cx hnt
 refine Sq (RK hnt (nn 2 []) [(1,pI p1),(2,rr 1016),(4,rr 1032)] [(1016,bx (pm (Ai p0))),(1032,bx [pI 0,pB false,pB false,pI 0])] tv ?_)
 refine Sq (Sq (RD hnt (.no :: []) [] [(5,pI 0)] [] [] tv ?_))
 refine Bk ?_
 obtain ⟨hc1,hm⟩ := go1 hm
 refine DW.rangeO (fun (k1 : Nat) (s1 : Unit) => Aj [(1,pI p1),(2,rr 1016),(4,rr 1032),(5,pI ((k1 : Nat) : Int))] [(1016,bx (pm (Ai p0))),(1032,bx [pI 0,pB false,pB false,pI 0])]) Bi hm Conv.eqK ?_
 intro k1 s1 n1 hk1 hs1 he1
 refine Sq (Sq (RD hnt (nn 5 []) [] [(10,pB (decide (((k1 : Nat) : Int) < ((p0.frosts.length : Nat) : Int))))] [] [] tv ?_))
 refine Cb (decide (((k1 : Nat) : Int) < ((p0.frosts.length : Nat) : Int))) ?_ ?_
 ·intro h9
  have hlt1 : k1 < p0.frosts.length := by have := of_decide_eq_true h9; omega
  have hm := hs1 hlt1
  unfold Aef at hm
  refine Sk ?_
  refine Sq (Bk ?_)
  refine Sq (RD hnt (nn 8 []) [10] [(20,pB ((p0.frosts.getD k1 (default : Al)).group == p1))] [] [] (an (nn0 k1) (an (ltc hlt1) tv)) ?_)
  refine Ae hm ?_ ?_
  ·intro h10 hm
   refine Sq (RK hnt (nn 6 []) [(4,rr 1032)] [(1032,bx (pm (Bh (p0.frosts.getD k1 (default : Al)))))] (an (nn0 k1) (an (ltc hlt1) tv)) ?_)
   obtain rfl := sj hm
   exact DW.ret (Ag [] [] (.p (.agg (Bh (p0.frosts.getD k1 (default : Al))))))
  ·intro h10 hm
   refine Sk ?_
   refine DW.done ?_
   show DW _ _ _ _ _
   refine RD hnt (nn 3 []) [20] [(5,pI (w64 (((k1 : Nat) : Int) + 1)))] [] [] tv ?_
   exact jD () ⟨hlt1,hm⟩ (Conv.tp [(5,pI (w64 (((k1 : Nat) : Int) + 1)))] [] (by kernel_rfl) (.cons rfl (.of_eq (congrArg pI (Bl hlt1 hc1))) .nil) .nil)
 ·intro h9
  have hge1 : ¬ k1 < p0.frosts.length := by have := of_decide_eq_false h9; omega
  have hm := he1 hge1
  unfold Ael at hm
  refine DW.exit ?_
  refine Ao ?_
  refine Aw ?_
  refine Ak ?_
  show DW _ _ _ _ _
  refine Sq (RK hnt (nn 3 []) [(4,rr 1032)] [(1032,bx [pI p1,pB false,pB false,pI 0])] tv ?_)
  obtain rfl := sj hm
  exact DW.ret (Ag [] [] (.p (.agg [vi p1,vb false,vb false,vi 0])))
abbrev o117 (ks : List Nat) (b : Bool) (RES : Al) (sm : List Nat := []) : Orc := .call 137 ks b (.p (.agg (Bh RES))) [] [] sm

theorem Qb (p0 : List Int) (p1 : Int) (RES : Bool) (hm : Mk p0 p1 = some RES) : Spec Tryz.prog 46 [.p (slI p0),pI p1] [] (pB RES) [] [] := by
 unfold Mk at hm
 refine SO Tryz.func46 rfl rfl [(0,.p (slI p0)),(1,pI p1)] [] ?_
 intro cx hnt
 refine Sq (RD hnt (.no :: []) [] [] [] [] tv ?_)
 refine Sq (Sq (RD hnt (.no :: []) [] [(5,pI 0)] [] [] tv ?_))
 refine Bk ?_
 obtain ⟨hc1,hm⟩ := go1 hm
 refine DW.rangeO (fun (k1 : Nat) (s1 : Unit) => Aj [(0,.p (slI p0)),(1,pI p1),(5,pI ((k1 : Nat) : Int))] []) 0 hm Conv.eqK ?_
 intro k1 s1 n1 hk1 hs1 he1
 refine Sq (Sq (RD hnt (nn 4 []) [] [(9,pB (decide (((k1 : Nat) : Int) < ((p0.length : Nat) : Int))))] [] [] tv ?_))
 refine Cb (decide (((k1 : Nat) : Int) < ((p0.length : Nat) : Int))) ?_ ?_
 ·intro h7
  have hlt1 : k1 < p0.length := by have := of_decide_eq_true h7; omega
  have hm := hs1 hlt1
  unfold AeY at hm
  refine Sk ?_
  refine Sq (Bk ?_)
  refine Sq (RD hnt (nn 6 []) [9] [(17,pB ((p0.getD k1 0) == p1))] [] [] (an (nn0 k1) (an (ltc hlt1) tv)) ?_)
  refine Ae hm ?_ ?_
  ·intro h8 hm
   refine Sq (RK hnt (.no :: []) [(4,pB true)] [] tv ?_)
   obtain rfl := sj hm
   exact DW.ret (Ag [] [] (pB true))
  ·intro h8 hm
   refine Sk ?_
   refine DW.done ?_
   show DW _ _ _ _ _
   refine RD hnt (nn 3 []) [17] [(5,pI (w64 (((k1 : Nat) : Int) + 1)))] [] [] tv ?_
   exact jD () ⟨hlt1,hm⟩ (Conv.tp [(5,pI (w64 (((k1 : Nat) : Int) + 1)))] [] (by kernel_rfl) (.cons rfl (.of_eq (congrArg pI (Bl hlt1 hc1))) .nil) .nil)
 ·intro h7
  have hge1 : ¬ k1 < p0.length := by have := of_decide_eq_false h7; omega
  have hm := he1 hge1
  unfold AeW at hm
  refine DW.exit ?_
  refine Ao ?_
  refine Aw ?_
  refine Ak ?_
  show DW _ _ _ _ _
  refine Sq (RK hnt (.no :: []) [(4,pB false)] [] tv ?_)
  obtain rfl := sj hm
  exact DW.ret (Ag [] [] (pB false))
abbrev o120 (ks : List Nat) (b : Bool) (RES : Bool) (sm : List Nat := []) : Orc := .call 46 ks b (pB RES) [] [] sm

theorem Ii (p0 : Ac) (p1 : Int) (RES : Bool) (hm : Kc p0 p1 = some RES) : Spec Tryz.prog 138 [.p (.agg (Ai p0)),pI p1] [] (pB RES) [] [] := by
 unfold Kc at hm
 refine SO Tryz.func138 rfl rfl [(0,.p (.agg (Ai p0))),(1,pI p1)] [] ?_
 intro cx hnt
 refine Sq (RK hnt (nn 2 []) [(1,pI p1),(2,rr 1016)] [(1016,bx (pm (Ai p0)))] tv ?_)
 obtain ⟨r1,hr1,hm⟩ := bo hm
 refine Sq (RK hnt (nn 3 (o120 [] true r1 :: .no :: [])) [(4,pB r1)] [] (an (Qb p0.stopped p1 r1 hr1) tv) ?_)
 obtain rfl := sj hm
 exact DW.ret (Ag [] [] (pB r1))
abbrev o119 (ks : List Nat) (b : Bool) (RES : Bool) (sm : List Nat := []) : Orc := .call 138 ks b (pB RES) [] [] sm
end Go.Dm


/- Go functions compute their models, printed by a program. -/
namespace Go.Dm
open Go.Proofs
set_option linter.unusedVariables false
theorem Iu (p0 : Af) (p1 : Ac) (p2 : Int) (RES : Bool) (hm : Gx p0 p1 p2 = some RES) : Spec Tryz.prog 187 [.p (.agg (As p0)),.p (.agg (Ai p1)),pI p2] [] (pB RES) [] [] := by
 unfold Gx at hm
 refine SO Tryz.func187 rfl rfl [(0,.p (.agg (As p0))),(1,.p (.agg (Ai p1))),(2,pI p2)] [] ?_
 intro cx hnt
 refine Sq (RK hnt (nn 3 []) [(2,pI p2),(3,rr 1024),(4,rr 1032)] [(1024,bx (pm (As p0))),(1032,bx (pm (Ai p1)))] tv ?_)
 obtain ⟨r1,hr1,hm⟩ := bo hm
 refine Sq (RD hnt (nn 2 (o82 [] true r1 :: .no :: [])) [2,3] [(7,ow 1088 r1.length)] [1024] [(1088,ob0 (roI r1))] (an (Jq p0 p2 r1 hr1) tv) ?_)
 refine Sq (Sq (RD hnt (.no :: []) [] [(8,pI 0)] [] [] tv ?_))
 refine Bk ?_
 obtain ⟨hc1,hm⟩ := go1 hm
 refine DW.rangeO (fun (k1 : Nat) (s1 : Unit) => Aj [(4,rr 1032),(7,ow 1088 r1.length),(8,pI ((k1 : Nat) : Int))] [(1032,bx (pm (Ai p1))),(1088,ob0 (roI r1))]) 0 hm Conv.eqK ?_
 intro k1 s1 n1 hk1 hs1 he1
 refine Sq (Sq (RD hnt (nn 4 []) [] [(15,pB (decide (((k1 : Nat) : Int) < ((r1.length : Nat) : Int))))] [] [] tv ?_))
 refine Cb (decide (((k1 : Nat) : Int) < ((r1.length : Nat) : Int))) ?_ ?_
 ·intro h12
  have hlt1 : k1 < r1.length := by have := of_decide_eq_true h12; omega
  have hm := hs1 hlt1
  unfold Vk at hm
  refine Sk ?_
  refine Sq (Bk ?_)
  obtain ⟨r13,hr13,hm⟩ := bo hm
  refine Sq (RD hnt (nn 5 (o117 [] true r13 :: .no :: [])) [15] [(24,pB r13.want)] [] [] (an (nn0 k1) (an (ltc hlt1) (an (by omega : k1 < r1.length) (an (Acg p1 (r1.getD k1 0) r13 hr13) tv)))) ?_)
  refine Ae hm ?_ ?_
  ·intro h14 hm
   refine Sq (RK hnt (.no :: []) [(6,pB true)] [] tv ?_)
   obtain rfl := sj hm
   exact DW.ret (Ag [] [] (pB true))
  ·intro h14 hm
   refine Sk ?_
   refine DW.done ?_
   show DW _ _ _ _ _
   refine RD hnt (nn 3 []) [24] [(8,pI (w64 (((k1 : Nat) : Int) + 1)))] [] [] tv ?_
   exact jD () ⟨hlt1,hm⟩ (Conv.tp [(8,pI (w64 (((k1 : Nat) : Int) + 1)))] [] (by kernel_rfl) (.cons rfl (.of_eq (congrArg pI (Bl hlt1 hc1))) .nil) .nil)
 ·intro h12
  have hge1 : ¬ k1 < r1.length := by have := of_decide_eq_false h12; omega
  have hm := he1 hge1
  unfold Abm at hm
  refine DW.exit ?_
  refine Ao ?_
  refine Aw ?_
  refine Ak ?_
  show DW _ _ _ _ _
  refine Sq (RK hnt (.no :: []) [(6,pB false)] [] tv ?_)
  obtain rfl := sj hm
  exact DW.ret (Ag [] [] (pB false))
abbrev o121 (ks : List Nat) (b : Bool) (RES : Bool) (sm : List Nat := []) : Orc := .call 187 ks b (pB RES) [] [] sm

abbrev Nd (p0 : Aa) (k1 : Nat) := (p0.tasks.getD k1 (default : Au))
abbrev Adf (p0 : Aa) : Nat × Obj := (1016,bx (pm (Ab p0)))
abbrev Acz (p1 : Ac) : Nat × Obj := (1024,bx (pm (Ai p1)))
theorem Abk (p0 : Aa) (p1 : Ac) (RES : List Int) (hm : Ic p0 p1 = some RES) : Spec Tryz.prog 189 [.p (.agg (Ab p0)),.p (.agg (Ai p1))] [] (ow 0 RES.length) [] [roI RES] := by
 unfold Ic at hm
 refine SO Tryz.func189 rfl rfl [(0,.p (.agg (Ab p0))),(1,.p (.agg (Ai p1)))] [] ?_
 intro cx hnt
 refine Sq (RK hnt (nn 3 []) [(2,rr 1016),(3,rr 1024)] [(Adf p0),(Acz p1)] tv ?_)
 refine Sq (RD hnt (.no :: []) [] [(5,.p (.sl .nil 0 0 (fun _ => [])))] [] [] tv ?_)
 refine Sq (Sq (RD hnt (.no :: []) [] [(6,pI 0)] [] [] tv ?_))
 refine Bk ?_
 obtain ⟨hc1,hm⟩ := go1 hm
 refine DW.rangeO (fun (k1 : Nat) (s1 : List Int) => Aj [(2,rr 1016),(3,rr 1024),(5,ow 1336 s1.length),(6,pI ((k1 : Nat) : Int))] [(Adf p0),(Acz p1),(1336,ob0 (roI s1))]) Br hm (Conv.ads [(.s 5,1336,1,elems Bn 0 [])]) ?_
 intro k1 s1 n1 hk1 hs1 he1
 refine Sq (Sq (RD hnt (nn 5 []) [] [(11,pB (decide (((k1 : Nat) : Int) < ((p0.tasks.length : Nat) : Int))))] [] [] tv ?_))
 refine Cb (decide (((k1 : Nat) : Int) < ((p0.tasks.length : Nat) : Int))) ?_ ?_
 ·intro h18
  have hlt1 : k1 < p0.tasks.length := by have := of_decide_eq_true h18; omega
  have hm := hs1 hlt1
  unfold Yp at hm
  refine Sk ?_
  refine Sq ?_
  refine Jn (ι := List Int) (fun (y5 : List Int) => Aj [(2,rr 1016),(3,rr 1024),(5,ow 1336 y5.length),(6,pI ((k1 : Nat) : Int))] [(Adf p0),(Acz p1),(1336,ob0 (roI y5))]) (fun y5 => (Qi n1) y5 = some RES) ?_ ?_
  ·intro y5 hm
   unfold Qi at hm
   refine RD hnt (nn 3 []) [] [(6,pI (w64 (((k1 : Nat) : Int) + 1)))] [] [] tv ?_
   exact jD y5 ⟨hlt1,hm⟩ (Conv.tp [(6,pI (w64 (((k1 : Nat) : Int) + 1)))] [] (by kernel_rfl) (.cons rfl (.of_eq (congrArg pI (Bl hlt1 hc1))) .nil) .nil)
  ·refine Bk ?_
   obtain ⟨r19,hr19,hm⟩ := bo hm
   refine Sq ?_
   refine Jn (ι := Bool) (fun (y6 : Bool) => Aj [(2,rr 1016),(3,rr 1024),(5,ow 1336 s1.length),(6,pI ((k1 : Nat) : Int)),(33,pB y6)] [(Adf p0),(Acz p1),(1336,ob0 (roI s1))]) (fun y6 => (Pz (Nd p0 k1) s1 n1) y6 = some RES) ?_ ?_
   ·intro y6 hm
    unfold Pz at hm
    refine Ae hm ?_ ?_
    ·intro h22 hm
     obtain ⟨g23,hm⟩ := go1 hm
     refine RN hnt (nn 10 []) [(2,rr 1016),(3,rr 1024),(5,ow 1336 (s1 ++ [(Nd p0 k1).id]).length),(6,pI ((k1 : Nat) : Int))] [(Adf p0),(Acz p1),(1336,ob0 (roI (s1 ++ [(Nd p0 k1).id])))] [(5,ow 1336 (s1.length + 1))] [(1336,.row 1 (s1.length + 1) (Cw s1.length (elI s1) (cut 1 [vi (Nd p0 k1).id])))] (an (nn0 k1) (an (ltc hlt1) (an (by omega : (s1.length + 1) * 8 ≤ 140737488355328) tv))) (by kernel_rfl) (.cons rfl (MLe.ownLen (enc := Bn) (d := 0) (f := (Cw s1.length (elI s1) (cut 1 [vi (Nd p0 k1).id]))) (RowIs.cat RowIs.elems (RowIs.lit (enc := Bn) (d := 0) (n := 1) (f := (cut 1 [vi (Nd p0 k1).id])) [(Nd p0 k1).id] rfl (fun | 0,_ => rfl | n + 1,h => absurd h (by omega))))) .nil) (.cons rfl (BLe.typed (RowIs.cat RowIs.elems (RowIs.lit (enc := Bn) (d := 0) (n := 1) (f := (cut 1 [vi (Nd p0 k1).id])) [(Nd p0 k1).id] rfl (fun | 0,_ => rfl | n + 1,h => absurd h (by omega))))) .nil) ?_
     exact bD (s1 ++ [(Nd p0 k1).id]) hm .refl
    ·intro h22 hm
     refine Sk ?_
     exact bD s1 hm Conv.t0
   ·rcases bt r19 with h20 | h20
    ·replace hm := Bd h20 hm
     obtain ⟨r21,hr21,hm⟩ := bo hm
     refine RD hnt (nn 7 (o119 [] true r19 :: nn 10 (o121 [] true r21 :: pT :: []))) [11] [(33,pB r21)] [] [] (an (nn0 k1) (an (ltc hlt1) (an (Ii p1 (Nd p0 k1).id r19 hr19) (an h20 (an6 h20 (an (nn0 k1) (an (ltc hlt1) (an3 h20 (an (Iu p0.tree p1 (Nd p0 k1).group r21 hr21) (an h20 tv)))))))))) ?_
     exact jD r21 hm Conv.eqK
    ·replace hm := Bc h20 hm
     refine RD hnt (nn 7 (o119 [] true r19 :: .no :: sk 10 (pF :: []))) [11] [(33,pB false)] [] [] (an (nn0 k1) (an (ltc hlt1) (an (Ii p1 (Nd p0 k1).id r19 hr19) (an5 h20 (an6 h20 tv))))) ?_
     exact jD false hm Conv.eqK
 ·intro h18
  have hge1 : ¬ k1 < p0.tasks.length := by have := of_decide_eq_false h18; omega
  have hm := he1 hge1
  unfold Yx at hm
  refine DW.exit ?_
  refine Ao ?_
  refine Aw ?_
  refine Ak ?_
  show DW _ _ _ _ _
  refine Sq (RK hnt (nn 2 []) [(4,ow 1336 s1.length)] [(1336,ob0 (roI s1))] tv ?_)
  obtain rfl := sj hm
  exact DW.ret (Ag [roI s1] [1336] (ow 0 s1.length))
abbrev o118 (ks : List Nat) (b : Bool) (RES : List Int) (sm : List Nat := []) : Orc := .call 189 ks b (ow 0 RES.length) [] [roI RES] sm

theorem Aad (p0 : Aa) (p1 : Ac) (p2 : Int) (RES : Bool) (hm : Oz p0 p1 p2 = some RES) : Spec Tryz.prog 190 [.p (.agg (Ab p0)),.p (.agg (Ai p1)),pI p2] [] (pB RES) [] [] := by
 unfold Oz at hm
 refine SO Tryz.func190 rfl rfl [(0,.p (.agg (Ab p0))),(1,.p (.agg (Ai p1))),(2,pI p2)] [] ?_
 intro cx hnt
 refine Sq (RK hnt (nn 3 []) [(2,pI p2),(3,rr 1024),(4,rr 1032)] [(1024,bx (pm (Ab p0))),(1032,bx (pm (Ai p1)))] tv ?_)
 obtain ⟨r1,hr1,hm⟩ := bo hm
 refine Sq (Sq (RD hnt (nn 4 (o121 [] true r1 :: .no :: [])) [] [(13,pB (!r1))] [] [] (an (Iu p0.tree p1 p2 r1 hr1) tv) ?_))
 refine Ae hm ?_ ?_
 ·intro h2 hm
  refine Sq (RK hnt (.no :: []) [(6,pB false)] [] tv ?_)
  obtain rfl := sj hm
  exact DW.ret (Ag [] [] (pB false))
 ·intro h2 hm
  refine Sk ?_
  refine Sq (Sq (RD hnt (.no :: []) [13] [(7,pI 0)] [] [] tv ?_))
  refine Bk ?_
  obtain ⟨hc1,hm⟩ := go1 hm
  refine DW.rangeO (fun (k1 : Nat) (s1 : Unit) => Aj [(2,pI p2),(3,rr 1024),(4,rr 1032),(7,pI ((k1 : Nat) : Int))] [(1024,bx (pm (Ab p0))),(1032,bx (pm (Ai p1)))]) Br hm Conv.eqK ?_
  intro k1 s1 n1 hk1 hs1 he1
  refine Sq (Sq (RD hnt (nn 5 []) [] [(18,pB (decide (((k1 : Nat) : Int) < ((p0.tasks.length : Nat) : Int))))] [] [] tv ?_))
  refine Cb (decide (((k1 : Nat) : Int) < ((p0.tasks.length : Nat) : Int))) ?_ ?_
  ·intro h19
   have hlt1 : k1 < p0.tasks.length := by have := of_decide_eq_true h19; omega
   have hm := hs1 hlt1
   unfold Wo at hm
   refine Sk ?_
   refine Sq (Bk ?_)
   obtain ⟨r20,hr20,hm⟩ := bo hm
   obtain ⟨r21,hr21,hm⟩ := bo hm
   refine Sq ?_
   refine Jn (ι := Bool) (fun (y3 : Bool) => Aj [(2,pI p2),(3,rr 1024),(4,rr 1032),(7,pI ((k1 : Nat) : Int)),(42,pB y3)] [(1024,bx (pm (Ab p0))),(1032,bx (pm (Ai p1)))]) (fun y3 => (Oi n1) y3 = some RES) ?_ ?_
   ·intro y3 hm
    unfold Oi at hm
    refine Ae hm ?_ ?_
    ·intro h24 hm
     refine Sq (RK hnt (.no :: []) [(6,pB false)] [] tv ?_)
     obtain rfl := sj hm
     exact DW.ret (Ag [] [] (pB false))
    ·intro h24 hm
     refine Sk ?_
     refine DW.done ?_
     show DW _ _ _ _ _
     refine RD hnt (nn 3 []) [42] [(7,pI (w64 (((k1 : Nat) : Int) + 1)))] [] [] tv ?_
     exact jD () ⟨hlt1,hm⟩ (Conv.tp [(7,pI (w64 (((k1 : Nat) : Int) + 1)))] [] (by kernel_rfl) (.cons rfl (.of_eq (congrArg pI (Bl hlt1 hc1))) .nil) .nil)
   ·rcases bt r21 with h22 | h22
    ·replace hm := Bd h22 hm
     obtain ⟨r23,hr23,hm⟩ := bo hm
     refine RD hnt (nn 8 (o82 [] true r20 :: .no :: o120 [] true r21 :: nn 8 (o119 [] true r23 :: .no :: pT :: []))) [18] [(42,pB (!r23))] [] [] (an (nn0 k1) (an (ltc hlt1) (an (Jq p0.tree (p0.tasks.getD k1 (default : Au)).group r20 hr20) (an (Qb r20 p2 r21 hr21) (an5 h22 (an (nn0 k1) (an (ltc hlt1) (an3 h22 (an (Ii p1 (p0.tasks.getD k1 (default : Au)).id r23 hr23) (an2 h22 tv)))))))))) ?_
     exact jD (!r23) hm Conv.eqK
    ·replace hm := Bc h22 hm
     refine RD hnt (nn 8 (o82 [] true r20 :: .no :: o120 [] true r21 :: .no :: sk 9 (pF :: []))) [18] [(42,pB false)] [] [] (an (nn0 k1) (an (ltc hlt1) (an (Jq p0.tree (p0.tasks.getD k1 (default : Au)).group r20 hr20) (an (Qb r20 p2 r21 hr21) (an4 h22 (an6 h22 tv)))))) ?_
     exact jD false hm Conv.eqK
  ·intro h19
   have hge1 : ¬ k1 < p0.tasks.length := by have := of_decide_eq_false h19; omega
   have hm := he1 hge1
   unfold AbW at hm
   refine DW.exit ?_
   refine Ao ?_
   refine Aw ?_
   refine Ak ?_
   show DW _ _ _ _ _
   refine Sq (RK hnt (.no :: []) [(6,pB true)] [] tv ?_)
   obtain rfl := sj hm
   exact DW.ret (Ag [] [] (pB true))
abbrev o123 (ks : List Nat) (b : Bool) (RES : Bool) (sm : List Nat := []) : Orc := .call 190 ks b (pB RES) [] [] sm

abbrev Ade : Nat × Obj := (1032,bx [.p (.sl .nil 0 0 (fun _ => [])),.p (.sl .nil 0 0 (fun _ => []))])
abbrev Sg (p1 : Ac) (k1 : Nat) := (p1.frosts.getD k1 (default : Al))
abbrev Adc (p0 : Aa) : Nat × Obj := (1016,bx (pm (Ab p0)))
abbrev Acq (p1 : Ac) : Nat × Obj := (1024,bx (pm (Ai p1)))
theorem Ui (p0 : Aa) (p1 : Ac) (RES : Ac) (hm : Gk p0 p1 = some RES) : Spec Tryz.prog 188 [.p (.agg (Ab p0)),.p (.agg (Ai p1))] [] (.agg [ow 0 RES.frosts.length,ow 1 RES.stopped.length]) [] [Am RES.frosts,roI RES.stopped] := by
 unfold Gk at hm
 refine SO Tryz.func188 rfl rfl [(0,.p (.agg (Ab p0))),(1,.p (.agg (Ai p1)))] [] ?_
 intro cx hnt
 refine Sq (RK hnt (nn 3 []) [(2,rr 1016),(3,rr 1024),(4,rr 1032)] [(Adc p0),(Acq p1),(Ade)] tv ?_)
 obtain ⟨g1,hm⟩ := go1 hm
 refine Sq (RN hnt (nn 6 []) [(2,rr 1016),(3,rr 1024),(4,rr 1032),(5,rr 1040)] [(Adc p0),(Acq p1),(Ade),(1040,bx [.p (.sl .nil 0 0 (fun _ => [])),ow 1088 p1.stopped.length]),(1088,ob0 (roI p1.stopped))] [] [(1088,.row 1 p1.stopped.length (elI p1.stopped))] (an (by omega : p1.stopped.length * 8 ≤ 140737488355328) tv) (by kernel_rfl) .nil (.cons rfl (BLe.typed RowIs.elems) .nil) ?_)
 refine Sq (Sq (RD hnt (.no :: []) [] [(6,pI 0)] [] [] tv ?_))
 refine Bk ?_
 obtain ⟨hc1,hm⟩ := go1 hm
 refine DW.rangeO (fun (k1 : Nat) (s1 : List Al) => Aj [(2,rr 1016),(3,rr 1024),(4,rr 1032),(5,rr 1040),(6,pI ((k1 : Nat) : Int))] [(Adc p0),(Acq p1),(Ade),(1040,bx [ow 1360 s1.length,ow 1088 p1.stopped.length]),(1088,ob0 (roI p1.stopped)),(1360,ob0 (Am s1))]) Bi hm (Conv.ads [(.o 1040 0,1360,4,elems Bh Bi [])]) ?_
 intro k1 s1 n1 hk1 hs1 he1
 refine Sq (Sq (RD hnt (nn 5 []) [] [(17,pB (decide (((k1 : Nat) : Int) < ((p1.frosts.length : Nat) : Int))))] [] [] tv ?_))
 refine Cb (decide (((k1 : Nat) : Int) < ((p1.frosts.length : Nat) : Int))) ?_ ?_
 ·intro h11
  have hlt1 : k1 < p1.frosts.length := by have := of_decide_eq_true h11; omega
  have hm := hs1 hlt1
  unfold Wp at hm
  refine Sk ?_
  refine Sq (Bk ?_)
  refine Sq (RD hnt (nn 7 []) [17] [(7,rr 1056)] [] [(1056,bx (pm (Bh (Sg p1 k1))))] (an (nn0 k1) (an (ltc hlt1) tv)) ?_)
  obtain ⟨r12,hr12,hm⟩ := bo hm
  refine Sq (Sq (RD hnt (nn 4 (o123 [] true r12 :: .no :: [])) [] [(8,pB r12)] [] [] (an (Aad p0 p1 (Sg p1 k1).group r12 hr12) tv) ?_))
  refine Sq (RD hnt (nn 4 []) [] [(33,pB (r12 != (Sg p1 k1).frozen))] [] [] tv ?_)
  refine Jn (ι := Al) (fun (y3 : Al) => Aj [(2,rr 1016),(3,rr 1024),(4,rr 1032),(5,rr 1040),(6,pI ((k1 : Nat) : Int)),(7,rr 1056)] [(Adc p0),(Acq p1),(Ade),(1040,bx [ow 1360 s1.length,ow 1088 p1.stopped.length]),(1056,bx (pm (Bh y3))),(1088,ob0 (roI p1.stopped)),(1360,ob0 (Am s1))]) (fun y3 => (Lt s1 n1) y3 = some RES) ?_ ?_
  ·intro y3 hm
   unfold Lt at hm
   obtain ⟨g14,hm⟩ := go1 hm
   refine RN hnt (nn 7 []) [(2,rr 1016),(3,rr 1024),(4,rr 1032),(5,rr 1040),(6,pI ((k1 : Nat) : Int))] [(Adc p0),(Acq p1),(Ade),(1040,bx [ow 1360 (s1 ++ [y3]).length,ow 1088 p1.stopped.length]),(1088,ob0 (roI p1.stopped)),(1360,ob0 (Am (s1 ++ [y3])))] [] [(1040,.box [ow 1360 (s1.length + 1),ow 1088 p1.stopped.length]),(1360,.row 4 (s1.length + 1) (Cw s1.length (Lu s1) (cut 4 [vi y3.group,vb y3.want,vb y3.frozen,vi y3.changes])))] (an (by omega : (s1.length + 1) * 24 ≤ 140737488355328) tv) (by kernel_rfl) .nil (.cons rfl (.box (.cons (MLe.ownLen (enc := Bh) (d := Bi) (f := (Cw s1.length (Lu s1) (cut 4 [vi y3.group,vb y3.want,vb y3.frozen,vi y3.changes]))) (RowIs.cat RowIs.elems (RowIs.lit (enc := Bh) (d := Bi) (n := 1) (f := (cut 4 [vi y3.group,vb y3.want,vb y3.frozen,vi y3.changes])) [y3] rfl (fun | 0,_ => rfl | n + 1,h => absurd h (by omega))))) (.cons .rfl .nil))) (.cons rfl (BLe.typed (RowIs.cat RowIs.elems (RowIs.lit (enc := Bh) (d := Bi) (n := 1) (f := (cut 4 [vi y3.group,vb y3.want,vb y3.frozen,vi y3.changes])) [y3] rfl (fun | 0,_ => rfl | n + 1,h => absurd h (by omega))))) .nil)) ?_
   refine DW.done ?_
   show DW _ _ _ _ _
   refine RD hnt (nn 3 []) [] [(6,pI (w64 (((k1 : Nat) : Int) + 1)))] [] [] tv ?_
   exact jD (s1 ++ [y3]) ⟨hlt1,hm⟩ (Conv.tp [(6,pI (w64 (((k1 : Nat) : Int) + 1)))] [] (by kernel_rfl) (.cons rfl (.of_eq (congrArg pI (Bl hlt1 hc1))) .nil) .nil)
  ·refine Ae hm ?_ ?_
   ·intro h13 hm
    refine RD hnt (nn 9 []) [8,33] [] [] [(1056,bx [pI (Sg p1 k1).group,pB (Sg p1 k1).want,pB r12,pI (Rk (w64 ((Sg p1 k1).changes + 1)) 1099511627776)])] tv ?_
    exact jD ({ group := (Sg p1 k1).group,want := (Sg p1 k1).want,frozen := r12,changes := (Rk (w64 ((Sg p1 k1).changes + 1)) 1099511627776) } : Al) hm Conv.eqK
   ·intro h13 hm
    refine Sk ?_
    exact jD (Sg p1 k1) hm Conv.t0
 ·intro h11
  have hge1 : ¬ k1 < p1.frosts.length := by have := of_decide_eq_false h11; omega
  have hm := he1 hge1
  unfold Acl at hm
  refine DW.exit ?_
  refine Ao ?_
  refine Aw ?_
  refine Ak ?_
  show DW _ _ _ _ _
  refine Sq (RD hnt (nn 2 []) [2,3,5,6,17] [] [1016,1024,1040] [(1032,bx [ow 1360 s1.length,ow 1088 p1.stopped.length])] tv ?_)
  obtain rfl := sj hm
  exact DW.ret (Ag [Am s1,roI p1.stopped] [1360,1088] (.agg [ow 0 s1.length,ow 1 p1.stopped.length]))
abbrev o122 (ks : List Nat) (b : Bool) (RES : Ac) (sm : List Nat := []) : Orc := .call 188 ks b (.agg [ow 0 RES.frosts.length,ow 1 RES.stopped.length]) [] [Am RES.frosts,roI RES.stopped] sm

abbrev Afp : Nat × Obj := (1032,bx [.p (.sl .nil 0 0 (fun _ => [])),.p (.sl .nil 0 0 (fun _ => []))])
abbrev AcT (r20 : Al) := (maxI 0 (Rk r20.changes 1099511627776))
theorem AeG (p0 : Aa) (p1 : Ac) (RES : Ac × Int) (hm : Nh p0 p1 = some RES) : Spec Tryz.prog 134 [.p (.agg (Ab p0)),.p (.agg (Ai p1))] [] (.tup [.agg [ow 0 RES.1.frosts.length,ow 1 RES.1.stopped.length],pI RES.2]) [] [Am RES.1.frosts,roI RES.1.stopped] := by
 unfold Nh at hm
 refine SO Tryz.func134 rfl rfl [(0,.p (.agg (Ab p0))),(1,.p (.agg (Ai p1)))] [] ?_
 intro cx hnt
 refine Sq (RK hnt (nn 4 []) [(2,rr 1016),(3,rr 1024),(4,rr 1032)] [(1016,bx (pm (Ab p0))),(1024,bx (pm (Ai p1))),(Afp)] tv ?_)
 obtain ⟨r1,hr1,hm⟩ := bo hm
 refine Sq (Sq (RD hnt (.no :: o93 [] true r1 :: .no :: []) [] [(11,pB (!r1))] [] [] (an (Ea p0 r1 hr1) tv) ?_))
 refine Ae hm ?_ ?_
 ·intro h2 hm
  refine Sq (RD hnt (nn 3 []) [2,3,11] [(5,pI 1)] [1016,1024] [] tv ?_)
  refine DW.cv [] [] [] [(1032,bx [ow 100000 0,ow 100001 0]),(100000,ob0 (Am [])),(100001,ob0 (roI []))] (Conv.ads [(.o 1032 0,100000,4,elems Bh Bi []),(.o 1032 1,100001,1,elems Bn 0 [])]) ?_
  obtain rfl := sj hm
  exact DW.ret (Ag [Am [],roI []] [100000,100001] (.tup [.agg [ow 0 0,ow 1 0],pI 1]))
 ·intro h2 hm
  refine Sk ?_
  refine Sq (RD hnt (nn 3 []) [11] [(6,rr 1048)] [] [(1048,bx [.p (.sl .nil 0 0 (fun _ => [])),.p (.sl .nil 0 0 (fun _ => []))])] tv ?_)
  refine Sq (Sq (RD hnt (.no :: []) [] [(7,pI 0)] [] [] tv ?_))
  refine Bk ?_
  obtain ⟨hc1,hm⟩ := go1 hm
  refine DW.rangeO (fun (k1 : Nat) (s1 : List Al) => Aj [(2,rr 1016),(3,rr 1024),(4,rr 1032),(6,rr 1048),(7,pI ((k1 : Nat) : Int))] [(1016,bx (pm (Ab p0))),(1024,bx (pm (Ai p1))),(Afp),(1048,bx [ow 1384 s1.length,.p (.sl .nil 0 0 (fun _ => []))]),(1384,ob0 (Am s1))]) Bj hm (Conv.ads [(.o 1048 0,1384,4,elems Bh Bi [])]) ?_
  intro k1 s1 n1 hk1 hs1 he1
  refine Sq (Sq (RD hnt (nn 6 []) [] [(19,pB (decide (((k1 : Nat) : Int) < ((p0.tree.nodes.length : Nat) : Int))))] [] [] tv ?_))
  refine Cb (decide (((k1 : Nat) : Int) < ((p0.tree.nodes.length : Nat) : Int))) ?_ ?_
  ·intro h19
   have hlt1 : k1 < p0.tree.nodes.length := by have := of_decide_eq_true h19; omega
   have hm := hs1 hlt1
   unfold Vb at hm
   refine Sk ?_
   refine Sq (Bk ?_)
   obtain ⟨r20,hr20,hm⟩ := bo hm
   refine Sq (RD hnt (nn 8 (o117 [] true r20 :: nn 2 [])) [19] [(8,rr 1064)] [] [(1064,bx (pm (Bh r20)))] (an (nn0 k1) (an (ltc hlt1) (an (Acg p1 (p0.tree.nodes.getD k1 (default : An)).id r20 hr20) tv))) ?_)
   refine Sq (RD hnt (nn 6 []) [] [] [] [(1064,bx [pI r20.group,pB r20.want,pB r20.frozen,pI (AcT r20)])] tv ?_)
   refine Sq ?_
   refine Jn (ι := Al) (fun (y3 : Al) => Aj [(2,rr 1016),(3,rr 1024),(4,rr 1032),(6,rr 1048),(7,pI ((k1 : Nat) : Int)),(8,rr 1064)] [(1016,bx (pm (Ab p0))),(1024,bx (pm (Ai p1))),(Afp),(1048,bx [ow 1384 s1.length,.p (.sl .nil 0 0 (fun _ => []))]),(1064,bx (pm (Bh y3))),(1384,ob0 (Am s1))]) (fun y3 => (Nr s1 n1) y3 = some RES) ?_ ?_
   ·intro y3 hm
    unfold Nr at hm
    obtain ⟨g22,hm⟩ := go1 hm
    refine RN hnt (nn 7 []) [(2,rr 1016),(3,rr 1024),(4,rr 1032),(6,rr 1048),(7,pI ((k1 : Nat) : Int))] [(1016,bx (pm (Ab p0))),(1024,bx (pm (Ai p1))),(Afp),(1048,bx [ow 1384 (s1 ++ [y3]).length,.p (.sl .nil 0 0 (fun _ => []))]),(1384,ob0 (Am (s1 ++ [y3])))] [] [(1048,.box [ow 1384 (s1.length + 1),.p (.sl .nil 0 0 (fun _ => []))]),(1384,.row 4 (s1.length + 1) (Cw s1.length (Lu s1) (cut 4 [vi y3.group,vb y3.want,vb y3.frozen,vi y3.changes])))] (an (by omega : (s1.length + 1) * 24 ≤ 140737488355328) tv) (by kernel_rfl) .nil (.cons rfl (.box (.cons (MLe.ownLen (enc := Bh) (d := Bi) (f := (Cw s1.length (Lu s1) (cut 4 [vi y3.group,vb y3.want,vb y3.frozen,vi y3.changes]))) (RowIs.cat RowIs.elems (RowIs.lit (enc := Bh) (d := Bi) (n := 1) (f := (cut 4 [vi y3.group,vb y3.want,vb y3.frozen,vi y3.changes])) [y3] rfl (fun | 0,_ => rfl | n + 1,h => absurd h (by omega))))) (.cons .rfl .nil))) (.cons rfl (BLe.typed (RowIs.cat RowIs.elems (RowIs.lit (enc := Bh) (d := Bi) (n := 1) (f := (cut 4 [vi y3.group,vb y3.want,vb y3.frozen,vi y3.changes])) [y3] rfl (fun | 0,_ => rfl | n + 1,h => absurd h (by omega))))) .nil)) ?_
    refine DW.done ?_
    show DW _ _ _ _ _
    refine RD hnt (nn 3 []) [] [(7,pI (w64 (((k1 : Nat) : Int) + 1)))] [] [] tv ?_
    exact jD (s1 ++ [y3]) ⟨hlt1,hm⟩ (Conv.tp [(7,pI (w64 (((k1 : Nat) : Int) + 1)))] [] (by kernel_rfl) (.cons rfl (.of_eq (congrArg pI (Bl hlt1 hc1))) .nil) .nil)
   ·rcases bt r20.want with h21 | h21
    ·replace hm := Bd h21 hm
     refine RD hnt (nn 6 (pT :: nn 2 [])) [] [] [] [(1064,bx [pI r20.group,pB (r20.group != 1),pB r20.frozen,pI (AcT r20)])] (an4 h21 tv) ?_
     exact jD ({ group := r20.group,want := (r20.group != 1),frozen := r20.frozen,changes := (AcT r20) } : Al) hm Conv.eqK
    ·replace hm := Bc h21 hm
     refine RD hnt (nn 3 (sk 3 (pF :: nn 2 []))) [] [] [] [(1064,bx [pI r20.group,pB false,pB r20.frozen,pI (AcT r20)])] (an4 h21 tv) ?_
     exact jD ({ group := r20.group,want := false,frozen := r20.frozen,changes := (AcT r20) } : Al) hm Conv.eqK
  ·intro h19
   have hge1 : ¬ k1 < p0.tree.nodes.length := by have := of_decide_eq_false h19; omega
   have hm := he1 hge1
   unfold Rd at hm
   refine DW.exit ?_
   refine Ao ?_
   refine Aw ?_
   refine Ak ?_
   show DW _ _ _ _ _
   refine Sq (RD hnt (nn 4 []) [3,7,19] [] [1024] [(1048,bx [ow 1384 s1.length,.p (slI p1.stopped)])] tv ?_)
   refine Sq (DW.cv [] [] [1384] [(1048,bx [.p (Du s1),.p (slI p1.stopped)])] (Conv.frz [1384]) ?_)
   obtain ⟨r24,hr24,hm⟩ := bo hm
   refine RD hnt (nn 2 (o118 [] true r24 :: nn 2 [])) [] [] [] [(1048,bx [.p (Du s1),ow 1440 r24.length]),(1440,ob0 (roI r24))] (an (Abk p0 ({ frosts := s1,stopped := p1.stopped } : Ac) r24 hr24) tv) ?_
   refine Sq (DW.cv [] [] [1440] [(1048,bx [.p (Du s1),.p (slI r24)])] (Conv.frz [1440]) ?_)
   obtain ⟨r26,hr26,hm⟩ := bo hm
   refine RK hnt (nn 2 (o122 [] true r26 :: nn 2 [])) [(4,rr 1032),(5,pI 0)] [(1032,bx [ow 1472 r26.frosts.length,ow 1473 r26.stopped.length]),(1472,ob0 (Am r26.frosts)),(1473,ob0 (roI r26.stopped))] (an (Ui p0 ({ frosts := s1,stopped := r24 } : Ac) r26 hr26) tv) ?_
   obtain rfl := sj hm
   exact DW.ret (Ag [Am r26.frosts,roI r26.stopped] [1472,1473] (.tup [.agg [ow 0 r26.frosts.length,ow 1 r26.stopped.length],pI 0]))
abbrev o116 (ks : List Nat) (b : Bool) (RES : Ac × Int) (sm : List Nat := []) : Orc := .call 134 ks b (.tup [.agg [ow 0 RES.1.frosts.length,ow 1 RES.1.stopped.length],pI RES.2]) [] [Am RES.1.frosts,roI RES.1.stopped] sm

theorem AgP (p0 : Aa) (RES : Ac) (hm : Wi p0 = some RES) : Spec Tryz.prog 129 [.p (.agg (Ab p0))] [] (.agg [ow 0 RES.frosts.length,ow 1 RES.stopped.length]) [] [Am RES.frosts,roI RES.stopped] := by
 unfold Wi at hm
 refine SO Tryz.func129 rfl rfl [(0,.p (.agg (Ab p0)))] [] ?_
 intro cx hnt
 refine Sq (RK hnt (nn 2 []) [(1,rr 1008),(2,rr 1016)] [(1008,bx (pm (Ab p0))),(1016,bx [.p (.sl .nil 0 0 (fun _ => [])),.p (.sl .nil 0 0 (fun _ => []))])] tv ?_)
 obtain ⟨r1,hr1,hm⟩ := bo hm
 refine Sq (RD hnt (nn 2 (o116 [] true r1 :: nn 6 [])) [1] [(3,rr 1024)] [1008] [(1024,bx [ow 1064 r1.1.frosts.length,ow 1065 r1.1.stopped.length]),(1064,ob0 (Am r1.1.frosts)),(1065,ob0 (roI r1.1.stopped))] (an (Spec.args (xs := [.p (.agg (Ab p0)),.p (.agg [.sl .nil 0 0 (fun _ => []),.sl .nil 0 0 (fun _ => [])])]) (AeG p0 ({ frosts := [],stopped := [] } : Ac) r1 hr1) (.cons .rfl (.cons (.p (.agg (.cons PLe.nilL (.cons PLe.nilL .nil)))) .nil))) tv) ?_)
 refine Sq (RD hnt (nn 2 []) [3] [] [1024] [(1016,bx [ow 1064 r1.1.frosts.length,ow 1065 r1.1.stopped.length])] tv ?_)
 obtain rfl := sj hm
 exact DW.ret (Ag [Am r1.1.frosts,roI r1.1.stopped] [1064,1065] (.agg [ow 0 r1.1.frosts.length,ow 1 r1.1.stopped.length]))
abbrev o115 (ks : List Nat) (b : Bool) (RES : Ac) (sm : List Nat := []) : Orc := .call 129 ks b (.agg [ow 0 RES.frosts.length,ow 1 RES.stopped.length]) [] [Am RES.frosts,roI RES.stopped] sm

abbrev Rs (p1 : Aa) (k1 : Nat) := (p1.tasks.getD k1 (default : Au))
abbrev AcY (p1 : Aa) : Nat × Obj := (1032,bx (pm (Ab p1)))
theorem Up (p0 : Aq) (p1 : Aa) (p2 : Bool) (RES : (List Int) × Aq) (hm : Jx p0 p1 p2 = some RES) : Spec Tryz.prog 56 [rr 0,.p (.agg (Ab p1)),pB p2] [.box (pm (Ap p0))] (ow 1 RES.1.length) [.box (pm (Ap RES.2))] [roI RES.1] := by
 unfold Jx at hm
 refine SO Tryz.func56 rfl rfl [(0,rr 0),(1,.p (.agg (Ab p1))),(2,pB p2)] [(0,bx (pm (Ap p0)))] ?_
 intro cx hnt
 refine Sq (RD hnt (nn 2 []) [1] [(4,rr 1032)] [] [(AcY p1)] tv ?_)
 refine Sq (RD hnt (.no :: []) [] [(7,.p (.sl .nil 0 0 (fun _ => [])))] [] [] tv ?_)
 refine Sq (Sq (RD hnt (.no :: []) [] [(8,pI 0)] [] [] tv ?_))
 refine Bk ?_
 obtain ⟨hc1,hm⟩ := go1 hm
 refine DW.rangeO (fun (k1 : Nat) (s1 : Aq × (List Int)) => Aj [(0,rr 0),(2,pB p2),(4,rr 1032),(7,ow 1240 s1.2.length),(8,pI ((k1 : Nat) : Int))] [(0,bx (pm (Ap s1.1))),(AcY p1),(1240,ob0 (roI s1.2))]) Br hm (Conv.ads [(.s 7,1240,1,elems Bn 0 [])]) ?_
 intro k1 s1 n1 hk1 hs1 he1
 refine Sq (Sq (RD hnt (nn 5 []) [] [(13,pB (decide (((k1 : Nat) : Int) < ((p1.tasks.length : Nat) : Int))))] [] [] tv ?_))
 refine Cb (decide (((k1 : Nat) : Int) < ((p1.tasks.length : Nat) : Int))) ?_ ?_
 ·intro h12
  have hlt1 : k1 < p1.tasks.length := by have := of_decide_eq_true h12; omega
  have hm := hs1 hlt1
  unfold Rp at hm
  refine Sk ?_
  refine Sq ?_
  refine Jn (ι := Aq × (List Int)) (fun (y5 : Aq × (List Int)) => Aj [(0,rr 0),(2,pB p2),(4,rr 1032),(7,ow 1240 y5.2.length),(8,pI ((k1 : Nat) : Int))] [(0,bx (pm (Ap y5.1))),(AcY p1),(1240,ob0 (roI y5.2))]) (fun y5 => (Ki n1) y5 = some RES) ?_ ?_
  ·intro y5 hm
   unfold Ki at hm
   refine RD hnt (nn 3 []) [] [(8,pI (w64 (((k1 : Nat) : Int) + 1)))] [] [] tv ?_
   exact jD (y5.1,y5.2) ⟨hlt1,hm⟩ (Conv.tp [(8,pI (w64 (((k1 : Nat) : Int) + 1)))] [] (by kernel_rfl) (.cons rfl (.of_eq (congrArg pI (Bl hlt1 hc1))) .nil) .nil)
  ·refine Bk ?_
   refine Sq ?_
   refine Jn (ι := Aq × Bool) (fun (y6 : Aq × Bool) => Aj [(0,rr 0),(2,pB p2),(4,rr 1032),(7,ow 1240 s1.2.length),(8,pI ((k1 : Nat) : Int)),(21,pB y6.2)] [(0,bx (pm (Ap y6.1))),(AcY p1),(1240,ob0 (roI s1.2))]) (fun y6 => (Ih (Rs p1 k1) s1 n1) y6 = some RES) ?_ ?_
   ·intro y6 hm
    unfold Ih at hm
    refine Ae hm ?_ ?_
    ·intro h15 hm
     obtain ⟨g16,hm⟩ := go1 hm
     refine RN hnt (nn 10 []) [(0,rr 0),(2,pB p2),(4,rr 1032),(7,ow 1240 (s1.2 ++ [(Rs p1 k1).id]).length),(8,pI ((k1 : Nat) : Int))] [(0,bx (pm (Ap y6.1))),(AcY p1),(1240,ob0 (roI (s1.2 ++ [(Rs p1 k1).id])))] [(7,ow 1240 (s1.2.length + 1))] [(1240,.row 1 (s1.2.length + 1) (Cw s1.2.length (elI s1.2) (cut 1 [vi (Rs p1 k1).id])))] (an (nn0 k1) (an (ltc hlt1) (an (by omega : (s1.2.length + 1) * 8 ≤ 140737488355328) tv))) (by kernel_rfl) (.cons rfl (MLe.ownLen (enc := Bn) (d := 0) (f := (Cw s1.2.length (elI s1.2) (cut 1 [vi (Rs p1 k1).id]))) (RowIs.cat RowIs.elems (RowIs.lit (enc := Bn) (d := 0) (n := 1) (f := (cut 1 [vi (Rs p1 k1).id])) [(Rs p1 k1).id] rfl (fun | 0,_ => rfl | n + 1,h => absurd h (by omega))))) .nil) (.cons rfl (BLe.typed (RowIs.cat RowIs.elems (RowIs.lit (enc := Bn) (d := 0) (n := 1) (f := (cut 1 [vi (Rs p1 k1).id])) [(Rs p1 k1).id] rfl (fun | 0,_ => rfl | n + 1,h => absurd h (by omega))))) .nil) ?_
     exact bD (y6.1,(s1.2 ++ [(Rs p1 k1).id])) hm .refl
    ·intro h15 hm
     refine Sk ?_
     exact bD (y6.1,s1.2) hm Conv.t0
   ·rcases bt p2 with h13 | h13
    ·replace hm := Bd h13 hm
     refine RD hnt (nn 2 (sk 3 (pT :: []))) [13] [(21,pB true)] [] [] (an4 h13 tv) ?_
     exact jD (s1.1,true) hm Conv.eqK
    ·replace hm := Bc h13 hm
     obtain ⟨r14,hr14,hm⟩ := bo hm
     refine RD hnt (nn 3 (o72 [0] true r14 :: .no :: pF :: [])) [13] [(21,pB (decide (r14.1 > 0)))] [] [(0,bx (pm (Ap r14.2)))] (an2 h13 (an (Bs s1.1 4 r14 hr14) (an tv (an2 h13 tv)))) ?_
     exact jD (r14.2,(decide (r14.1 > 0))) hm Conv.eqK
 ·intro h12
  have hge1 : ¬ k1 < p1.tasks.length := by have := of_decide_eq_false h12; omega
  have hm := he1 hge1
  unfold Xh at hm
  refine DW.exit ?_
  refine Ao ?_
  refine Aw ?_
  refine Ak ?_
  show DW _ _ _ _ _
  refine Sq (RD hnt (nn 2 []) [0,2,4,7,8,13] [(6,ow 1240 s1.2.length)] [1032] [] tv ?_)
  obtain rfl := sj hm
  exact DW.ret (Ag [.box (pm (Ap s1.1)),roI s1.2] [1240] (ow 1 s1.2.length))
abbrev o124 (ks : List Nat) (b : Bool) (RES : (List Int) × Aq) (sm : List Nat := []) : Orc := .call 56 ks b (ow 1 RES.1.length) [.box (pm (Ap RES.2))] [roI RES.1] sm

abbrev Zq (p0 : Aa) : Nat × Obj := (1016,bx (pm (Ab p0)))
abbrev Ym (p1 : Ac) : Nat × Obj := (1024,bx (pm (Ai p1)))
abbrev Adv (p1 : Ac) (k1 : Nat) := (p1.frosts.getD k1 (default : Al))
theorem Aaj (p0 : Aa) (p1 : Ac) (RES : Bool) (hm : Ox p0 p1 = some RES) : Spec Tryz.prog 135 [.p (.agg (Ab p0)),.p (.agg (Ai p1))] [] (pB RES) [] [] := by
 unfold Ox at hm
 refine SO Tryz.func135 rfl rfl [(0,.p (.agg (Ab p0))),(1,.p (.agg (Ai p1)))] [] ?_
 intro cx hnt
 refine Sq (RK hnt (nn 3 []) [(2,rr 1016),(3,rr 1024)] [(Zq p0),(Ym p1)] tv ?_)
 obtain ⟨r1,hr1,hm⟩ := bo hm
 refine Sq (Sq ?_)
 refine Jn (ι := Bool) (fun (y1 : Bool) => Aj [(2,rr 1016),(3,rr 1024),(23,pB y1)] [(Zq p0),(Ym p1)]) (fun y1 => (Oo p0 p1) y1 = some RES) ?_ ?_
 ·intro y1 hm
  unfold Oo at hm
  refine Ae hm ?_ ?_
  ·intro h3 hm
   refine Sq (RK hnt (.no :: []) [(4,pB false)] [] tv ?_)
   obtain rfl := sj hm
   exact DW.ret (Ag [] [] (pB false))
  ·intro h3 hm
   refine Sk ?_
   refine Sq (Sq (RD hnt (.no :: []) [23] [(5,pI 0)] [] [] tv ?_))
   refine Bk ?_
   obtain ⟨hc1,hm⟩ := go1 hm
   refine DW.rangeO (fun (k1 : Nat) (s1 : Unit) => Aj [(2,rr 1016),(3,rr 1024),(5,pI ((k1 : Nat) : Int))] [(Zq p0),(Ym p1)]) Bi hm Conv.eqK ?_
   intro k1 s1 n1 hk1 hs1 he1
   refine Sq (Sq (RD hnt (nn 5 []) [] [(28,pB (decide (((k1 : Nat) : Int) < ((p1.frosts.length : Nat) : Int))))] [] [] tv ?_))
   refine Cb (decide (((k1 : Nat) : Int) < ((p1.frosts.length : Nat) : Int))) ?_ ?_
   ·intro h119
    have hlt1 : k1 < p1.frosts.length := by have := of_decide_eq_true h119; omega
    have hm := hs1 hlt1
    unfold Xe at hm
    refine Sk ?_
    refine Sq (Bk ?_)
    refine Sq (RD hnt (nn 7 []) [28] [(6,rr 1048)] [] [(1048,bx (pm (Bh (Adv p1 k1))))] (an (nn0 k1) (an (ltc hlt1) tv)) ?_)
    obtain ⟨g120,hm⟩ := go1 hm
    refine Sq ?_
    refine Jn (ι := Bool) (fun (y10 : Bool) => Aj [(2,rr 1016),(3,rr 1024),(5,pI ((k1 : Nat) : Int)),(55,pB y10)] [(Zq p0),(Ym p1)]) (fun y10 => (Kz n1) y10 = some RES) ?_ ?_
    ·intro y10 hm
     unfold Kz at hm
     refine Ae hm ?_ ?_
     ·intro h124 hm
      refine Sq (RK hnt (.no :: []) [(4,pB false)] [] tv ?_)
      obtain rfl := sj hm
      exact DW.ret (Ag [] [] (pB false))
     ·intro h124 hm
      refine Sk ?_
      refine DW.done ?_
      show DW _ _ _ _ _
      refine RD hnt (nn 3 []) [55] [(5,pI (w64 (((k1 : Nat) : Int) + 1)))] [] [] tv ?_
      exact jD () ⟨hlt1,hm⟩ (Conv.tp [(5,pI (w64 (((k1 : Nat) : Int) + 1)))] [] (by kernel_rfl) (.cons rfl (.of_eq (congrArg pI (Bl hlt1 hc1))) .nil) .nil)
    ·rcases bt ((Adv p1 k1).group != (p0.tree.nodes.getD k1 Bj).id) with h121 | h121
     ·replace hm := Bd h121 hm
      refine RD hnt (nn 11 (sk 3 (pT :: .no :: sk 3 (pT :: [])))) [6] [(55,pB true)] [1048] [] (an (nn0 k1) (an (ltc g120) (an4 h121 (an4 tt tv)))) ?_
      exact jD true hm Conv.eqK
     ·replace hm := Bc h121 hm
      rcases bt (decide ((Adv p1 k1).changes < 0)) with h122 | h122
      ·replace hm := Bd h122 hm
       refine RD hnt (nn 14 (pF :: .no :: sk 3 (pT :: []))) [6] [(55,pB true)] [1048] [] (an (nn0 k1) (an (ltc g120) (an4 h121 (an4 h122 tv)))) ?_
       exact jD true hm Conv.eqK
      ·replace hm := Bc h122 hm
       refine RD hnt (nn 14 (pF :: nn 4 (pF :: []))) [6] [(55,pB (decide ((Adv p1 k1).changes > 1099511627776)))] [1048] [] (an (nn0 k1) (an (ltc g120) (an4 h121 (an4 h122 tv)))) ?_
       exact jD (decide ((Adv p1 k1).changes > 1099511627776)) hm Conv.eqK
   ·intro h119
    have hge1 : ¬ k1 < p1.frosts.length := by have := of_decide_eq_false h119; omega
    have hm := he1 hge1
    unfold Wr at hm
    refine DW.exit ?_
    refine Ao ?_
    refine Aw ?_
    refine Ak ?_
    show DW _ _ _ _ _
    refine Sq (Sq (RD hnt (.no :: []) [5,28] [(7,pI 0)] [] [] tv ?_))
    refine Bk ?_
    obtain ⟨hc10,hm⟩ := go1 hm
    refine DW.rangeO (fun (k10 : Nat) (s10 : Unit) => Aj [(2,rr 1016),(3,rr 1024),(7,pI ((k10 : Nat) : Int))] [(Zq p0),(Ym p1)]) 0 hm Conv.eqK ?_
    intro k10 s10 n10 hk10 hs10 he10
    refine Sq (Sq (RD hnt (nn 5 []) [] [(60,pB (decide (((k10 : Nat) : Int) < ((p1.stopped.length : Nat) : Int))))] [] [] tv ?_))
    refine Cb (decide (((k10 : Nat) : Int) < ((p1.stopped.length : Nat) : Int))) ?_ ?_
    ·intro h173
     have hlt10 : k10 < p1.stopped.length := by have := of_decide_eq_true h173; omega
     have hm := hs10 hlt10
     unfold Vj at hm
     refine Sk ?_
     refine Sq (Bk ?_)
     obtain ⟨r174,hr174,hm⟩ := bo hm
     refine Sq (RD hnt (nn 6 (o98 [] true r174 :: nn 6 [])) [60] [(8,rr 1064),(9,pB r174.2)] [] [(1064,bx (pm (Ax r174.1)))] (an (nn0 k10) (an (ltc hlt10) (an (Lz p0 (p1.stopped.getD k10 0) r174 hr174) tv))) ?_)
     refine Sq ?_
     refine Jn (ι := Bool) (fun (y13 : Bool) => Aj [(2,rr 1016),(3,rr 1024),(7,pI ((k10 : Nat) : Int)),(101,pB y13)] [(Zq p0),(Ym p1)]) (fun y13 => (Ho n10) y13 = some RES) ?_ ?_
     ·intro y13 hm
      unfold Ho at hm
      refine Ae hm ?_ ?_
      ·intro h181 hm
       refine Sq (RK hnt (.no :: []) [(4,pB false)] [] tv ?_)
       obtain rfl := sj hm
       exact DW.ret (Ag [] [] (pB false))
      ·intro h181 hm
       refine Sk ?_
       refine DW.done ?_
       show DW _ _ _ _ _
       refine RD hnt (nn 3 []) [101] [(7,pI (w64 (((k10 : Nat) : Int) + 1)))] [] [] tv ?_
       exact jD () ⟨hlt10,hm⟩ (Conv.tp [(7,pI (w64 (((k10 : Nat) : Int) + 1)))] [] (by kernel_rfl) (.cons rfl (.of_eq (congrArg pI (Bl hlt10 hc10))) .nil) .nil)
     ·rcases bt (!r174.2) with h175 | h175
      ·replace hm := Bd h175 hm
       refine RD hnt (nn 3 (sk 16 (pT :: .no :: sk 7 (pT :: [])))) [8,9] [(101,pB true)] [1064] [] (an5 h175 (an2 tt (an6 tt tv))) ?_
       exact jD true hm Conv.eqK
      ·replace hm := Bc h175 hm
       rcases bt (decide (((k10 : Nat) : Int) > 0)) with h176 | h176
       ·replace hm := Bd h176 hm
        obtain ⟨g177,hm⟩ := go1 hm
        rcases bt (decide ((p1.stopped.getD k10 0) ≤ (p1.stopped.getD (Int.toNat (w64 (((k10 : Nat) : Int) - 1))) 0))) with h178 | h178
        ·replace hm := Bd h178 hm
         refine RD hnt (nn 18 (pT :: pF :: .no :: sk 7 (pT :: []))) [8,9] [(101,pB true)] [1064] [] (an3 h175 (an4 h176 (an (nn0 k10) (an (ltc hlt10) (an6 h176 (an g177.1 (an g177.2 (an2 h176 (an h175 (an h176 (an h175 (an2 h178 (an6 h178 tv))))))))))))) ?_
         exact jD true hm Conv.eqK
        ·replace hm := Bc h178 hm
         obtain ⟨r179,hr179,hm⟩ := bo hm
         refine RD hnt (nn 18 (pT :: pF :: nn 6 (o121 [] true r179 :: .no :: pF :: []))) [8,9] [(101,pB (!r179))] [1064] [] (an3 h175 (an4 h176 (an (nn0 k10) (an (ltc hlt10) (an6 h176 (an g177.1 (an g177.2 (an2 h176 (an h175 (an h176 (an h175 (an6 h178 (an (Iu p0.tree p1 r174.1.group r179 hr179) (an2 h178 tv)))))))))))))) ?_
         exact jD (!r179) hm Conv.eqK
       ·replace hm := Bc h176 hm
        obtain ⟨r180,hr180,hm⟩ := bo hm
        refine RD hnt (nn 6 (sk 12 (pF :: pF :: nn 6 (o121 [] true r180 :: .no :: pF :: [])))) [8,9] [(101,pB (!r180))] [1064] [] (an3 h175 (an6 h176 (an6 h176 (an h175 (an h176 (an h175 (an6 ff (an (Iu p0.tree p1 r174.1.group r180 hr180) (an2 ff tv))))))))) ?_
        exact jD (!r180) hm Conv.eqK
    ·intro h173
     have hge10 : ¬ k10 < p1.stopped.length := by have := of_decide_eq_false h173; omega
     have hm := he10 hge10
     unfold Uw at hm
     refine DW.exit ?_
     refine Ao ?_
     refine Aw ?_
     refine Ak ?_
     show DW _ _ _ _ _
     refine Sq (Sq (RD hnt (.no :: []) [7,60] [(10,pI 0)] [] [] tv ?_))
     refine Bk ?_
     obtain ⟨hc13,hm⟩ := go1 hm
     refine DW.rangeO (fun (k13 : Nat) (s13 : Unit) => Aj [(2,rr 1016),(3,rr 1024),(10,pI ((k13 : Nat) : Int))] [(Zq p0),(Ym p1)]) Bi hm Conv.eqK ?_
     intro k13 s13 n13 hk13 hs13 he13
     refine Sq (Sq (RD hnt (nn 5 []) [] [(106,pB (decide (((k13 : Nat) : Int) < ((p1.frosts.length : Nat) : Int))))] [] [] tv ?_))
     refine Cb (decide (((k13 : Nat) : Int) < ((p1.frosts.length : Nat) : Int))) ?_ ?_
     ·intro h192
      have hlt13 : k13 < p1.frosts.length := by have := of_decide_eq_true h192; omega
      have hm := hs13 hlt13
      unfold Uu at hm
      refine Sk ?_
      refine Sq (Bk ?_)
      obtain ⟨r193,hr193,hm⟩ := bo hm
      refine Sq (RD hnt (nn 14 (o123 [] true r193 :: .no :: [])) [106] [(124,pB ((p1.frosts.getD k13 (default : Al)).frozen != r193))] [] [] (an (nn0 k13) (an (ltc hlt13) (an (nn0 k13) (an (ltc hlt13) (an (Aad p0 p1 (p1.frosts.getD k13 (default : Al)).group r193 hr193) tv))))) ?_)
      refine Ae hm ?_ ?_
      ·intro h194 hm
       refine Sq (RK hnt (.no :: []) [(4,pB false)] [] tv ?_)
       obtain rfl := sj hm
       exact DW.ret (Ag [] [] (pB false))
      ·intro h194 hm
       refine Sk ?_
       refine DW.done ?_
       show DW _ _ _ _ _
       refine RD hnt (nn 3 []) [124] [(10,pI (w64 (((k13 : Nat) : Int) + 1)))] [] [] tv ?_
       exact jD () ⟨hlt13,hm⟩ (Conv.tp [(10,pI (w64 (((k13 : Nat) : Int) + 1)))] [] (by kernel_rfl) (.cons rfl (.of_eq (congrArg pI (Bl hlt13 hc13))) .nil) .nil)
     ·intro h192
      have hge13 : ¬ k13 < p1.frosts.length := by have := of_decide_eq_false h192; omega
      have hm := he13 hge13
      unfold Abp at hm
      refine DW.exit ?_
      refine Ao ?_
      refine Aw ?_
      refine Ak ?_
      show DW _ _ _ _ _
      refine Sq (RK hnt (.no :: []) [(4,pB true)] [] tv ?_)
      obtain rfl := sj hm
      exact DW.ret (Ag [] [] (pB true))
 ·rcases bt (!r1) with h2 | h2
  ·replace hm := Bd h2 hm
   refine RD hnt (.no :: o93 [] true r1 :: nn 2 (sk 8 (pT :: []))) [] [(23,pB true)] [] [] (an (Ea p0 r1 hr1) (an3 h2 (an6 h2 tv))) ?_
   exact jD true hm Conv.eqK
  ·replace hm := Bc h2 hm
   refine RD hnt (.no :: o93 [] true r1 :: nn 10 (pF :: [])) [] [(23,pB (((p1.frosts.length : Nat) : Int) != ((p0.tree.nodes.length : Nat) : Int)))] [] [] (an (Ea p0 r1 hr1) (an3 h2 (an6 h2 tv))) ?_
   exact jD (((p1.frosts.length : Nat) : Int) != ((p0.tree.nodes.length : Nat) : Int)) hm Conv.eqK
abbrev o126 (ks : List Nat) (b : Bool) (RES : Bool) (sm : List Nat := []) : Orc := .call 135 ks b (pB RES) [] [] sm

abbrev Iq (p0 : Aa) (k1 : Nat) := (p0.tasks.getD k1 (default : Au))
abbrev Ado : Nat × Obj := (1048,bx [.p (.sl .nil 0 0 (fun _ => [])),.p (.sl .nil 0 0 (fun _ => []))])
abbrev AcC (p0 : Aa) : Nat × Obj := (1024,bx (pm (Ab p0)))
abbrev Ada (p1 : Ac) : Nat × Obj := (1032,bx (pm (Ai p1)))
theorem AfS (p0 : Aa) (p1 : Ac) (p2 : List Int) (RES : Ac × Int) (hm : Tl p0 p1 p2 = some RES) : Spec Tryz.prog 130 [.p (.agg (Ab p0)),.p (.agg (Ai p1)),.p (slI p2)] [] (.tup [.agg [ow 0 RES.1.frosts.length,ow 1 RES.1.stopped.length],pI RES.2]) [] [Am RES.1.frosts,roI RES.1.stopped] := by
 unfold Tl at hm
 refine SO Tryz.func130 rfl rfl [(0,.p (.agg (Ab p0))),(1,.p (.agg (Ai p1))),(2,.p (slI p2))] [] ?_
 intro cx hnt
 refine Sq (RK hnt (nn 4 []) [(2,.p (slI p2)),(3,rr 1024),(4,rr 1032),(6,rr 1048)] [(AcC p0),(Ada p1),(Ado)] tv ?_)
 obtain ⟨r1,hr1,hm⟩ := bo hm
 refine Sq (Sq (RD hnt (nn 2 (o126 [] true r1 :: .no :: [])) [] [(14,pB (!r1))] [] [] (an (Aaj p0 p1 r1 hr1) tv) ?_))
 refine Ae hm ?_ ?_
 ·intro h2 hm
  refine Sq (RD hnt (nn 3 []) [2,3,4,14] [(7,pI 1)] [1024,1032] [] tv ?_)
  refine DW.cv [] [] [] [(1048,bx [ow 100000 0,ow 100001 0]),(100000,ob0 (Am [])),(100001,ob0 (roI []))] (Conv.ads [(.o 1048 0,100000,4,elems Bh Bi []),(.o 1048 1,100001,1,elems Bn 0 [])]) ?_
  obtain rfl := sj hm
  exact DW.ret (Ag [Am [],roI []] [100000,100001] (.tup [.agg [ow 0 0,ow 1 0],pI 1]))
 ·intro h2 hm
  refine Sk ?_
  refine Sq (RD hnt (.no :: []) [14] [(8,.p (.sl .nil 0 0 (fun _ => [])))] [] [] tv ?_)
  refine Sq (Sq (RD hnt (.no :: []) [] [(9,pI 0)] [] [] tv ?_))
  refine Bk ?_
  obtain ⟨hc1,hm⟩ := go1 hm
  refine DW.rangeO (fun (k1 : Nat) (s1 : List Int) => Aj [(2,.p (slI p2)),(3,rr 1024),(4,rr 1032),(6,rr 1048),(8,ow 1408 s1.length),(9,pI ((k1 : Nat) : Int))] [(AcC p0),(Ada p1),(Ado),(1408,ob0 (roI s1))]) Br hm (Conv.ads [(.s 8,1408,1,elems Bn 0 [])]) ?_
  intro k1 s1 n1 hk1 hs1 he1
  refine Sq (Sq (RD hnt (nn 5 []) [] [(20,pB (decide (((k1 : Nat) : Int) < ((p0.tasks.length : Nat) : Int))))] [] [] tv ?_))
  refine Cb (decide (((k1 : Nat) : Int) < ((p0.tasks.length : Nat) : Int))) ?_ ?_
  ·intro h23
   have hlt1 : k1 < p0.tasks.length := by have := of_decide_eq_true h23; omega
   have hm := hs1 hlt1
   unfold Za at hm
   refine Sk ?_
   refine Sq ?_
   refine Jn (ι := List Int) (fun (y5 : List Int) => Aj [(2,.p (slI p2)),(3,rr 1024),(4,rr 1032),(6,rr 1048),(8,ow 1408 y5.length),(9,pI ((k1 : Nat) : Int))] [(AcC p0),(Ada p1),(Ado),(1408,ob0 (roI y5))]) (fun y5 => (Qa n1) y5 = some RES) ?_ ?_
   ·intro y5 hm
    unfold Qa at hm
    refine RD hnt (nn 3 []) [] [(9,pI (w64 (((k1 : Nat) : Int) + 1)))] [] [] tv ?_
    exact jD y5 ⟨hlt1,hm⟩ (Conv.tp [(9,pI (w64 (((k1 : Nat) : Int) + 1)))] [] (by kernel_rfl) (.cons rfl (.of_eq (congrArg pI (Bl hlt1 hc1))) .nil) .nil)
   ·refine Bk ?_
    refine Sq (RD hnt (nn 7 []) [20] [(10,rr 1080)] [] [(1080,bx (pm (Ax (Iq p0 k1))))] (an (nn0 k1) (an (ltc hlt1) tv)) ?_)
    obtain ⟨r24,hr24,hm⟩ := bo hm
    refine Sq ?_
    refine Jn (ι := Bool) (fun (y6 : Bool) => Aj [(2,.p (slI p2)),(3,rr 1024),(4,rr 1032),(6,rr 1048),(8,ow 1408 s1.length),(9,pI ((k1 : Nat) : Int)),(10,rr 1080),(46,pB y6)] [(AcC p0),(Ada p1),(Ado),(1080,bx (pm (Ax (Iq p0 k1)))),(1408,ob0 (roI s1))]) (fun y6 => (Nj (Iq p0 k1) s1 n1) y6 = some RES) ?_ ?_
    ·intro y6 hm
     unfold Nj at hm
     refine Ae hm ?_ ?_
     ·intro h29 hm
      obtain ⟨g30,hm⟩ := go1 hm
      refine RN hnt (nn 6 []) [(2,.p (slI p2)),(3,rr 1024),(4,rr 1032),(6,rr 1048),(8,ow 1408 (s1 ++ [(Iq p0 k1).id]).length),(9,pI ((k1 : Nat) : Int))] [(AcC p0),(Ada p1),(Ado),(1408,ob0 (roI (s1 ++ [(Iq p0 k1).id])))] [(8,ow 1408 (s1.length + 1))] [(1408,.row 1 (s1.length + 1) (Cw s1.length (elI s1) (cut 1 [vi (Iq p0 k1).id])))] (an (by omega : (s1.length + 1) * 8 ≤ 140737488355328) tv) (by kernel_rfl) (.cons rfl (MLe.ownLen (enc := Bn) (d := 0) (f := (Cw s1.length (elI s1) (cut 1 [vi (Iq p0 k1).id]))) (RowIs.cat RowIs.elems (RowIs.lit (enc := Bn) (d := 0) (n := 1) (f := (cut 1 [vi (Iq p0 k1).id])) [(Iq p0 k1).id] rfl (fun | 0,_ => rfl | n + 1,h => absurd h (by omega))))) .nil) (.cons rfl (BLe.typed (RowIs.cat RowIs.elems (RowIs.lit (enc := Bn) (d := 0) (n := 1) (f := (cut 1 [vi (Iq p0 k1).id])) [(Iq p0 k1).id] rfl (fun | 0,_ => rfl | n + 1,h => absurd h (by omega))))) .nil) ?_
      exact bD (s1 ++ [(Iq p0 k1).id]) hm .refl
     ·intro h29 hm
      refine Sk ?_
      exact bD s1 hm Conv.t0
    ·rcases bt r24 with h25 | h25
     ·replace hm := Bd h25 hm
      refine RD hnt (nn 3 (o119 [] true r24 :: .no :: sk 13 (pT :: []))) [] [(46,pB true)] [] [] (an (Ii p1 (Iq p0 k1).id r24 hr24) (an3 h25 (an6 h25 tv))) ?_
      exact jD true hm Conv.eqK
     ·replace hm := Bc h25 hm
      obtain ⟨r26,hr26,hm⟩ := bo hm
      rcases bt r26 with h27 | h27
      ·replace hm := Bd h27 hm
       obtain ⟨r28,hr28,hm⟩ := bo hm
       refine RD hnt (nn 3 (o119 [] true r24 :: nn 6 (o121 [] true r26 :: nn 4 (o120 [] true r28 :: .no :: pT :: pF :: [])))) [] [(46,pB (!r28))] [] [] (an (Ii p1 (Iq p0 k1).id r24 hr24) (an6 h25 (an (Iu p0.tree p1 (Iq p0 k1).group r26 hr26) (an h25 (an4 h27 (an (Qb p2 (Iq p0 k1).id r28 hr28) (an h27 (an h25 (an h27 (an h25 tv)))))))))) ?_
       exact jD (!r28) hm Conv.eqK
      ·replace hm := Bc h27 hm
       refine RD hnt (nn 3 (o119 [] true r24 :: nn 6 (o121 [] true r26 :: .no :: sk 5 (pF :: pF :: [])))) [] [(46,pB false)] [] [] (an (Ii p1 (Iq p0 k1).id r24 hr24) (an6 h25 (an (Iu p0.tree p1 (Iq p0 k1).group r26 hr26) (an h25 (an5 h27 (an h25 (an h27 (an h25 tv)))))))) ?_
       exact jD false hm Conv.eqK
  ·intro h23
   have hge1 : ¬ k1 < p0.tasks.length := by have := of_decide_eq_false h23; omega
   have hm := he1 hge1
   unfold Ub at hm
   refine DW.exit ?_
   refine Ao ?_
   refine Aw ?_
   refine Ak ?_
   show DW _ _ _ _ _
   refine Sq (DW.cv [] [(8,.p (slI s1))] [1408] [] (Conv.frz [1408]) ?_)
   obtain ⟨r32,hr32,hm⟩ := bo hm
   refine RK hnt (nn 5 (o122 [] true r32 :: nn 2 [])) [(6,rr 1048),(7,pI 0)] [(1048,bx [ow 1456 r32.frosts.length,ow 1457 r32.stopped.length]),(1456,ob0 (Am r32.frosts)),(1457,ob0 (roI r32.stopped))] (an (Ui p0 ({ frosts := p1.frosts,stopped := s1 } : Ac) r32 hr32) tv) ?_
   obtain rfl := sj hm
   exact DW.ret (Ag [Am r32.frosts,roI r32.stopped] [1456,1457] (.tup [.agg [ow 0 r32.frosts.length,ow 1 r32.stopped.length],pI 0]))
abbrev o125 (ks : List Nat) (b : Bool) (RES : Ac × Int) (sm : List Nat := []) : Orc := .call 130 ks b (.tup [.agg [ow 0 RES.1.frosts.length,ow 1 RES.1.stopped.length],pI RES.2]) [] [Am RES.1.frosts,roI RES.1.stopped] sm

abbrev AcH (s1 : (List Al) × Int) (p3 : Bool) := ({ group := (s1.1.getD (Int.toNat s1.2) Bi).group,want := p3,frozen := (s1.1.getD (Int.toNat s1.2) Bi).frozen,changes := (s1.1.getD (Int.toNat s1.2) Bi).changes } : Al)
abbrev AcI : Nat × Obj := (1064,bx [.p (.sl .nil 0 0 (fun _ => [])),.p (.sl .nil 0 0 (fun _ => []))])
abbrev c127e3 (s1 : (List Al) × Int) (p3 : Bool) := (Cc (Lu s1.1) (Int.toNat s1.2) [vi (s1.1.getD (Int.toNat s1.2) Bi).group,vb p3,vb (s1.1.getD (Int.toNat s1.2) Bi).frozen,vi (s1.1.getD (Int.toNat s1.2) Bi).changes])
abbrev AcO (p0 : Aa) : Nat × Obj := (1032,bx (pm (Ab p0)))
theorem AgN (p0 : Aa) (p1 : Ac) (p2 : Int) (p3 : Bool) (RES : Ac × Int) (hm : Vv p0 p1 p2 p3 = some RES) : Spec Tryz.prog 131 [.p (.agg (Ab p0)),.p (.agg (Ai p1)),pI p2,pB p3] [] (.tup [.agg [ow 0 RES.1.frosts.length,ow 1 RES.1.stopped.length],pI RES.2]) [] [Am RES.1.frosts,roI RES.1.stopped] := by
 unfold Vv at hm
 refine SO Tryz.func131 rfl rfl [(0,.p (.agg (Ab p0))),(1,.p (.agg (Ai p1))),(2,pI p2),(3,pB p3)] [] ?_
 intro cx hnt
 refine Sq (RD hnt (nn 4 []) [0,1] [(4,rr 1032),(5,rr 1040),(8,rr 1064)] [] [(AcO p0),(1040,bx (pm (Ai p1))),(AcI)] tv ?_)
 refine Sq (Bk ?_)
 obtain ⟨r1,hr1,hm⟩ := bo hm
 refine Sq (RD hnt (nn 2 (o126 [] true r1 :: nn 2 [])) [] [(11,pB (!r1))] [] [] (an (Aaj p0 p1 r1 hr1) tv) ?_)
 refine Ae hm ?_ ?_
 ·intro h2 hm
  refine Sq (RD hnt (nn 3 []) [2,3,4,5,11] [(9,pI 1)] [1032,1040] [] tv ?_)
  refine DW.cv [] [] [] [(1064,bx [ow 100000 0,ow 100001 0]),(100000,ob0 (Am [])),(100001,ob0 (roI []))] (Conv.ads [(.o 1064 0,100000,4,elems Bh Bi []),(.o 1064 1,100001,1,elems Bn 0 [])]) ?_
  obtain rfl := sj hm
  exact DW.ret (Ag [Am [],roI []] [100000,100001] (.tup [.agg [ow 0 0,ow 1 0],pI 1]))
 ·intro h2 hm
  obtain ⟨r3,hr3,hm⟩ := bo hm
  refine Sq (RD hnt (nn 3 (o79 [] true r3 :: nn 2 [])) [11] [(17,pB (!r3))] [] [] (an (Cu p0.tree p2 r3 hr3) tv) ?_)
  refine Ae hm ?_ ?_
  ·intro h4 hm
   refine Sq (RD hnt (nn 3 []) [2,3,4,5,17] [(9,pI 4)] [1032,1040] [] tv ?_)
   refine DW.cv [] [] [] [(1064,bx [ow 100000 0,ow 100001 0]),(100000,ob0 (Am [])),(100001,ob0 (roI []))] (Conv.ads [(.o 1064 0,100000,4,elems Bh Bi []),(.o 1064 1,100001,1,elems Bn 0 [])]) ?_
   obtain rfl := sj hm
   exact DW.ret (Ag [Am [],roI []] [100000,100001] (.tup [.agg [ow 0 0,ow 1 0],pI 4]))
  ·intro h4 hm
   refine Sq (RD hnt (nn 3 []) [17] [(24,pB (p2 == 1))] [] [] tv ?_)
   refine Ae hm ?_ ?_
   ·intro h5 hm
    refine Sq (RD hnt (nn 3 []) [2,3,4,5,24] [(9,pI 9)] [1032,1040] [] tv ?_)
    refine DW.cv [] [] [] [(1064,bx [ow 100000 0,ow 100001 0]),(100000,ob0 (Am [])),(100001,ob0 (roI []))] (Conv.ads [(.o 1064 0,100000,4,elems Bh Bi []),(.o 1064 1,100001,1,elems Bn 0 [])]) ?_
    obtain rfl := sj hm
    exact DW.ret (Ag [Am [],roI []] [100000,100001] (.tup [.agg [ow 0 0,ow 1 0],pI 9]))
   ·intro h5 hm
    refine Sk ?_
    refine DW.done ?_
    show DW _ _ _ _ _
    obtain ⟨g6,hm⟩ := go1 hm
    refine Sq (RN hnt (nn 5 []) [(2,pI p2),(3,pB p3),(4,rr 1032),(5,rr 1040),(8,rr 1064)] [(AcO p0),(1040,bx [ow 1240 p1.frosts.length,.p (slI p1.stopped)]),(AcI),(1240,ob0 (Am p1.frosts))] [] [(1240,.row 4 p1.frosts.length (Lu p1.frosts))] (an (by omega : p1.frosts.length * 24 ≤ 140737488355328) tv) (by kernel_rfl) .nil (.cons rfl (BLe.typed RowIs.elems) .nil) ?_)
    refine Sq (Sq (RD hnt (.no :: []) [] [(10,pI 0)] [] [] tv ?_))
    refine Bk ?_
    refine DW.whileO (fun (s1 : (List Al) × Int) => Aj [(2,pI p2),(3,pB p3),(4,rr 1032),(5,rr 1040),(8,rr 1064),(10,pI s1.2)] [(AcO p0),(1040,bx [ow 1240 s1.1.length,.p (slI p1.stopped)]),(AcI),(1240,ob0 (Am s1.1))]) hm Conv.eqK ?_
    intro s1 n1 hm
    unfold Vt at hm
    refine Sq (Sq (RD hnt (nn 5 []) [] [(36,pB (decide (s1.2 < ((s1.1.length : Nat) : Int))))] [] [] tv ?_))
    refine Ae hm ?_ ?_
    ·intro h17 hm
     refine Sk ?_
     refine Sq ?_
     refine Jn (ι := List Al) (fun (y2 : List Al) => Aj [(2,pI p2),(3,pB p3),(4,rr 1032),(5,rr 1040),(8,rr 1064),(10,pI s1.2)] [(AcO p0),(1040,bx [ow 1240 y2.length,.p (slI p1.stopped)]),(AcI),(1240,ob0 (Am y2))]) (fun y2 => (Sf s1 n1) y2 = some RES) ?_ ?_
     ·intro y2 hm
      unfold Sf at hm
      refine RD hnt (nn 3 []) [] [(10,pI (w64 (s1.2 + 1)))] [] [] tv ?_
      exact jD (y2,(w64 (s1.2 + 1))) hm Conv.eqK
     ·refine Bk ?_
      obtain ⟨g18,g19,hm⟩ := go2 hm
      refine Sq (RD hnt (nn 8 []) [36] [(46,pB ((s1.1.getD (Int.toNat s1.2) Bi).group == p2))] [] [] (an g18.1 (an g18.2 (an g19 tv))) ?_)
      refine Ae hm ?_ ?_
      ·intro h20 hm
       obtain ⟨g21,g22,hm⟩ := go2 hm
       refine RN hnt (nn 7 []) [(2,pI p2),(3,pB p3),(4,rr 1032),(5,rr 1040),(8,rr 1064),(10,pI s1.2)] [(AcO p0),(1040,bx [ow 1240 (s1.1.set (Int.toNat s1.2) (AcH s1 p3)).length,.p (slI p1.stopped)]),(AcI),(1240,ob0 (Am (s1.1.set (Int.toNat s1.2) (AcH s1 p3))))] [] [(1040,.box [ow 1240 s1.1.length,.p (slI p1.stopped)]),(1240,.row 4 s1.1.length (c127e3 s1 p3))] (an g21.1 (an g21.2 (an g22 tv))) (by kernel_rfl) .nil (.cons rfl (.box (.cons (MLe.ownLen (enc := Bh) (d := Bi) (f := (c127e3 s1 p3)) (RowIs.upd RowIs.elems (AcH s1 p3) rfl)) (.cons .rfl .nil))) (.cons rfl (BLe.typed (RowIs.upd RowIs.elems (AcH s1 p3) rfl)) .nil)) ?_
       exact bD (s1.1.set (Int.toNat s1.2) (AcH s1 p3)) hm .refl
      ·intro h20 hm
       refine Sk ?_
       exact bD s1.1 hm Conv.t0
    ·intro h17 hm
     refine DW.exit ?_
     refine Ao ?_
     refine Aw ?_
     refine Ak ?_
     show DW _ _ _ _ _
     refine Sq (DW.cv [] [] [1240] [(1040,bx [.p (Du s1.1),.p (slI p1.stopped)])] (Conv.frz [1240]) ?_)
     obtain ⟨r24,hr24,hm⟩ := bo hm
     refine RD hnt (nn 2 (o118 [] true r24 :: nn 2 [])) [2,3,10,36] [] [] [(1040,bx [.p (Du s1.1),ow 1440 r24.length]),(1440,ob0 (roI r24))] (an (Abk p0 ({ frosts := s1.1,stopped := p1.stopped } : Ac) r24 hr24) tv) ?_
     refine Sq (DW.cv [] [] [1440] [(1040,bx [.p (Du s1.1),.p (slI r24)])] (Conv.frz [1440]) ?_)
     obtain ⟨r26,hr26,hm⟩ := bo hm
     refine RK hnt (nn 2 (o122 [] true r26 :: nn 2 [])) [(8,rr 1064),(9,pI 0)] [(1064,bx [ow 1472 r26.frosts.length,ow 1473 r26.stopped.length]),(1472,ob0 (Am r26.frosts)),(1473,ob0 (roI r26.stopped))] (an (Ui p0 ({ frosts := s1.1,stopped := r24 } : Ac) r26 hr26) tv) ?_
     obtain rfl := sj hm
     exact DW.ret (Ag [Am r26.frosts,roI r26.stopped] [1472,1473] (.tup [.agg [ow 0 r26.frosts.length,ow 1 r26.stopped.length],pI 0]))
abbrev o127 (ks : List Nat) (b : Bool) (RES : Ac × Int) (sm : List Nat := []) : Orc := .call 131 ks b (.tup [.agg [ow 0 RES.1.frosts.length,ow 1 RES.1.stopped.length],pI RES.2]) [] [Am RES.1.frosts,roI RES.1.stopped] sm

abbrev Adr : Nat × Obj := (1048,bx [.p (.sl .nil 0 0 (fun _ => [])),.p (.sl .nil 0 0 (fun _ => []))])
abbrev AcS (p1 : Aa) : Nat × Obj := (1032,bx (pm (Ab p1)))
theorem Abb (p0 : Aq) (p1 : Aa) (p2 : Int) (RES : Ac × Aq) (hm : Ke p0 p1 p2 = some RES) : Spec Tryz.prog 60 [rr 0,.p (.agg (Ab p1)),pI p2] [.box (pm (Ap p0))] (.p (.agg (Ai RES.1))) [.box (pm (Ap RES.2))] [] := by
 unfold Ke at hm
 refine SO Tryz.func60 rfl rfl [(0,rr 0),(1,.p (.agg (Ab p1))),(2,pI p2)] [(0,bx (pm (Ap p0)))] ?_
 intro cx hnt
 refine Sq (RD hnt (nn 2 []) [1] [(4,rr 1032),(6,rr 1048)] [] [(AcS p1),(Adr)] tv ?_)
 obtain ⟨r1,hr1,hm⟩ := bo hm
 refine Sq (RD hnt (.no :: o115 [] true r1 :: nn 2 []) [] [(7,rr 1056)] [] [(1056,bx [ow 1096 r1.frosts.length,ow 1097 r1.stopped.length]),(1096,ob0 (Am r1.frosts)),(1097,ob0 (roI r1.stopped))] (an (AgP p1 r1 hr1) tv) ?_)
 obtain ⟨r2,hr2,hm⟩ := bo hm
 refine Sq (Sq (RD hnt (nn 3 (o72 [0] true r2 :: .no :: [])) [2] [(8,pI r2.1)] [] [(0,bx (pm (Ap r2.2)))] (an (Bs p0 (w64 (p2 + 1)) r2 hr2) (an tv tv)) ?_))
 refine Bk ?_
 refine DW.whileO (fun (s1 : Aq × Ac × Int) => Aj [(0,rr 0),(4,rr 1032),(6,rr 1048),(7,rr 1056),(8,pI s1.2.2)] [(0,bx (pm (Ap s1.1))),(AcS p1),(Adr),(1056,bx (pm (Ai s1.2.1)))]) hm (Conv.frz [1096,1097]) ?_
 intro s1 n1 hm
 unfold Pj at hm
 refine Sq (Sq (RD hnt (nn 2 []) [] [(18,pB (decide (s1.2.2 > 0)))] [] [] tv ?_))
 refine Ae hm ?_ ?_
 ·intro h16 hm
  refine Sk ?_
  refine Sq ?_
  refine Jn (ι := Aq × Ac) (fun (y3 : Aq × Ac) => Aj [(0,rr 0),(4,rr 1032),(6,rr 1048),(7,rr 1056),(8,pI s1.2.2)] [(0,bx (pm (Ap y3.1))),(AcS p1),(Adr),(1056,bx (pm (Ai y3.2)))]) (fun y3 => (Ip s1 n1) y3 = some RES) ?_ ?_
  ·intro y3 hm
   unfold Ip at hm
   refine RD hnt (nn 3 []) [] [(8,pI (w64 (s1.2.2 - 1)))] [] [] tv ?_
   exact jD (y3.1,y3.2,(w64 (s1.2.2 - 1))) hm Conv.eqK
  ·refine Bk ?_
   obtain ⟨r17,hr17,hm⟩ := bo hm
   obtain ⟨r18,hr18,hm⟩ := bo hm
   refine Sq (RD hnt (nn 4 (o124 [0] true r17 :: o125 [] false r18 :: nn 6 [])) [18] [(9,rr 1072),(10,pI r18.2)] [] [(0,bx (pm (Ap r17.2))),(1072,bx [ow 1216 r18.1.frosts.length,ow 1217 r18.1.stopped.length]),(1216,ob0 (Am r18.1.frosts)),(1217,ob0 (roI r18.1.stopped))] (an (Up s1.1 p1 false r17 hr17) (an tv (an (AfS p1 s1.2.1 r17.1 r18 hr18) tv))) ?_)
   obtain ⟨r19,hr19,hm⟩ := bo hm
   refine Sq (Sq (RD hnt (.no :: o84 [0] true r19 :: []) [] [(31,pB r19.1)] [] [(0,bx (pm (Ap r19.2)))] (an (Ej r17.2 2 r19 hr19) (an tv tv)) ?_))
   refine Jn (ι := Aq × Ac × Int) (fun (y4 : Aq × Ac × Int) => Aj [(0,rr 0),(4,rr 1032),(6,rr 1048),(7,rr 1056),(8,pI s1.2.2),(9,rr 1072),(10,pI y4.2.2)] [(0,bx (pm (Ap y4.1))),(AcS p1),(Adr),(1056,bx (pm (Ai s1.2.1))),(1072,bx (pm (Ai y4.2.1)))]) (fun y4 => (Fy s1 n1) y4 = some RES) ?_ ?_
   ·intro y4 hm
    unfold Fy at hm
    refine Sq (RD hnt (nn 2 []) [10] [(46,pB (y4.2.2 == 0))] [] [] tv ?_)
    refine Ae hm ?_ ?_
    ·intro h24 hm
     refine RD hnt (nn 2 []) [9,46] [] [1072] [(1056,bx (pm (Ai y4.2.1)))] tv ?_
     exact bD (y4.1,y4.2.1) hm Conv.eqK
    ·intro h24 hm
     refine Sk ?_
     exact bD (y4.1,s1.2.1) hm Conv.t0
   ·refine Ae hm ?_ ?_
    ·intro h20 hm
     obtain ⟨r21,hr21,hm⟩ := bo hm
     obtain ⟨r22,hr22,hm⟩ := bo hm
     obtain ⟨r23,hr23,hm⟩ := bo hm
     refine RD hnt (nn 5 (o88 [0] true r21 :: .no :: o72 [0] true r22 :: .no :: o127 [] true r23 :: nn 5 [])) [31] [(10,pI r23.2)] [1216,1217] [(0,bx (pm (Ap r22.2))),(1072,bx [ow 1336 r23.1.frosts.length,ow 1337 r23.1.stopped.length]),(1336,ob0 (Am r23.1.frosts)),(1337,ob0 (roI r23.1.stopped))] (an (Lo r19.2 p1.tree r21 hr21) (an tv (an (Bs r21.2 3 r22 hr22) (an tv (an (AgN p1 s1.2.1 r21.1 (decide (r22.1 > 0)) r23 hr23) tv))))) ?_
     exact jD (r22.2,r23.1,r23.2) hm (Conv.frz [1336,1337])
    ·intro h20 hm
     refine Sk ?_
     exact jD (r19.2,r18.1,r18.2) hm (Conv.trans (τ := Aj [(0,rr 0),(4,rr 1032),(6,rr 1048),(7,rr 1056),(8,pI s1.2.2),(9,rr 1072),(10,pI r18.2),(31,pB r19.1)] [(0,bx (pm (Ap r19.2))),(AcS p1),(Adr),(1056,bx (pm (Ai s1.2.1))),(1072,bx (pm (Ai r18.1)))]) (Conv.frz [1216,1217]) Conv.t0)
 ·intro h16 hm
  refine DW.exit ?_
  refine Ao ?_
  refine Aw ?_
  refine Ak ?_
  show DW _ _ _ _ _
  refine Sq (RD hnt (nn 2 []) [0,4,7,8,18] [] [1032,1056] [(1048,bx (pm (Ai s1.2.1)))] tv ?_)
  obtain rfl := sj hm
  exact DW.ret (Ag [.box (pm (Ap s1.1))] [] (.p (.agg (Ai s1.2.1))))
abbrev o114 (ks : List Nat) (b : Bool) (RES : Ac × Aq) (sm : List Nat := []) : Orc := .call 60 ks b (.p (.agg (Ai RES.1))) [.box (pm (Ap RES.2))] [] sm

theorem Rn (p0 : Af) (p1 : Ac) (p2 : Int) (RES : Bool) (hm : Ls p0 p1 p2 = some RES) : Spec Tryz.prog 59 [.p (.agg (As p0)),.p (.agg (Ai p1)),pI p2] [] (pB RES) [] [] := by
 unfold Ls at hm
 refine SO Tryz.func59 rfl rfl [(0,.p (.agg (As p0))),(1,.p (.agg (Ai p1))),(2,pI p2)] [] ?_
 intro cx hnt
 refine Sq (RK hnt (nn 3 []) [(2,pI p2),(3,rr 1024),(4,rr 1032)] [(1024,bx (pm (As p0))),(1032,bx (pm (Ai p1)))] tv ?_)
 obtain ⟨r1,hr1,hm⟩ := bo hm
 refine Sq ?_
 refine Jn (ι := Bool) (fun (y1 : Bool) => Aj [(6,pB y1)] []) (fun y1 => Pt y1 = some RES) ?_ ?_
 ·intro y1 hm
  unfold Pt at hm
  obtain rfl := sj hm
  exact DW.ret (Ag [] [] (pB y1))
 ·rcases bt r1 with h2 | h2
  ·replace hm := Bd h2 hm
   obtain ⟨r3,hr3,hm⟩ := bo hm
   refine RK hnt (.no :: o7 [] true r1 :: nn 4 (o23 [] true r3 :: pT :: .no :: [])) [(6,pB r3)] [] (an (Vi p0 r1 hr1) (an4 h2 (an (Iy p0 p1 p2 r3 hr3) (an h2 tv)))) ?_
   exact jD r3 hm .refl
  ·replace hm := Bc h2 hm
   refine RK hnt (.no :: o7 [] true r1 :: .no :: sk 4 (pF :: .no :: [])) [(6,pB false)] [] (an (Vi p0 r1 hr1) (an5 h2 tv)) ?_
   exact jD false hm .refl
abbrev o128 (ks : List Nat) (b : Bool) (RES : Bool) (sm : List Nat := []) : Orc := .call 59 ks b (pB RES) [] [] sm

abbrev c1e1 (r10 : Ac × Int) : Nat × Obj := (1072,bx [ow 1328 r10.1.frosts.length,ow 1329 r10.1.stopped.length])
abbrev c1e2 (r8 : Ac × Int) : Nat × Obj := (1056,bx [ow 1272 r8.1.frosts.length,ow 1273 r8.1.stopped.length])
abbrev c1e3 (r5 : Aa × Aq) (k4 : Nat) := (r5.1.tasks.getD k4 (default : Au))
abbrev c1e4 (r5 : Aa × Aq) : Nat × Obj := (1032,bx (pm (Ab r5.1)))
abbrev c1e5 (r8 : Ac × Int) : Nat × Obj := (1272,ob0 (Am r8.1.frosts))
abbrev c1e6 (r6 : Ac × Aq) : Nat × Obj := (1040,bx (pm (Ai r6.1)))
abbrev c1e7 (r10 : Ac × Int) : Nat × Obj := (1328,ob0 (Am r10.1.frosts))
abbrev c1e8 (r8 : Ac × Int) : Nat × Obj := (1273,ob0 (roI r8.1.stopped))
abbrev c1e9 (r10 : Ac × Int) : Nat × Obj := (1329,ob0 (roI r10.1.stopped))
theorem Abc (p0 : List Int) (RES : Bool) (hm : Kj p0 = some RES) : Spec Tryz.prog 7 [.p (slI p0)] [] (pB RES) [] [] := by
 unfold Kj at hm
 refine SO Tryz.func7 rfl rfl [(0,.p (slI p0))] [] ?_
 intro cx hnt
 refine Sq (RK hnt (.no :: []) [(0,.p (slI p0))] [] tv ?_)
 obtain ⟨r1,hr1,hm⟩ := bo hm
 refine Sq (Sq (RD hnt (.no :: o2 [] true r1 :: .no :: []) [] [(19,pB (!r1))] [] [] (an (Agu p0 r1 hr1) tv) ?_))
 refine Ae hm ?_ ?_
 ·intro h2 hm
  obtain ⟨r3,hr3,hm⟩ := bo hm
  refine Sq (RK hnt (o3 [] true r3 :: .no :: []) [(2,pB r3)] [] (an (Abq r3 hr3) tv) ?_)
  obtain rfl := sj hm
  exact DW.ret (Ag [] [] (pB r3))
 ·intro h2 hm
  refine Sk ?_
  obtain ⟨r4,hr4,hm⟩ := bo hm
  refine Sq (RK hnt (.no :: o67 [] true r4 :: .no :: []) [(3,rr 1176)] [(1176,bx (pm (Ap r4)))] (an (AgU p0 r4 hr4) tv) ?_)
  obtain ⟨r5,hr5,hm⟩ := bo hm
  refine Sq (RK hnt (.no :: o68 [1176] true r5 :: nn 2 []) [(3,rr 1176),(4,rr 1032)] [(c1e4 r5),(1176,bx (pm (Ap r5.2)))] (an (Zw r4 6 6 r5 hr5) (an tv tv)) ?_)
  obtain ⟨r6,hr6,hm⟩ := bo hm
  refine Sq (RD hnt (nn 2 (o114 [1176] true r6 :: nn 2 [])) [] [(5,rr 1040)] [] [(c1e6 r6),(1176,bx (pm (Ap r6.2)))] (an (Abb r5.2 r5.1 6 r6 hr6) (an tv tv)) ?_)
  obtain ⟨r7,hr7,hm⟩ := bo hm
  refine Sq (RD hnt (nn 2 (o124 [1176] true r7 :: .no :: [])) [3] [(6,ow 1240 r7.1.length)] [1176] [(1240,ob0 (roI r7.1))] (an (Up r6.2 r5.1 false r7 hr7) (an tv tv)) ?_)
  obtain ⟨r8,hr8,hm⟩ := bo hm
  refine Sq (RD hnt (nn 2 (o43 [] true r8 :: nn 6 [])) [] [(7,rr 1056),(8,pI r8.2)] [] [(c1e2 r8),(c1e5 r8),(c1e8 r8)] (an (Spec.args (xs := [.p (.agg (Ab r5.1)),.p (.agg (Ai r6.1)),.p (.sl .nil 0 0 (fun _ => []))]) (Mg r5.1 r6.1 [] r8 hr8) (.cons .rfl (.cons .rfl (.cons (.p PLe.nilL) .nil)))) tv) ?_)
  refine Sq (DW.cv [] [(6,.p (slI r7.1))] [1240] [] (Conv.frz [1240]) ?_)
  obtain ⟨r10,hr10,hm⟩ := bo hm
  refine RD hnt (nn 3 (o43 [] true r10 :: nn 6 [])) [] [(9,rr 1072),(10,pI r10.2)] [] [(c1e1 r10),(c1e7 r10),(c1e9 r10)] (an (Mg r5.1 r6.1 r7.1 r10 hr10) tv) ?_
  refine Sq (Sq (DW.regJ (sl2 := [(4,rr 1032),(5,rr 1040),(6,.p (slI r7.1)),(7,rr 1056),(9,rr 1072),(49,pB ((r8.2 != 0) || (r10.2 != 0)))]) (ob2 := [(c1e4 r5),(c1e6 r6),(c1e2 r8),(c1e1 r10),(c1e5 r8),(c1e8 r8),(c1e7 r10),(c1e9 r10)]) ?_ ?_))
  ·rcases bt (r8.2 != 0) with h11 | h11
   ·exact RT hnt (nn 3 (sk 2 (pT :: []))) [(49,pB true)] (an3 h11 tv) (by kernel_rfl) (.cons rfl (.of_eq (by rw [h11]; try rfl)) .nil)
   ·exact RT hnt (nn 5 (pF :: [])) [(49,pB (r10.2 != 0))] (an3 h11 tv) (by kernel_rfl) (.cons rfl (.of_eq (by rw [h11]; try rfl)) .nil)
  ·refine Ae hm ?_ ?_
   ·intro h12 hm
    refine Sq (RK hnt (.no :: []) [(2,pB false)] [] tv ?_)
    obtain rfl := sj hm
    exact DW.ret (Ag [] [] (pB false))
   ·intro h12 hm
    refine Sk ?_
    refine Sq (Sq (RD hnt (.no :: []) [49] [(11,pI 0)] [] [] tv ?_))
    refine Bk ?_
    obtain ⟨hc1,hm⟩ := go1 hm
    refine DW.rangeO (fun (k1 : Nat) (s1 : Unit) => Aj [(4,rr 1032),(5,rr 1040),(6,.p (slI r7.1)),(7,rr 1056),(9,rr 1072),(11,pI ((k1 : Nat) : Int))] [(c1e4 r5),(c1e6 r6),(c1e2 r8),(c1e1 r10),(c1e5 r8),(c1e8 r8),(c1e7 r10),(c1e9 r10)]) Bj hm Conv.eqK ?_
    intro k1 s1 n1 hk1 hs1 he1
    refine Sq (Sq (RD hnt (nn 6 []) [] [(55,pB (decide (((k1 : Nat) : Int) < ((r5.1.tree.nodes.length : Nat) : Int))))] [] [] tv ?_))
    refine Cb (decide (((k1 : Nat) : Int) < ((r5.1.tree.nodes.length : Nat) : Int))) ?_ ?_
    ·intro h117
     have hlt1 : k1 < r5.1.tree.nodes.length := by have := of_decide_eq_true h117; omega
     have hm := hs1 hlt1
     unfold Pi at hm
     refine Sk ?_
     refine Sq (Bk ?_)
     refine Sq (RD hnt (nn 8 []) [55] [(12,pI (r5.1.tree.nodes.getD k1 (default : An)).id)] [] [] (an (nn0 k1) (an (ltc hlt1) tv)) ?_)
     obtain ⟨r118,hr118,hm⟩ := bo hm
     obtain ⟨r119,hr119,hm⟩ := bo hm
     refine Sq (RD hnt (nn 2 (o26 [] true r118 :: nn 5 (o128 [] true r119 :: .no :: []))) [12] [(74,pB (r118.frozen != r119))] [] [] (an (Ba r8.1 (r5.1.tree.nodes.getD k1 (default : An)).id r118 hr118) (an (Rn r5.1.tree r6.1 (r5.1.tree.nodes.getD k1 (default : An)).id r119 hr119) tv)) ?_)
     refine Ae hm ?_ ?_
     ·intro h120 hm
      refine Sq (RK hnt (.no :: []) [(2,pB false)] [] tv ?_)
      obtain rfl := sj hm
      exact DW.ret (Ag [] [] (pB false))
     ·intro h120 hm
      refine Sk ?_
      refine DW.done ?_
      show DW _ _ _ _ _
      refine RD hnt (nn 3 []) [74] [(11,pI (w64 (((k1 : Nat) : Int) + 1)))] [] [] tv ?_
      exact jD () ⟨hlt1,hm⟩ (Conv.tp [(11,pI (w64 (((k1 : Nat) : Int) + 1)))] [] (by kernel_rfl) (.cons rfl (.of_eq (congrArg pI (Bl hlt1 hc1))) .nil) .nil)
    ·intro h117
     have hge1 : ¬ k1 < r5.1.tree.nodes.length := by have := of_decide_eq_false h117; omega
     have hm := he1 hge1
     unfold Pl at hm
     refine DW.exit ?_
     refine Ao ?_
     refine Aw ?_
     refine Ak ?_
     show DW _ _ _ _ _
     refine Sq (Sq (RD hnt (.no :: []) [11,55] [(13,pI 0)] [] [] tv ?_))
     refine Bk ?_
     obtain ⟨hc4,hm⟩ := go1 hm
     refine DW.rangeO (fun (k4 : Nat) (s4 : Unit) => Aj [(4,rr 1032),(5,rr 1040),(6,.p (slI r7.1)),(7,rr 1056),(9,rr 1072),(13,pI ((k4 : Nat) : Int))] [(c1e4 r5),(c1e6 r6),(c1e2 r8),(c1e1 r10),(c1e5 r8),(c1e8 r8),(c1e7 r10),(c1e9 r10)]) Br hm Conv.eqK ?_
     intro k4 s4 n4 hk4 hs4 he4
     refine Sq (Sq (RD hnt (nn 5 []) [] [(79,pB (decide (((k4 : Nat) : Int) < ((r5.1.tasks.length : Nat) : Int))))] [] [] tv ?_))
     refine Cb (decide (((k4 : Nat) : Int) < ((r5.1.tasks.length : Nat) : Int))) ?_ ?_
     ·intro h153
      have hlt4 : k4 < r5.1.tasks.length := by have := of_decide_eq_true h153; omega
      have hm := hs4 hlt4
      unfold Pg at hm
      refine Sk ?_
      refine Sq (Bk ?_)
      refine Sq (RD hnt (nn 7 []) [79] [(14,rr 1112)] [] [(1112,bx (pm (Ax (c1e3 r5 k4))))] (an (nn0 k4) (an (ltc hlt4) tv)) ?_)
      obtain ⟨r154,hr154,hm⟩ := bo hm
      refine Sq ?_
      refine Jn (ι := Bool) (fun (y17 : Bool) => Aj [(4,rr 1032),(5,rr 1040),(6,.p (slI r7.1)),(7,rr 1056),(9,rr 1072),(13,pI ((k4 : Nat) : Int)),(14,rr 1112),(15,pB y17)] [(c1e4 r5),(c1e6 r6),(c1e2 r8),(c1e1 r10),(1112,bx (pm (Ax (c1e3 r5 k4)))),(c1e5 r8),(c1e8 r8),(c1e7 r10),(c1e9 r10)]) (fun y17 => (Fm r10 (c1e3 r5 k4) n4) y17 = some RES) ?_ ?_
      ·intro y17 hm
       unfold Fm at hm
       obtain ⟨r159,hr159,hm⟩ := bo hm
       refine Sq (RD hnt (nn 3 (o32 [] true r159 :: nn 2 [])) [14,15] [(111,pB (r159 != y17))] [1112] [] (an (Ed r10.1 (c1e3 r5 k4).id r159 hr159) tv) ?_)
       refine Ae hm ?_ ?_
       ·intro h160 hm
        refine Sq (RK hnt (.no :: []) [(2,pB false)] [] tv ?_)
        obtain rfl := sj hm
        exact DW.ret (Ag [] [] (pB false))
       ·intro h160 hm
        refine Sk ?_
        refine DW.done ?_
        show DW _ _ _ _ _
        refine RD hnt (nn 3 []) [111] [(13,pI (w64 (((k4 : Nat) : Int) + 1)))] [] [] tv ?_
        exact jD () ⟨hlt4,hm⟩ (Conv.tp [(13,pI (w64 (((k4 : Nat) : Int) + 1)))] [] (by kernel_rfl) (.cons rfl (.of_eq (congrArg pI (Bl hlt4 hc4))) .nil) .nil)
      ·rcases bt r154 with h155 | h155
       ·replace hm := Bd h155 hm
        refine RD hnt (nn 3 (o32 [] true r154 :: .no :: sk 13 (pT :: .no :: []))) [] [(15,pB true)] [] [] (an (Ed r6.1 (c1e3 r5 k4).id r154 hr154) (an3 h155 (an6 h155 tv))) ?_
        exact jD true hm Conv.eqK
       ·replace hm := Bc h155 hm
        obtain ⟨r156,hr156,hm⟩ := bo hm
        rcases bt r156 with h157 | h157
        ·replace hm := Bd h157 hm
         obtain ⟨r158,hr158,hm⟩ := bo hm
         refine RD hnt (nn 3 (o32 [] true r154 :: nn 6 (o128 [] true r156 :: nn 4 (o120 [] true r158 :: .no :: pT :: pF :: .no :: [])))) [] [(15,pB (!r158))] [] [] (an (Ed r6.1 (c1e3 r5 k4).id r154 hr154) (an6 h155 (an (Rn r5.1.tree r6.1 (c1e3 r5 k4).group r156 hr156) (an h155 (an4 h157 (an (Qb r7.1 (c1e3 r5 k4).id r158 hr158) (an h157 (an h155 (an h157 (an h155 tv)))))))))) ?_
         exact jD (!r158) hm Conv.eqK
        ·replace hm := Bc h157 hm
         refine RD hnt (nn 3 (o32 [] true r154 :: nn 6 (o128 [] true r156 :: .no :: sk 5 (pF :: pF :: .no :: [])))) [] [(15,pB false)] [] [] (an (Ed r6.1 (c1e3 r5 k4).id r154 hr154) (an6 h155 (an (Rn r5.1.tree r6.1 (c1e3 r5 k4).group r156 hr156) (an h155 (an5 h157 (an h155 (an h157 (an h155 tv)))))))) ?_
         exact jD false hm Conv.eqK
     ·intro h153
      have hge4 : ¬ k4 < r5.1.tasks.length := by have := of_decide_eq_false h153; omega
      have hm := he4 hge4
      unfold Pf at hm
      refine DW.exit ?_
      refine Ao ?_
      refine Aw ?_
      refine Ak ?_
      show DW _ _ _ _ _
      refine Sq (DW.cv [] [] [1272] [(1056,bx [.p (Du r8.1.frosts),ow 1273 r8.1.stopped.length])] (Conv.frz [1272]) ?_)
      refine DW.cv [] [] [1273] [(1056,bx (pm (Ai r8.1)))] (Conv.frz [1273]) ?_
      obtain ⟨r163,hr163,hm⟩ := bo hm
      refine RK hnt (nn 2 (o43 [] true r163 :: nn 6 [])) [(7,rr 1056),(10,pI r163.2),(16,rr 1128)] [(1056,bx (pm (Ai r8.1))),(1128,bx [ow 1920 r163.1.frosts.length,ow 1921 r163.1.stopped.length]),(1920,ob0 (Am r163.1.frosts)),(1921,ob0 (roI r163.1.stopped))] (an (Spec.args (xs := [.p (.agg (Ab r5.1)),.p (.agg (Ai r8.1)),.p (.sl .nil 0 0 (fun _ => []))]) (Mg r5.1 r8.1 [] r163 hr163) (.cons .rfl (.cons .rfl (.cons (.p PLe.nilL) .nil)))) tv) ?_
      refine Sq ?_
      refine Jn (ι := Bool) (fun (y18 : Bool) => Aj [(2,pB y18)] []) (fun y18 => Hx y18 = some RES) ?_ ?_
      ·intro y18 hm
       unfold Hx at hm
       obtain rfl := sj hm
       exact DW.ret (Ag [] [] (pB y18))
      ·rcases bt (r163.2 == 0) with h164 | h164
       ·replace hm := Bd h164 hm
        obtain ⟨r165,hr165,hm⟩ := bo hm
        rcases bt r165 with h166 | h166
        ·replace hm := Bd h166 hm
         obtain ⟨r167,hr167,hm⟩ := bo hm
         refine RK hnt (nn 5 (o64 [] true r165 :: pT :: .no :: o3 [] true r167 :: pT :: .no :: [])) [(2,pB r167)] [] (an3 h164 (an (Cm r163.1 r8.1 r165 hr165) (an h164 (an h166 (an (Abq r167 hr167) (an h166 tv)))))) ?_
         exact jD r167 hm .refl
        ·replace hm := Bc h166 hm
         refine RK hnt (nn 5 (o64 [] true r165 :: pT :: .no :: .skip :: pF :: .no :: [])) [(2,pB false)] [] (an3 h164 (an (Cm r163.1 r8.1 r165 hr165) (an h164 (an2 h166 tv)))) ?_
         exact jD false hm .refl
       ·replace hm := Bc h164 hm
        refine RK hnt (nn 3 (sk 3 (pF :: .no :: .skip :: pF :: .no :: []))) [(2,pB false)] [] (an4 h164 (an2 ff tv)) ?_
        exact jD false hm .refl
abbrev o1 (ks : List Nat) (b : Bool) (RES : Bool) (sm : List Nat := []) : Orc := .call 7 ks b (pB RES) [] [] sm
end Go.Dm

