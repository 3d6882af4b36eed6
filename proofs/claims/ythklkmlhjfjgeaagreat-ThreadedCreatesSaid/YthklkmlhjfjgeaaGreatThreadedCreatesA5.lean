/- Go functions compute their models, printed by a program. -/
import Derived.Test.YthklkmlhjfjgeaaGreatThreadedCreatesA4
set_option linter.unusedVariables false
set_option linter.unusedSimpArgs false
namespace Go.Dm
open Go.Proofs
set_option linter.unusedVariables false
abbrev c90e1 (p0 : Hierarchy) (k4 : Nat) := (p0.tree.nodes.getD k4 (default : Node))
abbrev c90e2 (p0 : Hierarchy) : Nat × Obj := (1008, bx (pm (encHierarchy p0)))
theorem Fits_ref8Spec (p0 : Hierarchy) (RES : Bool) (hm : Fits_ref8 p0 = some RES) : Spec Tryz.prog 34 [.p (.agg (encHierarchy p0))] [] (pB RES) [] [] := by
 unfold Fits_ref8 at hm
 refine SO Tryz.func34 rfl rfl [(0, .p (.agg (encHierarchy p0)))] [] ?_
 intro cx hnt
 refine Sq (RK hnt (nn 2 []) [(1, rr 1008)] [(c90e2 p0)] tv ?_)
 obtain ⟨r1, hr1, hm⟩ := bo hm
 refine Sq (Sq (RD hnt (.no :: o91 [] true r1 :: .no :: []) [] [(16, pB (!r1))] [] [] (an (Sound_ref7Spec p0 r1 hr1) tv) ?_))
 refine condM hm ?_ ?_
 ·intro h2 hm
  refine Sq (RK hnt (.no :: []) [(2, pB false)] [] tv ?_)
  obtain rfl := sj hm
  exact DW.ret (retK [] [] (pB false))
 ·intro h2 hm
  refine Sk ?_
  refine Sq (Sq (RD hnt (.no :: []) [16] [(3, pI 0)] [] [] tv ?_))
  refine Bk ?_
  obtain ⟨hc1, hm⟩ := go1 hm
  refine DW.rangeO (fun (k1 : Nat) (s1 : Unit) => mkSt [(1, rr 1008), (3, pI ((k1 : Nat) : Int))] [(c90e2 p0)]) dTask hm Conv.eqK ?_
  intro k1 s1 n1 hk1 hs1 he1
  refine Sq (Sq (RD hnt (nn 5 []) [] [(21, pB (decide (((k1 : Nat) : Int) < ((p0.tasks.length : Nat) : Int))))] [] [] tv ?_))
  refine condK (decide (((k1 : Nat) : Int) < ((p0.tasks.length : Nat) : Int))) ?_ ?_
  ·intro h99
   have hlt1 : k1 < p0.tasks.length := by have := of_decide_eq_true h99; omega
   have hm := hs1 hlt1
   unfold Fits_ref8L1 at hm
   refine Sk ?_
   refine Sq (Bk ?_)
   obtain ⟨r100, hr100, hm⟩ := bo hm
   refine Sq (RD hnt (nn 7 (o97 [] true r100 :: nn 6 [])) [21] [(4, rr 1032)] [] [(1032, bx (pm (encTask r100.1)))] (an (nn0 k1) (an (ltc hlt1) (an (Find_ref6Spec p0 (p0.tasks.getD k1 (default : Task)).process r100 hr100) tv))) ?_)
   obtain ⟨r101, hr101, hm⟩ := bo hm
   refine Sq (RD hnt (nn 8 (o98 [] true r101 :: nn 5 [])) [] [(6, pI r101.1)] [] [] (an (nn0 k1) (an (ltc hlt1) (an (Domain_ref8Spec p0.tree (p0.tasks.getD k1 (default : Task)).group r101 hr101) tv))) ?_)
   obtain ⟨r102, hr102, hm⟩ := bo hm
   refine Sq (RD hnt (nn 4 (o98 [] true r102 :: nn 5 [])) [4] [(8, pI r102.1)] [1032] [] (an (Domain_ref8Spec p0.tree r100.1.group r102 hr102) tv) ?_)
   refine Sq (RD hnt (nn 3 []) [6, 8] [(57, pB (r101.1 != r102.1))] [] [] tv ?_)
   refine condM hm ?_ ?_
   ·intro h103 hm
    refine Sq (RK hnt (.no :: []) [(2, pB false)] [] tv ?_)
    obtain rfl := sj hm
    exact DW.ret (retK [] [] (pB false))
   ·intro h103 hm
    refine Sk ?_
    refine DW.done ?_
    show DW _ _ _ _ _
    refine RD hnt (nn 3 []) [57] [(3, pI (w64 (((k1 : Nat) : Int) + 1)))] [] [] tv ?_
    exact jD () ⟨hlt1, hm⟩ (Conv.tp [(3, pI (w64 (((k1 : Nat) : Int) + 1)))] [] (by kernel_rfl) (.cons rfl (.of_eq (congrArg pI (w64_succ hlt1 hc1))) .nil) .nil)
  ·intro h99
   have hge1 : ¬ k1 < p0.tasks.length := by have := of_decide_eq_false h99; omega
   have hm := he1 hge1
   unfold Fits_ref8D1 at hm
   refine DW.exit ?_
   refine joinQ_exit ?_
   refine KQ_exit ?_
   refine blockQ_exit ?_
   show DW _ _ _ _ _
   refine Sq (Sq (RD hnt (.no :: []) [3, 21] [(10, pI 0)] [] [] tv ?_))
   refine Bk ?_
   obtain ⟨hc4, hm⟩ := go1 hm
   refine DW.rangeO (fun (k4 : Nat) (s4 : Unit) => mkSt [(1, rr 1008), (10, pI ((k4 : Nat) : Int))] [(c90e2 p0)]) dNode hm Conv.eqK ?_
   intro k4 s4 n4 hk4 hs4 he4
   refine Sq (Sq (RD hnt (nn 6 []) [] [(63, pB (decide (((k4 : Nat) : Int) < ((p0.tree.nodes.length : Nat) : Int))))] [] [] tv ?_))
   refine condK (decide (((k4 : Nat) : Int) < ((p0.tree.nodes.length : Nat) : Int))) ?_ ?_
   ·intro h132
    have hlt4 : k4 < p0.tree.nodes.length := by have := of_decide_eq_true h132; omega
    have hm := hs4 hlt4
    unfold Fits_ref8L4 at hm
    refine Sk ?_
    refine Sq (Bk ?_)
    refine Sq (RD hnt (nn 8 []) [63] [(11, rr 1088)] [] [(1088, bx (pm (encNode (c90e1 p0 k4))))] (an (nn0 k4) (an (ltc hlt4) tv)) ?_)
    obtain ⟨r133, hr133, hm⟩ := bo hm
    refine Sq (RD hnt (nn 4 (o79 [] true r133 :: nn 6 [])) [] [(12, rr 1096)] [] [(1096, bx (pm (encNode r133.1)))] (an (Find_ref5Spec p0.tree (c90e1 p0 k4).parent r133 hr133) tv) ?_)
    obtain ⟨r134, hr134, hm⟩ := bo hm
    refine Sq (Sq ?_)
    refine Jn (ι := Bool) (fun (y17 : Bool) => mkSt [(1, rr 1008), (10, pI ((k4 : Nat) : Int)), (11, rr 1088), (12, rr 1096), (98, pB y17)] [(c90e2 p0), (1088, bx (pm (encNode (c90e1 p0 k4)))), (1096, bx (pm (encNode r133.1)))]) (fun y17 => (Fits_ref8J17 p0 (c90e1 p0 k4) n4 r133) y17 = some RES) ?_ ?_
    ·intro y17 hm
     unfold Fits_ref8J17 at hm
     refine condM hm ?_ ?_
     ·intro h138 hm
      refine Sq (RK hnt (.no :: []) [(2, pB false)] [] tv ?_)
      obtain rfl := sj hm
      exact DW.ret (retK [] [] (pB false))
     ·intro h138 hm
      refine Sk ?_
      refine Sq ?_
      refine Jn (ι := Bool) (fun (y18 : Bool) => mkSt [(1, rr 1008), (10, pI ((k4 : Nat) : Int)), (120, pB y18)] [(c90e2 p0)]) (fun y18 => (Fits_ref8J18 n4) y18 = some RES) ?_ ?_
      ·intro y18 hm
       unfold Fits_ref8J18 at hm
       refine condM hm ?_ ?_
       ·intro h144 hm
        refine Sq (RK hnt (.no :: []) [(2, pB false)] [] tv ?_)
        obtain rfl := sj hm
        exact DW.ret (retK [] [] (pB false))
       ·intro h144 hm
        refine Sk ?_
        refine DW.done ?_
        show DW _ _ _ _ _
        refine RD hnt (nn 3 []) [120] [(10, pI (w64 (((k4 : Nat) : Int) + 1)))] [] [] tv ?_
        exact jD () ⟨hlt4, hm⟩ (Conv.tp [(10, pI (w64 (((k4 : Nat) : Int) + 1)))] [] (by kernel_rfl) (.cons rfl (.of_eq (congrArg pI (w64_succ hlt4 hc4))) .nil) .nil)
      ·rcases bt ((c90e1 p0 k4).kind == 1) with h139 | h139
       ·replace hm := if_t h139 hm
        rcases bt (r133.1.id != 1) with h140 | h140
        ·replace hm := if_t h140 hm
         rcases bt ((kand .i64 r133.1.control 6) != 0) with h141 | h141
         ·replace hm := if_t h141 hm
          refine RD hnt (nn 12 (pT :: .no :: sk 6 (pT :: pT :: []))) [11, 12, 98] [(120, pB true)] [1088, 1096] [] (an4 h139 (an4 h140 (an h139 (an h140 (an h139 (an6 h141 (an h139 (an h141 (an h139 tv))))))))) ?_
          exact jD true hm Conv.eqK
         ·replace hm := if_f h141 hm
          obtain ⟨r142, hr142, hm⟩ := bo hm
          refine RD hnt (nn 12 (pT :: nn 5 (o99 [] true r142 :: .no :: pF :: pT :: []))) [11, 12, 98] [(120, pB (r142 == 3))] [1088, 1096] [] (an4 h139 (an4 h140 (an h139 (an h140 (an h139 (an5 h141 (an (Type_ref8Spec p0.tree r133.1.id r142 hr142) (an h141 (an h139 (an h141 (an h139 tv))))))))))) ?_
          exact jD (r142 == 3) hm Conv.eqK
        ·replace hm := if_f h140 hm
         obtain ⟨r143, hr143, hm⟩ := bo hm
         refine RD hnt (nn 8 (sk 4 (pF :: nn 5 (o99 [] true r143 :: .no :: pF :: pT :: [])))) [11, 12, 98] [(120, pB (r143 == 3))] [1088, 1096] [] (an4 h139 (an4 h140 (an h139 (an h140 (an h139 (an5 ff (an (Type_ref8Spec p0.tree r133.1.id r143 hr143) (an ff (an h139 (an ff (an h139 tv))))))))))) ?_
         exact jD (r143 == 3) hm Conv.eqK
       ·replace hm := if_f h139 hm
        refine RD hnt (nn 4 (sk 17 (pF :: []))) [11, 12, 98] [(120, pB false)] [1088, 1096] [] (an2 h139 (an6 h139 tv)) ?_
        exact jD false hm Conv.eqK
    ·rcases bt (r134 == 3) with h135 | h135
     ·replace hm := if_t h135 hm
      rcases bt ((c90e1 p0 k4).control != 0) with h136 | h136
      ·replace hm := if_t h136 hm
       refine RD hnt (nn 4 (o99 [] true r134 :: nn 6 (sk 6 (pT :: pT :: [])))) [] [(98, pB true)] [] [] (an (Type_ref8Spec p0.tree (c90e1 p0 k4).id r134 hr134) (an4 h135 (an6 h136 (an h135 (an h136 (an h135 tv)))))) ?_
       exact jD true hm Conv.eqK
      ·replace hm := if_f h136 hm
       obtain ⟨r137, hr137, hm⟩ := bo hm
       refine RD hnt (nn 4 (o99 [] true r134 :: nn 9 (o96 [] true r137 :: nn 2 (pF :: pT :: [])))) [] [(98, pB (decide (((r137.length : Nat) : Int) > 0)))] [] [] (an (Type_ref8Spec p0.tree (c90e1 p0 k4).id r134 hr134) (an4 h135 (an4 h136 (an (Tasks_ref6Spec p0 (c90e1 p0 k4).id r137 hr137) (an2 h136 (an h135 (an h136 (an h135 tv)))))))) ?_
       exact jD (decide (((r137.length : Nat) : Int) > 0)) hm Conv.eqK
     ·replace hm := if_f h135 hm
      refine RD hnt (nn 4 (o99 [] true r134 :: nn 2 (sk 11 (pF :: [])))) [] [(98, pB false)] [] [] (an (Type_ref8Spec p0.tree (c90e1 p0 k4).id r134 hr134) (an6 h135 tv)) ?_
      exact jD false hm Conv.eqK
   ·intro h132
    have hge4 : ¬ k4 < p0.tree.nodes.length := by have := of_decide_eq_false h132; omega
    have hm := he4 hge4
    unfold Fits_ref8D4 at hm
    refine DW.exit ?_
    refine joinQ_exit ?_
    refine KQ_exit ?_
    refine blockQ_exit ?_
    show DW _ _ _ _ _
    refine Sq (RK hnt (.no :: []) [(2, pB true)] [] tv ?_)
    obtain rfl := sj hm
    exact DW.ret (retK [] [] (pB true))
abbrev o90 (ks : List Nat) (b : Bool) (RES : Bool) : Orc := .call 34 ks b (pB RES) [] []

theorem Set_ref7Spec (p0 : Int) (RES : Bool) (hm : Set_ref7 p0 = some RES) : Spec Tryz.prog 147 [pI p0] [] (pB RES) [] [] := by
 unfold Set_ref7 at hm
 refine SO Tryz.func147 rfl rfl [(0, pI p0)] [] ?_
 intro cx hnt
 refine Sq (RK hnt (.no :: []) [(0, pI p0)] [] tv ?_)
 refine Sq (DW.regJ (sl2 := [(2, pB ((decide (p0 ≥ 0)) && (decide (p0 ≤ 31))))]) (ob2 := []) ?_ ?_)
 ·rcases bt (decide (p0 ≥ 0)) with h1 | h1
  ·exact RT hnt (nn 5 (pT :: .no :: [])) [(2, pB (decide (p0 ≤ 31)))] (an3 h1 tv) (by kernel_rfl) (.cons rfl (.of_eq (by rw [h1]; try rfl)) .nil)
  ·exact RT hnt (nn 3 (sk 2 (pF :: .no :: []))) [(2, pB false)] (an3 h1 tv) (by kernel_rfl) (.cons rfl (.of_eq (by rw [h1]; try rfl)) .nil)
 ·refine DW.ret ?_
  obtain rfl := sj hm
  exact retK [] [] (pB ((decide (p0 ≥ 0)) && (decide (p0 ≤ 31))))
abbrev o101 (ks : List Nat) (b : Bool) (RES : Bool) : Orc := .call 147 ks b (pB RES) [] []

theorem Copy_ref6Spec (p0 : Hierarchy) (RES : Hierarchy) (hm : Copy_ref6 p0 = some RES) : Spec Tryz.prog 82 [.p (.agg (encHierarchy p0))] [] (.agg [ow 0 RES.tree.nodes.length, pI RES.tree.next, ow 1 RES.tasks.length, pI RES.next]) [] [roNode RES.tree.nodes, roTask RES.tasks] := by
 unfold Copy_ref6 at hm
 refine SO Tryz.func82 rfl rfl [(0, .p (.agg (encHierarchy p0)))] [] ?_
 intro cx hnt
 refine Sq (RK hnt (nn 2 []) [(1, rr 1008), (2, rr 1016)] [(1008, bx (pm (encHierarchy p0))), (1016, bx [.p (.sl .nil 0 0 (fun _ => [])), pI 0, .p (.sl .nil 0 0 (fun _ => [])), pI 0])] tv ?_)
 obtain ⟨r1, hr1, hm⟩ := bo hm
 obtain ⟨g2, hm⟩ := go1 hm
 refine Sq (RN hnt (nn 2 (o82 [] true r1 :: nn 7 [])) [(2, rr 1016)] [(1016, bx [ow 1040 r1.nodes.length, pI r1.next, ow 1064 p0.tasks.length, pI p0.next]), (1040, ob0 (roNode r1.nodes)), (1064, ob0 (roTask p0.tasks))] [] [(1064, .row 4 p0.tasks.length (elTask p0.tasks))] (an (Copy_ref5Spec p0.tree r1 hr1) (an (by omega : p0.tasks.length * 32 ≤ 140737488355328) tv)) (by kernel_rfl) .nil (.cons rfl (BLe.typed RowIs.elems) .nil) ?_)
 obtain rfl := sj hm
 exact DW.ret (retK [roNode r1.nodes, roTask p0.tasks] [1040, 1064] (.agg [ow 0 r1.nodes.length, pI r1.next, ow 1 p0.tasks.length, pI p0.next]))
abbrev o102 (ks : List Nat) (b : Bool) (RES : Hierarchy) : Orc := .call 82 ks b (.agg [ow 0 RES.tree.nodes.length, pI RES.tree.next, ow 1 RES.tasks.length, pI RES.next]) [] [roNode RES.tree.nodes, roTask RES.tasks]

abbrev c103e1 : Nat × Obj := (1032, bx [.p (.sl .nil 0 0 (fun _ => [])), pI 0])
theorem Set_ref5Spec (p0 : Tree) (p1 : Node) (RES : Tree) (hm : Set_ref5 p0 p1 = some RES) : Spec Tryz.prog 97 [.p (.agg (encTree p0)), .p (.agg (encNode p1))] [] (.agg [ow 0 RES.nodes.length, pI RES.next]) [] [roNode RES.nodes] := by
 unfold Set_ref5 at hm
 refine SO Tryz.func97 rfl rfl [(0, .p (.agg (encTree p0))), (1, .p (.agg (encNode p1)))] [] ?_
 intro cx hnt
 refine Sq (RK hnt (nn 3 []) [(2, rr 1016), (3, rr 1024), (4, rr 1032)] [(1016, bx (pm (encTree p0))), (1024, bx (pm (encNode p1))), (c103e1)] tv ?_)
 obtain ⟨r1, hr1, hm⟩ := bo hm
 refine Sq (RD hnt (.no :: o82 [] true r1 :: nn 2 []) [2] [(5, rr 1040)] [1016] [(1040, bx [ow 1064 r1.nodes.length, pI r1.next]), (1064, ob0 (roNode r1.nodes))] (an (Copy_ref5Spec p0 r1 hr1) tv) ?_)
 refine Sq (Sq (RD hnt (.no :: []) [] [(6, pI 0)] [] [] tv ?_))
 refine Bk ?_
 refine DW.whileO (fun (s1 : (List Node) × Int) => mkSt [(3, rr 1024), (4, rr 1032), (5, rr 1040), (6, pI s1.2)] [(1024, bx (pm (encNode p1))), (c103e1), (1040, bx [ow 1064 s1.1.length, pI r1.next]), (1064, ob0 (roNode s1.1))]) hm Conv.eqK ?_
 intro s1 n1 hm
 unfold Set_ref5L1 at hm
 refine Sq (Sq (RD hnt (nn 5 []) [] [(13, pB (decide (s1.2 < ((s1.1.length : Nat) : Int))))] [] [] tv ?_))
 refine condM hm ?_ ?_
 ·intro h8 hm
  refine Sk ?_
  refine Sq ?_
  refine Jn (ι := List Node) (fun (y2 : List Node) => mkSt [(3, rr 1024), (4, rr 1032), (5, rr 1040), (6, pI s1.2)] [(1024, bx (pm (encNode p1))), (c103e1), (1040, bx [ow 1064 y2.length, pI r1.next]), (1064, ob0 (roNode y2))]) (fun y2 => (Set_ref5J2 s1 n1) y2 = some RES) ?_ ?_
  ·intro y2 hm
   unfold Set_ref5J2 at hm
   refine RD hnt (nn 3 []) [] [(6, pI (w64 (s1.2 + 1)))] [] [] tv ?_
   exact jD (y2, (w64 (s1.2 + 1))) hm Conv.eqK
  ·refine Bk ?_
   obtain ⟨g9, g10, hm⟩ := go2 hm
   refine Sq (RD hnt (nn 9 []) [13] [(24, pB ((s1.1.getD (Int.toNat s1.2) dNode).id == p1.id))] [] [] (an g9.1 (an g9.2 (an g10 tv))) ?_)
   refine condM hm ?_ ?_
   ·intro h11 hm
    obtain ⟨g12, g13, hm⟩ := go2 hm
    refine RN hnt (nn 6 []) [(3, rr 1024), (4, rr 1032), (5, rr 1040), (6, pI s1.2)] [(1024, bx (pm (encNode p1))), (c103e1), (1040, bx [ow 1064 (s1.1.set (Int.toNat s1.2) p1).length, pI r1.next]), (1064, ob0 (roNode (s1.1.set (Int.toNat s1.2) p1)))] [] [(1040, .box [ow 1064 s1.1.length, pI r1.next]), (1064, .row 6 s1.1.length (updF (elNode s1.1) (Int.toNat s1.2) [vi p1.id, vi p1.parent, vs p1.name, vi p1.control, vi p1.kind, vi p1.owner]))] (an g12.1 (an g12.2 (an g13 tv))) (by kernel_rfl) .nil (.cons rfl (.box (.cons (MLe.ownLen (enc := encNode) (d := dNode) (f := (updF (elNode s1.1) (Int.toNat s1.2) [vi p1.id, vi p1.parent, vs p1.name, vi p1.control, vi p1.kind, vi p1.owner])) (RowIs.upd RowIs.elems p1 rfl)) (.cons .rfl .nil))) (.cons rfl (BLe.typed (RowIs.upd RowIs.elems p1 rfl)) .nil)) ?_
    exact bD (s1.1.set (Int.toNat s1.2) p1) hm .refl
   ·intro h11 hm
    refine Sk ?_
    exact bD s1.1 hm Conv.t0
 ·intro h8 hm
  refine DW.exit ?_
  refine joinQ_exit ?_
  refine KQ_exit ?_
  refine blockQ_exit ?_
  show DW _ _ _ _ _
  refine Sq (RD hnt (nn 2 []) [3, 5, 6, 13] [] [1024, 1040] [(1032, bx [ow 1064 s1.1.length, pI r1.next])] tv ?_)
  obtain rfl := sj hm
  exact DW.ret (retK [roNode s1.1] [1064] (.agg [ow 0 s1.1.length, pI r1.next]))
abbrev o103 (ks : List Nat) (b : Bool) (RES : Tree) : Orc := .call 97 ks b (.agg [ow 0 RES.nodes.length, pI RES.next]) [] [roNode RES.nodes]

abbrev c100e1 : Nat × Obj := (1064, bx [.p (.sl .nil 0 0 (fun _ => [])), pI 0, .p (.sl .nil 0 0 (fun _ => [])), pI 0])
abbrev c100e2 : Nat × Obj := (1064, bx [ow 100000 0, pI 0, ow 100001 0, pI 0])
abbrev c100e3 (r8 : Node × Bool) (p3 : Int) (p2 : Int) : Nat × Obj := (1080, bx [pI r8.1.id, pI r8.1.parent, pS r8.1.name, pI (kor .i64 (kandNot .i64 r8.1.control p3) p2), pI r8.1.kind, pI r8.1.owner])
theorem Write_ref7Spec (p0 : Hierarchy) (p1 : Int) (p2 : Int) (p3 : Int) (RES : Hierarchy × Int) (hm : Write_ref7 p0 p1 p2 p3 = some RES) : Spec Tryz.prog 100 [.p (.agg (encHierarchy p0)), pI p1, pI p2, pI p3] [] (.tup [.agg [ow 0 RES.1.tree.nodes.length, pI RES.1.tree.next, ow 1 RES.1.tasks.length, pI RES.1.next], pI RES.2]) [] [roNode RES.1.tree.nodes, roTask RES.1.tasks] := by
 unfold Write_ref7 at hm
 refine SO Tryz.func100 rfl rfl [(0, .p (.agg (encHierarchy p0))), (1, pI p1), (2, pI p2), (3, pI p3)] [] ?_
 intro cx hnt
 refine Sq (RD hnt (nn 3 []) [0] [(4, rr 1032), (8, rr 1064)] [] [(1032, bx (pm (encHierarchy p0))), (c100e1)] tv ?_)
 obtain ⟨r1, hr1, hm⟩ := bo hm
 refine Sq (Sq ?_)
 refine Jn (ι := Bool) (fun (y1 : Bool) => mkSt [(1, pI p1), (2, pI p2), (3, pI p3), (4, rr 1032), (8, rr 1064), (37, pB y1)] [(1032, bx (pm (encHierarchy p0))), (c100e1)]) (fun y1 => (Write_ref7J1 p0 p1 p2 p3) y1 = some RES) ?_ ?_
 ·intro y1 hm
  unfold Write_ref7J1 at hm
  refine condM hm ?_ ?_
  ·intro h7 hm
   refine Sq (RD hnt (nn 3 []) [1, 2, 3, 4, 37] [(9, pI 1)] [1032] [] tv ?_)
   refine DW.cv [] [] [] [(c100e2), (100000, ob0 (roNode [])), (100001, ob0 (roTask []))] (Conv.ads [(.o 1064 0, 100000, 6, elems encNode dNode []), (.o 1064 2, 100001, 4, elems encTask dTask [])]) ?_
   obtain rfl := sj hm
   exact DW.ret (retK [roNode [], roTask []] [100000, 100001] (.tup [.agg [ow 0 0, pI 0, ow 1 0, pI 0], pI 1]))
  ·intro h7 hm
   refine Sk ?_
   obtain ⟨r8, hr8, hm⟩ := bo hm
   refine Sq (RD hnt (nn 3 (o79 [] true r8 :: nn 6 [])) [37] [(10, rr 1080), (11, pB r8.2)] [] [(1080, bx (pm (encNode r8.1)))] (an (Find_ref5Spec p0.tree p1 r8 hr8) tv) ?_)
   refine Sq (Sq (RD hnt (nn 2 []) [11] [(47, pB (!r8.2))] [] [] tv ?_))
   refine condM hm ?_ ?_
   ·intro h9 hm
    refine Sq (RD hnt (nn 3 []) [1, 2, 3, 4, 10, 47] [(9, pI 4)] [1032, 1080] [] tv ?_)
    refine DW.cv [] [] [] [(c100e2), (100000, ob0 (roNode [])), (100001, ob0 (roTask []))] (Conv.ads [(.o 1064 0, 100000, 6, elems encNode dNode []), (.o 1064 2, 100001, 4, elems encTask dTask [])]) ?_
    obtain rfl := sj hm
    exact DW.ret (retK [roNode [], roTask []] [100000, 100001] (.tup [.agg [ow 0 0, pI 0, ow 1 0, pI 0], pI 4]))
   ·intro h9 hm
    refine Sk ?_
    obtain ⟨r10, hr10, hm⟩ := bo hm
    refine Sq (Sq (RD hnt (nn 4 (o94 [] true r10 :: nn 2 [])) [47] [(55, pB ((kandNot .i64 p2 r10) != 0))] [] [] (an (Available_ref7Spec p0.tree p1 r10 hr10) tv) ?_))
    refine condM hm ?_ ?_
    ·intro h11 hm
     refine Sq (RD hnt (nn 3 []) [1, 2, 3, 4, 10, 55] [(9, pI 9)] [1032, 1080] [] tv ?_)
     refine DW.cv [] [] [] [(c100e2), (100000, ob0 (roNode [])), (100001, ob0 (roTask []))] (Conv.ads [(.o 1064 0, 100000, 6, elems encNode dNode []), (.o 1064 2, 100001, 4, elems encTask dTask [])]) ?_
     obtain rfl := sj hm
     exact DW.ret (retK [roNode [], roTask []] [100000, 100001] (.tup [.agg [ow 0 0, pI 0, ow 1 0, pI 0], pI 9]))
    ·intro h11 hm
     refine Sk ?_
     obtain ⟨r12, hr12, hm⟩ := bo hm
     refine Sq (RD hnt (nn 3 (o85 [] true r12 :: .no :: [])) [55] [(12, ow 1480 r12.length)] [] [(1480, ob0 (roI r12))] (an (Children_ref5Spec p0.tree p1 r12 hr12) tv) ?_)
     refine Sq (Sq (RD hnt (.no :: []) [] [(13, pI 0)] [] [] tv ?_))
     refine Bk ?_
     obtain ⟨hc1, hm⟩ := go1 hm
     refine DW.rangeO (fun (k1 : Nat) (s1 : Unit) => mkSt [(1, pI p1), (2, pI p2), (3, pI p3), (4, rr 1032), (8, rr 1064), (10, rr 1080), (12, ow 1480 r12.length), (13, pI ((k1 : Nat) : Int))] [(1032, bx (pm (encHierarchy p0))), (c100e1), (1080, bx (pm (encNode r8.1))), (1480, ob0 (roI r12))]) 0 hm Conv.eqK ?_
     intro k1 s1 n1 hk1 hs1 he1
     refine Sq (Sq (RD hnt (nn 4 []) [] [(64, pB (decide (((k1 : Nat) : Int) < ((r12.length : Nat) : Int))))] [] [] tv ?_))
     refine condK (decide (((k1 : Nat) : Int) < ((r12.length : Nat) : Int))) ?_ ?_
     ·intro h35
      have hlt1 : k1 < r12.length := by have := of_decide_eq_true h35; omega
      have hm := hs1 hlt1
      unfold Write_ref7L1 at hm
      refine Sk ?_
      refine Sq (Bk ?_)
      obtain ⟨r36, hr36, hm⟩ := bo hm
      refine Sq (RD hnt (nn 6 (o79 [] true r36 :: nn 6 [])) [64] [(14, rr 1112)] [] [(1112, bx (pm (encNode r36.1)))] (an (nn0 k1) (an (ltc hlt1) (an (by omega : k1 < r12.length) (an (Find_ref5Spec p0.tree (r12.getD k1 0) r36 hr36) tv)))) ?_)
      refine Sq (RD hnt (nn 5 []) [14] [(81, pB ((kand .i64 r36.1.control p3) != 0))] [1112] [] tv ?_)
      refine condM hm ?_ ?_
      ·intro h37 hm
       refine Sq (RD hnt (nn 3 []) [1, 2, 3, 4, 10, 12, 13, 81] [(9, pI 9)] [1032, 1080, 1480] [] tv ?_)
       refine DW.cv [] [] [] [(c100e2), (100000, ob0 (roNode [])), (100001, ob0 (roTask []))] (Conv.ads [(.o 1064 0, 100000, 6, elems encNode dNode []), (.o 1064 2, 100001, 4, elems encTask dTask [])]) ?_
       obtain rfl := sj hm
       exact DW.ret (retK [roNode [], roTask []] [100000, 100001] (.tup [.agg [ow 0 0, pI 0, ow 1 0, pI 0], pI 9]))
      ·intro h37 hm
       refine Sk ?_
       refine DW.done ?_
       show DW _ _ _ _ _
       refine RD hnt (nn 3 []) [81] [(13, pI (w64 (((k1 : Nat) : Int) + 1)))] [] [] tv ?_
       exact jD () ⟨hlt1, hm⟩ (Conv.tp [(13, pI (w64 (((k1 : Nat) : Int) + 1)))] [] (by kernel_rfl) (.cons rfl (.of_eq (congrArg pI (w64_succ hlt1 hc1))) .nil) .nil)
     ·intro h35
      have hge1 : ¬ k1 < r12.length := by have := of_decide_eq_false h35; omega
      have hm := he1 hge1
      unfold Write_ref7D1 at hm
      refine DW.exit ?_
      refine joinQ_exit ?_
      refine KQ_exit ?_
      refine blockQ_exit ?_
      show DW _ _ _ _ _
      refine Sq (RD hnt (nn 3 []) [12, 13, 64] [(16, pI r8.1.control)] [1480] [] tv ?_)
      refine Sq (RD hnt (nn 7 []) [2, 3] [] [] [(c100e3 r8 p3 p2)] tv ?_)
      refine Sq (Sq (RD hnt (nn 4 []) [] [(17, pI (kand .i64 (kor .i64 (kandNot .i64 r8.1.control p3) p2) 6))] [] [] tv ?_))
      refine Sq ?_
      refine Jn (ι := Bool) (fun (y4 : Bool) => mkSt [(4, rr 1032), (8, rr 1064), (10, rr 1080), (108, pB y4)] [(1032, bx (pm (encHierarchy p0))), (c100e1), (c100e3 r8 p3 p2)]) (fun y4 => (Write_ref7J4 p0 p2 p3 r8) y4 = some RES) ?_ ?_
      ·intro y4 hm
       unfold Write_ref7J4 at hm
       refine condM hm ?_ ?_
       ·intro h41 hm
        refine Sq (RD hnt (nn 3 []) [4, 10, 108] [(9, pI 6)] [1032, 1080] [] tv ?_)
        refine DW.cv [] [] [] [(c100e2), (100000, ob0 (roNode [])), (100001, ob0 (roTask []))] (Conv.ads [(.o 1064 0, 100000, 6, elems encNode dNode []), (.o 1064 2, 100001, 4, elems encTask dTask [])]) ?_
        obtain rfl := sj hm
        exact DW.ret (retK [roNode [], roTask []] [100000, 100001] (.tup [.agg [ow 0 0, pI 0, ow 1 0, pI 0], pI 6]))
       ·intro h41 hm
        refine Sk ?_
        obtain ⟨r42, hr42, hm⟩ := bo hm
        refine Sq (RD hnt (.no :: o102 [] true r42 :: nn 2 []) [108] [(18, rr 1144)] [] [(1144, bx [ow 1888 r42.tree.nodes.length, pI r42.tree.next, ow 1889 r42.tasks.length, pI r42.next]), (1888, ob0 (roNode r42.tree.nodes)), (1889, ob0 (roTask r42.tasks))] (an (Copy_ref6Spec p0 r42 hr42) tv) ?_)
        obtain ⟨r43, hr43, hm⟩ := bo hm
        refine Sq (RD hnt (nn 3 (o103 [] true r43 :: nn 2 [])) [4, 10] [] [1032, 1080, 1888] [(1144, bx [ow 1920 r43.nodes.length, pI r43.next, ow 1889 r42.tasks.length, pI r42.next]), (1920, ob0 (roNode r43.nodes))] (an (Set_ref5Spec p0.tree ({ id := r8.1.id, parent := r8.1.parent, name := r8.1.name, control := (kor .i64 (kandNot .i64 r8.1.control p3) p2), kind := r8.1.kind, owner := r8.1.owner } : Node) r43 hr43) tv) ?_)
        refine Sq (RD hnt (nn 3 []) [18] [(9, pI 0)] [1144] [(1064, bx [ow 1920 r43.nodes.length, pI r43.next, ow 1889 r42.tasks.length, pI r42.next])] tv ?_)
        obtain rfl := sj hm
        exact DW.ret (retK [roNode r43.nodes, roTask r42.tasks] [1920, 1889] (.tup [.agg [ow 0 r43.nodes.length, pI r43.next, ow 1 r42.tasks.length, pI r42.next], pI 0]))
      ·rcases bt ((kandNot .i64 (kand .i64 (kor .i64 (kandNot .i64 r8.1.control p3) p2) 6) r8.1.control) != 0) with h38 | h38
       ·replace hm := if_t h38 hm
        rcases bt (p1 != 1) with h39 | h39
        ·replace hm := if_t h39 hm
         obtain ⟨r40, hr40, hm⟩ := bo hm
         refine RD hnt (nn 7 (pT :: nn 3 (o96 [] true r40 :: nn 2 (pT :: [])))) [1, 16, 17] [(108, pB (decide (((r40.length : Nat) : Int) > 0)))] [] [] (an3 h38 (an3 h39 (an (Tasks_ref6Spec p0 p1 r40 hr40) (an3 h39 tv)))) ?_
         exact jD (decide (((r40.length : Nat) : Int) > 0)) hm Conv.eqK
        ·replace hm := if_f h39 hm
         refine RD hnt (nn 7 (pT :: .no :: sk 5 (pF :: []))) [1, 16, 17] [(108, pB false)] [] [] (an3 h38 (an6 h39 tv)) ?_
         exact jD false hm Conv.eqK
       ·replace hm := if_f h38 hm
        refine RD hnt (nn 5 (sk 2 (pF :: .no :: sk 5 (pF :: [])))) [1, 16, 17] [(108, pB false)] [] [] (an3 h38 (an6 ff tv)) ?_
        exact jD false hm Conv.eqK
 ·rcases bt (!r1) with h2 | h2
  ·replace hm := if_t h2 hm
   refine RD hnt (.no :: o91 [] true r1 :: nn 2 (sk 3 (pT :: .no :: sk 3 (pT :: .no :: sk 4 (pT :: []))))) [] [(37, pB true)] [] [] (an (Sound_ref7Spec p0 r1 hr1) (an4 h2 (an3 tt (an6 tt tv)))) ?_
   exact jD true hm Conv.eqK
  ·replace hm := if_f h2 hm
   obtain ⟨r3, hr3, hm⟩ := bo hm
   rcases bt (!r3) with h4 | h4
   ·replace hm := if_t h4 hm
    refine RD hnt (.no :: o91 [] true r1 :: nn 3 (o101 [] true r3 :: .no :: pF :: .no :: sk 3 (pT :: .no :: sk 4 (pT :: [])))) [] [(37, pB true)] [] [] (an (Sound_ref7Spec p0 r1 hr1) (an2 h2 (an (Set_ref7Spec p2 r3 hr3) (an2 h2 (an4 h4 (an5 tt tv)))))) ?_
    exact jD true hm Conv.eqK
   ·replace hm := if_f h4 hm
    obtain ⟨r5, hr5, hm⟩ := bo hm
    rcases bt (!r5) with h6 | h6
    ·replace hm := if_t h6 hm
     refine RD hnt (.no :: o91 [] true r1 :: nn 3 (o101 [] true r3 :: .no :: pF :: nn 2 (o101 [] true r5 :: .no :: pF :: .no :: sk 4 (pT :: [])))) [] [(37, pB true)] [] [] (an (Sound_ref7Spec p0 r1 hr1) (an2 h2 (an (Set_ref7Spec p2 r3 hr3) (an2 h2 (an2 h4 (an (Set_ref7Spec p3 r5 hr5) (an2 h4 (an5 h6 tv)))))))) ?_
     exact jD true hm Conv.eqK
    ·replace hm := if_f h6 hm
     refine RD hnt (.no :: o91 [] true r1 :: nn 3 (o101 [] true r3 :: .no :: pF :: nn 2 (o101 [] true r5 :: .no :: pF :: nn 5 (pF :: [])))) [] [(37, pB ((kand .i64 p2 p3) != 0))] [] [] (an (Sound_ref7Spec p0 r1 hr1) (an2 h2 (an (Set_ref7Spec p2 r3 hr3) (an2 h2 (an2 h4 (an (Set_ref7Spec p3 r5 hr5) (an2 h4 (an5 h6 tv)))))))) ?_
     exact jD ((kand .i64 p2 p3) != 0) hm Conv.eqK
abbrev o100 (ks : List Nat) (b : Bool) (RES : Hierarchy × Int) : Orc := .call 100 ks b (.tup [.agg [ow 0 RES.1.tree.nodes.length, pI RES.1.tree.next, ow 1 RES.1.tasks.length, pI RES.1.next], pI RES.2]) [] [roNode RES.1.tree.nodes, roTask RES.1.tasks]

abbrev c89e1 : Nat × Obj := (1064, bx [ow 100000 0, pI 0, ow 100001 0, pI 0])
theorem Enable_ref8Spec (p0 : Hierarchy) (p1 : Int) (p2 : Int) (p3 : Int) (RES : Hierarchy × Int) (hm : Enable_ref8 p0 p1 p2 p3 = some RES) : Spec Tryz.prog 49 [.p (.agg (encHierarchy p0)), pI p1, pI p2, pI p3] [] (.tup [.agg [ow 0 RES.1.tree.nodes.length, pI RES.1.tree.next, ow 1 RES.1.tasks.length, pI RES.1.next], pI RES.2]) [] [roNode RES.1.tree.nodes, roTask RES.1.tasks] := by
 unfold Enable_ref8 at hm
 refine SO Tryz.func49 rfl rfl [(0, .p (.agg (encHierarchy p0))), (1, pI p1), (2, pI p2), (3, pI p3)] [] ?_
 intro cx hnt
 refine Sq (RD hnt (nn 3 []) [0] [(4, rr 1032), (8, rr 1064)] [] [(1032, bx (pm (encHierarchy p0))), (1064, bx [.p (.sl .nil 0 0 (fun _ => [])), pI 0, .p (.sl .nil 0 0 (fun _ => [])), pI 0])] tv ?_)
 obtain ⟨r1, hr1, hm⟩ := bo hm
 refine Sq (Sq (RD hnt (.no :: o90 [] true r1 :: .no :: []) [] [(14, pB (!r1))] [] [] (an (Fits_ref8Spec p0 r1 hr1) tv) ?_))
 refine condM hm ?_ ?_
 ·intro h2 hm
  refine Sq (RD hnt (nn 3 []) [1, 2, 3, 4, 14] [(9, pI 1)] [1032] [] tv ?_)
  refine DW.cv [] [] [] [(c89e1), (100000, ob0 (roNode [])), (100001, ob0 (roTask []))] (Conv.ads [(.o 1064 0, 100000, 6, elems encNode dNode []), (.o 1064 2, 100001, 4, elems encTask dTask [])]) ?_
  obtain rfl := sj hm
  exact DW.ret (retK [roNode [], roTask []] [100000, 100001] (.tup [.agg [ow 0 0, pI 0, ow 1 0, pI 0], pI 1]))
 ·intro h2 hm
  refine Sk ?_
  obtain ⟨r3, hr3, hm⟩ := bo hm
  refine Sq (RD hnt (nn 4 (o100 [] true r3 :: nn 6 [])) [1, 2, 3, 4, 14] [(10, rr 1080), (11, pI r3.2)] [1032] [(1080, bx [ow 1168 r3.1.tree.nodes.length, pI r3.1.tree.next, ow 1169 r3.1.tasks.length, pI r3.1.next]), (1168, ob0 (roNode r3.1.tree.nodes)), (1169, ob0 (roTask r3.1.tasks))] (an (Write_ref7Spec p0 p1 p2 p3 r3 hr3) tv) ?_)
  refine Sq (Sq (RD hnt (nn 2 []) [] [(25, pB (r3.2 != 0))] [] [] tv ?_))
  refine condM hm ?_ ?_
  ·intro h4 hm
   refine Sq (RD hnt (nn 4 []) [10, 11, 25] [(9, pI r3.2)] [1080, 1168, 1169] [] tv ?_)
   refine DW.cv [] [] [] [(c89e1), (100000, ob0 (roNode [])), (100001, ob0 (roTask []))] (Conv.ads [(.o 1064 0, 100000, 6, elems encNode dNode []), (.o 1064 2, 100001, 4, elems encTask dTask [])]) ?_
   obtain rfl := sj hm
   exact DW.ret (retK [roNode [], roTask []] [100000, 100001] (.tup [.agg [ow 0 0, pI 0, ow 1 0, pI 0], pI r3.2]))
  ·intro h4 hm
   refine Sk ?_
   obtain ⟨r5, hr5, hm⟩ := bo hm
   refine Sq (Sq (RD hnt (.no :: o90 [] true r5 :: .no :: []) [11, 25] [(30, pB (!r5))] [] [] (an (Fits_ref8Spec r3.1 r5 hr5) tv) ?_))
   refine condM hm ?_ ?_
   ·intro h6 hm
    refine Sq (RD hnt (nn 3 []) [10, 30] [(9, pI 10)] [1080, 1168, 1169] [] tv ?_)
    refine DW.cv [] [] [] [(c89e1), (100000, ob0 (roNode [])), (100001, ob0 (roTask []))] (Conv.ads [(.o 1064 0, 100000, 6, elems encNode dNode []), (.o 1064 2, 100001, 4, elems encTask dTask [])]) ?_
    obtain rfl := sj hm
    exact DW.ret (retK [roNode [], roTask []] [100000, 100001] (.tup [.agg [ow 0 0, pI 0, ow 1 0, pI 0], pI 10]))
   ·intro h6 hm
    refine Sk ?_
    refine Sq (RD hnt (nn 3 []) [10, 30] [(9, pI 0)] [1080] [(1064, bx [ow 1168 r3.1.tree.nodes.length, pI r3.1.tree.next, ow 1169 r3.1.tasks.length, pI r3.1.next])] tv ?_)
    obtain rfl := sj hm
    exact DW.ret (retK [roNode r3.1.tree.nodes, roTask r3.1.tasks] [1168, 1169] (.tup [.agg [ow 0 r3.1.tree.nodes.length, pI r3.1.tree.next, ow 1 r3.1.tasks.length, pI r3.1.next], pI 0]))
abbrev o89 (ks : List Nat) (b : Bool) (RES : Hierarchy × Int) : Orc := .call 49 ks b (.tup [.agg [ow 0 RES.1.tree.nodes.length, pI RES.1.tree.next, ow 1 RES.1.tasks.length, pI RES.1.next], pI RES.2]) [] [roNode RES.1.tree.nodes, roTask RES.1.tasks]

abbrev c104e1 : Nat × Obj := (1032, bx [.p (.sl .nil 0 0 (fun _ => [])), pI 0, .p (.sl .nil 0 0 (fun _ => [])), pI 0])
abbrev c104e2 : Nat × Obj := (1032, bx [ow 100000 0, pI 0, ow 100001 0, pI 0])
theorem Convert_ref8Spec (p0 : Hierarchy) (p1 : Int) (RES : Hierarchy × Int) (hm : Convert_ref8 p0 p1 = some RES) : Spec Tryz.prog 46 [.p (.agg (encHierarchy p0)), pI p1] [] (.tup [.agg [ow 0 RES.1.tree.nodes.length, pI RES.1.tree.next, ow 1 RES.1.tasks.length, pI RES.1.next], pI RES.2]) [] [roNode RES.1.tree.nodes, roTask RES.1.tasks] := by
 unfold Convert_ref8 at hm
 refine SO Tryz.func46 rfl rfl [(0, .p (.agg (encHierarchy p0))), (1, pI p1)] [] ?_
 intro cx hnt
 refine Sq (RK hnt (nn 3 []) [(1, pI p1), (2, rr 1016), (4, rr 1032)] [(1016, bx (pm (encHierarchy p0))), (c104e1)] tv ?_)
 obtain ⟨r1, hr1, hm⟩ := bo hm
 refine Sq (Sq (RD hnt (.no :: o90 [] true r1 :: .no :: []) [] [(13, pB (!r1))] [] [] (an (Fits_ref8Spec p0 r1 hr1) tv) ?_))
 refine condM hm ?_ ?_
 ·intro h2 hm
  refine Sq (RD hnt (nn 3 []) [1, 2, 13] [(5, pI 1)] [1016] [] tv ?_)
  refine DW.cv [] [] [] [(c104e2), (100000, ob0 (roNode [])), (100001, ob0 (roTask []))] (Conv.ads [(.o 1032 0, 100000, 6, elems encNode dNode []), (.o 1032 2, 100001, 4, elems encTask dTask [])]) ?_
  obtain rfl := sj hm
  exact DW.ret (retK [roNode [], roTask []] [100000, 100001] (.tup [.agg [ow 0 0, pI 0, ow 1 0, pI 0], pI 1]))
 ·intro h2 hm
  refine Sk ?_
  obtain ⟨r3, hr3, hm⟩ := bo hm
  refine Sq (RD hnt (nn 3 (o79 [] true r3 :: nn 6 [])) [13] [(6, rr 1048), (7, pB r3.2)] [] [(1048, bx (pm (encNode r3.1)))] (an (Find_ref5Spec p0.tree p1 r3 hr3) tv) ?_)
  refine Sq (Sq (RD hnt (nn 2 []) [7] [(23, pB (!r3.2))] [] [] tv ?_))
  refine condM hm ?_ ?_
  ·intro h4 hm
   refine Sq (RD hnt (nn 3 []) [1, 2, 6, 23] [(5, pI 4)] [1016, 1048] [] tv ?_)
   refine DW.cv [] [] [] [(c104e2), (100000, ob0 (roNode [])), (100001, ob0 (roTask []))] (Conv.ads [(.o 1032 0, 100000, 6, elems encNode dNode []), (.o 1032 2, 100001, 4, elems encTask dTask [])]) ?_
   obtain rfl := sj hm
   exact DW.ret (retK [roNode [], roTask []] [100000, 100001] (.tup [.agg [ow 0 0, pI 0, ow 1 0, pI 0], pI 4]))
  ·intro h4 hm
   refine Sk ?_
   refine Sq (Sq (DW.regJ (sl2 := [(1, pI p1), (2, rr 1016), (4, rr 1032), (6, rr 1048), (31, pB ((p1 == 1) || (r3.1.kind == 1)))]) (ob2 := [(1016, bx (pm (encHierarchy p0))), (c104e1), (1048, bx (pm (encNode r3.1)))]) ?_ ?_))
   ·rcases bt (p1 == 1) with h5 | h5
    ·exact RT hnt (nn 3 (sk 3 (pT :: []))) [(31, pB true)] (an4 h5 tv) (by kernel_rfl) (.cons rfl (.of_eq (by rw [h5]; try rfl)) .nil)
    ·exact RT hnt (nn 6 (pF :: [])) [(31, pB (r3.1.kind == 1))] (an4 h5 tv) (by kernel_rfl) (.cons rfl (.of_eq (by rw [h5]; try rfl)) .nil)
   ·refine condM hm ?_ ?_
    ·intro h6 hm
     refine Sq (RD hnt (nn 3 []) [1, 2, 6, 31] [(5, pI 9)] [1016, 1048] [] tv ?_)
     refine DW.cv [] [] [] [(c104e2), (100000, ob0 (roNode [])), (100001, ob0 (roTask []))] (Conv.ads [(.o 1032 0, 100000, 6, elems encNode dNode []), (.o 1032 2, 100001, 4, elems encTask dTask [])]) ?_
     obtain rfl := sj hm
     exact DW.ret (retK [roNode [], roTask []] [100000, 100001] (.tup [.agg [ow 0 0, pI 0, ow 1 0, pI 0], pI 9]))
    ·intro h6 hm
     refine Sk ?_
     obtain ⟨r7, hr7, hm⟩ := bo hm
     refine Sq (RD hnt (nn 4 (o79 [] true r7 :: nn 6 [])) [31] [(8, rr 1064)] [] [(1064, bx (pm (encNode r7.1)))] (an (Find_ref5Spec p0.tree r3.1.parent r7 hr7) tv) ?_)
     obtain ⟨r8, hr8, hm⟩ := bo hm
     refine Sq (Sq ?_)
     refine Jn (ι := Bool) (fun (y1 : Bool) => mkSt [(1, pI p1), (2, rr 1016), (4, rr 1032), (6, rr 1048), (57, pB y1)] [(1016, bx (pm (encHierarchy p0))), (c104e1), (1048, bx (pm (encNode r3.1)))]) (fun y1 => (Convert_ref8J1 p0 p1 r3) y1 = some RES) ?_ ?_
     ·intro y1 hm
      unfold Convert_ref8J1 at hm
      refine condM hm ?_ ?_
      ·intro h11 hm
       refine Sq (RD hnt (nn 3 []) [1, 2, 6, 57] [(5, pI 10)] [1016, 1048] [] tv ?_)
       refine DW.cv [] [] [] [(c104e2), (100000, ob0 (roNode [])), (100001, ob0 (roTask []))] (Conv.ads [(.o 1032 0, 100000, 6, elems encNode dNode []), (.o 1032 2, 100001, 4, elems encTask dTask [])]) ?_
       obtain rfl := sj hm
       exact DW.ret (retK [roNode [], roTask []] [100000, 100001] (.tup [.agg [ow 0 0, pI 0, ow 1 0, pI 0], pI 10]))
      ·intro h11 hm
       refine Sk ?_
       refine Sq (Sq (RD hnt (nn 4 []) [57] [(62, pB ((kand .i64 r3.1.control 6) != 0))] [] [] tv ?_))
       refine condM hm ?_ ?_
       ·intro h12 hm
        refine Sq (RD hnt (nn 3 []) [1, 2, 6, 62] [(5, pI 9)] [1016, 1048] [] tv ?_)
        refine DW.cv [] [] [] [(c104e2), (100000, ob0 (roNode [])), (100001, ob0 (roTask []))] (Conv.ads [(.o 1032 0, 100000, 6, elems encNode dNode []), (.o 1032 2, 100001, 4, elems encTask dTask [])]) ?_
        obtain rfl := sj hm
        exact DW.ret (retK [roNode [], roTask []] [100000, 100001] (.tup [.agg [ow 0 0, pI 0, ow 1 0, pI 0], pI 9]))
       ·intro h12 hm
        refine Sk ?_
        refine Sq (RD hnt (nn 2 []) [62] [] [] [(1048, bx [pI r3.1.id, pI r3.1.parent, pS r3.1.name, pI r3.1.control, pI 1, pI r3.1.owner])] tv ?_)
        obtain ⟨r13, hr13, hm⟩ := bo hm
        refine Sq (RD hnt (.no :: o102 [] true r13 :: nn 2 []) [] [(10, rr 1080)] [] [(1080, bx [ow 1528 r13.tree.nodes.length, pI r13.tree.next, ow 1529 r13.tasks.length, pI r13.next]), (1528, ob0 (roNode r13.tree.nodes)), (1529, ob0 (roTask r13.tasks))] (an (Copy_ref6Spec p0 r13 hr13) tv) ?_)
        obtain ⟨r14, hr14, hm⟩ := bo hm
        refine Sq (RD hnt (nn 3 (o103 [] true r14 :: nn 2 [])) [6] [] [1048, 1528] [(1080, bx [ow 1560 r14.nodes.length, pI r14.next, ow 1529 r13.tasks.length, pI r13.next]), (1560, ob0 (roNode r14.nodes))] (an (Set_ref5Spec p0.tree ({ id := r3.1.id, parent := r3.1.parent, name := r3.1.name, control := r3.1.control, kind := 1, owner := r3.1.owner } : Node) r14 hr14) tv) ?_)
        obtain ⟨r15, hr15, hm⟩ := bo hm
        refine Sq (Sq ?_)
        refine Jn (ι := Bool) (fun (y2 : Bool) => mkSt [(4, rr 1032), (10, rr 1080), (81, pB y2)] [(c104e1), (1080, bx [ow 1560 r14.nodes.length, pI r14.next, ow 1529 r13.tasks.length, pI r13.next]), (1529, ob0 (roTask r13.tasks)), (1560, ob0 (roNode r14.nodes))]) (fun y2 => (Convert_ref8J2 r13 r14) y2 = some RES) ?_ ?_
        ·intro y2 hm
         unfold Convert_ref8J2 at hm
         refine condM hm ?_ ?_
         ·intro h18 hm
          refine Sq (RD hnt (nn 3 []) [10, 81] [(5, pI 6)] [1080, 1529, 1560] [] tv ?_)
          refine DW.cv [] [] [] [(c104e2), (100000, ob0 (roNode [])), (100001, ob0 (roTask []))] (Conv.ads [(.o 1032 0, 100000, 6, elems encNode dNode []), (.o 1032 2, 100001, 4, elems encTask dTask [])]) ?_
          obtain rfl := sj hm
          exact DW.ret (retK [roNode [], roTask []] [100000, 100001] (.tup [.agg [ow 0 0, pI 0, ow 1 0, pI 0], pI 6]))
         ·intro h18 hm
          refine Sk ?_
          refine Sq (RD hnt (nn 3 []) [10, 81] [(5, pI 0)] [1080] [(1032, bx [ow 1560 r14.nodes.length, pI r14.next, ow 1529 r13.tasks.length, pI r13.next])] tv ?_)
          obtain rfl := sj hm
          exact DW.ret (retK [roNode r14.nodes, roTask r13.tasks] [1560, 1529] (.tup [.agg [ow 0 r14.nodes.length, pI r14.next, ow 1 r13.tasks.length, pI r13.next], pI 0]))
        ·rcases bt (decide (((r15.length : Nat) : Int) > 0)) with h16 | h16
         ·replace hm := if_t h16 hm
          refine RD hnt (nn 2 (o96 [] true r15 :: nn 3 (sk 3 (pT :: [])))) [1, 2] [(81, pB true)] [1016] [] (an (Tasks_ref6Spec p0 p1 r15 hr15) (an4 h16 tv)) ?_
          exact jD true hm Conv.eqK
         ·replace hm := if_f h16 hm
          obtain ⟨r17, hr17, hm⟩ := bo hm
          refine RD hnt (nn 2 (o96 [] true r15 :: nn 4 (o90 [] true r17 :: .no :: pF :: []))) [1, 2] [(81, pB (!r17))] [1016] [] (an (Tasks_ref6Spec p0 p1 r15 hr15) (an2 h16 (an (Fits_ref8Spec ({ tree := r14, tasks := r13.tasks, next := r13.next } : Hierarchy) r17 hr17) (an2 h16 tv)))) ?_
          exact jD (!r17) hm Conv.eqK
     ·rcases bt (r8 == 3) with h9 | h9
      ·replace hm := if_t h9 hm
       refine RD hnt (nn 4 (o99 [] true r8 :: nn 2 (sk 9 (pT :: [])))) [8] [(57, pB true)] [1064] [] (an (Type_ref8Spec p0.tree r7.1.id r8 hr8) (an6 h9 tv)) ?_
       exact jD true hm Conv.eqK
      ·replace hm := if_f h9 hm
       rcases bt (r7.1.id != 1) with h10 | h10
       ·replace hm := if_t h10 hm
        refine RD hnt (nn 4 (o99 [] true r8 :: nn 10 (pT :: pF :: []))) [8] [(57, pB ((kand .i64 r7.1.control 6) != 0))] [1064] [] (an (Type_ref8Spec p0.tree r7.1.id r8 hr8) (an4 h9 (an4 h10 (an h9 (an h10 (an h9 tv)))))) ?_
        exact jD ((kand .i64 r7.1.control 6) != 0) hm Conv.eqK
       ·replace hm := if_f h10 hm
        refine RD hnt (nn 4 (o99 [] true r8 :: nn 6 (sk 4 (pF :: pF :: [])))) [8] [(57, pB false)] [1064] [] (an (Type_ref8Spec p0.tree r7.1.id r8 hr8) (an4 h9 (an4 h10 (an h9 (an h10 (an h9 tv)))))) ?_
        exact jD false hm Conv.eqK
abbrev o104 (ks : List Nat) (b : Bool) (RES : Hierarchy × Int) : Orc := .call 46 ks b (.tup [.agg [ow 0 RES.1.tree.nodes.length, pI RES.1.tree.next, ow 1 RES.1.tasks.length, pI RES.1.next], pI RES.2]) [] [roNode RES.1.tree.nodes, roTask RES.1.tasks]

abbrev c86e1 : Nat × Obj := (1032, bx [.p (.sl .nil 0 0 (fun _ => [])), pI 0, .p (.sl .nil 0 0 (fun _ => [])), pI 0])
theorem step_Dice_madeSpec (p0 : Dice) (p1 : Hierarchy) (RES : Hierarchy × Dice) (hm : step_Dice_made p0 p1 = some RES) : Spec Tryz.prog 72 [rr 0, .p (.agg (encHierarchy p1))] [.box (pm (encDice p0))] (.p (.agg (encHierarchy RES.1))) [.box (pm (encDice RES.2))] [] := by
 unfold step_Dice_made at hm
 refine SO Tryz.func72 rfl rfl [(0, rr 0), (1, .p (.agg (encHierarchy p1)))] [(0, bx (pm (encDice p0)))] ?_
 intro cx hnt
 refine Sq (RD hnt (nn 2 []) [1] [(3, rr 1024), (4, rr 1032)] [] [(1024, bx (pm (encHierarchy p1))), (c86e1)] tv ?_)
 obtain ⟨r1, hr1, hm⟩ := bo hm
 refine Sq (RD hnt (nn 3 (o87 [0] true r1 :: .no :: [])) [] [(5, pI r1.1)] [] [(0, bx (pm (encDice r1.2)))] (an (Group_Dice_madeSpec p0 p1.tree r1 hr1) (an tv tv)) ?_)
 obtain ⟨r2, hr2, hm⟩ := bo hm
 refine Sq (Sq (RD hnt (.no :: o71 [0] true r2 :: []) [] [(17, pI r2.1)] [] [(0, bx (pm (encDice r2.2)))] (an (Next_Dice_madeSpec r1.2 5 r2 hr2) (an tv tv)) ?_))
 refine Jn (ι := Dice × Hierarchy) (fun (y1 : Dice × Hierarchy) => mkSt [(3, rr 1024), (4, rr 1032)] [(0, bx (pm (encDice y1.1))), (1024, bx (pm (encHierarchy y1.2))), (c86e1)]) (fun y1 => step_Dice_madeJ1 y1 = some RES) ?_ ?_
 ·intro y1 hm
  unfold step_Dice_madeJ1 at hm
  refine Sq (RD hnt (nn 2 []) [3] [] [1024] [(1032, bx (pm (encHierarchy y1.2)))] tv ?_)
  obtain rfl := sj hm
  exact DW.ret (retK [.box (pm (encDice y1.1))] [] (.p (.agg (encHierarchy y1.2))))
 ·refine Bk ?_
  refine Sq (Sq (RD hnt (nn 2 []) [] [(18, pB (r2.1 == 0))] [] [] tv ?_))
  refine Jn (ι := Bool) (fun (y2 : Bool) => mkSt [(0, rr 0), (3, rr 1024), (4, rr 1032), (5, pI r1.1), (17, pI r2.1), (18, pB y2)] [(0, bx (pm (encDice r2.2))), (1024, bx (pm (encHierarchy p1))), (c86e1)]) (fun y2 => (step_Dice_madeJ2 p1 r1 r2) y2 = some RES) ?_ ?_
  ·intro y2 hm
   unfold step_Dice_madeJ2 at hm
   refine condM hm ?_ ?_
   ·intro h4 hm
    obtain ⟨r5, hr5, hm⟩ := bo hm
    obtain ⟨r6, hr6, hm⟩ := bo hm
    refine Sq (RD hnt (nn 3 (o88 [0] true r5 :: o89 [] true r6 :: nn 6 [])) [0, 5, 17, 18] [(6, rr 1048), (7, pI r6.2)] [] [(0, bx (pm (encDice r5.2))), (1048, bx [ow 1208 r6.1.tree.nodes.length, pI r6.1.tree.next, ow 1209 r6.1.tasks.length, pI r6.1.next]), (1208, ob0 (roNode r6.1.tree.nodes)), (1209, ob0 (roTask r6.1.tasks))] (an (Controllers_Dice_madeSpec r2.2 r5 hr5) (an tv (an (Enable_ref8Spec p1 r1.1 r5.1 0 r6 hr6) tv))) ?_)
    refine Sq (RD hnt (nn 2 []) [7] [(30, pB (r6.2 == 0))] [] [] tv ?_)
    refine condM hm ?_ ?_
    ·intro h7 hm
     refine Sq (RD hnt (nn 2 []) [3, 6, 30] [] [1024, 1048] [(1032, bx [ow 1208 r6.1.tree.nodes.length, pI r6.1.tree.next, ow 1209 r6.1.tasks.length, pI r6.1.next])] tv ?_)
     obtain rfl := sj hm
     exact DW.ret (retK [.box (pm (encDice r5.2))] [] (.p (.agg (encHierarchy r6.1))))
    ·intro h7 hm
     refine Sk ?_
     exact bD (r5.2, p1) hm Conv.t0
   ·intro h4 hm
    refine Sq (RD hnt (nn 2 []) [18] [(32, pB (r2.1 == 2))] [] [] tv ?_)
    refine condM hm ?_ ?_
    ·intro h8 hm
     obtain ⟨r9, hr9, hm⟩ := bo hm
     refine Sq (RD hnt (nn 2 (o104 [] true r9 :: nn 6 [])) [0, 5, 17, 32] [(8, rr 1064), (9, pI r9.2)] [] [(1064, bx [ow 1296 r9.1.tree.nodes.length, pI r9.1.tree.next, ow 1297 r9.1.tasks.length, pI r9.1.next]), (1296, ob0 (roNode r9.1.tree.nodes)), (1297, ob0 (roTask r9.1.tasks))] (an (Convert_ref8Spec p1 r1.1 r9 hr9) tv) ?_)
     refine Sq (RD hnt (nn 2 []) [9] [(41, pB (r9.2 == 0))] [] [] tv ?_)
     refine condM hm ?_ ?_
     ·intro h10 hm
      refine Sq (RD hnt (nn 2 []) [3, 8, 41] [] [1024, 1064] [(1032, bx [ow 1296 r9.1.tree.nodes.length, pI r9.1.tree.next, ow 1297 r9.1.tasks.length, pI r9.1.next])] tv ?_)
      obtain rfl := sj hm
      exact DW.ret (retK [.box (pm (encDice r2.2))] [] (.p (.agg (encHierarchy r9.1))))
     ·intro h10 hm
      refine Sk ?_
      exact bD (r2.2, p1) hm Conv.t0
    ·intro h8 hm
     refine Sq (RD hnt (nn 2 []) [17, 32] [(43, pB (r2.1 == 3))] [] [] tv ?_)
     refine condM hm ?_ ?_
     ·intro h11 hm
      obtain ⟨r12, hr12, hm⟩ := bo hm
      refine Sq (RD hnt (nn 3 (o79 [] true r12 :: nn 6 [])) [43] [(10, rr 1080), (11, pB r12.2)] [] [(1080, bx (pm (encNode r12.1)))] (an (Find_ref5Spec p1.tree r1.1 r12 hr12) tv) ?_)
      refine Sq (DW.regJ (sl2 := [(0, rr 0), (3, rr 1024), (4, rr 1032), (10, rr 1080), (56, pB (r12.2 && (r1.1 != 1)))]) (ob2 := [(0, bx (pm (encDice r2.2))), (1024, bx (pm (encHierarchy p1))), (c86e1), (1080, bx (pm (encNode r12.1)))]) ?_ ?_)
      ·rcases bt r12.2 with h13 | h13
       ·exact RT hnt (nn 4 (pT :: [])) [(56, pB (r1.1 != 1))] (an3 h13 tv) (by kernel_rfl) (.cons rfl (.of_eq (by rw [h13]; try rfl)) .nil)
       ·exact RT hnt (nn 2 (sk 2 (pF :: []))) [(56, pB false)] (an3 h13 tv) (by kernel_rfl) (.cons rfl (.of_eq (by rw [h13]; try rfl)) .nil)
      ·refine condM hm ?_ ?_
       ·intro h14 hm
        obtain ⟨r15, hr15, hm⟩ := bo hm
        refine Sq (RD hnt (.no :: o71 [0] true r15 :: nn 2 []) [0, 56] [] [] [(0, bx (pm (encDice r15.2))), (1080, bx [pI r12.1.id, pI r12.1.parent, pS r12.1.name, pI r12.1.control, pI r12.1.kind, pI r15.1])] (an (Next_Dice_madeSpec r2.2 3 r15 hr15) (an tv tv)) ?_)
        obtain ⟨r16, hr16, hm⟩ := bo hm
        refine RD hnt (nn 3 (o103 [] true r16 :: nn 2 [])) [10] [] [1080] [(1024, bx [ow 1504 r16.nodes.length, pI r16.next, .p (slTask p1.tasks), pI p1.next]), (1504, ob0 (roNode r16.nodes))] (an (Set_ref5Spec p1.tree ({ id := r12.1.id, parent := r12.1.parent, name := r12.1.name, control := r12.1.control, kind := r12.1.kind, owner := r15.1 } : Node) r16 hr16) tv) ?_
        exact bD (r15.2, ({ tree := r16, tasks := p1.tasks, next := p1.next } : Hierarchy)) hm (Conv.frz [1504])
       ·intro h14 hm
        refine Sk ?_
        exact bD (r2.2, p1) hm Conv.t0
     ·intro h11 hm
      refine Sk ?_
      exact bD (r2.2, p1) hm Conv.t0
  ·refine condM hm ?_ ?_
   ·intro h3 hm
    refine Sk ?_
    exact jD (r2.1 == 0) hm Conv.eqK
   ·intro h3 hm
    refine RD hnt (nn 2 []) [] [(18, pB (r2.1 == 1))] [] [] tv ?_
    exact jD (r2.1 == 1) hm Conv.eqK
abbrev o86 (ks : List Nat) (b : Bool) (RES : Hierarchy × Dice) : Orc := .call 72 ks b (.p (.agg (encHierarchy RES.1))) [.box (pm (encDice RES.2))] []

theorem Admits_ref8Spec (p0 : Hierarchy) (p1 : Int) (RES : Int) (hm : Admits_ref8 p0 p1 = some RES) : Spec Tryz.prog 38 [.p (.agg (encHierarchy p0)), pI p1] [] (pI RES) [] [] := by
 unfold Admits_ref8 at hm
 refine SO Tryz.func38 rfl rfl [(0, .p (.agg (encHierarchy p0))), (1, pI p1)] [] ?_
 intro cx hnt
 refine Sq (RK hnt (nn 2 []) [(1, pI p1), (2, rr 1016)] [(1016, bx (pm (encHierarchy p0)))] tv ?_)
 obtain ⟨r1, hr1, hm⟩ := bo hm
 refine Sq (Sq (RD hnt (.no :: o90 [] true r1 :: .no :: []) [] [(9, pB (!r1))] [] [] (an (Fits_ref8Spec p0 r1 hr1) tv) ?_))
 refine condM hm ?_ ?_
 ·intro h2 hm
  refine Sq (RK hnt (.no :: []) [(4, pI 1)] [] tv ?_)
  obtain rfl := sj hm
  exact DW.ret (retK [] [] (pI 1))
 ·intro h2 hm
  refine Sk ?_
  obtain ⟨r3, hr3, hm⟩ := bo hm
  refine Sq (RD hnt (nn 3 (o79 [] true r3 :: nn 6 [])) [9] [(5, rr 1040), (6, pB r3.2)] [] [(1040, bx (pm (encNode r3.1)))] (an (Find_ref5Spec p0.tree p1 r3 hr3) tv) ?_)
  refine Sq (Bk ?_)
  refine Sq (RD hnt (nn 3 []) [6] [(17, pB (!r3.2))] [] [] tv ?_)
  refine condM hm ?_ ?_
  ·intro h4 hm
   refine Sq (RK hnt (.no :: []) [(4, pI 4)] [] tv ?_)
   obtain rfl := sj hm
   exact DW.ret (retK [] [] (pI 4))
  ·intro h4 hm
   obtain ⟨r5, hr5, hm⟩ := bo hm
   refine Sq (RD hnt (nn 3 (o99 [] true r5 :: nn 2 [])) [2, 17] [(20, pB (r5 == 3))] [1016] [] (an (Type_ref8Spec p0.tree p1 r5 hr5) tv) ?_)
   refine condM hm ?_ ?_
   ·intro h6 hm
    refine Sq (RK hnt (.no :: []) [(4, pI 10)] [] tv ?_)
    obtain rfl := sj hm
    exact DW.ret (retK [] [] (pI 10))
   ·intro h6 hm
    refine Sq (DW.regJ (sl2 := [(26, pB ((p1 != 1) && ((kand .i64 r3.1.control 6) != 0)))]) (ob2 := []) ?_ ?_)
    ·rcases bt (p1 != 1) with h7 | h7
     ·exact RT hnt (nn 7 (pT :: .no :: [])) [(26, pB ((kand .i64 r3.1.control 6) != 0))] (an5 h7 tv) (by kernel_rfl) (.cons rfl (.of_eq (by rw [h7]; try rfl)) .nil)
     ·exact RT hnt (nn 3 (sk 4 (pF :: .no :: []))) [(26, pB false)] (an5 h7 tv) (by kernel_rfl) (.cons rfl (.of_eq (by rw [h7]; try rfl)) .nil)
    ·refine condM hm ?_ ?_
     ·intro h8 hm
      refine Sq (RK hnt (.no :: []) [(4, pI 6)] [] tv ?_)
      obtain rfl := sj hm
      exact DW.ret (retK [] [] (pI 6))
     ·intro h8 hm
      refine Sk ?_
      refine DW.done ?_
      show DW _ _ _ _ _
      refine Sq (RK hnt (.no :: []) [(4, pI 0)] [] tv ?_)
      obtain rfl := sj hm
      exact DW.ret (retK [] [] (pI 0))
abbrev o105 (ks : List Nat) (b : Bool) (RES : Int) : Orc := .call 38 ks b (pI RES) [] []

abbrev c107e1 : Nat × Obj := (1032, bx [.p (.sl .nil 0 0 (fun _ => [])), pI 0, .p (.sl .nil 0 0 (fun _ => [])), pI 0])
abbrev c107e2 (r3 : Hierarchy) : Nat × Obj := (1056, bx [ow 1152 r3.tree.nodes.length, pI r3.tree.next, ow 1153 r3.tasks.length, pI r3.next])
theorem add_ref6Spec (p0 : Hierarchy) (p1 : Task) (RES : Hierarchy × Int × Int) (hm : add_ref6 p0 p1 = some RES) : Spec Tryz.prog 122 [.p (.agg (encHierarchy p0)), .p (.agg (encTask p1))] [] (.tup [.agg [ow 0 RES.1.tree.nodes.length, pI RES.1.tree.next, ow 1 RES.1.tasks.length, pI RES.1.next], pI RES.2.1, pI RES.2.2]) [] [roNode RES.1.tree.nodes, roTask RES.1.tasks] := by
 unfold add_ref6 at hm
 refine SO Tryz.func122 rfl rfl [(0, .p (.agg (encHierarchy p0))), (1, .p (.agg (encTask p1)))] [] ?_
 intro cx hnt
 refine Sq (RK hnt (nn 5 []) [(2, rr 1016), (3, rr 1024), (4, rr 1032)] [(1016, bx (pm (encHierarchy p0))), (1024, bx (pm (encTask p1))), (c107e1)] tv ?_)
 refine Sq (Sq (DW.regJ (sl2 := [(2, rr 1016), (3, rr 1024), (4, rr 1032), (16, pB ((decide (((p0.tasks.length : Nat) : Int) ≥ 128)) || (decide (p0.next > 2147483647))))]) (ob2 := [(1016, bx (pm (encHierarchy p0))), (1024, bx (pm (encTask p1))), (c107e1)]) ?_ ?_))
 ·rcases bt (decide (((p0.tasks.length : Nat) : Int) ≥ 128)) with h1 | h1
  ·exact RT hnt (nn 5 (sk 3 (pT :: []))) [(16, pB true)] (an4 h1 tv) (by kernel_rfl) (.cons rfl (.of_eq (by rw [h1]; try rfl)) .nil)
  ·exact RT hnt (nn 8 (pF :: [])) [(16, pB (decide (p0.next > 2147483647)))] (an4 h1 tv) (by kernel_rfl) (.cons rfl (.of_eq (by rw [h1]; try rfl)) .nil)
 ·refine condM hm ?_ ?_
  ·intro h2 hm
   refine Sq (RD hnt (nn 4 []) [2, 3, 16] [(5, pI 0), (6, pI 7)] [1016, 1024] [] tv ?_)
   refine DW.cv [] [] [] [(1032, bx [ow 100000 0, pI 0, ow 100001 0, pI 0]), (100000, ob0 (roNode [])), (100001, ob0 (roTask []))] (Conv.ads [(.o 1032 0, 100000, 6, elems encNode dNode []), (.o 1032 2, 100001, 4, elems encTask dTask [])]) ?_
   obtain rfl := sj hm
   exact DW.ret (retK [roNode [], roTask []] [100000, 100001] (.tup [.agg [ow 0 0, pI 0, ow 1 0, pI 0], pI 0, pI 7]))
  ·intro h2 hm
   refine Sk ?_
   obtain ⟨r3, hr3, hm⟩ := bo hm
   refine Sq (RD hnt (.no :: o102 [] true r3 :: nn 2 []) [16] [(7, rr 1056)] [] [(c107e2 r3), (1152, ob0 (roNode r3.tree.nodes)), (1153, ob0 (roTask r3.tasks))] (an (Copy_ref6Spec p0 r3 hr3) tv) ?_)
   refine Sq (RD hnt (nn 4 []) [2] [] [1016] [(1024, bx [pI p0.next, pI p1.process, pI p1.group, pI p1.user])] tv ?_)
   refine Sq (Sq (RD hnt (nn 3 []) [] [(25, pB (p1.process == 0))] [] [] tv ?_))
   refine Jn (ι := Task) (fun (y1 : Task) => mkSt [(3, rr 1024), (4, rr 1032), (7, rr 1056)] [(1024, bx (pm (encTask y1))), (c107e1), (c107e2 r3), (1152, ob0 (roNode r3.tree.nodes)), (1153, ob0 (roTask r3.tasks))]) (fun y1 => (add_ref6J1 r3) y1 = some RES) ?_ ?_
   ·intro y1 hm
    unfold add_ref6J1 at hm
    obtain ⟨g5, hm⟩ := go1 hm
    refine Sq (RN hnt (nn 7 []) [(3, rr 1024), (4, rr 1032), (7, rr 1056)] [(1024, bx (pm (encTask y1))), (c107e1), (1056, bx [ow 1152 r3.tree.nodes.length, pI r3.tree.next, ow 1153 (r3.tasks ++ [y1]).length, pI r3.next]), (1152, ob0 (roNode r3.tree.nodes)), (1153, ob0 (roTask (r3.tasks ++ [y1])))] [] [(1056, .box [ow 1152 r3.tree.nodes.length, pI r3.tree.next, ow 1153 (r3.tasks.length + 1), pI r3.next]), (1153, .row 4 (r3.tasks.length + 1) (catF r3.tasks.length (elTask r3.tasks) (cut 4 [vi y1.id, vi y1.process, vi y1.group, vi y1.user])))] (an (by omega : (r3.tasks.length + 1) * 32 ≤ 140737488355328) tv) (by kernel_rfl) .nil (.cons rfl (.box (.cons .rfl (.cons .rfl (.cons (MLe.ownLen (enc := encTask) (d := dTask) (f := (catF r3.tasks.length (elTask r3.tasks) (cut 4 [vi y1.id, vi y1.process, vi y1.group, vi y1.user]))) (RowIs.cat RowIs.elems (RowIs.lit (enc := encTask) (d := dTask) (n := 1) (f := (cut 4 [vi y1.id, vi y1.process, vi y1.group, vi y1.user])) [y1] rfl (fun | 0, _ => rfl | n + 1, h => absurd h (by omega))))) (.cons .rfl .nil))))) (.cons rfl (BLe.typed (RowIs.cat RowIs.elems (RowIs.lit (enc := encTask) (d := dTask) (n := 1) (f := (cut 4 [vi y1.id, vi y1.process, vi y1.group, vi y1.user])) [y1] rfl (fun | 0, _ => rfl | n + 1, h => absurd h (by omega))))) .nil)) ?_)
    refine Sq (RD hnt (nn 5 []) [] [] [] [(1056, bx [ow 1152 r3.tree.nodes.length, pI r3.tree.next, ow 1153 (r3.tasks ++ [y1]).length, pI (w64 (r3.next + 1))])] tv ?_)
    refine Sq (RD hnt (nn 6 []) [3, 7] [(5, pI y1.id), (6, pI 0)] [1024, 1056] [(1032, bx [ow 1152 r3.tree.nodes.length, pI r3.tree.next, ow 1153 (r3.tasks ++ [y1]).length, pI (w64 (r3.next + 1))])] tv ?_)
    obtain rfl := sj hm
    exact DW.ret (retK [roNode r3.tree.nodes, roTask (r3.tasks ++ [y1])] [1152, 1153] (.tup [.agg [ow 0 r3.tree.nodes.length, pI r3.tree.next, ow 1 (r3.tasks ++ [y1]).length, pI (w64 (r3.next + 1))], pI y1.id, pI 0]))
   ·refine condM hm ?_ ?_
    ·intro h4 hm
     refine RD hnt (nn 4 []) [25] [] [] [(1024, bx [pI p0.next, pI p0.next, pI p1.group, pI p1.user])] tv ?_
     exact jD ({ id := p0.next, process := p0.next, group := p1.group, user := p1.user } : Task) hm Conv.eqK
    ·intro h4 hm
     refine Sk ?_
     exact jD ({ id := p0.next, process := p1.process, group := p1.group, user := p1.user } : Task) hm Conv.t0
abbrev o107 (ks : List Nat) (b : Bool) (RES : Hierarchy × Int × Int) : Orc := .call 122 ks b (.tup [.agg [ow 0 RES.1.tree.nodes.length, pI RES.1.tree.next, ow 1 RES.1.tasks.length, pI RES.1.next], pI RES.2.1, pI RES.2.2]) [] [roNode RES.1.tree.nodes, roTask RES.1.tasks]

abbrev c106e1 : Nat × Obj := (1048, bx [.p (.sl .nil 0 0 (fun _ => [])), pI 0, .p (.sl .nil 0 0 (fun _ => [])), pI 0])
theorem Spawn_ref6Spec (p0 : Hierarchy) (p1 : Int) (p2 : Int) (RES : Hierarchy × Int × Int) (hm : Spawn_ref6 p0 p1 p2 = some RES) : Spec Tryz.prog 73 [.p (.agg (encHierarchy p0)), pI p1, pI p2] [] (.tup [.agg [ow 0 RES.1.tree.nodes.length, pI RES.1.tree.next, ow 1 RES.1.tasks.length, pI RES.1.next], pI RES.2.1, pI RES.2.2]) [] [roNode RES.1.tree.nodes, roTask RES.1.tasks] := by
 unfold Spawn_ref6 at hm
 refine SO Tryz.func73 rfl rfl [(0, .p (.agg (encHierarchy p0))), (1, pI p1), (2, pI p2)] [] ?_
 intro cx hnt
 refine Sq (RD hnt (nn 4 []) [0] [(3, rr 1024), (6, rr 1048)] [] [(1024, bx (pm (encHierarchy p0))), (c106e1)] tv ?_)
 obtain ⟨r1, hr1, hm⟩ := bo hm
 refine Sq (Sq ?_)
 refine Jn (ι := Bool) (fun (y1 : Bool) => mkSt [(1, pI p1), (2, pI p2), (3, rr 1024), (6, rr 1048), (19, pB y1)] [(1024, bx (pm (encHierarchy p0))), (c106e1)]) (fun y1 => (Spawn_ref6J1 p0 p1 p2) y1 = some RES) ?_ ?_
 ·intro y1 hm
  unfold Spawn_ref6J1 at hm
  refine condM hm ?_ ?_
  ·intro h4 hm
   refine Sq (RD hnt (nn 4 []) [1, 2, 3, 19] [(7, pI 0), (8, pI 1)] [1024] [] tv ?_)
   refine DW.cv [] [] [] [(1048, bx [ow 100000 0, pI 0, ow 100001 0, pI 0]), (100000, ob0 (roNode [])), (100001, ob0 (roTask []))] (Conv.ads [(.o 1048 0, 100000, 6, elems encNode dNode []), (.o 1048 2, 100001, 4, elems encTask dTask [])]) ?_
   obtain rfl := sj hm
   exact DW.ret (retK [roNode [], roTask []] [100000, 100001] (.tup [.agg [ow 0 0, pI 0, ow 1 0, pI 0], pI 0, pI 1]))
  ·intro h4 hm
   refine Sk ?_
   obtain ⟨r5, hr5, hm⟩ := bo hm
   refine Sq (Sq (RD hnt (nn 3 (o78 [] true r5 :: .no :: [])) [19] [(25, pB (!r5))] [] [] (an (Has_ref5Spec p0.tree p1 r5 hr5) tv) ?_))
   refine condM hm ?_ ?_
   ·intro h6 hm
    refine Sq (RD hnt (nn 4 []) [1, 2, 3, 25] [(7, pI 0), (8, pI 4)] [1024] [] tv ?_)
    refine DW.cv [] [] [] [(1048, bx [ow 100000 0, pI 0, ow 100001 0, pI 0]), (100000, ob0 (roNode [])), (100001, ob0 (roTask []))] (Conv.ads [(.o 1048 0, 100000, 6, elems encNode dNode []), (.o 1048 2, 100001, 4, elems encTask dTask [])]) ?_
    obtain rfl := sj hm
    exact DW.ret (retK [roNode [], roTask []] [100000, 100001] (.tup [.agg [ow 0 0, pI 0, ow 1 0, pI 0], pI 0, pI 4]))
   ·intro h6 hm
    refine Sk ?_
    obtain ⟨r7, hr7, hm⟩ := bo hm
    refine Sq (RK hnt (nn 4 (o107 [] true r7 :: nn 6 [])) [(6, rr 1048), (7, pI r7.2.1), (8, pI r7.2.2)] [(1048, bx [ow 1248 r7.1.tree.nodes.length, pI r7.1.tree.next, ow 1249 r7.1.tasks.length, pI r7.1.next]), (1248, ob0 (roNode r7.1.tree.nodes)), (1249, ob0 (roTask r7.1.tasks))] (an (add_ref6Spec p0 ({ id := 0, process := 0, group := p1, user := p2 } : Task) r7 hr7) tv) ?_)
    obtain rfl := sj hm
    exact DW.ret (retK [roNode r7.1.tree.nodes, roTask r7.1.tasks] [1248, 1249] (.tup [.agg [ow 0 r7.1.tree.nodes.length, pI r7.1.tree.next, ow 1 r7.1.tasks.length, pI r7.1.next], pI r7.2.1, pI r7.2.2]))
 ·rcases bt (!r1) with h2 | h2
  ·replace hm := if_t h2 hm
   refine RD hnt (.no :: o92 [] true r1 :: nn 2 (sk 2 (pT :: .no :: sk 2 (pT :: [])))) [] [(19, pB true)] [] [] (an (Check_ref6Spec p0 r1 hr1) (an3 h2 (an3 tt tv))) ?_
   exact jD true hm Conv.eqK
  ·replace hm := if_f h2 hm
   rcases bt (decide (p2 < 0)) with h3 | h3
   ·replace hm := if_t h3 hm
    refine RD hnt (.no :: o92 [] true r1 :: nn 4 (pF :: .no :: sk 2 (pT :: []))) [] [(19, pB true)] [] [] (an (Check_ref6Spec p0 r1 hr1) (an3 h2 (an3 h3 tv))) ?_
    exact jD true hm Conv.eqK
   ·replace hm := if_f h3 hm
    refine RD hnt (.no :: o92 [] true r1 :: nn 4 (pF :: nn 3 (pF :: []))) [] [(19, pB (decide (p2 > 1048576)))] [] [] (an (Check_ref6Spec p0 r1 hr1) (an3 h2 (an3 h3 tv))) ?_
    exact jD (decide (p2 > 1048576)) hm Conv.eqK
abbrev o106 (ks : List Nat) (b : Bool) (RES : Hierarchy × Int × Int) : Orc := .call 73 ks b (.tup [.agg [ow 0 RES.1.tree.nodes.length, pI RES.1.tree.next, ow 1 RES.1.tasks.length, pI RES.1.next], pI RES.2.1, pI RES.2.2]) [] [roNode RES.1.tree.nodes, roTask RES.1.tasks]

theorem Task_Dice_madeSpec (p0 : Dice) (p1 : Hierarchy) (RES : Int × Dice) (hm : Task_Dice_made p0 p1 = some RES) : Spec Tryz.prog 39 [rr 0, .p (.agg (encHierarchy p1))] [.box (pm (encDice p0))] (pI RES.1) [.box (pm (encDice RES.2))] [] := by
 unfold Task_Dice_made at hm
 refine SO Tryz.func39 rfl rfl [(0, rr 0), (1, .p (.agg (encHierarchy p1)))] [(0, bx (pm (encDice p0)))] ?_
 intro cx hnt
 refine Sq (RD hnt (nn 2 []) [1] [(3, rr 1024)] [] [(1024, bx (pm (encHierarchy p1)))] tv ?_)
 obtain ⟨r1, hr1, hm⟩ := bo hm
 refine Sq (Sq ?_)
 refine Jn (ι := Bool) (fun (y1 : Bool) => mkSt [(0, rr 0), (3, rr 1024), (12, pB y1)] [(0, bx (pm (encDice r1.2))), (1024, bx (pm (encHierarchy p1)))]) (fun y1 => (Task_Dice_madeJ1 p1 r1) y1 = some RES) ?_ ?_
 ·intro y1 hm
  unfold Task_Dice_madeJ1 at hm
  refine condM hm ?_ ?_
  ·intro h3 hm
   obtain ⟨r4, hr4, hm⟩ := bo hm
   refine Sq (RK hnt (.no :: o71 [0] true r4 :: nn 2 []) [(4, pI (w64 (r4.1 - 1)))] [(0, bx (pm (encDice r4.2)))] (an (Next_Dice_madeSpec r1.2 9 r4 hr4) (an tv tv)) ?_)
   obtain rfl := sj hm
   exact DW.ret (retK [.box (pm (encDice r4.2))] [] (pI (w64 (r4.1 - 1))))
  ·intro h3 hm
   refine Sk ?_
   obtain ⟨r5, hr5, hm⟩ := bo hm
   obtain ⟨g6, hm⟩ := go1 hm
   refine Sq (RK hnt (nn 6 (o71 [0] true r5 :: nn 4 [])) [(4, pI (p1.tasks.getD (Int.toNat r5.1) dTask).id)] [(0, bx (pm (encDice r5.2)))] (an (Next_Dice_madeSpec r1.2 ((p1.tasks.length : Nat) : Int) r5 hr5) (an tv (an g6.1 (an g6.2 tv)))) ?_)
   obtain rfl := sj hm
   exact DW.ret (retK [.box (pm (encDice r5.2))] [] (pI (p1.tasks.getD (Int.toNat r5.1) dTask).id))
 ·rcases bt r1.1 with h2 | h2
  ·replace hm := if_t h2 hm
   refine RD hnt (.no :: o83 [0] true r1 :: .no :: sk 4 (pT :: [])) [] [(12, pB true)] [] [(0, bx (pm (encDice r1.2)))] (an (Bool_Dice_madeSpec p0 15 r1 hr1) (an tv (an5 h2 tv))) ?_
   exact jD true hm Conv.eqK
  ·replace hm := if_f h2 hm
   refine RD hnt (.no :: o83 [0] true r1 :: nn 5 (pF :: [])) [] [(12, pB (((p1.tasks.length : Nat) : Int) == 0))] [] [(0, bx (pm (encDice r1.2)))] (an (Bool_Dice_madeSpec p0 15 r1 hr1) (an tv (an5 h2 tv))) ?_
   exact jD (((p1.tasks.length : Nat) : Int) == 0) hm Conv.eqK
abbrev o108 (ks : List Nat) (b : Bool) (RES : Int × Dice) : Orc := .call 39 ks b (pI RES.1) [.box (pm (encDice RES.2))] []

theorem Clone_ref6Spec (p0 : Hierarchy) (p1 : Int) (RES : Hierarchy × Int × Int) (hm : Clone_ref6 p0 p1 = some RES) : Spec Tryz.prog 74 [.p (.agg (encHierarchy p0)), pI p1] [] (.tup [.agg [ow 0 RES.1.tree.nodes.length, pI RES.1.tree.next, ow 1 RES.1.tasks.length, pI RES.1.next], pI RES.2.1, pI RES.2.2]) [] [roNode RES.1.tree.nodes, roTask RES.1.tasks] := by
 unfold Clone_ref6 at hm
 refine SO Tryz.func74 rfl rfl [(0, .p (.agg (encHierarchy p0))), (1, pI p1)] [] ?_
 intro cx hnt
 refine Sq (RK hnt (nn 4 []) [(1, pI p1), (2, rr 1016), (4, rr 1032)] [(1016, bx (pm (encHierarchy p0))), (1032, bx [.p (.sl .nil 0 0 (fun _ => [])), pI 0, .p (.sl .nil 0 0 (fun _ => [])), pI 0])] tv ?_)
 obtain ⟨r1, hr1, hm⟩ := bo hm
 refine Sq (Sq (RD hnt (.no :: o92 [] true r1 :: .no :: []) [] [(11, pB (!r1))] [] [] (an (Check_ref6Spec p0 r1 hr1) tv) ?_))
 refine condM hm ?_ ?_
 ·intro h2 hm
  refine Sq (RD hnt (nn 4 []) [1, 2, 11] [(5, pI 0), (6, pI 1)] [1016] [] tv ?_)
  refine DW.cv [] [] [] [(1032, bx [ow 100000 0, pI 0, ow 100001 0, pI 0]), (100000, ob0 (roNode [])), (100001, ob0 (roTask []))] (Conv.ads [(.o 1032 0, 100000, 6, elems encNode dNode []), (.o 1032 2, 100001, 4, elems encTask dTask [])]) ?_
  obtain rfl := sj hm
  exact DW.ret (retK [roNode [], roTask []] [100000, 100001] (.tup [.agg [ow 0 0, pI 0, ow 1 0, pI 0], pI 0, pI 1]))
 ·intro h2 hm
  refine Sk ?_
  obtain ⟨r3, hr3, hm⟩ := bo hm
  refine Sq (RD hnt (nn 2 (o97 [] true r3 :: nn 6 [])) [1, 11] [(7, rr 1056), (8, pB r3.2)] [] [(1056, bx (pm (encTask r3.1)))] (an (Find_ref6Spec p0 p1 r3 hr3) tv) ?_)
  refine Sq (Sq (RD hnt (nn 2 []) [8] [(20, pB (!r3.2))] [] [] tv ?_))
  refine condM hm ?_ ?_
  ·intro h4 hm
   refine Sq (RD hnt (nn 4 []) [2, 7, 20] [(5, pI 0), (6, pI 4)] [1016, 1056] [] tv ?_)
   refine DW.cv [] [] [] [(1032, bx [ow 100000 0, pI 0, ow 100001 0, pI 0]), (100000, ob0 (roNode [])), (100001, ob0 (roTask []))] (Conv.ads [(.o 1032 0, 100000, 6, elems encNode dNode []), (.o 1032 2, 100001, 4, elems encTask dTask [])]) ?_
   obtain rfl := sj hm
   exact DW.ret (retK [roNode [], roTask []] [100000, 100001] (.tup [.agg [ow 0 0, pI 0, ow 1 0, pI 0], pI 0, pI 4]))
  ·intro h4 hm
   refine Sk ?_
   obtain ⟨r5, hr5, hm⟩ := bo hm
   refine Sq (RK hnt (nn 2 (o107 [] true r5 :: nn 6 [])) [(4, rr 1032), (5, pI r5.2.1), (6, pI r5.2.2)] [(1032, bx [ow 1192 r5.1.tree.nodes.length, pI r5.1.tree.next, ow 1193 r5.1.tasks.length, pI r5.1.next]), (1192, ob0 (roNode r5.1.tree.nodes)), (1193, ob0 (roTask r5.1.tasks))] (an (add_ref6Spec p0 r3.1 r5 hr5) tv) ?_)
   obtain rfl := sj hm
   exact DW.ret (retK [roNode r5.1.tree.nodes, roTask r5.1.tasks] [1192, 1193] (.tup [.agg [ow 0 r5.1.tree.nodes.length, pI r5.1.tree.next, ow 1 r5.1.tasks.length, pI r5.1.next], pI r5.2.1, pI r5.2.2]))
abbrev o109 (ks : List Nat) (b : Bool) (RES : Hierarchy × Int × Int) : Orc := .call 74 ks b (.tup [.agg [ow 0 RES.1.tree.nodes.length, pI RES.1.tree.next, ow 1 RES.1.tasks.length, pI RES.1.next], pI RES.2.1, pI RES.2.2]) [] [roNode RES.1.tree.nodes, roTask RES.1.tasks]

abbrev c111e1 (s1 : (List Task) × Int) (p2 : Int) := ({ id := (s1.1.getD (Int.toNat s1.2) dTask).id, process := (s1.1.getD (Int.toNat s1.2) dTask).process, group := p2, user := (s1.1.getD (Int.toNat s1.2) dTask).user } : Task)
abbrev c111e2 : Nat × Obj := (1048, bx [.p (.sl .nil 0 0 (fun _ => [])), pI 0, .p (.sl .nil 0 0 (fun _ => [])), pI 0])
abbrev c111e3 (s1 : (List Task) × Int) (p2 : Int) := (updF (elTask s1.1) (Int.toNat s1.2) [vi (s1.1.getD (Int.toNat s1.2) dTask).id, vi (s1.1.getD (Int.toNat s1.2) dTask).process, vi p2, vi (s1.1.getD (Int.toNat s1.2) dTask).user])
theorem Place_ref6Spec (p0 : Hierarchy) (p1 : Int) (p2 : Int) (RES : Hierarchy × Int) (hm : Place_ref6 p0 p1 p2 = some RES) : Spec Tryz.prog 101 [.p (.agg (encHierarchy p0)), pI p1, pI p2] [] (.tup [.agg [ow 0 RES.1.tree.nodes.length, pI RES.1.tree.next, ow 1 RES.1.tasks.length, pI RES.1.next], pI RES.2]) [] [roNode RES.1.tree.nodes, roTask RES.1.tasks] := by
 unfold Place_ref6 at hm
 refine SO Tryz.func101 rfl rfl [(0, .p (.agg (encHierarchy p0))), (1, pI p1), (2, pI p2)] [] ?_
 intro cx hnt
 refine Sq (RD hnt (nn 3 []) [0] [(3, rr 1024), (6, rr 1048)] [] [(1024, bx (pm (encHierarchy p0))), (c111e2)] tv ?_)
 obtain ⟨r1, hr1, hm⟩ := bo hm
 refine Sq (Sq (RD hnt (.no :: o92 [] true r1 :: .no :: []) [] [(14, pB (!r1))] [] [] (an (Check_ref6Spec p0 r1 hr1) tv) ?_))
 refine condM hm ?_ ?_
 ·intro h2 hm
  refine Sq (RD hnt (nn 3 []) [1, 2, 3, 14] [(7, pI 1)] [1024] [] tv ?_)
  refine DW.cv [] [] [] [(1048, bx [ow 100000 0, pI 0, ow 100001 0, pI 0]), (100000, ob0 (roNode [])), (100001, ob0 (roTask []))] (Conv.ads [(.o 1048 0, 100000, 6, elems encNode dNode []), (.o 1048 2, 100001, 4, elems encTask dTask [])]) ?_
  obtain rfl := sj hm
  exact DW.ret (retK [roNode [], roTask []] [100000, 100001] (.tup [.agg [ow 0 0, pI 0, ow 1 0, pI 0], pI 1]))
 ·intro h2 hm
  refine Sk ?_
  obtain ⟨r3, hr3, hm⟩ := bo hm
  refine Sq (Sq (RD hnt (nn 2 (o97 [] true r3 :: nn 6 [])) [14] [(9, pB r3.2)] [] [] (an (Find_ref6Spec p0 p1 r3 hr3) tv) ?_))
  refine Sq ?_
  refine Jn (ι := Bool) (fun (y1 : Bool) => mkSt [(1, pI p1), (2, pI p2), (3, rr 1024), (6, rr 1048), (30, pB y1)] [(1024, bx (pm (encHierarchy p0))), (c111e2)]) (fun y1 => (Place_ref6J1 p0 p1 p2) y1 = some RES) ?_ ?_
  ·intro y1 hm
   unfold Place_ref6J1 at hm
   refine condM hm ?_ ?_
   ·intro h6 hm
    refine Sq (RD hnt (nn 3 []) [1, 2, 3, 30] [(7, pI 4)] [1024] [] tv ?_)
    refine DW.cv [] [] [] [(1048, bx [ow 100000 0, pI 0, ow 100001 0, pI 0]), (100000, ob0 (roNode [])), (100001, ob0 (roTask []))] (Conv.ads [(.o 1048 0, 100000, 6, elems encNode dNode []), (.o 1048 2, 100001, 4, elems encTask dTask [])]) ?_
    obtain rfl := sj hm
    exact DW.ret (retK [roNode [], roTask []] [100000, 100001] (.tup [.agg [ow 0 0, pI 0, ow 1 0, pI 0], pI 4]))
   ·intro h6 hm
    refine Sk ?_
    obtain ⟨r7, hr7, hm⟩ := bo hm
    refine Sq (RD hnt (.no :: o102 [] true r7 :: nn 2 []) [3, 30] [(10, rr 1080)] [1024] [(1080, bx [ow 1264 r7.tree.nodes.length, pI r7.tree.next, ow 1265 r7.tasks.length, pI r7.next]), (1264, ob0 (roNode r7.tree.nodes)), (1265, ob0 (roTask r7.tasks))] (an (Copy_ref6Spec p0 r7 hr7) tv) ?_)
    refine Sq (Sq (RD hnt (.no :: []) [] [(11, pI 0)] [] [] tv ?_))
    refine Bk ?_
    refine DW.whileO (fun (s1 : (List Task) × Int) => mkSt [(1, pI p1), (2, pI p2), (6, rr 1048), (10, rr 1080), (11, pI s1.2)] [(c111e2), (1080, bx [ow 1264 r7.tree.nodes.length, pI r7.tree.next, ow 1265 s1.1.length, pI r7.next]), (1264, ob0 (roNode r7.tree.nodes)), (1265, ob0 (roTask s1.1))]) hm Conv.eqK ?_
    intro s1 n1 hm
    unfold Place_ref6L1 at hm
    refine Sq (Sq (RD hnt (nn 5 []) [] [(38, pB (decide (s1.2 < ((s1.1.length : Nat) : Int))))] [] [] tv ?_))
    refine condM hm ?_ ?_
    ·intro h14 hm
     refine Sk ?_
     refine Sq ?_
     refine Jn (ι := List Task) (fun (y3 : List Task) => mkSt [(1, pI p1), (2, pI p2), (6, rr 1048), (10, rr 1080), (11, pI s1.2)] [(c111e2), (1080, bx [ow 1264 r7.tree.nodes.length, pI r7.tree.next, ow 1265 y3.length, pI r7.next]), (1264, ob0 (roNode r7.tree.nodes)), (1265, ob0 (roTask y3))]) (fun y3 => (Place_ref6J3 s1 n1) y3 = some RES) ?_ ?_
     ·intro y3 hm
      unfold Place_ref6J3 at hm
      refine RD hnt (nn 3 []) [] [(11, pI (w64 (s1.2 + 1)))] [] [] tv ?_
      exact jD (y3, (w64 (s1.2 + 1))) hm Conv.eqK
     ·refine Bk ?_
      obtain ⟨g15, g16, hm⟩ := go2 hm
      refine Sq (RD hnt (nn 8 []) [38] [(48, pB ((s1.1.getD (Int.toNat s1.2) dTask).id == p1))] [] [] (an g15.1 (an g15.2 (an g16 tv))) ?_)
      refine condM hm ?_ ?_
      ·intro h17 hm
       obtain ⟨g18, g19, hm⟩ := go2 hm
       refine RN hnt (nn 7 []) [(1, pI p1), (2, pI p2), (6, rr 1048), (10, rr 1080), (11, pI s1.2)] [(c111e2), (1080, bx [ow 1264 r7.tree.nodes.length, pI r7.tree.next, ow 1265 (s1.1.set (Int.toNat s1.2) (c111e1 s1 p2)).length, pI r7.next]), (1264, ob0 (roNode r7.tree.nodes)), (1265, ob0 (roTask (s1.1.set (Int.toNat s1.2) (c111e1 s1 p2))))] [] [(1080, .box [ow 1264 r7.tree.nodes.length, pI r7.tree.next, ow 1265 s1.1.length, pI r7.next]), (1265, .row 4 s1.1.length (c111e3 s1 p2))] (an g18.1 (an g18.2 (an g19 tv))) (by kernel_rfl) .nil (.cons rfl (.box (.cons .rfl (.cons .rfl (.cons (MLe.ownLen (enc := encTask) (d := dTask) (f := (c111e3 s1 p2)) (RowIs.upd RowIs.elems (c111e1 s1 p2) rfl)) (.cons .rfl .nil))))) (.cons rfl (BLe.typed (RowIs.upd RowIs.elems (c111e1 s1 p2) rfl)) .nil)) ?_
       exact bD (s1.1.set (Int.toNat s1.2) (c111e1 s1 p2)) hm .refl
      ·intro h17 hm
       refine Sk ?_
       exact bD s1.1 hm Conv.t0
    ·intro h14 hm
     refine DW.exit ?_
     refine joinQ_exit ?_
     refine KQ_exit ?_
     refine blockQ_exit ?_
     show DW _ _ _ _ _
     refine Sq (RD hnt (nn 3 []) [1, 2, 10, 11, 38] [(7, pI 0)] [1080] [(1048, bx [ow 1264 r7.tree.nodes.length, pI r7.tree.next, ow 1265 s1.1.length, pI r7.next])] tv ?_)
     obtain rfl := sj hm
     exact DW.ret (retK [roNode r7.tree.nodes, roTask s1.1] [1264, 1265] (.tup [.agg [ow 0 r7.tree.nodes.length, pI r7.tree.next, ow 1 s1.1.length, pI r7.next], pI 0]))
  ·rcases bt (!r3.2) with h4 | h4
   ·replace hm := if_t h4 hm
    refine RD hnt (nn 3 (sk 5 (pT :: []))) [9] [(30, pB true)] [] [] (an6 h4 tv) ?_
    exact jD true hm Conv.eqK
   ·replace hm := if_f h4 hm
    obtain ⟨r5, hr5, hm⟩ := bo hm
    refine RD hnt (nn 6 (o78 [] true r5 :: .no :: pF :: [])) [9] [(30, pB (!r5))] [] [] (an4 h4 (an (Has_ref5Spec p0.tree p2 r5 hr5) (an2 h4 tv))) ?_
    exact jD (!r5) hm Conv.eqK
abbrev o111 (ks : List Nat) (b : Bool) (RES : Hierarchy × Int) : Orc := .call 101 ks b (.tup [.agg [ow 0 RES.1.tree.nodes.length, pI RES.1.tree.next, ow 1 RES.1.tasks.length, pI RES.1.next], pI RES.2]) [] [roNode RES.1.tree.nodes, roTask RES.1.tasks]

abbrev c110e1 : Nat × Obj := (1048, bx [ow 100000 0, pI 0, ow 100001 0, pI 0])
abbrev c110e2 : Nat × Obj := (1048, bx [.p (.sl .nil 0 0 (fun _ => [])), pI 0, .p (.sl .nil 0 0 (fun _ => [])), pI 0])
theorem AttachThread_ref8Spec (p0 : Hierarchy) (p1 : Int) (p2 : Int) (RES : Hierarchy × Int) (hm : AttachThread_ref8 p0 p1 p2 = some RES) : Spec Tryz.prog 51 [.p (.agg (encHierarchy p0)), pI p1, pI p2] [] (.tup [.agg [ow 0 RES.1.tree.nodes.length, pI RES.1.tree.next, ow 1 RES.1.tasks.length, pI RES.1.next], pI RES.2]) [] [roNode RES.1.tree.nodes, roTask RES.1.tasks] := by
 unfold AttachThread_ref8 at hm
 refine SO Tryz.func51 rfl rfl [(0, .p (.agg (encHierarchy p0))), (1, pI p1), (2, pI p2)] [] ?_
 intro cx hnt
 refine Sq (RD hnt (nn 3 []) [0] [(3, rr 1024), (6, rr 1048)] [] [(1024, bx (pm (encHierarchy p0))), (c110e2)] tv ?_)
 obtain ⟨r1, hr1, hm⟩ := bo hm
 refine Sq (Sq (RD hnt (.no :: o90 [] true r1 :: .no :: []) [] [(17, pB (!r1))] [] [] (an (Fits_ref8Spec p0 r1 hr1) tv) ?_))
 refine condM hm ?_ ?_
 ·intro h2 hm
  refine Sq (RD hnt (nn 3 []) [1, 2, 3, 17] [(7, pI 1)] [1024] [] tv ?_)
  refine DW.cv [] [] [] [(c110e1), (100000, ob0 (roNode [])), (100001, ob0 (roTask []))] (Conv.ads [(.o 1048 0, 100000, 6, elems encNode dNode []), (.o 1048 2, 100001, 4, elems encTask dTask [])]) ?_
  obtain rfl := sj hm
  exact DW.ret (retK [roNode [], roTask []] [100000, 100001] (.tup [.agg [ow 0 0, pI 0, ow 1 0, pI 0], pI 1]))
 ·intro h2 hm
  refine Sk ?_
  obtain ⟨r3, hr3, hm⟩ := bo hm
  refine Sq (RD hnt (nn 2 (o97 [] true r3 :: nn 6 [])) [17] [(8, rr 1064), (9, pB r3.2)] [] [(1064, bx (pm (encTask r3.1)))] (an (Find_ref6Spec p0 p1 r3 hr3) tv) ?_)
  refine Sq (Sq ?_)
  refine Jn (ι := Bool) (fun (y1 : Bool) => mkSt [(1, pI p1), (2, pI p2), (3, rr 1024), (6, rr 1048), (8, rr 1064), (33, pB y1)] [(1024, bx (pm (encHierarchy p0))), (c110e2), (1064, bx (pm (encTask r3.1)))]) (fun y1 => (AttachThread_ref8J1 p0 p1 p2 r3) y1 = some RES) ?_ ?_
  ·intro y1 hm
   unfold AttachThread_ref8J1 at hm
   refine condM hm ?_ ?_
   ·intro h6 hm
    refine Sq (RD hnt (nn 3 []) [1, 2, 3, 8, 33] [(7, pI 4)] [1024, 1064] [] tv ?_)
    refine DW.cv [] [] [] [(c110e1), (100000, ob0 (roNode [])), (100001, ob0 (roTask []))] (Conv.ads [(.o 1048 0, 100000, 6, elems encNode dNode []), (.o 1048 2, 100001, 4, elems encTask dTask [])]) ?_
    obtain rfl := sj hm
    exact DW.ret (retK [roNode [], roTask []] [100000, 100001] (.tup [.agg [ow 0 0, pI 0, ow 1 0, pI 0], pI 4]))
   ·intro h6 hm
    refine Sk ?_
    obtain ⟨r7, hr7, hm⟩ := bo hm
    refine Sq (Sq (RD hnt (nn 2 (o105 [] true r7 :: .no :: [])) [33] [(10, pI r7)] [] [] (an (Admits_ref8Spec p0 p2 r7 hr7) tv) ?_))
    refine Sq (RD hnt (nn 2 []) [] [(39, pB (r7 != 0))] [] [] tv ?_)
    refine condM hm ?_ ?_
    ·intro h8 hm
     refine Sq (RD hnt (nn 4 []) [1, 2, 3, 8, 10, 39] [(7, pI r7)] [1024, 1064] [] tv ?_)
     refine DW.cv [] [] [] [(c110e1), (100000, ob0 (roNode [])), (100001, ob0 (roTask []))] (Conv.ads [(.o 1048 0, 100000, 6, elems encNode dNode []), (.o 1048 2, 100001, 4, elems encTask dTask [])]) ?_
     obtain rfl := sj hm
     exact DW.ret (retK [roNode [], roTask []] [100000, 100001] (.tup [.agg [ow 0 0, pI 0, ow 1 0, pI 0], pI r7]))
    ·intro h8 hm
     refine Sk ?_
     obtain ⟨r9, hr9, hm⟩ := bo hm
     refine Sq (RD hnt (nn 3 (o98 [] true r9 :: nn 5 [])) [10, 39] [(11, pI r9.1)] [] [] (an (Domain_ref8Spec p0.tree p2 r9 hr9) tv) ?_)
     obtain ⟨r10, hr10, hm⟩ := bo hm
     refine Sq (Sq (RD hnt (nn 4 (o98 [] true r10 :: nn 5 [])) [8] [(13, pI r10.1)] [1064] [] (an (Domain_ref8Spec p0.tree r3.1.group r10 hr10) tv) ?_))
     refine Sq (RD hnt (nn 3 []) [11, 13] [(59, pB (r9.1 != r10.1))] [] [] tv ?_)
     refine condM hm ?_ ?_
     ·intro h11 hm
      refine Sq (RD hnt (nn 3 []) [1, 2, 3, 59] [(7, pI 9)] [1024] [] tv ?_)
      refine DW.cv [] [] [] [(c110e1), (100000, ob0 (roNode [])), (100001, ob0 (roTask []))] (Conv.ads [(.o 1048 0, 100000, 6, elems encNode dNode []), (.o 1048 2, 100001, 4, elems encTask dTask [])]) ?_
      obtain rfl := sj hm
      exact DW.ret (retK [roNode [], roTask []] [100000, 100001] (.tup [.agg [ow 0 0, pI 0, ow 1 0, pI 0], pI 9]))
     ·intro h11 hm
      refine Sk ?_
      obtain ⟨r12, hr12, hm⟩ := bo hm
      refine Sq (RK hnt (nn 3 (o111 [] true r12 :: nn 4 [])) [(6, rr 1048), (7, pI r12.2)] [(1048, bx [ow 1512 r12.1.tree.nodes.length, pI r12.1.tree.next, ow 1513 r12.1.tasks.length, pI r12.1.next]), (1512, ob0 (roNode r12.1.tree.nodes)), (1513, ob0 (roTask r12.1.tasks))] (an (Place_ref6Spec p0 p1 p2 r12 hr12) tv) ?_)
      obtain rfl := sj hm
      exact DW.ret (retK [roNode r12.1.tree.nodes, roTask r12.1.tasks] [1512, 1513] (.tup [.agg [ow 0 r12.1.tree.nodes.length, pI r12.1.tree.next, ow 1 r12.1.tasks.length, pI r12.1.next], pI r12.2]))
  ·rcases bt (!r3.2) with h4 | h4
   ·replace hm := if_t h4 hm
    refine RD hnt (nn 3 (sk 5 (pT :: []))) [9] [(33, pB true)] [] [] (an6 h4 tv) ?_
    exact jD true hm Conv.eqK
   ·replace hm := if_f h4 hm
    obtain ⟨r5, hr5, hm⟩ := bo hm
    refine RD hnt (nn 6 (o78 [] true r5 :: .no :: pF :: [])) [9] [(33, pB (!r5))] [] [] (an4 h4 (an (Has_ref5Spec p0.tree p2 r5 hr5) (an2 h4 tv))) ?_
    exact jD (!r5) hm Conv.eqK
abbrev o110 (ks : List Nat) (b : Bool) (RES : Hierarchy × Int) : Orc := .call 51 ks b (.tup [.agg [ow 0 RES.1.tree.nodes.length, pI RES.1.tree.next, ow 1 RES.1.tasks.length, pI RES.1.next], pI RES.2]) [] [roNode RES.1.tree.nodes, roTask RES.1.tasks]

abbrev c112e1 (p0 : Hierarchy) (k1 : Nat) := (p0.tasks.getD k1 (default : Task))
abbrev c112e2 : Nat × Obj := (1032, bx [.p (.sl .nil 0 0 (fun _ => [])), pI 0, .p (.sl .nil 0 0 (fun _ => [])), pI 0])
abbrev c112e3 (p0 : Hierarchy) : Nat × Obj := (1016, bx (pm (encHierarchy p0)))
theorem Exit_ref6Spec (p0 : Hierarchy) (p1 : Int) (RES : Hierarchy × Int) (hm : Exit_ref6 p0 p1 = some RES) : Spec Tryz.prog 75 [.p (.agg (encHierarchy p0)), pI p1] [] (.tup [.agg [ow 0 RES.1.tree.nodes.length, pI RES.1.tree.next, ow 1 RES.1.tasks.length, pI RES.1.next], pI RES.2]) [] [roNode RES.1.tree.nodes, roTask RES.1.tasks] := by
 unfold Exit_ref6 at hm
 refine SO Tryz.func75 rfl rfl [(0, .p (.agg (encHierarchy p0))), (1, pI p1)] [] ?_
 intro cx hnt
 refine Sq (RK hnt (nn 3 []) [(1, pI p1), (2, rr 1016), (4, rr 1032)] [(c112e3 p0), (c112e2)] tv ?_)
 obtain ⟨r1, hr1, hm⟩ := bo hm
 refine Sq (Sq (RD hnt (.no :: o92 [] true r1 :: .no :: []) [] [(13, pB (!r1))] [] [] (an (Check_ref6Spec p0 r1 hr1) tv) ?_))
 refine condM hm ?_ ?_
 ·intro h2 hm
  refine Sq (RD hnt (nn 3 []) [1, 2, 13] [(5, pI 1)] [1016] [] tv ?_)
  refine DW.cv [] [] [] [(1032, bx [ow 100000 0, pI 0, ow 100001 0, pI 0]), (100000, ob0 (roNode [])), (100001, ob0 (roTask []))] (Conv.ads [(.o 1032 0, 100000, 6, elems encNode dNode []), (.o 1032 2, 100001, 4, elems encTask dTask [])]) ?_
  obtain rfl := sj hm
  exact DW.ret (retK [roNode [], roTask []] [100000, 100001] (.tup [.agg [ow 0 0, pI 0, ow 1 0, pI 0], pI 1]))
 ·intro h2 hm
  refine Sk ?_
  obtain ⟨r3, hr3, hm⟩ := bo hm
  refine Sq (Sq (RD hnt (nn 2 (o97 [] true r3 :: nn 6 [])) [13] [(7, pB r3.2)] [] [] (an (Find_ref6Spec p0 p1 r3 hr3) tv) ?_))
  refine Sq (RD hnt (nn 2 []) [7] [(22, pB (!r3.2))] [] [] tv ?_)
  refine condM hm ?_ ?_
  ·intro h4 hm
   refine Sq (RD hnt (nn 3 []) [1, 2, 22] [(5, pI 4)] [1016] [] tv ?_)
   refine DW.cv [] [] [] [(1032, bx [ow 100000 0, pI 0, ow 100001 0, pI 0]), (100000, ob0 (roNode [])), (100001, ob0 (roTask []))] (Conv.ads [(.o 1032 0, 100000, 6, elems encNode dNode []), (.o 1032 2, 100001, 4, elems encTask dTask [])]) ?_
   obtain rfl := sj hm
   exact DW.ret (retK [roNode [], roTask []] [100000, 100001] (.tup [.agg [ow 0 0, pI 0, ow 1 0, pI 0], pI 4]))
  ·intro h4 hm
   refine Sk ?_
   obtain ⟨r5, hr5, hm⟩ := bo hm
   refine Sq (RD hnt (nn 2 (o82 [] true r5 :: nn 5 [])) [22] [(8, rr 1064)] [] [(1064, bx [ow 1208 r5.nodes.length, pI r5.next, .p (.sl .nil 0 0 (fun _ => [])), pI p0.next]), (1208, ob0 (roNode r5.nodes))] (an (Copy_ref5Spec p0.tree r5 hr5) tv) ?_)
   refine Sq (Sq (RD hnt (.no :: []) [] [(9, pI 0)] [] [] tv ?_))
   refine Bk ?_
   obtain ⟨hc1, hm⟩ := go1 hm
   refine DW.rangeO (fun (k1 : Nat) (s1 : List Task) => mkSt [(1, pI p1), (2, rr 1016), (4, rr 1032), (8, rr 1064), (9, pI ((k1 : Nat) : Int))] [(c112e3 p0), (c112e2), (1064, bx [ow 1208 r5.nodes.length, pI r5.next, ow 1448 s1.length, pI p0.next]), (1208, ob0 (roNode r5.nodes)), (1448, ob0 (roTask s1))]) dTask hm (Conv.ads [(.o 1064 2, 1448, 4, elems encTask dTask [])]) ?_
   intro k1 s1 n1 hk1 hs1 he1
   refine Sq (Sq (RD hnt (nn 5 []) [] [(34, pB (decide (((k1 : Nat) : Int) < ((p0.tasks.length : Nat) : Int))))] [] [] tv ?_))
   refine condK (decide (((k1 : Nat) : Int) < ((p0.tasks.length : Nat) : Int))) ?_ ?_
   ·intro h15
    have hlt1 : k1 < p0.tasks.length := by have := of_decide_eq_true h15; omega
    have hm := hs1 hlt1
    unfold Exit_ref6L1 at hm
    refine Sk ?_
    refine Sq ?_
    refine Jn (ι := List Task) (fun (y3 : List Task) => mkSt [(1, pI p1), (2, rr 1016), (4, rr 1032), (8, rr 1064), (9, pI ((k1 : Nat) : Int))] [(c112e3 p0), (c112e2), (1064, bx [ow 1208 r5.nodes.length, pI r5.next, ow 1448 y3.length, pI p0.next]), (1208, ob0 (roNode r5.nodes)), (1448, ob0 (roTask y3))]) (fun y3 => (Exit_ref6J3 n1) y3 = some RES) ?_ ?_
    ·intro y3 hm
     unfold Exit_ref6J3 at hm
     refine RD hnt (nn 3 []) [] [(9, pI (w64 (((k1 : Nat) : Int) + 1)))] [] [] tv ?_
     exact jD y3 ⟨hlt1, hm⟩ (Conv.tp [(9, pI (w64 (((k1 : Nat) : Int) + 1)))] [] (by kernel_rfl) (.cons rfl (.of_eq (congrArg pI (w64_succ hlt1 hc1))) .nil) .nil)
    ·refine Bk ?_
     refine Sq (RD hnt (nn 7 []) [34] [(10, rr 1080)] [] [(1080, bx (pm (encTask (c112e1 p0 k1))))] (an (nn0 k1) (an (ltc hlt1) tv)) ?_)
     refine Sq (DW.regJ (sl2 := [(1, pI p1), (2, rr 1016), (4, rr 1032), (8, rr 1064), (9, pI ((k1 : Nat) : Int)), (10, rr 1080), (51, pB (((c112e1 p0 k1).id != p1) && ((c112e1 p0 k1).process != p1)))]) (ob2 := [(c112e3 p0), (c112e2), (1064, bx [ow 1208 r5.nodes.length, pI r5.next, ow 1448 s1.length, pI p0.next]), (1080, bx (pm (encTask (c112e1 p0 k1)))), (1208, ob0 (roNode r5.nodes)), (1448, ob0 (roTask s1))]) ?_ ?_)
     ·rcases bt ((c112e1 p0 k1).id != p1) with h16 | h16
      ·exact RT hnt (nn 9 (pT :: [])) [(51, pB ((c112e1 p0 k1).process != p1))] (an5 h16 tv) (by kernel_rfl) (.cons rfl (.of_eq (by rw [h16]; try rfl)) .nil)
      ·exact RT hnt (nn 5 (sk 4 (pF :: []))) [(51, pB false)] (an5 h16 tv) (by kernel_rfl) (.cons rfl (.of_eq (by rw [h16]; try rfl)) .nil)
     ·refine condM hm ?_ ?_
      ·intro h17 hm
       obtain ⟨g18, hm⟩ := go1 hm
       refine RN hnt (nn 7 []) [(1, pI p1), (2, rr 1016), (4, rr 1032), (8, rr 1064), (9, pI ((k1 : Nat) : Int))] [(c112e3 p0), (c112e2), (1064, bx [ow 1208 r5.nodes.length, pI r5.next, ow 1448 (s1 ++ [(c112e1 p0 k1)]).length, pI p0.next]), (1208, ob0 (roNode r5.nodes)), (1448, ob0 (roTask (s1 ++ [(c112e1 p0 k1)])))] [] [(1064, .box [ow 1208 r5.nodes.length, pI r5.next, ow 1448 (s1.length + 1), pI p0.next]), (1448, .row 4 (s1.length + 1) (catF s1.length (elTask s1) (cut 4 [vi (c112e1 p0 k1).id, vi (c112e1 p0 k1).process, vi (c112e1 p0 k1).group, vi (c112e1 p0 k1).user])))] (an (by omega : (s1.length + 1) * 32 ≤ 140737488355328) tv) (by kernel_rfl) .nil (.cons rfl (.box (.cons .rfl (.cons .rfl (.cons (MLe.ownLen (enc := encTask) (d := dTask) (f := (catF s1.length (elTask s1) (cut 4 [vi (c112e1 p0 k1).id, vi (c112e1 p0 k1).process, vi (c112e1 p0 k1).group, vi (c112e1 p0 k1).user]))) (RowIs.cat RowIs.elems (RowIs.lit (enc := encTask) (d := dTask) (n := 1) (f := (cut 4 [vi (c112e1 p0 k1).id, vi (c112e1 p0 k1).process, vi (c112e1 p0 k1).group, vi (c112e1 p0 k1).user])) [(c112e1 p0 k1)] rfl (fun | 0, _ => rfl | n + 1, h => absurd h (by omega))))) (.cons .rfl .nil))))) (.cons rfl (BLe.typed (RowIs.cat RowIs.elems (RowIs.lit (enc := encTask) (d := dTask) (n := 1) (f := (cut 4 [vi (c112e1 p0 k1).id, vi (c112e1 p0 k1).process, vi (c112e1 p0 k1).group, vi (c112e1 p0 k1).user])) [(c112e1 p0 k1)] rfl (fun | 0, _ => rfl | n + 1, h => absurd h (by omega))))) .nil)) ?_
       exact bD (s1 ++ [(c112e1 p0 k1)]) hm .refl
      ·intro h17 hm
       refine Sk ?_
       exact bD s1 hm Conv.t0
   ·intro h15
    have hge1 : ¬ k1 < p0.tasks.length := by have := of_decide_eq_false h15; omega
    have hm := he1 hge1
    unfold Exit_ref6D1 at hm
    refine DW.exit ?_
    refine joinQ_exit ?_
    refine KQ_exit ?_
    refine blockQ_exit ?_
    show DW _ _ _ _ _
    refine Sq (RD hnt (nn 3 []) [1, 2, 8, 9, 34] [(5, pI 0)] [1016, 1064] [(1032, bx [ow 1208 r5.nodes.length, pI r5.next, ow 1448 s1.length, pI p0.next])] tv ?_)
    obtain rfl := sj hm
    exact DW.ret (retK [roNode r5.nodes, roTask s1] [1208, 1448] (.tup [.agg [ow 0 r5.nodes.length, pI r5.next, ow 1 s1.length, pI p0.next], pI 0]))
abbrev o112 (ks : List Nat) (b : Bool) (RES : Hierarchy × Int) : Orc := .call 75 ks b (.tup [.agg [ow 0 RES.1.tree.nodes.length, pI RES.1.tree.next, ow 1 RES.1.tasks.length, pI RES.1.next], pI RES.2]) [] [roNode RES.1.tree.nodes, roTask RES.1.tasks]

abbrev c69e1 : Nat × Obj := (1048, bx [.p (.sl .nil 0 0 (fun _ => [])), pI 0, .p (.sl .nil 0 0 (fun _ => [])), pI 0])
theorem Hierarchy_Dice_madeSpec (p0 : Dice) (p1 : Int) (p2 : Int) (RES : Hierarchy × Dice) (hm : Hierarchy_Dice_made p0 p1 p2 = some RES) : Spec Tryz.prog 18 [rr 0, pI p1, pI p2] [.box (pm (encDice p0))] (.p (.agg (encHierarchy RES.1))) [.box (pm (encDice RES.2))] [] := by
 unfold Hierarchy_Dice_made at hm
 refine SO Tryz.func18 rfl rfl [(0, rr 0), (1, pI p1), (2, pI p2)] [(0, bx (pm (encDice p0)))] ?_
 intro cx hnt
 refine Sq (RD hnt (.no :: []) [] [(6, rr 1048)] [] [(c69e1)] tv ?_)
 obtain ⟨r1, hr1, hm⟩ := bo hm
 refine Sq (RD hnt (o4 [] true r1 :: nn 2 []) [] [(7, rr 1056)] [] [(1056, bx [ow 1168 r1.tree.nodes.length, pI r1.tree.next, ow 1169 r1.tasks.length, pI r1.next]), (1168, ob0 (roNode r1.tree.nodes)), (1169, ob0 (roTask r1.tasks))] (an (New_ref6Spec r1 hr1) tv) ?_)
 obtain ⟨r2, hr2, hm⟩ := bo hm
 refine Sq (RD hnt (nn 2 (o70 [0] true r2 :: nn 2 [])) [] [] [1168] [(0, bx (pm (encDice r2.2))), (1056, bx [.p (slNode r2.1.nodes), pI r2.1.next, ow 1169 r1.tasks.length, pI r1.next])] (an (Tree_Dice_madeSpec p0 p1 r2 hr2) (an tv tv)) ?_)
 obtain ⟨r3, hr3, hm⟩ := bo hm
 refine Sq (Sq (RD hnt (nn 3 (o71 [0] true r3 :: .no :: [])) [1] [(8, pI r3.1)] [] [(0, bx (pm (encDice r3.2)))] (an (Next_Dice_madeSpec r2.2 (w64 (p1 + 3)) r3 hr3) (an tv tv)) ?_))
 refine Bk ?_
 refine DW.whileO (fun (s1 : Dice × Hierarchy × Int) => mkSt [(0, rr 0), (2, pI p2), (6, rr 1048), (7, rr 1056), (8, pI s1.2.2)] [(0, bx (pm (encDice s1.1))), (c69e1), (1056, bx (pm (encHierarchy s1.2.1)))]) hm (Conv.frz [1169]) ?_
 intro s1 n1 hm
 unfold Hierarchy_Dice_madeL1 at hm
 refine Sq (Sq (RD hnt (nn 2 []) [] [(31, pB (decide (s1.2.2 > 0)))] [] [] tv ?_))
 refine condM hm ?_ ?_
 ·intro h56 hm
  refine Sk ?_
  refine Sq (Bk ?_)
  obtain ⟨r57, hr57, hm⟩ := bo hm
  refine RD hnt (nn 2 (o86 [0] true r57 :: .no :: [])) [31] [] [] [(0, bx (pm (encDice r57.2))), (1056, bx (pm (encHierarchy r57.1)))] (an (step_Dice_madeSpec s1.1 s1.2.1 r57 hr57) (an tv tv)) ?_
  refine DW.done ?_
  show DW _ _ _ _ _
  refine RD hnt (nn 3 []) [] [(8, pI (w64 (s1.2.2 - 1)))] [] [] tv ?_
  exact jD (r57.2, r57.1, (w64 (s1.2.2 - 1))) hm Conv.eqK
 ·intro h56 hm
  refine DW.exit ?_
  refine joinQ_exit ?_
  refine KQ_exit ?_
  refine blockQ_exit ?_
  show DW _ _ _ _ _
  obtain ⟨r58, hr58, hm⟩ := bo hm
  refine Sq (Sq (RD hnt (nn 3 (o71 [0] true r58 :: .no :: [])) [2, 8, 31] [(9, pI r58.1)] [] [(0, bx (pm (encDice r58.2)))] (an (Next_Dice_madeSpec s1.1 (w64 (p2 + 1)) r58 hr58) (an tv tv)) ?_))
  refine Bk ?_
  refine DW.whileO (fun (s3 : Dice × Hierarchy × Int) => mkSt [(0, rr 0), (6, rr 1048), (7, rr 1056), (9, pI s3.2.2)] [(0, bx (pm (encDice s3.1))), (c69e1), (1056, bx (pm (encHierarchy s3.2.1)))]) hm Conv.eqK ?_
  intro s3 n3 hm
  unfold Hierarchy_Dice_madeL3 at hm
  refine Sq (Sq (RD hnt (nn 2 []) [] [(42, pB (decide (s3.2.2 > 0)))] [] [] tv ?_))
  refine condM hm ?_ ?_
  ·intro h82 hm
   refine Sk ?_
   refine Sq ?_
   refine Jn (ι := Dice × Hierarchy) (fun (y13 : Dice × Hierarchy) => mkSt [(0, rr 0), (6, rr 1048), (7, rr 1056), (9, pI s3.2.2)] [(0, bx (pm (encDice y13.1))), (c69e1), (1056, bx (pm (encHierarchy y13.2)))]) (fun y13 => (Hierarchy_Dice_madeJ13 s3 n3) y13 = some RES) ?_ ?_
   ·intro y13 hm
    unfold Hierarchy_Dice_madeJ13 at hm
    refine RD hnt (nn 3 []) [] [(9, pI (w64 (s3.2.2 - 1)))] [] [] tv ?_
    exact jD (y13.1, y13.2, (w64 (s3.2.2 - 1))) hm Conv.eqK
   ·refine Bk ?_
    obtain ⟨r83, hr83, hm⟩ := bo hm
    refine Sq (RD hnt (nn 3 (o87 [0] true r83 :: .no :: [])) [42] [(10, pI r83.1)] [] [(0, bx (pm (encDice r83.2)))] (an (Group_Dice_madeSpec s3.1 s3.2.1.tree r83 hr83) (an tv tv)) ?_)
    obtain ⟨r84, hr84, hm⟩ := bo hm
    refine Sq (Sq (RD hnt (nn 2 (o105 [] true r84 :: .no :: [])) [] [(52, pB (r84 != 0))] [] [] (an (Admits_ref8Spec s3.2.1 r83.1 r84 hr84) tv) ?_))
    refine condM hm ?_ ?_
    ·intro h85 hm
     refine DW.exit ?_
     exact blockQ_exit (joinKQ (r83.2, s3.2.1) hm Conv.t0)
    ·intro h85 hm
     refine Sk ?_
     obtain ⟨r86, hr86, hm⟩ := bo hm
     obtain ⟨r87, hr87, hm⟩ := bo hm
     refine Sq (Sq (RD hnt (nn 3 (o71 [0] true r86 :: o106 [] true r87 :: nn 8 [])) [10, 52] [(11, rr 1088), (13, pI r87.2.2)] [] [(0, bx (pm (encDice r86.2))), (1088, bx [ow 1464 r87.1.tree.nodes.length, pI r87.1.tree.next, ow 1465 r87.1.tasks.length, pI r87.1.next]), (1464, ob0 (roNode r87.1.tree.nodes)), (1465, ob0 (roTask r87.1.tasks))] (an (Next_Dice_madeSpec r83.2 3 r86 hr86) (an tv (an (Spawn_ref6Spec s3.2.1 r83.1 r86.1 r87 hr87) tv))) ?_))
     refine Sq (RD hnt (nn 2 []) [13] [(63, pB (r87.2.2 == 0))] [] [] tv ?_)
     refine Jn (ι := Hierarchy) (fun (y14 : Hierarchy) => mkSt [(0, rr 0), (6, rr 1048), (7, rr 1056), (9, pI s3.2.2)] [(0, bx (pm (encDice r86.2))), (c69e1), (1056, bx (pm (encHierarchy y14)))]) (fun y14 => (Hierarchy_Dice_madeJ14 s3 n3 r86) y14 = some RES) ?_ ?_
     ·intro y14 hm
      unfold Hierarchy_Dice_madeJ14 at hm
      obtain ⟨r89, hr89, hm⟩ := bo hm
      refine Sq (Sq (RD hnt (.no :: o83 [0] true r89 :: []) [] [(66, pB r89.1)] [] [(0, bx (pm (encDice r89.2)))] (an (Bool_Dice_madeSpec r86.2 3 r89 hr89) (an tv tv)) ?_))
      refine Jn (ι := Dice × Hierarchy) (fun (y15 : Dice × Hierarchy) => mkSt [(0, rr 0), (6, rr 1048), (7, rr 1056), (9, pI s3.2.2)] [(0, bx (pm (encDice y15.1))), (c69e1), (1056, bx (pm (encHierarchy y15.2)))]) (fun y15 => (Hierarchy_Dice_madeJ15 s3 n3) y15 = some RES) ?_ ?_
      ·intro y15 hm
       unfold Hierarchy_Dice_madeJ15 at hm
       obtain ⟨r94, hr94, hm⟩ := bo hm
       refine Sq (Sq (RD hnt (.no :: o83 [0] true r94 :: []) [] [(80, pB r94.1)] [] [(0, bx (pm (encDice r94.2)))] (an (Bool_Dice_madeSpec y15.1 4 r94 hr94) (an tv tv)) ?_))
       refine Jn (ι := Dice × Hierarchy) (fun (y16 : Dice × Hierarchy) => mkSt [(0, rr 0), (6, rr 1048), (7, rr 1056), (9, pI s3.2.2)] [(0, bx (pm (encDice y16.1))), (c69e1), (1056, bx (pm (encHierarchy y16.2)))]) (fun y16 => (Hierarchy_Dice_madeJ16 s3 n3) y16 = some RES) ?_ ?_
       ·intro y16 hm
        unfold Hierarchy_Dice_madeJ16 at hm
        obtain ⟨r100, hr100, hm⟩ := bo hm
        refine Sq (RD hnt (.no :: o83 [0] true r100 :: []) [] [(97, pB r100.1)] [] [(0, bx (pm (encDice r100.2)))] (an (Bool_Dice_madeSpec y16.1 8 r100 hr100) (an tv tv)) ?_)
        refine condM hm ?_ ?_
        ·intro h101 hm
         obtain ⟨r102, hr102, hm⟩ := bo hm
         obtain ⟨r103, hr103, hm⟩ := bo hm
         refine Sq (RD hnt (nn 3 (o108 [0] true r102 :: o112 [] true r103 :: nn 6 [])) [97] [(19, rr 1152), (20, pI r103.2)] [] [(0, bx (pm (encDice r102.2))), (1152, bx [ow 1824 r103.1.tree.nodes.length, pI r103.1.tree.next, ow 1825 r103.1.tasks.length, pI r103.1.next]), (1824, ob0 (roNode r103.1.tree.nodes)), (1825, ob0 (roTask r103.1.tasks))] (an (Task_Dice_madeSpec r100.2 y16.2 r102 hr102) (an tv (an (Exit_ref6Spec y16.2 r102.1 r103 hr103) tv))) ?_)
         refine Sq (RD hnt (nn 2 []) [20] [(107, pB (r103.2 == 0))] [] [] tv ?_)
         refine condM hm ?_ ?_
         ·intro h104 hm
          refine RD hnt (nn 2 []) [19, 107] [] [1152] [(1056, bx [ow 1824 r103.1.tree.nodes.length, pI r103.1.tree.next, ow 1825 r103.1.tasks.length, pI r103.1.next])] tv ?_
          exact bD (r102.2, r103.1) hm (Conv.frz [1824, 1825])
         ·intro h104 hm
          refine Sk ?_
          exact bD (r102.2, y16.2) hm Conv.t0
        ·intro h101 hm
         refine Sk ?_
         exact bD (r100.2, y16.2) hm Conv.t0
       ·refine condM hm ?_ ?_
        ·intro h95 hm
         obtain ⟨r96, hr96, hm⟩ := bo hm
         obtain ⟨r97, hr97, hm⟩ := bo hm
         obtain ⟨r98, hr98, hm⟩ := bo hm
         refine Sq (RD hnt (nn 3 (o108 [0] true r96 :: nn 3 (o87 [0] true r97 :: o110 [] true r98 :: nn 6 []))) [80] [(17, rr 1136), (18, pI r98.2)] [] [(0, bx (pm (encDice r97.2))), (1136, bx [ow 1720 r98.1.tree.nodes.length, pI r98.1.tree.next, ow 1721 r98.1.tasks.length, pI r98.1.next]), (1720, ob0 (roNode r98.1.tree.nodes)), (1721, ob0 (roTask r98.1.tasks))] (an (Task_Dice_madeSpec r94.2 y15.2 r96 hr96) (an tv (an (Group_Dice_madeSpec r96.2 y15.2.tree r97 hr97) (an tv (an (AttachThread_ref8Spec y15.2 r96.1 r97.1 r98 hr98) tv))))) ?_)
         refine Sq (RD hnt (nn 2 []) [18] [(94, pB (r98.2 == 0))] [] [] tv ?_)
         refine condM hm ?_ ?_
         ·intro h99 hm
          refine RD hnt (nn 2 []) [17, 94] [] [1136] [(1056, bx [ow 1720 r98.1.tree.nodes.length, pI r98.1.tree.next, ow 1721 r98.1.tasks.length, pI r98.1.next])] tv ?_
          exact jD (r97.2, r98.1) hm (Conv.frz [1720, 1721])
         ·intro h99 hm
          refine Sk ?_
          exact jD (r97.2, y15.2) hm Conv.t0
        ·intro h95 hm
         refine Sk ?_
         exact jD (r94.2, y15.2) hm Conv.t0
      ·refine condM hm ?_ ?_
       ·intro h90 hm
        obtain ⟨r91, hr91, hm⟩ := bo hm
        obtain ⟨r92, hr92, hm⟩ := bo hm
        refine Sq (RD hnt (nn 3 (o108 [0] true r91 :: o109 [] true r92 :: nn 8 [])) [66] [(14, rr 1112), (16, pI r92.2.2)] [] [(0, bx (pm (encDice r91.2))), (1112, bx [ow 1576 r92.1.tree.nodes.length, pI r92.1.tree.next, ow 1577 r92.1.tasks.length, pI r92.1.next]), (1576, ob0 (roNode r92.1.tree.nodes)), (1577, ob0 (roTask r92.1.tasks))] (an (Task_Dice_madeSpec r89.2 y14 r91 hr91) (an tv (an (Clone_ref6Spec y14 r91.1 r92 hr92) tv))) ?_)
        refine Sq (RD hnt (nn 2 []) [16] [(77, pB (r92.2.2 == 0))] [] [] tv ?_)
        refine condM hm ?_ ?_
        ·intro h93 hm
         refine RD hnt (nn 2 []) [14, 77] [] [1112] [(1056, bx [ow 1576 r92.1.tree.nodes.length, pI r92.1.tree.next, ow 1577 r92.1.tasks.length, pI r92.1.next])] tv ?_
         exact jD (r91.2, r92.1) hm (Conv.frz [1576, 1577])
        ·intro h93 hm
         refine Sk ?_
         exact jD (r91.2, y14) hm Conv.t0
       ·intro h90 hm
        refine Sk ?_
        exact jD (r89.2, y14) hm Conv.t0
     ·refine condM hm ?_ ?_
      ·intro h88 hm
       refine RD hnt (nn 2 []) [11, 63] [] [1088] [(1056, bx [ow 1464 r87.1.tree.nodes.length, pI r87.1.tree.next, ow 1465 r87.1.tasks.length, pI r87.1.next])] tv ?_
       exact jD r87.1 hm (Conv.frz [1464, 1465])
      ·intro h88 hm
       refine Sk ?_
       exact jD s3.2.1 hm Conv.t0
  ·intro h82 hm
   refine DW.exit ?_
   refine joinQ_exit ?_
   refine KQ_exit ?_
   refine blockQ_exit ?_
   show DW _ _ _ _ _
   refine Sq (RD hnt (nn 2 []) [0, 7, 9, 42] [] [1056] [(1048, bx (pm (encHierarchy s3.2.1)))] tv ?_)
   obtain rfl := sj hm
   exact DW.ret (retK [.box (pm (encDice s3.1))] [] (.p (.agg (encHierarchy s3.2.1))))
abbrev o69 (ks : List Nat) (b : Bool) (RES : Hierarchy × Dice) : Orc := .call 18 ks b (.p (.agg (encHierarchy RES.1))) [.box (pm (encDice RES.2))] []

abbrev c113e1 : Nat × Obj := (1032, bx [ow 100000 0, pI 0, ow 100001 0, pI 0])
theorem Remove_ref6Spec (p0 : Hierarchy) (p1 : Int) (RES : Hierarchy × Int) (hm : Remove_ref6 p0 p1 = some RES) : Spec Tryz.prog 22 [.p (.agg (encHierarchy p0)), pI p1] [] (.tup [.agg [ow 0 RES.1.tree.nodes.length, pI RES.1.tree.next, ow 1 RES.1.tasks.length, pI RES.1.next], pI RES.2]) [] [roNode RES.1.tree.nodes, roTask RES.1.tasks] := by
 unfold Remove_ref6 at hm
 refine SO Tryz.func22 rfl rfl [(0, .p (.agg (encHierarchy p0))), (1, pI p1)] [] ?_
 intro cx hnt
 refine Sq (RK hnt (nn 3 []) [(1, pI p1), (2, rr 1016), (4, rr 1032)] [(1016, bx (pm (encHierarchy p0))), (1032, bx [.p (.sl .nil 0 0 (fun _ => [])), pI 0, .p (.sl .nil 0 0 (fun _ => [])), pI 0])] tv ?_)
 obtain ⟨r1, hr1, hm⟩ := bo hm
 refine Sq (Sq (RD hnt (.no :: o92 [] true r1 :: .no :: []) [] [(11, pB (!r1))] [] [] (an (Check_ref6Spec p0 r1 hr1) tv) ?_))
 refine condM hm ?_ ?_
 ·intro h2 hm
  refine Sq (RD hnt (nn 3 []) [1, 2, 11] [(5, pI 1)] [1016] [] tv ?_)
  refine DW.cv [] [] [] [(c113e1), (100000, ob0 (roNode [])), (100001, ob0 (roTask []))] (Conv.ads [(.o 1032 0, 100000, 6, elems encNode dNode []), (.o 1032 2, 100001, 4, elems encTask dTask [])]) ?_
  obtain rfl := sj hm
  exact DW.ret (retK [roNode [], roTask []] [100000, 100001] (.tup [.agg [ow 0 0, pI 0, ow 1 0, pI 0], pI 1]))
 ·intro h2 hm
  refine Sk ?_
  obtain ⟨r3, hr3, hm⟩ := bo hm
  refine Sq (RD hnt (nn 3 (o84 [] true r3 :: nn 6 [])) [11] [(6, rr 1048), (7, pI r3.2)] [] [(1048, bx [ow 1136 r3.1.nodes.length, pI r3.1.next]), (1136, ob0 (roNode r3.1.nodes))] (an (Remove_ref5Spec p0.tree p1 r3 hr3) tv) ?_)
  refine Sq (Sq (RD hnt (nn 2 []) [] [(21, pB (r3.2 != 0))] [] [] tv ?_))
  refine condM hm ?_ ?_
  ·intro h4 hm
   refine Sq (RD hnt (nn 4 []) [1, 2, 6, 7, 21] [(5, pI r3.2)] [1016, 1048, 1136] [] tv ?_)
   refine DW.cv [] [] [] [(c113e1), (100000, ob0 (roNode [])), (100001, ob0 (roTask []))] (Conv.ads [(.o 1032 0, 100000, 6, elems encNode dNode []), (.o 1032 2, 100001, 4, elems encTask dTask [])]) ?_
   obtain rfl := sj hm
   exact DW.ret (retK [roNode [], roTask []] [100000, 100001] (.tup [.agg [ow 0 0, pI 0, ow 1 0, pI 0], pI r3.2]))
  ·intro h4 hm
   refine Sk ?_
   obtain ⟨r5, hr5, hm⟩ := bo hm
   refine Sq (Sq (RD hnt (nn 2 (o96 [] true r5 :: nn 2 [])) [1, 7, 21] [(28, pB (decide (((r5.length : Nat) : Int) > 0)))] [] [] (an (Tasks_ref6Spec p0 p1 r5 hr5) tv) ?_))
   refine condM hm ?_ ?_
   ·intro h6 hm
    refine Sq (RD hnt (nn 3 []) [2, 6, 28] [(5, pI 6)] [1016, 1048, 1136] [] tv ?_)
    refine DW.cv [] [] [] [(c113e1), (100000, ob0 (roNode [])), (100001, ob0 (roTask []))] (Conv.ads [(.o 1032 0, 100000, 6, elems encNode dNode []), (.o 1032 2, 100001, 4, elems encTask dTask [])]) ?_
    obtain rfl := sj hm
    exact DW.ret (retK [roNode [], roTask []] [100000, 100001] (.tup [.agg [ow 0 0, pI 0, ow 1 0, pI 0], pI 6]))
   ·intro h6 hm
    refine Sk ?_
    obtain ⟨r7, hr7, hm⟩ := bo hm
    refine Sq (RD hnt (.no :: o102 [] true r7 :: nn 2 []) [2, 28] [(8, rr 1064)] [1016] [(1064, bx [ow 1248 r7.tree.nodes.length, pI r7.tree.next, ow 1249 r7.tasks.length, pI r7.next]), (1248, ob0 (roNode r7.tree.nodes)), (1249, ob0 (roTask r7.tasks))] (an (Copy_ref6Spec p0 r7 hr7) tv) ?_)
    refine Sq (RD hnt (nn 3 []) [6] [] [1048, 1248] [(1064, bx [ow 1136 r3.1.nodes.length, pI r3.1.next, ow 1249 r7.tasks.length, pI r7.next])] tv ?_)
    refine Sq (RD hnt (nn 3 []) [8] [(5, pI 0)] [1064] [(1032, bx [ow 1136 r3.1.nodes.length, pI r3.1.next, ow 1249 r7.tasks.length, pI r7.next])] tv ?_)
    obtain rfl := sj hm
    exact DW.ret (retK [roNode r3.1.nodes, roTask r7.tasks] [1136, 1249] (.tup [.agg [ow 0 r3.1.nodes.length, pI r3.1.next, ow 1 r7.tasks.length, pI r7.next], pI 0]))
abbrev o113 (ks : List Nat) (b : Bool) (RES : Hierarchy × Int) : Orc := .call 22 ks b (.tup [.agg [ow 0 RES.1.tree.nodes.length, pI RES.1.tree.next, ow 1 RES.1.tasks.length, pI RES.1.next], pI RES.2]) [] [roNode RES.1.tree.nodes, roTask RES.1.tasks]

theorem Same_ref5Spec (p0 : Tree) (p1 : Tree) (RES : Bool) (hm : Same_ref5 p0 p1 = some RES) : Spec Tryz.prog 58 [.p (.agg (encTree p0)), .p (.agg (encTree p1))] [] (pB RES) [] [] := by
 unfold Same_ref5 at hm
 refine SO Tryz.func58 rfl rfl [(0, .p (.agg (encTree p0))), (1, .p (.agg (encTree p1)))] [] ?_
 intro cx hnt
 refine Sq (RK hnt (nn 3 []) [(2, rr 1016), (3, rr 1024)] [(1016, bx (pm (encTree p0))), (1024, bx (pm (encTree p1)))] tv ?_)
 refine Sq (Sq (DW.regJ (sl2 := [(2, rr 1016), (3, rr 1024), (19, pB ((((p0.nodes.length : Nat) : Int) != ((p1.nodes.length : Nat) : Int)) || (p0.next != p1.next)))]) (ob2 := [(1016, bx (pm (encTree p0))), (1024, bx (pm (encTree p1)))]) ?_ ?_))
 ·rcases bt (((p0.nodes.length : Nat) : Int) != ((p1.nodes.length : Nat) : Int)) with h1 | h1
  ·exact RT hnt (nn 8 (sk 5 (pT :: []))) [(19, pB true)] (an6 h1 tv) (by kernel_rfl) (.cons rfl (.of_eq (by rw [h1]; try rfl)) .nil)
  ·exact RT hnt (nn 13 (pF :: [])) [(19, pB (p0.next != p1.next))] (an6 h1 tv) (by kernel_rfl) (.cons rfl (.of_eq (by rw [h1]; try rfl)) .nil)
 ·refine condM hm ?_ ?_
  ·intro h2 hm
   refine Sq (RK hnt (.no :: []) [(4, pB false)] [] tv ?_)
   obtain rfl := sj hm
   exact DW.ret (retK [] [] (pB false))
  ·intro h2 hm
   refine Sk ?_
   refine Sq (Sq (RD hnt (.no :: []) [19] [(5, pI 0)] [] [] tv ?_))
   refine Bk ?_
   obtain ⟨hc1, hm⟩ := go1 hm
   refine DW.rangeO (fun (k1 : Nat) (s1 : Unit) => mkSt [(2, rr 1016), (3, rr 1024), (5, pI ((k1 : Nat) : Int))] [(1016, bx (pm (encTree p0))), (1024, bx (pm (encTree p1)))]) dNode hm Conv.eqK ?_
   intro k1 s1 n1 hk1 hs1 he1
   refine Sq (Sq (RD hnt (nn 5 []) [] [(24, pB (decide (((k1 : Nat) : Int) < ((p0.nodes.length : Nat) : Int))))] [] [] tv ?_))
   refine condK (decide (((k1 : Nat) : Int) < ((p0.nodes.length : Nat) : Int))) ?_ ?_
   ·intro h11
    have hlt1 : k1 < p0.nodes.length := by have := of_decide_eq_true h11; omega
    have hm := hs1 hlt1
    unfold Same_ref5L1 at hm
    refine Sk ?_
    refine Sq (Bk ?_)
    obtain ⟨g12, hm⟩ := go1 hm
    refine Sq (RD hnt (nn 11 []) [24] [(37, pB (!(eqNode (p0.nodes.getD k1 (default : Node)) (p1.nodes.getD k1 dNode))))] [] [] (an (nn0 k1) (an (ltc hlt1) (an (nn0 k1) (an (ltc g12) tv)))) ?_)
    refine condM hm ?_ ?_
    ·intro h13 hm
     refine Sq (RK hnt (.no :: []) [(4, pB false)] [] tv ?_)
     obtain rfl := sj hm
     exact DW.ret (retK [] [] (pB false))
    ·intro h13 hm
     refine Sk ?_
     refine DW.done ?_
     show DW _ _ _ _ _
     refine RD hnt (nn 3 []) [37] [(5, pI (w64 (((k1 : Nat) : Int) + 1)))] [] [] tv ?_
     exact jD () ⟨hlt1, hm⟩ (Conv.tp [(5, pI (w64 (((k1 : Nat) : Int) + 1)))] [] (by kernel_rfl) (.cons rfl (.of_eq (congrArg pI (w64_succ hlt1 hc1))) .nil) .nil)
   ·intro h11
    have hge1 : ¬ k1 < p0.nodes.length := by have := of_decide_eq_false h11; omega
    have hm := he1 hge1
    unfold Same_ref5D1 at hm
    refine DW.exit ?_
    refine joinQ_exit ?_
    refine KQ_exit ?_
    refine blockQ_exit ?_
    show DW _ _ _ _ _
    refine Sq (RK hnt (.no :: []) [(4, pB true)] [] tv ?_)
    obtain rfl := sj hm
    exact DW.ret (retK [] [] (pB true))
abbrev o115 (ks : List Nat) (b : Bool) (RES : Bool) : Orc := .call 58 ks b (pB RES) [] []

theorem Same_ref6Spec (p0 : Hierarchy) (p1 : Hierarchy) (RES : Bool) (hm : Same_ref6 p0 p1 = some RES) : Spec Tryz.prog 24 [.p (.agg (encHierarchy p0)), .p (.agg (encHierarchy p1))] [] (pB RES) [] [] := by
 unfold Same_ref6 at hm
 refine SO Tryz.func24 rfl rfl [(0, .p (.agg (encHierarchy p0))), (1, .p (.agg (encHierarchy p1)))] [] ?_
 intro cx hnt
 refine Sq (RK hnt (nn 3 []) [(2, rr 1016), (3, rr 1024)] [(1016, bx (pm (encHierarchy p0))), (1024, bx (pm (encHierarchy p1)))] tv ?_)
 obtain ⟨r1, hr1, hm⟩ := bo hm
 refine Sq (Sq ?_)
 refine Jn (ι := Bool) (fun (y1 : Bool) => mkSt [(2, rr 1016), (3, rr 1024), (27, pB y1)] [(1016, bx (pm (encHierarchy p0))), (1024, bx (pm (encHierarchy p1)))]) (fun y1 => (Same_ref6J1 p0 p1) y1 = some RES) ?_ ?_
 ·intro y1 hm
  unfold Same_ref6J1 at hm
  refine condM hm ?_ ?_
  ·intro h4 hm
   refine Sq (RK hnt (.no :: []) [(4, pB false)] [] tv ?_)
   obtain rfl := sj hm
   exact DW.ret (retK [] [] (pB false))
  ·intro h4 hm
   refine Sk ?_
   refine Sq (Sq (RD hnt (.no :: []) [27] [(5, pI 0)] [] [] tv ?_))
   refine Bk ?_
   obtain ⟨hc1, hm⟩ := go1 hm
   refine DW.rangeO (fun (k1 : Nat) (s1 : Unit) => mkSt [(2, rr 1016), (3, rr 1024), (5, pI ((k1 : Nat) : Int))] [(1016, bx (pm (encHierarchy p0))), (1024, bx (pm (encHierarchy p1)))]) dTask hm Conv.eqK ?_
   intro k1 s1 n1 hk1 hs1 he1
   refine Sq (Sq (RD hnt (nn 5 []) [] [(32, pB (decide (((k1 : Nat) : Int) < ((p0.tasks.length : Nat) : Int))))] [] [] tv ?_))
   refine condK (decide (((k1 : Nat) : Int) < ((p0.tasks.length : Nat) : Int))) ?_ ?_
   ·intro h13
    have hlt1 : k1 < p0.tasks.length := by have := of_decide_eq_true h13; omega
    have hm := hs1 hlt1
    unfold Same_ref6L1 at hm
    refine Sk ?_
    refine Sq (Bk ?_)
    obtain ⟨g14, hm⟩ := go1 hm
    refine Sq (RD hnt (nn 11 []) [32] [(45, pB (!(eqTask (p0.tasks.getD k1 (default : Task)) (p1.tasks.getD k1 dTask))))] [] [] (an (nn0 k1) (an (ltc hlt1) (an (nn0 k1) (an (ltc g14) tv)))) ?_)
    refine condM hm ?_ ?_
    ·intro h15 hm
     refine Sq (RK hnt (.no :: []) [(4, pB false)] [] tv ?_)
     obtain rfl := sj hm
     exact DW.ret (retK [] [] (pB false))
    ·intro h15 hm
     refine Sk ?_
     refine DW.done ?_
     show DW _ _ _ _ _
     refine RD hnt (nn 3 []) [45] [(5, pI (w64 (((k1 : Nat) : Int) + 1)))] [] [] tv ?_
     exact jD () ⟨hlt1, hm⟩ (Conv.tp [(5, pI (w64 (((k1 : Nat) : Int) + 1)))] [] (by kernel_rfl) (.cons rfl (.of_eq (congrArg pI (w64_succ hlt1 hc1))) .nil) .nil)
   ·intro h13
    have hge1 : ¬ k1 < p0.tasks.length := by have := of_decide_eq_false h13; omega
    have hm := he1 hge1
    unfold Same_ref6D1 at hm
    refine DW.exit ?_
    refine joinQ_exit ?_
    refine KQ_exit ?_
    refine blockQ_exit ?_
    show DW _ _ _ _ _
    refine Sq (RK hnt (.no :: []) [(4, pB true)] [] tv ?_)
    obtain rfl := sj hm
    exact DW.ret (retK [] [] (pB true))
 ·rcases bt (!r1) with h2 | h2
  ·replace hm := if_t h2 hm
   refine RD hnt (nn 4 (o115 [] true r1 :: nn 2 (sk 7 (pT :: .no :: sk 5 (pT :: []))))) [] [(27, pB true)] [] [] (an (Same_ref5Spec p0.tree p1.tree r1 hr1) (an2 h2 (an6 h2 (an6 tt tv)))) ?_
   exact jD true hm Conv.eqK
  ·replace hm := if_f h2 hm
   rcases bt (((p0.tasks.length : Nat) : Int) != ((p1.tasks.length : Nat) : Int)) with h3 | h3
   ·replace hm := if_t h3 hm
    refine RD hnt (nn 4 (o115 [] true r1 :: nn 9 (pF :: .no :: sk 5 (pT :: [])))) [] [(27, pB true)] [] [] (an (Same_ref5Spec p0.tree p1.tree r1 hr1) (an2 h2 (an6 h2 (an6 h3 tv)))) ?_
    exact jD true hm Conv.eqK
   ·replace hm := if_f h3 hm
    refine RD hnt (nn 4 (o115 [] true r1 :: nn 9 (pF :: nn 6 (pF :: [])))) [] [(27, pB (p0.next != p1.next))] [] [] (an (Same_ref5Spec p0.tree p1.tree r1 hr1) (an2 h2 (an6 h2 (an6 h3 tv)))) ?_
    exact jD (p0.next != p1.next) hm Conv.eqK
abbrev o114 (ks : List Nat) (b : Bool) (RES : Bool) : Orc := .call 24 ks b (pB RES) [] []

abbrev c1e1 (r15 : Hierarchy × Int) : Nat × Obj := (1080, bx [ow 1424 r15.1.tree.nodes.length, pI r15.1.tree.next, ow 1425 r15.1.tasks.length, pI r15.1.next])
abbrev c1e2 (r15 : Hierarchy × Int) (r5 : Hierarchy × Dice) := ({ tree := ({ nodes := r15.1.tree.nodes, next := r5.1.tree.next } : Tree), tasks := r15.1.tasks, next := r15.1.next } : Hierarchy)
theorem ThreadedCreates_law8Spec (p0 : List Int) (RES : Bool) (hm : ThreadedCreates_law8 p0 = some RES) : Spec Tryz.prog 3 [.p (slI p0)] [] (pB RES) [] [] := by
 unfold ThreadedCreates_law8 at hm
 refine SO Tryz.func3 rfl rfl [(0, .p (slI p0))] [] ?_
 intro cx hnt
 refine Sq (RK hnt (.no :: []) [(0, .p (slI p0))] [] tv ?_)
 obtain ⟨r1, hr1, hm⟩ := bo hm
 refine Sq (Sq (RD hnt (.no :: o2 [] true r1 :: .no :: []) [] [(14, pB (!r1))] [] [] (an (Light_madeSpec p0 r1 hr1) tv) ?_))
 refine condM hm ?_ ?_
 ·intro h2 hm
  obtain ⟨r3, hr3, hm⟩ := bo hm
  refine Sq (RK hnt (o3 [] true r3 :: .no :: []) [(2, pB r3)] [] (an (sane_law8Spec r3 hr3) tv) ?_)
  obtain rfl := sj hm
  exact DW.ret (retK [] [] (pB r3))
 ·intro h2 hm
  refine Sk ?_
  obtain ⟨r4, hr4, hm⟩ := bo hm
  refine Sq (RK hnt (.no :: o68 [] true r4 :: .no :: []) [(3, rr 1136)] [(1136, bx (pm (encDice r4)))] (an (Roll_madeSpec p0 r4 hr4) tv) ?_)
  obtain ⟨r5, hr5, hm⟩ := bo hm
  refine Sq (RK hnt (.no :: o69 [1136] true r5 :: nn 2 []) [(3, rr 1136), (4, rr 1032)] [(1032, bx (pm (encHierarchy r5.1))), (1136, bx (pm (encDice r5.2)))] (an (Hierarchy_Dice_madeSpec r4 6 6 r5 hr5) (an tv tv)) ?_)
  obtain ⟨r6, hr6, hm⟩ := bo hm
  obtain ⟨g7, hm⟩ := go1 hm
  refine Sq (RD hnt (nn 8 (o71 [1136] true r6 :: nn 4 [])) [3] [(5, pI (r5.1.tree.nodes.getD (Int.toNat r6.1) dNode).id)] [1136] [] (an (Next_Dice_madeSpec r5.2 ((r5.1.tree.nodes.length : Nat) : Int) r6 hr6) (an tv (an g7.1 (an g7.2 tv)))) ?_)
  obtain ⟨r8, hr8, hm⟩ := bo hm
  refine Sq (RD hnt (nn 2 (o6 [] true r8 :: nn 8 [])) [5] [(6, rr 1048), (7, pI r8.2.1), (8, pI r8.2.2)] [] [(1048, bx [ow 1280 r8.1.tree.nodes.length, pI r8.1.tree.next, ow 1281 r8.1.tasks.length, pI r8.1.next]), (1280, ob0 (roNode r8.1.tree.nodes)), (1281, ob0 (roTask r8.1.tasks))] (an (Create_threadedSpec r5.1 (r5.1.tree.nodes.getD (Int.toNat r6.1) dNode).id (bs [102, 114, 101, 115, 104]) r8 hr8) tv) ?_)
  refine Sq (Sq (RD hnt (nn 2 []) [] [(40, pB (r8.2.2 != 0))] [] [] tv ?_))
  refine condM hm ?_ ?_
  ·intro h9 hm
   refine Sq ?_
   refine Jn (ι := Bool) (fun (y1 : Bool) => mkSt [(2, pB y1)] []) (fun y1 => ThreadedCreates_law8J1 y1 = some RES) ?_ ?_
   ·intro y1 hm
    unfold ThreadedCreates_law8J1 at hm
    obtain rfl := sj hm
    exact DW.ret (retK [] [] (pB y1))
   ·rcases bt (r8.2.2 == 7) with h10 | h10
    ·replace hm := if_t h10 hm
     obtain ⟨r11, hr11, hm⟩ := bo hm
     refine RK hnt (nn 3 (o3 [] true r11 :: pT :: .no :: [])) [(2, pB r11)] [] (an h10 (an (sane_law8Spec r11 hr11) (an h10 tv))) ?_
     exact jD r11 hm .refl
    ·replace hm := if_f h10 hm
     refine RK hnt (nn 3 (.skip :: pF :: .no :: [])) [(2, pB false)] [] (an2 h10 tv) ?_
     exact jD false hm .refl
  ·intro h9 hm
   refine Sk ?_
   obtain ⟨r12, hr12, hm⟩ := bo hm
   refine Sq (RD hnt (nn 3 (o66 [] true r12 :: .no :: [])) [8, 40] [(9, pI r12)] [] [] (an (Type_threadedSpec r8.1.tree r8.2.1 r12 hr12) tv) ?_)
   refine Sq (DW.cv [] [] [1280] [(1048, bx [.p (slNode r8.1.tree.nodes), pI r8.1.tree.next, ow 1281 r8.1.tasks.length, pI r8.1.next])] (Conv.frz [1280]) ?_)
   refine DW.cv [] [] [1281] [(1048, bx (pm (encHierarchy r8.1)))] (Conv.frz [1281]) ?_
   obtain ⟨r15, hr15, hm⟩ := bo hm
   refine RD hnt (nn 2 (o113 [] true r15 :: nn 6 [])) [7] [(10, rr 1080), (11, pI r15.2)] [] [(c1e1 r15), (1424, ob0 (roNode r15.1.tree.nodes)), (1425, ob0 (roTask r15.1.tasks))] (an (Remove_ref6Spec r8.1 r8.2.1 r15 hr15) tv) ?_
   refine Sq (Sq ?_)
   refine Jn (ι := Bool) (fun (y2 : Bool) => mkSt [(4, rr 1032), (10, rr 1080), (70, pB y2)] [(1032, bx (pm (encHierarchy r5.1))), (c1e1 r15), (1424, ob0 (roNode r15.1.tree.nodes)), (1425, ob0 (roTask r15.1.tasks))]) (fun y2 => (ThreadedCreates_law8J2 r5 r15) y2 = some RES) ?_ ?_
   ·intro y2 hm
    unfold ThreadedCreates_law8J2 at hm
    refine condM hm ?_ ?_
    ·intro h22 hm
     refine Sq (RK hnt (.no :: []) [(2, pB false)] [] tv ?_)
     obtain rfl := sj hm
     exact DW.ret (retK [] [] (pB false))
    ·intro h22 hm
     refine Sk ?_
     refine Sq (RD hnt (nn 6 []) [70] [] [] [(1080, bx [ow 1424 r15.1.tree.nodes.length, pI r5.1.tree.next, ow 1425 r15.1.tasks.length, pI r15.1.next])] tv ?_)
     obtain ⟨r23, hr23, hm⟩ := bo hm
     refine Sq ?_
     refine Jn (ι := Bool) (fun (y3 : Bool) => mkSt [(2, pB y3)] []) (fun y3 => ThreadedCreates_law8J3 y3 = some RES) ?_ ?_
     ·intro y3 hm
      unfold ThreadedCreates_law8J3 at hm
      obtain rfl := sj hm
      exact DW.ret (retK [] [] (pB y3))
     ·rcases bt r23 with h24 | h24
      ·replace hm := if_t h24 hm
       obtain ⟨r25, hr25, hm⟩ := bo hm
       refine RK hnt (nn 2 (o114 [] true r23 :: .no :: o3 [] true r25 :: pT :: .no :: [])) [(2, pB r25)] [] (an (Same_ref6Spec (c1e2 r15 r5) r5.1 r23 hr23) (an h24 (an (sane_law8Spec r25 hr25) (an h24 tv)))) ?_
       exact jD r25 hm .refl
      ·replace hm := if_f h24 hm
       refine RK hnt (nn 2 (o114 [] true r23 :: .no :: .skip :: pF :: .no :: [])) [(2, pB false)] [] (an (Same_ref6Spec (c1e2 r15 r5) r5.1 r23 hr23) (an2 h24 tv)) ?_
       exact jD false hm .refl
   ·rcases bt (r12 != 0) with h16 | h16
    ·replace hm := if_t h16 hm
     rcases bt (r12 != 3) with h17 | h17
     ·replace hm := if_t h17 hm
      refine RD hnt (nn 5 (pT :: .no :: sk 2 (pT :: .no :: sk 3 (pT :: [])))) [6, 9, 11] [(70, pB true)] [1048] [] (an3 h16 (an3 h17 (an4 tt tv))) ?_
      exact jD true hm Conv.eqK
     ·replace hm := if_f h17 hm
      rcases bt (r15.2 != 0) with h18 | h18
      ·replace hm := if_t h18 hm
       refine RD hnt (nn 5 (pT :: nn 3 (pF :: .no :: sk 3 (pT :: [])))) [6, 9, 11] [(70, pB true)] [1048] [] (an3 h16 (an3 h17 (an4 h18 tv))) ?_
       exact jD true hm Conv.eqK
      ·replace hm := if_f h18 hm
       obtain ⟨r19, hr19, hm⟩ := bo hm
       refine RD hnt (nn 5 (pT :: nn 3 (pF :: nn 2 (o7 [] true r19 :: .no :: pF :: [])))) [6, 9, 11] [(70, pB (!r19))] [1048] [] (an3 h16 (an3 h17 (an2 h18 (an (Fits_threadedSpec r8.1 r19 hr19) (an2 h18 tv))))) ?_
       exact jD (!r19) hm Conv.eqK
    ·replace hm := if_f h16 hm
     rcases bt (r15.2 != 0) with h20 | h20
     ·replace hm := if_t h20 hm
      refine RD hnt (nn 3 (sk 2 (pF :: nn 3 (pF :: .no :: sk 3 (pT :: []))))) [6, 9, 11] [(70, pB true)] [1048] [] (an3 h16 (an3 ff (an4 h20 tv))) ?_
      exact jD true hm Conv.eqK
     ·replace hm := if_f h20 hm
      obtain ⟨r21, hr21, hm⟩ := bo hm
      refine RD hnt (nn 3 (sk 2 (pF :: nn 3 (pF :: nn 2 (o7 [] true r21 :: .no :: pF :: []))))) [6, 9, 11] [(70, pB (!r21))] [1048] [] (an3 h16 (an3 ff (an2 h20 (an (Fits_threadedSpec r8.1 r21 hr21) (an2 h20 tv))))) ?_
      exact jD (!r21) hm Conv.eqK
abbrev o1 (ks : List Nat) (b : Bool) (RES : Bool) : Orc := .call 3 ks b (pB RES) [] []
end Go.Dm

