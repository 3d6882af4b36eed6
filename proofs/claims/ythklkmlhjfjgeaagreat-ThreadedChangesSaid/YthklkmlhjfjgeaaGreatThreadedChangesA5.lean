/- Texts of the proof of ThreadedChanges: the data machine, the models of the Go functions, their contracts. -/
import Derived.Test.YthklkmlhjfjgeaaGreatThreadedChangesA4
set_option linter.unusedVariables false
set_option linter.unusedSimpArgs false
/- Go functions compute their models, printed by a program. -/
namespace Go.Dm
open Go.Proofs
set_option linter.unusedVariables false
abbrev c90e1 (p0 : Hierarchy) (k4 : Nat) := (p0.tree.nodes.getD k4 (default : Node))
abbrev c90e2 (p0 : Hierarchy) : Nat × Obj := (1008, bx (pm (encHierarchy p0)))
theorem Fits_ref8Spec (p0 : Hierarchy) (RES : Bool) (hm : Fits_ref8 p0 = some RES) : Spec Tryz.prog 34 [.p (.agg (encHierarchy p0))] [] (pB RES) [] [] := by
 unfold Fits_ref8 at hm
 refine SO Tryz.func34 rfl rfl [(0, .p (.agg (encHierarchy p0)))] [] ?_
 intro cx hnt
 refine Sq (RK hnt (nn 2 []) [(1, rr 1008)] [(c90e2 p0)] tv ?_)
 obtain ⟨r1, hr1, hm⟩ := bo hm
 refine Sq (Sq (RD hnt (.no :: o91 [] true r1 :: .no :: []) [] [(16, pB (!r1))] [] [] (an (Sound_ref7Spec p0 r1 hr1) tv) ?_))
 refine condM hm ?_ ?_
 ·intro h2 hm
  refine Sq (RK hnt (.no :: []) [(2, pB false)] [] tv ?_)
  obtain rfl := sj hm
  exact DW.ret (retK [] [] (pB false))
 ·intro h2 hm
  refine Sk ?_
  refine Sq (Sq (RD hnt (.no :: []) [16] [(3, pI 0)] [] [] tv ?_))
  refine Bk ?_
  obtain ⟨hc1, hm⟩ := go1 hm
  refine DW.rangeO (fun (k1 : Nat) (s1 : Unit) => mkSt [(1, rr 1008), (3, pI ((k1 : Nat) : Int))] [(c90e2 p0)]) dTask hm Conv.eqK ?_
  intro k1 s1 n1 hk1 hs1 he1
  refine Sq (Sq (RD hnt (nn 5 []) [] [(21, pB (decide (((k1 : Nat) : Int) < ((p0.tasks.length : Nat) : Int))))] [] [] tv ?_))
  refine condK (decide (((k1 : Nat) : Int) < ((p0.tasks.length : Nat) : Int))) ?_ ?_
  ·intro h99
   have hlt1 : k1 < p0.tasks.length := by have := of_decide_eq_true h99; omega
   have hm := hs1 hlt1
   unfold Fits_ref8L1 at hm
   refine Sk ?_
   refine Sq (Bk ?_)
   obtain ⟨r100, hr100, hm⟩ := bo hm
   refine Sq (RD hnt (nn 7 (o97 [] true r100 :: nn 6 [])) [21] [(4, rr 1032)] [] [(1032, bx (pm (encTask r100.1)))] (an (nn0 k1) (an (ltc hlt1) (an (Find_ref6Spec p0 (p0.tasks.getD k1 (default : Task)).process r100 hr100) tv))) ?_)
   obtain ⟨r101, hr101, hm⟩ := bo hm
   refine Sq (RD hnt (nn 8 (o98 [] true r101 :: nn 5 [])) [] [(6, pI r101.1)] [] [] (an (nn0 k1) (an (ltc hlt1) (an (Domain_ref8Spec p0.tree (p0.tasks.getD k1 (default : Task)).group r101 hr101) tv))) ?_)
   obtain ⟨r102, hr102, hm⟩ := bo hm
   refine Sq (RD hnt (nn 4 (o98 [] true r102 :: nn 5 [])) [4] [(8, pI r102.1)] [1032] [] (an (Domain_ref8Spec p0.tree r100.1.group r102 hr102) tv) ?_)
   refine Sq (RD hnt (nn 3 []) [6, 8] [(57, pB (r101.1 != r102.1))] [] [] tv ?_)
   refine condM hm ?_ ?_
   ·intro h103 hm
    refine Sq (RK hnt (.no :: []) [(2, pB false)] [] tv ?_)
    obtain rfl := sj hm
    exact DW.ret (retK [] [] (pB false))
   ·intro h103 hm
    refine Sk ?_
    refine DW.done ?_
    show DW _ _ _ _ _
    refine RD hnt (nn 3 []) [57] [(3, pI (w64 (((k1 : Nat) : Int) + 1)))] [] [] tv ?_
    exact jD () ⟨hlt1, hm⟩ (Conv.tp [(3, pI (w64 (((k1 : Nat) : Int) + 1)))] [] (by kernel_rfl) (.cons rfl (.of_eq (congrArg pI (w64_succ hlt1 hc1))) .nil) .nil)
  ·intro h99
   have hge1 : ¬ k1 < p0.tasks.length := by have := of_decide_eq_false h99; omega
   have hm := he1 hge1
   unfold Fits_ref8D1 at hm
   refine DW.exit ?_
   refine joinQ_exit ?_
   refine KQ_exit ?_
   refine blockQ_exit ?_
   show DW _ _ _ _ _
   refine Sq (Sq (RD hnt (.no :: []) [3, 21] [(10, pI 0)] [] [] tv ?_))
   refine Bk ?_
   obtain ⟨hc4, hm⟩ := go1 hm
   refine DW.rangeO (fun (k4 : Nat) (s4 : Unit) => mkSt [(1, rr 1008), (10, pI ((k4 : Nat) : Int))] [(c90e2 p0)]) dNode hm Conv.eqK ?_
   intro k4 s4 n4 hk4 hs4 he4
   refine Sq (Sq (RD hnt (nn 6 []) [] [(63, pB (decide (((k4 : Nat) : Int) < ((p0.tree.nodes.length : Nat) : Int))))] [] [] tv ?_))
   refine condK (decide (((k4 : Nat) : Int) < ((p0.tree.nodes.length : Nat) : Int))) ?_ ?_
   ·intro h132
    have hlt4 : k4 < p0.tree.nodes.length := by have := of_decide_eq_true h132; omega
    have hm := hs4 hlt4
    unfold Fits_ref8L4 at hm
    refine Sk ?_
    refine Sq (Bk ?_)
    refine Sq (RD hnt (nn 8 []) [63] [(11, rr 1088)] [] [(1088, bx (pm (encNode (c90e1 p0 k4))))] (an (nn0 k4) (an (ltc hlt4) tv)) ?_)
    obtain ⟨r133, hr133, hm⟩ := bo hm
    refine Sq (RD hnt (nn 4 (o79 [] true r133 :: nn 6 [])) [] [(12, rr 1096)] [] [(1096, bx (pm (encNode r133.1)))] (an (Find_ref5Spec p0.tree (c90e1 p0 k4).parent r133 hr133) tv) ?_)
    obtain ⟨r134, hr134, hm⟩ := bo hm
    refine Sq (Sq ?_)
    refine Jn (ι := Bool) (fun (y17 : Bool) => mkSt [(1, rr 1008), (10, pI ((k4 : Nat) : Int)), (11, rr 1088), (12, rr 1096), (98, pB y17)] [(c90e2 p0), (1088, bx (pm (encNode (c90e1 p0 k4)))), (1096, bx (pm (encNode r133.1)))]) (fun y17 => (Fits_ref8J17 p0 (c90e1 p0 k4) n4 r133) y17 = some RES) ?_ ?_
    ·intro y17 hm
     unfold Fits_ref8J17 at hm
     refine condM hm ?_ ?_
     ·intro h138 hm
      refine Sq (RK hnt (.no :: []) [(2, pB false)] [] tv ?_)
      obtain rfl := sj hm
      exact DW.ret (retK [] [] (pB false))
     ·intro h138 hm
      refine Sk ?_
      refine Sq ?_
      refine Jn (ι := Bool) (fun (y18 : Bool) => mkSt [(1, rr 1008), (10, pI ((k4 : Nat) : Int)), (120, pB y18)] [(c90e2 p0)]) (fun y18 => (Fits_ref8J18 n4) y18 = some RES) ?_ ?_
      ·intro y18 hm
       unfold Fits_ref8J18 at hm
       refine condM hm ?_ ?_
       ·intro h144 hm
        refine Sq (RK hnt (.no :: []) [(2, pB false)] [] tv ?_)
        obtain rfl := sj hm
        exact DW.ret (retK [] [] (pB false))
       ·intro h144 hm
        refine Sk ?_
        refine DW.done ?_
        show DW _ _ _ _ _
        refine RD hnt (nn 3 []) [120] [(10, pI (w64 (((k4 : Nat) : Int) + 1)))] [] [] tv ?_
        exact jD () ⟨hlt4, hm⟩ (Conv.tp [(10, pI (w64 (((k4 : Nat) : Int) + 1)))] [] (by kernel_rfl) (.cons rfl (.of_eq (congrArg pI (w64_succ hlt4 hc4))) .nil) .nil)
      ·rcases bt ((c90e1 p0 k4).kind == 1) with h139 | h139
       ·replace hm := if_t h139 hm
        rcases bt (r133.1.id != 1) with h140 | h140
        ·replace hm := if_t h140 hm
         rcases bt ((kand .i64 r133.1.control 6) != 0) with h141 | h141
         ·replace hm := if_t h141 hm
          refine RD hnt (nn 12 (pT :: .no :: sk 6 (pT :: pT :: []))) [11, 12, 98] [(120, pB true)] [1088, 1096] [] (an4 h139 (an4 h140 (an h139 (an h140 (an h139 (an6 h141 (an h139 (an h141 (an h139 tv))))))))) ?_
          exact jD true hm Conv.eqK
         ·replace hm := if_f h141 hm
          obtain ⟨r142, hr142, hm⟩ := bo hm
          refine RD hnt (nn 12 (pT :: nn 5 (o99 [] true r142 :: .no :: pF :: pT :: []))) [11, 12, 98] [(120, pB (r142 == 3))] [1088, 1096] [] (an4 h139 (an4 h140 (an h139 (an h140 (an h139 (an5 h141 (an (Type_ref8Spec p0.tree r133.1.id r142 hr142) (an h141 (an h139 (an h141 (an h139 tv))))))))))) ?_
          exact jD (r142 == 3) hm Conv.eqK
        ·replace hm := if_f h140 hm
         obtain ⟨r143, hr143, hm⟩ := bo hm
         refine RD hnt (nn 8 (sk 4 (pF :: nn 5 (o99 [] true r143 :: .no :: pF :: pT :: [])))) [11, 12, 98] [(120, pB (r143 == 3))] [1088, 1096] [] (an4 h139 (an4 h140 (an h139 (an h140 (an h139 (an5 ff (an (Type_ref8Spec p0.tree r133.1.id r143 hr143) (an ff (an h139 (an ff (an h139 tv))))))))))) ?_
         exact jD (r143 == 3) hm Conv.eqK
       ·replace hm := if_f h139 hm
        refine RD hnt (nn 4 (sk 17 (pF :: []))) [11, 12, 98] [(120, pB false)] [1088, 1096] [] (an2 h139 (an6 h139 tv)) ?_
        exact jD false hm Conv.eqK
    ·rcases bt (r134 == 3) with h135 | h135
     ·replace hm := if_t h135 hm
      rcases bt ((c90e1 p0 k4).control != 0) with h136 | h136
      ·replace hm := if_t h136 hm
       refine RD hnt (nn 4 (o99 [] true r134 :: nn 6 (sk 6 (pT :: pT :: [])))) [] [(98, pB true)] [] [] (an (Type_ref8Spec p0.tree (c90e1 p0 k4).id r134 hr134) (an4 h135 (an6 h136 (an h135 (an h136 (an h135 tv)))))) ?_
       exact jD true hm Conv.eqK
      ·replace hm := if_f h136 hm
       obtain ⟨r137, hr137, hm⟩ := bo hm
       refine RD hnt (nn 4 (o99 [] true r134 :: nn 9 (o96 [] true r137 :: nn 2 (pF :: pT :: [])))) [] [(98, pB (decide (((r137.length : Nat) : Int) > 0)))] [] [] (an (Type_ref8Spec p0.tree (c90e1 p0 k4).id r134 hr134) (an4 h135 (an4 h136 (an (Tasks_ref6Spec p0 (c90e1 p0 k4).id r137 hr137) (an2 h136 (an h135 (an h136 (an h135 tv)))))))) ?_
       exact jD (decide (((r137.length : Nat) : Int) > 0)) hm Conv.eqK
     ·replace hm := if_f h135 hm
      refine RD hnt (nn 4 (o99 [] true r134 :: nn 2 (sk 11 (pF :: [])))) [] [(98, pB false)] [] [] (an (Type_ref8Spec p0.tree (c90e1 p0 k4).id r134 hr134) (an6 h135 tv)) ?_
      exact jD false hm Conv.eqK
   ·intro h132
    have hge4 : ¬ k4 < p0.tree.nodes.length := by have := of_decide_eq_false h132; omega
    have hm := he4 hge4
    unfold Fits_ref8D4 at hm
    refine DW.exit ?_
    refine joinQ_exit ?_
    refine KQ_exit ?_
    refine blockQ_exit ?_
    show DW _ _ _ _ _
    refine Sq (RK hnt (.no :: []) [(2, pB true)] [] tv ?_)
    obtain rfl := sj hm
    exact DW.ret (retK [] [] (pB true))
abbrev o90 (ks : List Nat) (b : Bool) (RES : Bool) : Orc := .call 34 ks b (pB RES) [] []

theorem Set_ref7Spec (p0 : Int) (RES : Bool) (hm : Set_ref7 p0 = some RES) : Spec Tryz.prog 147 [pI p0] [] (pB RES) [] [] := by
 unfold Set_ref7 at hm
 refine SO Tryz.func147 rfl rfl [(0, pI p0)] [] ?_
 intro cx hnt
 refine Sq (RK hnt (.no :: []) [(0, pI p0)] [] tv ?_)
 refine Sq (DW.regJ (sl2 := [(2, pB ((decide (p0 ≥ 0)) && (decide (p0 ≤ 31))))]) (ob2 := []) ?_ ?_)
 ·rcases bt (decide (p0 ≥ 0)) with h1 | h1
  ·exact RT hnt (nn 5 (pT :: .no :: [])) [(2, pB (decide (p0 ≤ 31)))] (an3 h1 tv) (by kernel_rfl) (.cons rfl (.of_eq (by rw [h1]; try rfl)) .nil)
  ·exact RT hnt (nn 3 (sk 2 (pF :: .no :: []))) [(2, pB false)] (an3 h1 tv) (by kernel_rfl) (.cons rfl (.of_eq (by rw [h1]; try rfl)) .nil)
 ·refine DW.ret ?_
  obtain rfl := sj hm
  exact retK [] [] (pB ((decide (p0 ≥ 0)) && (decide (p0 ≤ 31))))
abbrev o101 (ks : List Nat) (b : Bool) (RES : Bool) : Orc := .call 147 ks b (pB RES) [] []

theorem Copy_ref6Spec (p0 : Hierarchy) (RES : Hierarchy) (hm : Copy_ref6 p0 = some RES) : Spec Tryz.prog 82 [.p (.agg (encHierarchy p0))] [] (.agg [ow 0 RES.tree.nodes.length, pI RES.tree.next, ow 1 RES.tasks.length, pI RES.next]) [] [roNode RES.tree.nodes, roTask RES.tasks] := by
 unfold Copy_ref6 at hm
 refine SO Tryz.func82 rfl rfl [(0, .p (.agg (encHierarchy p0)))] [] ?_
 intro cx hnt
 refine Sq (RK hnt (nn 2 []) [(1, rr 1008), (2, rr 1016)] [(1008, bx (pm (encHierarchy p0))), (1016, bx [.p (.sl .nil 0 0 (fun _ => [])), pI 0, .p (.sl .nil 0 0 (fun _ => [])), pI 0])] tv ?_)
 obtain ⟨r1, hr1, hm⟩ := bo hm
 obtain ⟨g2, hm⟩ := go1 hm
 refine Sq (RN hnt (nn 2 (o82 [] true r1 :: nn 7 [])) [(2, rr 1016)] [(1016, bx [ow 1040 r1.nodes.length, pI r1.next, ow 1064 p0.tasks.length, pI p0.next]), (1040, ob0 (roNode r1.nodes)), (1064, ob0 (roTask p0.tasks))] [] [(1064, .row 4 p0.tasks.length (elTask p0.tasks))] (an (Copy_ref5Spec p0.tree r1 hr1) (an (by omega : p0.tasks.length * 32 ≤ 140737488355328) tv)) (by kernel_rfl) .nil (.cons rfl (BLe.typed RowIs.elems) .nil) ?_)
 obtain rfl := sj hm
 exact DW.ret (retK [roNode r1.nodes, roTask p0.tasks] [1040, 1064] (.agg [ow 0 r1.nodes.length, pI r1.next, ow 1 p0.tasks.length, pI p0.next]))
abbrev o102 (ks : List Nat) (b : Bool) (RES : Hierarchy) : Orc := .call 82 ks b (.agg [ow 0 RES.tree.nodes.length, pI RES.tree.next, ow 1 RES.tasks.length, pI RES.next]) [] [roNode RES.tree.nodes, roTask RES.tasks]

abbrev c103e1 : Nat × Obj := (1032, bx [.p (.sl .nil 0 0 (fun _ => [])), pI 0])
theorem Set_ref5Spec (p0 : Tree) (p1 : Node) (RES : Tree) (hm : Set_ref5 p0 p1 = some RES) : Spec Tryz.prog 97 [.p (.agg (encTree p0)), .p (.agg (encNode p1))] [] (.agg [ow 0 RES.nodes.length, pI RES.next]) [] [roNode RES.nodes] := by
 unfold Set_ref5 at hm
 refine SO Tryz.func97 rfl rfl [(0, .p (.agg (encTree p0))), (1, .p (.agg (encNode p1)))] [] ?_
 intro cx hnt
 refine Sq (RK hnt (nn 3 []) [(2, rr 1016), (3, rr 1024), (4, rr 1032)] [(1016, bx (pm (encTree p0))), (1024, bx (pm (encNode p1))), (c103e1)] tv ?_)
 obtain ⟨r1, hr1, hm⟩ := bo hm
 refine Sq (RD hnt (.no :: o82 [] true r1 :: nn 2 []) [2] [(5, rr 1040)] [1016] [(1040, bx [ow 1064 r1.nodes.length, pI r1.next]), (1064, ob0 (roNode r1.nodes))] (an (Copy_ref5Spec p0 r1 hr1) tv) ?_)
 refine Sq (Sq (RD hnt (.no :: []) [] [(6, pI 0)] [] [] tv ?_))
 refine Bk ?_
 refine DW.whileO (fun (s1 : (List Node) × Int) => mkSt [(3, rr 1024), (4, rr 1032), (5, rr 1040), (6, pI s1.2)] [(1024, bx (pm (encNode p1))), (c103e1), (1040, bx [ow 1064 s1.1.length, pI r1.next]), (1064, ob0 (roNode s1.1))]) hm Conv.eqK ?_
 intro s1 n1 hm
 unfold Set_ref5L1 at hm
 refine Sq (Sq (RD hnt (nn 5 []) [] [(13, pB (decide (s1.2 < ((s1.1.length : Nat) : Int))))] [] [] tv ?_))
 refine condM hm ?_ ?_
 ·intro h8 hm
  refine Sk ?_
  refine Sq ?_
  refine Jn (ι := List Node) (fun (y2 : List Node) => mkSt [(3, rr 1024), (4, rr 1032), (5, rr 1040), (6, pI s1.2)] [(1024, bx (pm (encNode p1))), (c103e1), (1040, bx [ow 1064 y2.length, pI r1.next]), (1064, ob0 (roNode y2))]) (fun y2 => (Set_ref5J2 s1 n1) y2 = some RES) ?_ ?_
  ·intro y2 hm
   unfold Set_ref5J2 at hm
   refine RD hnt (nn 3 []) [] [(6, pI (w64 (s1.2 + 1)))] [] [] tv ?_
   exact jD (y2, (w64 (s1.2 + 1))) hm Conv.eqK
  ·refine Bk ?_
   obtain ⟨g9, g10, hm⟩ := go2 hm
   refine Sq (RD hnt (nn 9 []) [13] [(24, pB ((s1.1.getD (Int.toNat s1.2) dNode).id == p1.id))] [] [] (an g9.1 (an g9.2 (an g10 tv))) ?_)
   refine condM hm ?_ ?_
   ·intro h11 hm
    obtain ⟨g12, g13, hm⟩ := go2 hm
    refine RN hnt (nn 6 []) [(3, rr 1024), (4, rr 1032), (5, rr 1040), (6, pI s1.2)] [(1024, bx (pm (encNode p1))), (c103e1), (1040, bx [ow 1064 (s1.1.set (Int.toNat s1.2) p1).length, pI r1.next]), (1064, ob0 (roNode (s1.1.set (Int.toNat s1.2) p1)))] [] [(1040, .box [ow 1064 s1.1.length, pI r1.next]), (1064, .row 6 s1.1.length (updF (elNode s1.1) (Int.toNat s1.2) [vi p1.id, vi p1.parent, vs p1.name, vi p1.control, vi p1.kind, vi p1.owner]))] (an g12.1 (an g12.2 (an g13 tv))) (by kernel_rfl) .nil (.cons rfl (.box (.cons (MLe.ownLen (enc := encNode) (d := dNode) (f := (updF (elNode s1.1) (Int.toNat s1.2) [vi p1.id, vi p1.parent, vs p1.name, vi p1.control, vi p1.kind, vi p1.owner])) (RowIs.upd RowIs.elems p1 rfl)) (.cons .rfl .nil))) (.cons rfl (BLe.typed (RowIs.upd RowIs.elems p1 rfl)) .nil)) ?_
    exact bD (s1.1.set (Int.toNat s1.2) p1) hm .refl
   ·intro h11 hm
    refine Sk ?_
    exact bD s1.1 hm Conv.t0
 ·intro h8 hm
  refine DW.exit ?_
  refine joinQ_exit ?_
  refine KQ_exit ?_
  refine blockQ_exit ?_
  show DW _ _ _ _ _
  refine Sq (RD hnt (nn 2 []) [3, 5, 6, 13] [] [1024, 1040] [(1032, bx [ow 1064 s1.1.length, pI r1.next])] tv ?_)
  obtain rfl := sj hm
  exact DW.ret (retK [roNode s1.1] [1064] (.agg [ow 0 s1.1.length, pI r1.next]))
abbrev o103 (ks : List Nat) (b : Bool) (RES : Tree) : Orc := .call 97 ks b (.agg [ow 0 RES.nodes.length, pI RES.next]) [] [roNode RES.nodes]

abbrev c100e1 : Nat × Obj := (1064, bx [.p (.sl .nil 0 0 (fun _ => [])), pI 0, .p (.sl .nil 0 0 (fun _ => [])), pI 0])
abbrev c100e2 : Nat × Obj := (1064, bx [ow 100000 0, pI 0, ow 100001 0, pI 0])
abbrev c100e3 (r8 : Node × Bool) (p3 : Int) (p2 : Int) : Nat × Obj := (1080, bx [pI r8.1.id, pI r8.1.parent, pS r8.1.name, pI (kor .i64 (kandNot .i64 r8.1.control p3) p2), pI r8.1.kind, pI r8.1.owner])
theorem Write_ref7Spec (p0 : Hierarchy) (p1 : Int) (p2 : Int) (p3 : Int) (RES : Hierarchy × Int) (hm : Write_ref7 p0 p1 p2 p3 = some RES) : Spec Tryz.prog 100 [.p (.agg (encHierarchy p0)), pI p1, pI p2, pI p3] [] (.tup [.agg [ow 0 RES.1.tree.nodes.length, pI RES.1.tree.next, ow 1 RES.1.tasks.length, pI RES.1.next], pI RES.2]) [] [roNode RES.1.tree.nodes, roTask RES.1.tasks] := by
 unfold Write_ref7 at hm
 refine SO Tryz.func100 rfl rfl [(0, .p (.agg (encHierarchy p0))), (1, pI p1), (2, pI p2), (3, pI p3)] [] ?_
 intro cx hnt
 refine Sq (RD hnt (nn 3 []) [0] [(4, rr 1032), (8, rr 1064)] [] [(1032, bx (pm (encHierarchy p0))), (c100e1)] tv ?_)
 obtain ⟨r1, hr1, hm⟩ := bo hm
 refine Sq (Sq ?_)
 refine Jn (ι := Bool) (fun (y1 : Bool) => mkSt [(1, pI p1), (2, pI p2), (3, pI p3), (4, rr 1032), (8, rr 1064), (37, pB y1)] [(1032, bx (pm (encHierarchy p0))), (c100e1)]) (fun y1 => (Write_ref7J1 p0 p1 p2 p3) y1 = some RES) ?_ ?_
 ·intro y1 hm
  unfold Write_ref7J1 at hm
  refine condM hm ?_ ?_
  ·intro h7 hm
   refine Sq (RD hnt (nn 3 []) [1, 2, 3, 4, 37] [(9, pI 1)] [1032] [] tv ?_)
   refine DW.cv [] [] [] [(c100e2), (100000, ob0 (roNode [])), (100001, ob0 (roTask []))] (Conv.ads [(.o 1064 0, 100000, 6, elems encNode dNode []), (.o 1064 2, 100001, 4, elems encTask dTask [])]) ?_
   obtain rfl := sj hm
   exact DW.ret (retK [roNode [], roTask []] [100000, 100001] (.tup [.agg [ow 0 0, pI 0, ow 1 0, pI 0], pI 1]))
  ·intro h7 hm
   refine Sk ?_
   obtain ⟨r8, hr8, hm⟩ := bo hm
   refine Sq (RD hnt (nn 3 (o79 [] true r8 :: nn 6 [])) [37] [(10, rr 1080), (11, pB r8.2)] [] [(1080, bx (pm (encNode r8.1)))] (an (Find_ref5Spec p0.tree p1 r8 hr8) tv) ?_)
   refine Sq (Sq (RD hnt (nn 2 []) [11] [(47, pB (!r8.2))] [] [] tv ?_))
   refine condM hm ?_ ?_
   ·intro h9 hm
    refine Sq (RD hnt (nn 3 []) [1, 2, 3, 4, 10, 47] [(9, pI 4)] [1032, 1080] [] tv ?_)
    refine DW.cv [] [] [] [(c100e2), (100000, ob0 (roNode [])), (100001, ob0 (roTask []))] (Conv.ads [(.o 1064 0, 100000, 6, elems encNode dNode []), (.o 1064 2, 100001, 4, elems encTask dTask [])]) ?_
    obtain rfl := sj hm
    exact DW.ret (retK [roNode [], roTask []] [100000, 100001] (.tup [.agg [ow 0 0, pI 0, ow 1 0, pI 0], pI 4]))
   ·intro h9 hm
    refine Sk ?_
    obtain ⟨r10, hr10, hm⟩ := bo hm
    refine Sq (Sq (RD hnt (nn 4 (o94 [] true r10 :: nn 2 [])) [47] [(55, pB ((kandNot .i64 p2 r10) != 0))] [] [] (an (Available_ref7Spec p0.tree p1 r10 hr10) tv) ?_))
    refine condM hm ?_ ?_
    ·intro h11 hm
     refine Sq (RD hnt (nn 3 []) [1, 2, 3, 4, 10, 55] [(9, pI 9)] [1032, 1080] [] tv ?_)
     refine DW.cv [] [] [] [(c100e2), (100000, ob0 (roNode [])), (100001, ob0 (roTask []))] (Conv.ads [(.o 1064 0, 100000, 6, elems encNode dNode []), (.o 1064 2, 100001, 4, elems encTask dTask [])]) ?_
     obtain rfl := sj hm
     exact DW.ret (retK [roNode [], roTask []] [100000, 100001] (.tup [.agg [ow 0 0, pI 0, ow 1 0, pI 0], pI 9]))
    ·intro h11 hm
     refine Sk ?_
     obtain ⟨r12, hr12, hm⟩ := bo hm
     refine Sq (RD hnt (nn 3 (o85 [] true r12 :: .no :: [])) [55] [(12, ow 1480 r12.length)] [] [(1480, ob0 (roI r12))] (an (Children_ref5Spec p0.tree p1 r12 hr12) tv) ?_)
     refine Sq (Sq (RD hnt (.no :: []) [] [(13, pI 0)] [] [] tv ?_))
     refine Bk ?_
     obtain ⟨hc1, hm⟩ := go1 hm
     refine DW.rangeO (fun (k1 : Nat) (s1 : Unit) => mkSt [(1, pI p1), (2, pI p2), (3, pI p3), (4, rr 1032), (8, rr 1064), (10, rr 1080), (12, ow 1480 r12.length), (13, pI ((k1 : Nat) : Int))] [(1032, bx (pm (encHierarchy p0))), (c100e1), (1080, bx (pm (encNode r8.1))), (1480, ob0 (roI r12))]) 0 hm Conv.eqK ?_
     intro k1 s1 n1 hk1 hs1 he1
     refine Sq (Sq (RD hnt (nn 4 []) [] [(64, pB (decide (((k1 : Nat) : Int) < ((r12.length : Nat) : Int))))] [] [] tv ?_))
     refine condK (decide (((k1 : Nat) : Int) < ((r12.length : Nat) : Int))) ?_ ?_
     ·intro h35
      have hlt1 : k1 < r12.length := by have := of_decide_eq_true h35; omega
      have hm := hs1 hlt1
      unfold Write_ref7L1 at hm
      refine Sk ?_
      refine Sq (Bk ?_)
      obtain ⟨r36, hr36, hm⟩ := bo hm
      refine Sq (RD hnt (nn 6 (o79 [] true r36 :: nn 6 [])) [64] [(14, rr 1112)] [] [(1112, bx (pm (encNode r36.1)))] (an (nn0 k1) (an (ltc hlt1) (an (by omega : k1 < r12.length) (an (Find_ref5Spec p0.tree (r12.getD k1 0) r36 hr36) tv)))) ?_)
      refine Sq (RD hnt (nn 5 []) [14] [(81, pB ((kand .i64 r36.1.control p3) != 0))] [1112] [] tv ?_)
      refine condM hm ?_ ?_
      ·intro h37 hm
       refine Sq (RD hnt (nn 3 []) [1, 2, 3, 4, 10, 12, 13, 81] [(9, pI 9)] [1032, 1080, 1480] [] tv ?_)
       refine DW.cv [] [] [] [(c100e2), (100000, ob0 (roNode [])), (100001, ob0 (roTask []))] (Conv.ads [(.o 1064 0, 100000, 6, elems encNode dNode []), (.o 1064 2, 100001, 4, elems encTask dTask [])]) ?_
       obtain rfl := sj hm
       exact DW.ret (retK [roNode [], roTask []] [100000, 100001] (.tup [.agg [ow 0 0, pI 0, ow 1 0, pI 0], pI 9]))
      ·intro h37 hm
       refine Sk ?_
       refine DW.done ?_
       show DW _ _ _ _ _
       refine RD hnt (nn 3 []) [81] [(13, pI (w64 (((k1 : Nat) : Int) + 1)))] [] [] tv ?_
       exact jD () ⟨hlt1, hm⟩ (Conv.tp [(13, pI (w64 (((k1 : Nat) : Int) + 1)))] [] (by kernel_rfl) (.cons rfl (.of_eq (congrArg pI (w64_succ hlt1 hc1))) .nil) .nil)
     ·intro h35
      have hge1 : ¬ k1 < r12.length := by have := of_decide_eq_false h35; omega
      have hm := he1 hge1
      unfold Write_ref7D1 at hm
      refine DW.exit ?_
      refine joinQ_exit ?_
      refine KQ_exit ?_
      refine blockQ_exit ?_
      show DW _ _ _ _ _
      refine Sq (RD hnt (nn 3 []) [12, 13, 64] [(16, pI r8.1.control)] [1480] [] tv ?_)
      refine Sq (RD hnt (nn 7 []) [2, 3] [] [] [(c100e3 r8 p3 p2)] tv ?_)
      refine Sq (Sq (RD hnt (nn 4 []) [] [(17, pI (kand .i64 (kor .i64 (kandNot .i64 r8.1.control p3) p2) 6))] [] [] tv ?_))
      refine Sq ?_
      refine Jn (ι := Bool) (fun (y4 : Bool) => mkSt [(4, rr 1032), (8, rr 1064), (10, rr 1080), (108, pB y4)] [(1032, bx (pm (encHierarchy p0))), (c100e1), (c100e3 r8 p3 p2)]) (fun y4 => (Write_ref7J4 p0 p2 p3 r8) y4 = some RES) ?_ ?_
      ·intro y4 hm
       unfold Write_ref7J4 at hm
       refine condM hm ?_ ?_
       ·intro h41 hm
        refine Sq (RD hnt (nn 3 []) [4, 10, 108] [(9, pI 6)] [1032, 1080] [] tv ?_)
        refine DW.cv [] [] [] [(c100e2), (100000, ob0 (roNode [])), (100001, ob0 (roTask []))] (Conv.ads [(.o 1064 0, 100000, 6, elems encNode dNode []), (.o 1064 2, 100001, 4, elems encTask dTask [])]) ?_
        obtain rfl := sj hm
        exact DW.ret (retK [roNode [], roTask []] [100000, 100001] (.tup [.agg [ow 0 0, pI 0, ow 1 0, pI 0], pI 6]))
       ·intro h41 hm
        refine Sk ?_
        obtain ⟨r42, hr42, hm⟩ := bo hm
        refine Sq (RD hnt (.no :: o102 [] true r42 :: nn 2 []) [108] [(18, rr 1144)] [] [(1144, bx [ow 1888 r42.tree.nodes.length, pI r42.tree.next, ow 1889 r42.tasks.length, pI r42.next]), (1888, ob0 (roNode r42.tree.nodes)), (1889, ob0 (roTask r42.tasks))] (an (Copy_ref6Spec p0 r42 hr42) tv) ?_)
        obtain ⟨r43, hr43, hm⟩ := bo hm
        refine Sq (RD hnt (nn 3 (o103 [] true r43 :: nn 2 [])) [4, 10] [] [1032, 1080, 1888] [(1144, bx [ow 1920 r43.nodes.length, pI r43.next, ow 1889 r42.tasks.length, pI r42.next]), (1920, ob0 (roNode r43.nodes))] (an (Set_ref5Spec p0.tree ({ id := r8.1.id, parent := r8.1.parent, name := r8.1.name, control := (kor .i64 (kandNot .i64 r8.1.control p3) p2), kind := r8.1.kind, owner := r8.1.owner } : Node) r43 hr43) tv) ?_)
        refine Sq (RD hnt (nn 3 []) [18] [(9, pI 0)] [1144] [(1064, bx [ow 1920 r43.nodes.length, pI r43.next, ow 1889 r42.tasks.length, pI r42.next])] tv ?_)
        obtain rfl := sj hm
        exact DW.ret (retK [roNode r43.nodes, roTask r42.tasks] [1920, 1889] (.tup [.agg [ow 0 r43.nodes.length, pI r43.next, ow 1 r42.tasks.length, pI r42.next], pI 0]))
      ·rcases bt ((kandNot .i64 (kand .i64 (kor .i64 (kandNot .i64 r8.1.control p3) p2) 6) r8.1.control) != 0) with h38 | h38
       ·replace hm := if_t h38 hm
        rcases bt (p1 != 1) with h39 | h39
        ·replace hm := if_t h39 hm
         obtain ⟨r40, hr40, hm⟩ := bo hm
         refine RD hnt (nn 7 (pT :: nn 3 (o96 [] true r40 :: nn 2 (pT :: [])))) [1, 16, 17] [(108, pB (decide (((r40.length : Nat) : Int) > 0)))] [] [] (an3 h38 (an3 h39 (an (Tasks_ref6Spec p0 p1 r40 hr40) (an3 h39 tv)))) ?_
         exact jD (decide (((r40.length : Nat) : Int) > 0)) hm Conv.eqK
        ·replace hm := if_f h39 hm
         refine RD hnt (nn 7 (pT :: .no :: sk 5 (pF :: []))) [1, 16, 17] [(108, pB false)] [] [] (an3 h38 (an6 h39 tv)) ?_
         exact jD false hm Conv.eqK
       ·replace hm := if_f h38 hm
        refine RD hnt (nn 5 (sk 2 (pF :: .no :: sk 5 (pF :: [])))) [1, 16, 17] [(108, pB false)] [] [] (an3 h38 (an6 ff tv)) ?_
        exact jD false hm Conv.eqK
 ·rcases bt (!r1) with h2 | h2
  ·replace hm := if_t h2 hm
   refine RD hnt (.no :: o91 [] true r1 :: nn 2 (sk 3 (pT :: .no :: sk 3 (pT :: .no :: sk 4 (pT :: []))))) [] [(37, pB true)] [] [] (an (Sound_ref7Spec p0 r1 hr1) (an4 h2 (an3 tt (an6 tt tv)))) ?_
   exact jD true hm Conv.eqK
  ·replace hm := if_f h2 hm
   obtain ⟨r3, hr3, hm⟩ := bo hm
   rcases bt (!r3) with h4 | h4
   ·replace hm := if_t h4 hm
    refine RD hnt (.no :: o91 [] true r1 :: nn 3 (o101 [] true r3 :: .no :: pF :: .no :: sk 3 (pT :: .no :: sk 4 (pT :: [])))) [] [(37, pB true)] [] [] (an (Sound_ref7Spec p0 r1 hr1) (an2 h2 (an (Set_ref7Spec p2 r3 hr3) (an2 h2 (an4 h4 (an5 tt tv)))))) ?_
    exact jD true hm Conv.eqK
   ·replace hm := if_f h4 hm
    obtain ⟨r5, hr5, hm⟩ := bo hm
    rcases bt (!r5) with h6 | h6
    ·replace hm := if_t h6 hm
     refine RD hnt (.no :: o91 [] true r1 :: nn 3 (o101 [] true r3 :: .no :: pF :: nn 2 (o101 [] true r5 :: .no :: pF :: .no :: sk 4 (pT :: [])))) [] [(37, pB true)] [] [] (an (Sound_ref7Spec p0 r1 hr1) (an2 h2 (an (Set_ref7Spec p2 r3 hr3) (an2 h2 (an2 h4 (an (Set_ref7Spec p3 r5 hr5) (an2 h4 (an5 h6 tv)))))))) ?_
     exact jD true hm Conv.eqK
    ·replace hm := if_f h6 hm
     refine RD hnt (.no :: o91 [] true r1 :: nn 3 (o101 [] true r3 :: .no :: pF :: nn 2 (o101 [] true r5 :: .no :: pF :: nn 5 (pF :: [])))) [] [(37, pB ((kand .i64 p2 p3) != 0))] [] [] (an (Sound_ref7Spec p0 r1 hr1) (an2 h2 (an (Set_ref7Spec p2 r3 hr3) (an2 h2 (an2 h4 (an (Set_ref7Spec p3 r5 hr5) (an2 h4 (an5 h6 tv)))))))) ?_
     exact jD ((kand .i64 p2 p3) != 0) hm Conv.eqK
abbrev o100 (ks : List Nat) (b : Bool) (RES : Hierarchy × Int) : Orc := .call 100 ks b (.tup [.agg [ow 0 RES.1.tree.nodes.length, pI RES.1.tree.next, ow 1 RES.1.tasks.length, pI RES.1.next], pI RES.2]) [] [roNode RES.1.tree.nodes, roTask RES.1.tasks]

abbrev c89e1 : Nat × Obj := (1064, bx [ow 100000 0, pI 0, ow 100001 0, pI 0])
theorem Enable_ref8Spec (p0 : Hierarchy) (p1 : Int) (p2 : Int) (p3 : Int) (RES : Hierarchy × Int) (hm : Enable_ref8 p0 p1 p2 p3 = some RES) : Spec Tryz.prog 49 [.p (.agg (encHierarchy p0)), pI p1, pI p2, pI p3] [] (.tup [.agg [ow 0 RES.1.tree.nodes.length, pI RES.1.tree.next, ow 1 RES.1.tasks.length, pI RES.1.next], pI RES.2]) [] [roNode RES.1.tree.nodes, roTask RES.1.tasks] := by
 unfold Enable_ref8 at hm
 refine SO Tryz.func49 rfl rfl [(0, .p (.agg (encHierarchy p0))), (1, pI p1), (2, pI p2), (3, pI p3)] [] ?_
 intro cx hnt
 refine Sq (RD hnt (nn 3 []) [0] [(4, rr 1032), (8, rr 1064)] [] [(1032, bx (pm (encHierarchy p0))), (1064, bx [.p (.sl .nil 0 0 (fun _ => [])), pI 0, .p (.sl .nil 0 0 (fun _ => [])), pI 0])] tv ?_)
 obtain ⟨r1, hr1, hm⟩ := bo hm
 refine Sq (Sq (RD hnt (.no :: o90 [] true r1 :: .no :: []) [] [(14, pB (!r1))] [] [] (an (Fits_ref8Spec p0 r1 hr1) tv) ?_))
 refine condM hm ?_ ?_
 ·intro h2 hm
  refine Sq (RD hnt (nn 3 []) [1, 2, 3, 4, 14] [(9, pI 1)] [1032] [] tv ?_)
  refine DW.cv [] [] [] [(c89e1), (100000, ob0 (roNode [])), (100001, ob0 (roTask []))] (Conv.ads [(.o 1064 0, 100000, 6, elems encNode dNode []), (.o 1064 2, 100001, 4, elems encTask dTask [])]) ?_
  obtain rfl := sj hm
  exact DW.ret (retK [roNode [], roTask []] [100000, 100001] (.tup [.agg [ow 0 0, pI 0, ow 1 0, pI 0], pI 1]))
 ·intro h2 hm
  refine Sk ?_
  obtain ⟨r3, hr3, hm⟩ := bo hm
  refine Sq (RD hnt (nn 4 (o100 [] true r3 :: nn 6 [])) [1, 2, 3, 4, 14] [(10, rr 1080), (11, pI r3.2)] [1032] [(1080, bx [ow 1168 r3.1.tree.nodes.length, pI r3.1.tree.next, ow 1169 r3.1.tasks.length, pI r3.1.next]), (1168, ob0 (roNode r3.1.tree.nodes)), (1169, ob0 (roTask r3.1.tasks))] (an (Write_ref7Spec p0 p1 p2 p3 r3 hr3) tv) ?_)
  refine Sq (Sq (RD hnt (nn 2 []) [] [(25, pB (r3.2 != 0))] [] [] tv ?_))
  refine condM hm ?_ ?_
  ·intro h4 hm
   refine Sq (RD hnt (nn 4 []) [10, 11, 25] [(9, pI r3.2)] [1080, 1168, 1169] [] tv ?_)
   refine DW.cv [] [] [] [(c89e1), (100000, ob0 (roNode [])), (100001, ob0 (roTask []))] (Conv.ads [(.o 1064 0, 100000, 6, elems encNode dNode []), (.o 1064 2, 100001, 4, elems encTask dTask [])]) ?_
   obtain rfl := sj hm
   exact DW.ret (retK [roNode [], roTask []] [100000, 100001] (.tup [.agg [ow 0 0, pI 0, ow 1 0, pI 0], pI r3.2]))
  ·intro h4 hm
   refine Sk ?_
   obtain ⟨r5, hr5, hm⟩ := bo hm
   refine Sq (Sq (RD hnt (.no :: o90 [] true r5 :: .no :: []) [11, 25] [(30, pB (!r5))] [] [] (an (Fits_ref8Spec r3.1 r5 hr5) tv) ?_))
   refine condM hm ?_ ?_
   ·intro h6 hm
    refine Sq (RD hnt (nn 3 []) [10, 30] [(9, pI 10)] [1080, 1168, 1169] [] tv ?_)
    refine DW.cv [] [] [] [(c89e1), (100000, ob0 (roNode [])), (100001, ob0 (roTask []))] (Conv.ads [(.o 1064 0, 100000, 6, elems encNode dNode []), (.o 1064 2, 100001, 4, elems encTask dTask [])]) ?_
    obtain rfl := sj hm
    exact DW.ret (retK [roNode [], roTask []] [100000, 100001] (.tup [.agg [ow 0 0, pI 0, ow 1 0, pI 0], pI 10]))
   ·intro h6 hm
    refine Sk ?_
    refine Sq (RD hnt (nn 3 []) [10, 30] [(9, pI 0)] [1080] [(1064, bx [ow 1168 r3.1.tree.nodes.length, pI r3.1.tree.next, ow 1169 r3.1.tasks.length, pI r3.1.next])] tv ?_)
    obtain rfl := sj hm
    exact DW.ret (retK [roNode r3.1.tree.nodes, roTask r3.1.tasks] [1168, 1169] (.tup [.agg [ow 0 r3.1.tree.nodes.length, pI r3.1.tree.next, ow 1 r3.1.tasks.length, pI r3.1.next], pI 0]))
abbrev o89 (ks : List Nat) (b : Bool) (RES : Hierarchy × Int) : Orc := .call 49 ks b (.tup [.agg [ow 0 RES.1.tree.nodes.length, pI RES.1.tree.next, ow 1 RES.1.tasks.length, pI RES.1.next], pI RES.2]) [] [roNode RES.1.tree.nodes, roTask RES.1.tasks]

abbrev c104e1 : Nat × Obj := (1032, bx [.p (.sl .nil 0 0 (fun _ => [])), pI 0, .p (.sl .nil 0 0 (fun _ => [])), pI 0])
abbrev c104e2 : Nat × Obj := (1032, bx [ow 100000 0, pI 0, ow 100001 0, pI 0])
theorem Convert_ref8Spec (p0 : Hierarchy) (p1 : Int) (RES : Hierarchy × Int) (hm : Convert_ref8 p0 p1 = some RES) : Spec Tryz.prog 46 [.p (.agg (encHierarchy p0)), pI p1] [] (.tup [.agg [ow 0 RES.1.tree.nodes.length, pI RES.1.tree.next, ow 1 RES.1.tasks.length, pI RES.1.next], pI RES.2]) [] [roNode RES.1.tree.nodes, roTask RES.1.tasks] := by
 unfold Convert_ref8 at hm
 refine SO Tryz.func46 rfl rfl [(0, .p (.agg (encHierarchy p0))), (1, pI p1)] [] ?_
 intro cx hnt
 refine Sq (RK hnt (nn 3 []) [(1, pI p1), (2, rr 1016), (4, rr 1032)] [(1016, bx (pm (encHierarchy p0))), (c104e1)] tv ?_)
 obtain ⟨r1, hr1, hm⟩ := bo hm
 refine Sq (Sq (RD hnt (.no :: o90 [] true r1 :: .no :: []) [] [(13, pB (!r1))] [] [] (an (Fits_ref8Spec p0 r1 hr1) tv) ?_))
 refine condM hm ?_ ?_
 ·intro h2 hm
  refine Sq (RD hnt (nn 3 []) [1, 2, 13] [(5, pI 1)] [1016] [] tv ?_)
  refine DW.cv [] [] [] [(c104e2), (100000, ob0 (roNode [])), (100001, ob0 (roTask []))] (Conv.ads [(.o 1032 0, 100000, 6, elems encNode dNode []), (.o 1032 2, 100001, 4, elems encTask dTask [])]) ?_
  obtain rfl := sj hm
  exact DW.ret (retK [roNode [], roTask []] [100000, 100001] (.tup [.agg [ow 0 0, pI 0, ow 1 0, pI 0], pI 1]))
 ·intro h2 hm
  refine Sk ?_
  obtain ⟨r3, hr3, hm⟩ := bo hm
  refine Sq (RD hnt (nn 3 (o79 [] true r3 :: nn 6 [])) [13] [(6, rr 1048), (7, pB r3.2)] [] [(1048, bx (pm (encNode r3.1)))] (an (Find_ref5Spec p0.tree p1 r3 hr3) tv) ?_)
  refine Sq (Sq (RD hnt (nn 2 []) [7] [(23, pB (!r3.2))] [] [] tv ?_))
  refine condM hm ?_ ?_
  ·intro h4 hm
   refine Sq (RD hnt (nn 3 []) [1, 2, 6, 23] [(5, pI 4)] [1016, 1048] [] tv ?_)
   refine DW.cv [] [] [] [(c104e2), (100000, ob0 (roNode [])), (100001, ob0 (roTask []))] (Conv.ads [(.o 1032 0, 100000, 6, elems encNode dNode []), (.o 1032 2, 100001, 4, elems encTask dTask [])]) ?_
   obtain rfl := sj hm
   exact DW.ret (retK [roNode [], roTask []] [100000, 100001] (.tup [.agg [ow 0 0, pI 0, ow 1 0, pI 0], pI 4]))
  ·intro h4 hm
   refine Sk ?_
   refine Sq (Sq (DW.regJ (sl2 := [(1, pI p1), (2, rr 1016), (4, rr 1032), (6, rr 1048), (31, pB ((p1 == 1) || (r3.1.kind == 1)))]) (ob2 := [(1016, bx (pm (encHierarchy p0))), (c104e1), (1048, bx (pm (encNode r3.1)))]) ?_ ?_))
   ·rcases bt (p1 == 1) with h5 | h5
    ·exact RT hnt (nn 3 (sk 3 (pT :: []))) [(31, pB true)] (an4 h5 tv) (by kernel_rfl) (.cons rfl (.of_eq (by rw [h5]; try rfl)) .nil)
    ·exact RT hnt (nn 6 (pF :: [])) [(31, pB (r3.1.kind == 1))] (an4 h5 tv) (by kernel_rfl) (.cons rfl (.of_eq (by rw [h5]; try rfl)) .nil)
   ·refine condM hm ?_ ?_
    ·intro h6 hm
     refine Sq (RD hnt (nn 3 []) [1, 2, 6, 31] [(5, pI 9)] [1016, 1048] [] tv ?_)
     refine DW.cv [] [] [] [(c104e2), (100000, ob0 (roNode [])), (100001, ob0 (roTask []))] (Conv.ads [(.o 1032 0, 100000, 6, elems encNode dNode []), (.o 1032 2, 100001, 4, elems encTask dTask [])]) ?_
     obtain rfl := sj hm
     exact DW.ret (retK [roNode [], roTask []] [100000, 100001] (.tup [.agg [ow 0 0, pI 0, ow 1 0, pI 0], pI 9]))
    ·intro h6 hm
     refine Sk ?_
     obtain ⟨r7, hr7, hm⟩ := bo hm
     refine Sq (RD hnt (nn 4 (o79 [] true r7 :: nn 6 [])) [31] [(8, rr 1064)] [] [(1064, bx (pm (encNode r7.1)))] (an (Find_ref5Spec p0.tree r3.1.parent r7 hr7) tv) ?_)
     obtain ⟨r8, hr8, hm⟩ := bo hm
     refine Sq (Sq ?_)
     refine Jn (ι := Bool) (fun (y1 : Bool) => mkSt [(1, pI p1), (2, rr 1016), (4, rr 1032), (6, rr 1048), (57, pB y1)] [(1016, bx (pm (encHierarchy p0))), (c104e1), (1048, bx (pm (encNode r3.1)))]) (fun y1 => (Convert_ref8J1 p0 p1 r3) y1 = some RES) ?_ ?_
     ·intro y1 hm
      unfold Convert_ref8J1 at hm
      refine condM hm ?_ ?_
      ·intro h11 hm
       refine Sq (RD hnt (nn 3 []) [1, 2, 6, 57] [(5, pI 10)] [1016, 1048] [] tv ?_)
       refine DW.cv [] [] [] [(c104e2), (100000, ob0 (roNode [])), (100001, ob0 (roTask []))] (Conv.ads [(.o 1032 0, 100000, 6, elems encNode dNode []), (.o 1032 2, 100001, 4, elems encTask dTask [])]) ?_
       obtain rfl := sj hm
       exact DW.ret (retK [roNode [], roTask []] [100000, 100001] (.tup [.agg [ow 0 0, pI 0, ow 1 0, pI 0], pI 10]))
      ·intro h11 hm
       refine Sk ?_
       refine Sq (Sq (RD hnt (nn 4 []) [57] [(62, pB ((kand .i64 r3.1.control 6) != 0))] [] [] tv ?_))
       refine condM hm ?_ ?_
       ·intro h12 hm
        refine Sq (RD hnt (nn 3 []) [1, 2, 6, 62] [(5, pI 9)] [1016, 1048] [] tv ?_)
        refine DW.cv [] [] [] [(c104e2), (100000, ob0 (roNode [])), (100001, ob0 (roTask []))] (Conv.ads [(.o 1032 0, 100000, 6, elems encNode dNode []), (.o 1032 2, 100001, 4, elems encTask dTask [])]) ?_
        obtain rfl := sj hm
        exact DW.ret (retK [roNode [], roTask []] [100000, 100001] (.tup [.agg [ow 0 0, pI 0, ow 1 0, pI 0], pI 9]))
       ·intro h12 hm
        refine Sk ?_
        refine Sq (RD hnt (nn 2 []) [62] [] [] [(1048, bx [pI r3.1.id, pI r3.1.parent, pS r3.1.name, pI r3.1.control, pI 1, pI r3.1.owner])] tv ?_)
        obtain ⟨r13, hr13, hm⟩ := bo hm
        refine Sq (RD hnt (.no :: o102 [] true r13 :: nn 2 []) [] [(10, rr 1080)] [] [(1080, bx [ow 1528 r13.tree.nodes.length, pI r13.tree.next, ow 1529 r13.tasks.length, pI r13.next]), (1528, ob0 (roNode r13.tree.nodes)), (1529, ob0 (roTask r13.tasks))] (an (Copy_ref6Spec p0 r13 hr13) tv) ?_)
        obtain ⟨r14, hr14, hm⟩ := bo hm
        refine Sq (RD hnt (nn 3 (o103 [] true r14 :: nn 2 [])) [6] [] [1048, 1528] [(1080, bx [ow 1560 r14.nodes.length, pI r14.next, ow 1529 r13.tasks.length, pI r13.next]), (1560, ob0 (roNode r14.nodes))] (an (Set_ref5Spec p0.tree ({ id := r3.1.id, parent := r3.1.parent, name := r3.1.name, control := r3.1.control, kind := 1, owner := r3.1.owner } : Node) r14 hr14) tv) ?_)
        obtain ⟨r15, hr15, hm⟩ := bo hm
        refine Sq (Sq ?_)
        refine Jn (ι := Bool) (fun (y2 : Bool) => mkSt [(4, rr 1032), (10, rr 1080), (81, pB y2)] [(c104e1), (1080, bx [ow 1560 r14.nodes.length, pI r14.next, ow 1529 r13.tasks.length, pI r13.next]), (1529, ob0 (roTask r13.tasks)), (1560, ob0 (roNode r14.nodes))]) (fun y2 => (Convert_ref8J2 r13 r14) y2 = some RES) ?_ ?_
        ·intro y2 hm
         unfold Convert_ref8J2 at hm
         refine condM hm ?_ ?_
         ·intro h18 hm
          refine Sq (RD hnt (nn 3 []) [10, 81] [(5, pI 6)] [1080, 1529, 1560] [] tv ?_)
          refine DW.cv [] [] [] [(c104e2), (100000, ob0 (roNode [])), (100001, ob0 (roTask []))] (Conv.ads [(.o 1032 0, 100000, 6, elems encNode dNode []), (.o 1032 2, 100001, 4, elems encTask dTask [])]) ?_
          obtain rfl := sj hm
          exact DW.ret (retK [roNode [], roTask []] [100000, 100001] (.tup [.agg [ow 0 0, pI 0, ow 1 0, pI 0], pI 6]))
         ·intro h18 hm
          refine Sk ?_
          refine Sq (RD hnt (nn 3 []) [10, 81] [(5, pI 0)] [1080] [(1032, bx [ow 1560 r14.nodes.length, pI r14.next, ow 1529 r13.tasks.length, pI r13.next])] tv ?_)
          obtain rfl := sj hm
          exact DW.ret (retK [roNode r14.nodes, roTask r13.tasks] [1560, 1529] (.tup [.agg [ow 0 r14.nodes.length, pI r14.next, ow 1 r13.tasks.length, pI r13.next], pI 0]))
        ·rcases bt (decide (((r15.length : Nat) : Int) > 0)) with h16 | h16
         ·replace hm := if_t h16 hm
          refine RD hnt (nn 2 (o96 [] true r15 :: nn 3 (sk 3 (pT :: [])))) [1, 2] [(81, pB true)] [1016] [] (an (Tasks_ref6Spec p0 p1 r15 hr15) (an4 h16 tv)) ?_
          exact jD true hm Conv.eqK
         ·replace hm := if_f h16 hm
          obtain ⟨r17, hr17, hm⟩ := bo hm
          refine RD hnt (nn 2 (o96 [] true r15 :: nn 4 (o90 [] true r17 :: .no :: pF :: []))) [1, 2] [(81, pB (!r17))] [1016] [] (an (Tasks_ref6Spec p0 p1 r15 hr15) (an2 h16 (an (Fits_ref8Spec ({ tree := r14, tasks := r13.tasks, next := r13.next } : Hierarchy) r17 hr17) (an2 h16 tv)))) ?_
          exact jD (!r17) hm Conv.eqK
     ·rcases bt (r8 == 3) with h9 | h9
      ·replace hm := if_t h9 hm
       refine RD hnt (nn 4 (o99 [] true r8 :: nn 2 (sk 9 (pT :: [])))) [8] [(57, pB true)] [1064] [] (an (Type_ref8Spec p0.tree r7.1.id r8 hr8) (an6 h9 tv)) ?_
       exact jD true hm Conv.eqK
      ·replace hm := if_f h9 hm
       rcases bt (r7.1.id != 1) with h10 | h10
       ·replace hm := if_t h10 hm
        refine RD hnt (nn 4 (o99 [] true r8 :: nn 10 (pT :: pF :: []))) [8] [(57, pB ((kand .i64 r7.1.control 6) != 0))] [1064] [] (an (Type_ref8Spec p0.tree r7.1.id r8 hr8) (an4 h9 (an4 h10 (an h9 (an h10 (an h9 tv)))))) ?_
        exact jD ((kand .i64 r7.1.control 6) != 0) hm Conv.eqK
       ·replace hm := if_f h10 hm
        refine RD hnt (nn 4 (o99 [] true r8 :: nn 6 (sk 4 (pF :: pF :: [])))) [8] [(57, pB false)] [1064] [] (an (Type_ref8Spec p0.tree r7.1.id r8 hr8) (an4 h9 (an4 h10 (an h9 (an h10 (an h9 tv)))))) ?_
        exact jD false hm Conv.eqK
abbrev o104 (ks : List Nat) (b : Bool) (RES : Hierarchy × Int) : Orc := .call 46 ks b (.tup [.agg [ow 0 RES.1.tree.nodes.length, pI RES.1.tree.next, ow 1 RES.1.tasks.length, pI RES.1.next], pI RES.2]) [] [roNode RES.1.tree.nodes, roTask RES.1.tasks]

abbrev c86e1 : Nat × Obj := (1032, bx [.p (.sl .nil 0 0 (fun _ => [])), pI 0, .p (.sl .nil 0 0 (fun _ => [])), pI 0])
theorem step_Dice_madeSpec (p0 : Dice) (p1 : Hierarchy) (RES : Hierarchy × Dice) (hm : step_Dice_made p0 p1 = some RES) : Spec Tryz.prog 72 [rr 0, .p (.agg (encHierarchy p1))] [.box (pm (encDice p0))] (.p (.agg (encHierarchy RES.1))) [.box (pm (encDice RES.2))] [] := by
 unfold step_Dice_made at hm
 refine SO Tryz.func72 rfl rfl [(0, rr 0), (1, .p (.agg (encHierarchy p1)))] [(0, bx (pm (encDice p0)))] ?_
 intro cx hnt
 refine Sq (RD hnt (nn 2 []) [1] [(3, rr 1024), (4, rr 1032)] [] [(1024, bx (pm (encHierarchy p1))), (c86e1)] tv ?_)
 obtain ⟨r1, hr1, hm⟩ := bo hm
 refine Sq (RD hnt (nn 3 (o87 [0] true r1 :: .no :: [])) [] [(5, pI r1.1)] [] [(0, bx (pm (encDice r1.2)))] (an (Group_Dice_madeSpec p0 p1.tree r1 hr1) (an tv tv)) ?_)
 obtain ⟨r2, hr2, hm⟩ := bo hm
 refine Sq (Sq (RD hnt (.no :: o71 [0] true r2 :: []) [] [(17, pI r2.1)] [] [(0, bx (pm (encDice r2.2)))] (an (Next_Dice_madeSpec r1.2 5 r2 hr2) (an tv tv)) ?_))
 refine Jn (ι := Dice × Hierarchy) (fun (y1 : Dice × Hierarchy) => mkSt [(3, rr 1024), (4, rr 1032)] [(0, bx (pm (encDice y1.1))), (1024, bx (pm (encHierarchy y1.2))), (c86e1)]) (fun y1 => step_Dice_madeJ1 y1 = some RES) ?_ ?_
 ·intro y1 hm
  unfold step_Dice_madeJ1 at hm
  refine Sq (RD hnt (nn 2 []) [3] [] [1024] [(1032, bx (pm (encHierarchy y1.2)))] tv ?_)
  obtain rfl := sj hm
  exact DW.ret (retK [.box (pm (encDice y1.1))] [] (.p (.agg (encHierarchy y1.2))))
 ·refine Bk ?_
  refine Sq (Sq (RD hnt (nn 2 []) [] [(18, pB (r2.1 == 0))] [] [] tv ?_))
  refine Jn (ι := Bool) (fun (y2 : Bool) => mkSt [(0, rr 0), (3, rr 1024), (4, rr 1032), (5, pI r1.1), (17, pI r2.1), (18, pB y2)] [(0, bx (pm (encDice r2.2))), (1024, bx (pm (encHierarchy p1))), (c86e1)]) (fun y2 => (step_Dice_madeJ2 p1 r1 r2) y2 = some RES) ?_ ?_
  ·intro y2 hm
   unfold step_Dice_madeJ2 at hm
   refine condM hm ?_ ?_
   ·intro h4 hm
    obtain ⟨r5, hr5, hm⟩ := bo hm
    obtain ⟨r6, hr6, hm⟩ := bo hm
    refine Sq (RD hnt (nn 3 (o88 [0] true r5 :: o89 [] true r6 :: nn 6 [])) [0, 5, 17, 18] [(6, rr 1048), (7, pI r6.2)] [] [(0, bx (pm (encDice r5.2))), (1048, bx [ow 1208 r6.1.tree.nodes.length, pI r6.1.tree.next, ow 1209 r6.1.tasks.length, pI r6.1.next]), (1208, ob0 (roNode r6.1.tree.nodes)), (1209, ob0 (roTask r6.1.tasks))] (an (Controllers_Dice_madeSpec r2.2 r5 hr5) (an tv (an (Enable_ref8Spec p1 r1.1 r5.1 0 r6 hr6) tv))) ?_)
    refine Sq (RD hnt (nn 2 []) [7] [(30, pB (r6.2 == 0))] [] [] tv ?_)
    refine condM hm ?_ ?_
    ·intro h7 hm
     refine Sq (RD hnt (nn 2 []) [3, 6, 30] [] [1024, 1048] [(1032, bx [ow 1208 r6.1.tree.nodes.length, pI r6.1.tree.next, ow 1209 r6.1.tasks.length, pI r6.1.next])] tv ?_)
     obtain rfl := sj hm
     exact DW.ret (retK [.box (pm (encDice r5.2))] [] (.p (.agg (encHierarchy r6.1))))
    ·intro h7 hm
     refine Sk ?_
     exact bD (r5.2, p1) hm Conv.t0
   ·intro h4 hm
    refine Sq (RD hnt (nn 2 []) [18] [(32, pB (r2.1 == 2))] [] [] tv ?_)
    refine condM hm ?_ ?_
    ·intro h8 hm
     obtain ⟨r9, hr9, hm⟩ := bo hm
     refine Sq (RD hnt (nn 2 (o104 [] true r9 :: nn 6 [])) [0, 5, 17, 32] [(8, rr 1064), (9, pI r9.2)] [] [(1064, bx [ow 1296 r9.1.tree.nodes.length, pI r9.1.tree.next, ow 1297 r9.1.tasks.length, pI r9.1.next]), (1296, ob0 (roNode r9.1.tree.nodes)), (1297, ob0 (roTask r9.1.tasks))] (an (Convert_ref8Spec p1 r1.1 r9 hr9) tv) ?_)
     refine Sq (RD hnt (nn 2 []) [9] [(41, pB (r9.2 == 0))] [] [] tv ?_)
     refine condM hm ?_ ?_
     ·intro h10 hm
      refine Sq (RD hnt (nn 2 []) [3, 8, 41] [] [1024, 1064] [(1032, bx [ow 1296 r9.1.tree.nodes.length, pI r9.1.tree.next, ow 1297 r9.1.tasks.length, pI r9.1.next])] tv ?_)
      obtain rfl := sj hm
      exact DW.ret (retK [.box (pm (encDice r2.2))] [] (.p (.agg (encHierarchy r9.1))))
     ·intro h10 hm
      refine Sk ?_
      exact bD (r2.2, p1) hm Conv.t0
    ·intro h8 hm
     refine Sq (RD hnt (nn 2 []) [17, 32] [(43, pB (r2.1 == 3))] [] [] tv ?_)
     refine condM hm ?_ ?_
     ·intro h11 hm
      obtain ⟨r12, hr12, hm⟩ := bo hm
      refine Sq (RD hnt (nn 3 (o79 [] true r12 :: nn 6 [])) [43] [(10, rr 1080), (11, pB r12.2)] [] [(1080, bx (pm (encNode r12.1)))] (an (Find_ref5Spec p1.tree r1.1 r12 hr12) tv) ?_)
      refine Sq (DW.regJ (sl2 := [(0, rr 0), (3, rr 1024), (4, rr 1032), (10, rr 1080), (56, pB (r12.2 && (r1.1 != 1)))]) (ob2 := [(0, bx (pm (encDice r2.2))), (1024, bx (pm (encHierarchy p1))), (c86e1), (1080, bx (pm (encNode r12.1)))]) ?_ ?_)
      ·rcases bt r12.2 with h13 | h13
       ·exact RT hnt (nn 4 (pT :: [])) [(56, pB (r1.1 != 1))] (an3 h13 tv) (by kernel_rfl) (.cons rfl (.of_eq (by rw [h13]; try rfl)) .nil)
       ·exact RT hnt (nn 2 (sk 2 (pF :: []))) [(56, pB false)] (an3 h13 tv) (by kernel_rfl) (.cons rfl (.of_eq (by rw [h13]; try rfl)) .nil)
      ·refine condM hm ?_ ?_
       ·intro h14 hm
        obtain ⟨r15, hr15, hm⟩ := bo hm
        refine Sq (RD hnt (.no :: o71 [0] true r15 :: nn 2 []) [0, 56] [] [] [(0, bx (pm (encDice r15.2))), (1080, bx [pI r12.1.id, pI r12.1.parent, pS r12.1.name, pI r12.1.control, pI r12.1.kind, pI r15.1])] (an (Next_Dice_madeSpec r2.2 3 r15 hr15) (an tv tv)) ?_)
        obtain ⟨r16, hr16, hm⟩ := bo hm
        refine RD hnt (nn 3 (o103 [] true r16 :: nn 2 [])) [10] [] [1080] [(1024, bx [ow 1504 r16.nodes.length, pI r16.next, .p (slTask p1.tasks), pI p1.next]), (1504, ob0 (roNode r16.nodes))] (an (Set_ref5Spec p1.tree ({ id := r12.1.id, parent := r12.1.parent, name := r12.1.name, control := r12.1.control, kind := r12.1.kind, owner := r15.1 } : Node) r16 hr16) tv) ?_
        exact bD (r15.2, ({ tree := r16, tasks := p1.tasks, next := p1.next } : Hierarchy)) hm (Conv.frz [1504])
       ·intro h14 hm
        refine Sk ?_
        exact bD (r2.2, p1) hm Conv.t0
     ·intro h11 hm
      refine Sk ?_
      exact bD (r2.2, p1) hm Conv.t0
  ·refine condM hm ?_ ?_
   ·intro h3 hm
    refine Sk ?_
    exact jD (r2.1 == 0) hm Conv.eqK
   ·intro h3 hm
    refine RD hnt (nn 2 []) [] [(18, pB (r2.1 == 1))] [] [] tv ?_
    exact jD (r2.1 == 1) hm Conv.eqK
abbrev o86 (ks : List Nat) (b : Bool) (RES : Hierarchy × Dice) : Orc := .call 72 ks b (.p (.agg (encHierarchy RES.1))) [.box (pm (encDice RES.2))] []

theorem Admits_ref8Spec (p0 : Hierarchy) (p1 : Int) (RES : Int) (hm : Admits_ref8 p0 p1 = some RES) : Spec Tryz.prog 38 [.p (.agg (encHierarchy p0)), pI p1] [] (pI RES) [] [] := by
 unfold Admits_ref8 at hm
 refine SO Tryz.func38 rfl rfl [(0, .p (.agg (encHierarchy p0))), (1, pI p1)] [] ?_
 intro cx hnt
 refine Sq (RK hnt (nn 2 []) [(1, pI p1), (2, rr 1016)] [(1016, bx (pm (encHierarchy p0)))] tv ?_)
 obtain ⟨r1, hr1, hm⟩ := bo hm
 refine Sq (Sq (RD hnt (.no :: o90 [] true r1 :: .no :: []) [] [(9, pB (!r1))] [] [] (an (Fits_ref8Spec p0 r1 hr1) tv) ?_))
 refine condM hm ?_ ?_
 ·intro h2 hm
  refine Sq (RK hnt (.no :: []) [(4, pI 1)] [] tv ?_)
  obtain rfl := sj hm
  exact DW.ret (retK [] [] (pI 1))
 ·intro h2 hm
  refine Sk ?_
  obtain ⟨r3, hr3, hm⟩ := bo hm
  refine Sq (RD hnt (nn 3 (o79 [] true r3 :: nn 6 [])) [9] [(5, rr 1040), (6, pB r3.2)] [] [(1040, bx (pm (encNode r3.1)))] (an (Find_ref5Spec p0.tree p1 r3 hr3) tv) ?_)
  refine Sq (Bk ?_)
  refine Sq (RD hnt (nn 3 []) [6] [(17, pB (!r3.2))] [] [] tv ?_)
  refine condM hm ?_ ?_
  ·intro h4 hm
   refine Sq (RK hnt (.no :: []) [(4, pI 4)] [] tv ?_)
   obtain rfl := sj hm
   exact DW.ret (retK [] [] (pI 4))
  ·intro h4 hm
   obtain ⟨r5, hr5, hm⟩ := bo hm
   refine Sq (RD hnt (nn 3 (o99 [] true r5 :: nn 2 [])) [2, 17] [(20, pB (r5 == 3))] [1016] [] (an (Type_ref8Spec p0.tree p1 r5 hr5) tv) ?_)
   refine condM hm ?_ ?_
   ·intro h6 hm
    refine Sq (RK hnt (.no :: []) [(4, pI 10)] [] tv ?_)
    obtain rfl := sj hm
    exact DW.ret (retK [] [] (pI 10))
   ·intro h6 hm
    refine Sq (DW.regJ (sl2 := [(26, pB ((p1 != 1) && ((kand .i64 r3.1.control 6) != 0)))]) (ob2 := []) ?_ ?_)
    ·rcases bt (p1 != 1) with h7 | h7
     ·exact RT hnt (nn 7 (pT :: .no :: [])) [(26, pB ((kand .i64 r3.1.control 6) != 0))] (an5 h7 tv) (by kernel_rfl) (.cons rfl (.of_eq (by rw [h7]; try rfl)) .nil)
     ·exact RT hnt (nn 3 (sk 4 (pF :: .no :: []))) [(26, pB false)] (an5 h7 tv) (by kernel_rfl) (.cons rfl (.of_eq (by rw [h7]; try rfl)) .nil)
    ·refine condM hm ?_ ?_
     ·intro h8 hm
      refine Sq (RK hnt (.no :: []) [(4, pI 6)] [] tv ?_)
      obtain rfl := sj hm
      exact DW.ret (retK [] [] (pI 6))
     ·intro h8 hm
      refine Sk ?_
      refine DW.done ?_
      show DW _ _ _ _ _
      refine Sq (RK hnt (.no :: []) [(4, pI 0)] [] tv ?_)
      obtain rfl := sj hm
      exact DW.ret (retK [] [] (pI 0))
abbrev o105 (ks : List Nat) (b : Bool) (RES : Int) : Orc := .call 38 ks b (pI RES) [] []

abbrev c107e1 : Nat × Obj := (1032, bx [.p (.sl .nil 0 0 (fun _ => [])), pI 0, .p (.sl .nil 0 0 (fun _ => [])), pI 0])
abbrev c107e2 (r3 : Hierarchy) : Nat × Obj := (1056, bx [ow 1152 r3.tree.nodes.length, pI r3.tree.next, ow 1153 r3.tasks.length, pI r3.next])
theorem add_ref6Spec (p0 : Hierarchy) (p1 : Task) (RES : Hierarchy × Int × Int) (hm : add_ref6 p0 p1 = some RES) : Spec Tryz.prog 122 [.p (.agg (encHierarchy p0)), .p (.agg (encTask p1))] [] (.tup [.agg [ow 0 RES.1.tree.nodes.length, pI RES.1.tree.next, ow 1 RES.1.tasks.length, pI RES.1.next], pI RES.2.1, pI RES.2.2]) [] [roNode RES.1.tree.nodes, roTask RES.1.tasks] := by
 unfold add_ref6 at hm
 refine SO Tryz.func122 rfl rfl [(0, .p (.agg (encHierarchy p0))), (1, .p (.agg (encTask p1)))] [] ?_
 intro cx hnt
 refine Sq (RK hnt (nn 5 []) [(2, rr 1016), (3, rr 1024), (4, rr 1032)] [(1016, bx (pm (encHierarchy p0))), (1024, bx (pm (encTask p1))), (c107e1)] tv ?_)
 refine Sq (Sq (DW.regJ (sl2 := [(2, rr 1016), (3, rr 1024), (4, rr 1032), (16, pB ((decide (((p0.tasks.length : Nat) : Int) ≥ 128)) || (decide (p0.next > 2147483647))))]) (ob2 := [(1016, bx (pm (encHierarchy p0))), (1024, bx (pm (encTask p1))), (c107e1)]) ?_ ?_))
 ·rcases bt (decide (((p0.tasks.length : Nat) : Int) ≥ 128)) with h1 | h1
  ·exact RT hnt (nn 5 (sk 3 (pT :: []))) [(16, pB true)] (an4 h1 tv) (by kernel_rfl) (.cons rfl (.of_eq (by rw [h1]; try rfl)) .nil)
  ·exact RT hnt (nn 8 (pF :: [])) [(16, pB (decide (p0.next > 2147483647)))] (an4 h1 tv) (by kernel_rfl) (.cons rfl (.of_eq (by rw [h1]; try rfl)) .nil)
 ·refine condM hm ?_ ?_
  ·intro h2 hm
   refine Sq (RD hnt (nn 4 []) [2, 3, 16] [(5, pI 0), (6, pI 7)] [1016, 1024] [] tv ?_)
   refine DW.cv [] [] [] [(1032, bx [ow 100000 0, pI 0, ow 100001 0, pI 0]), (100000, ob0 (roNode [])), (100001, ob0 (roTask []))] (Conv.ads [(.o 1032 0, 100000, 6, elems encNode dNode []), (.o 1032 2, 100001, 4, elems encTask dTask [])]) ?_
   obtain rfl := sj hm
   exact DW.ret (retK [roNode [], roTask []] [100000, 100001] (.tup [.agg [ow 0 0, pI 0, ow 1 0, pI 0], pI 0, pI 7]))
  ·intro h2 hm
   refine Sk ?_
   obtain ⟨r3, hr3, hm⟩ := bo hm
   refine Sq (RD hnt (.no :: o102 [] true r3 :: nn 2 []) [16] [(7, rr 1056)] [] [(c107e2 r3), (1152, ob0 (roNode r3.tree.nodes)), (1153, ob0 (roTask r3.tasks))] (an (Copy_ref6Spec p0 r3 hr3) tv) ?_)
   refine Sq (RD hnt (nn 4 []) [2] [] [1016] [(1024, bx [pI p0.next, pI p1.process, pI p1.group, pI p1.user])] tv ?_)
   refine Sq (Sq (RD hnt (nn 3 []) [] [(25, pB (p1.process == 0))] [] [] tv ?_))
   refine Jn (ι := Task) (fun (y1 : Task) => mkSt [(3, rr 1024), (4, rr 1032), (7, rr 1056)] [(1024, bx (pm (encTask y1))), (c107e1), (c107e2 r3), (1152, ob0 (roNode r3.tree.nodes)), (1153, ob0 (roTask r3.tasks))]) (fun y1 => (add_ref6J1 r3) y1 = some RES) ?_ ?_
   ·intro y1 hm
    unfold add_ref6J1 at hm
    obtain ⟨g5, hm⟩ := go1 hm
    refine Sq (RN hnt (nn 7 []) [(3, rr 1024), (4, rr 1032), (7, rr 1056)] [(1024, bx (pm (encTask y1))), (c107e1), (1056, bx [ow 1152 r3.tree.nodes.length, pI r3.tree.next, ow 1153 (r3.tasks ++ [y1]).length, pI r3.next]), (1152, ob0 (roNode r3.tree.nodes)), (1153, ob0 (roTask (r3.tasks ++ [y1])))] [] [(1056, .box [ow 1152 r3.tree.nodes.length, pI r3.tree.next, ow 1153 (r3.tasks.length + 1), pI r3.next]), (1153, .row 4 (r3.tasks.length + 1) (catF r3.tasks.length (elTask r3.tasks) (cut 4 [vi y1.id, vi y1.process, vi y1.group, vi y1.user])))] (an (by omega : (r3.tasks.length + 1) * 32 ≤ 140737488355328) tv) (by kernel_rfl) .nil (.cons rfl (.box (.cons .rfl (.cons .rfl (.cons (MLe.ownLen (enc := encTask) (d := dTask) (f := (catF r3.tasks.length (elTask r3.tasks) (cut 4 [vi y1.id, vi y1.process, vi y1.group, vi y1.user]))) (RowIs.cat RowIs.elems (RowIs.lit (enc := encTask) (d := dTask) (n := 1) (f := (cut 4 [vi y1.id, vi y1.process, vi y1.group, vi y1.user])) [y1] rfl (fun | 0, _ => rfl | n + 1, h => absurd h (by omega))))) (.cons .rfl .nil))))) (.cons rfl (BLe.typed (RowIs.cat RowIs.elems (RowIs.lit (enc := encTask) (d := dTask) (n := 1) (f := (cut 4 [vi y1.id, vi y1.process, vi y1.group, vi y1.user])) [y1] rfl (fun | 0, _ => rfl | n + 1, h => absurd h (by omega))))) .nil)) ?_)
    refine Sq (RD hnt (nn 5 []) [] [] [] [(1056, bx [ow 1152 r3.tree.nodes.length, pI r3.tree.next, ow 1153 (r3.tasks ++ [y1]).length, pI (w64 (r3.next + 1))])] tv ?_)
    refine Sq (RD hnt (nn 6 []) [3, 7] [(5, pI y1.id), (6, pI 0)] [1024, 1056] [(1032, bx [ow 1152 r3.tree.nodes.length, pI r3.tree.next, ow 1153 (r3.tasks ++ [y1]).length, pI (w64 (r3.next + 1))])] tv ?_)
    obtain rfl := sj hm
    exact DW.ret (retK [roNode r3.tree.nodes, roTask (r3.tasks ++ [y1])] [1152, 1153] (.tup [.agg [ow 0 r3.tree.nodes.length, pI r3.tree.next, ow 1 (r3.tasks ++ [y1]).length, pI (w64 (r3.next + 1))], pI y1.id, pI 0]))
   ·refine condM hm ?_ ?_
    ·intro h4 hm
     refine RD hnt (nn 4 []) [25] [] [] [(1024, bx [pI p0.next, pI p0.next, pI p1.group, pI p1.user])] tv ?_
     exact jD ({ id := p0.next, process := p0.next, group := p1.group, user := p1.user } : Task) hm Conv.eqK
    ·intro h4 hm
     refine Sk ?_
     exact jD ({ id := p0.next, process := p1.process, group := p1.group, user := p1.user } : Task) hm Conv.t0
abbrev o107 (ks : List Nat) (b : Bool) (RES : Hierarchy × Int × Int) : Orc := .call 122 ks b (.tup [.agg [ow 0 RES.1.tree.nodes.length, pI RES.1.tree.next, ow 1 RES.1.tasks.length, pI RES.1.next], pI RES.2.1, pI RES.2.2]) [] [roNode RES.1.tree.nodes, roTask RES.1.tasks]

abbrev c106e1 : Nat × Obj := (1048, bx [.p (.sl .nil 0 0 (fun _ => [])), pI 0, .p (.sl .nil 0 0 (fun _ => [])), pI 0])
theorem Spawn_ref6Spec (p0 : Hierarchy) (p1 : Int) (p2 : Int) (RES : Hierarchy × Int × Int) (hm : Spawn_ref6 p0 p1 p2 = some RES) : Spec Tryz.prog 73 [.p (.agg (encHierarchy p0)), pI p1, pI p2] [] (.tup [.agg [ow 0 RES.1.tree.nodes.length, pI RES.1.tree.next, ow 1 RES.1.tasks.length, pI RES.1.next], pI RES.2.1, pI RES.2.2]) [] [roNode RES.1.tree.nodes, roTask RES.1.tasks] := by
 unfold Spawn_ref6 at hm
 refine SO Tryz.func73 rfl rfl [(0, .p (.agg (encHierarchy p0))), (1, pI p1), (2, pI p2)] [] ?_
 intro cx hnt
 refine Sq (RD hnt (nn 4 []) [0] [(3, rr 1024), (6, rr 1048)] [] [(1024, bx (pm (encHierarchy p0))), (c106e1)] tv ?_)
 obtain ⟨r1, hr1, hm⟩ := bo hm
 refine Sq (Sq ?_)
 refine Jn (ι := Bool) (fun (y1 : Bool) => mkSt [(1, pI p1), (2, pI p2), (3, rr 1024), (6, rr 1048), (19, pB y1)] [(1024, bx (pm (encHierarchy p0))), (c106e1)]) (fun y1 => (Spawn_ref6J1 p0 p1 p2) y1 = some RES) ?_ ?_
 ·intro y1 hm
  unfold Spawn_ref6J1 at hm
  refine condM hm ?_ ?_
  ·intro h4 hm
   refine Sq (RD hnt (nn 4 []) [1, 2, 3, 19] [(7, pI 0), (8, pI 1)] [1024] [] tv ?_)
   refine DW.cv [] [] [] [(1048, bx [ow 100000 0, pI 0, ow 100001 0, pI 0]), (100000, ob0 (roNode [])), (100001, ob0 (roTask []))] (Conv.ads [(.o 1048 0, 100000, 6, elems encNode dNode []), (.o 1048 2, 100001, 4, elems encTask dTask [])]) ?_
   obtain rfl := sj hm
   exact DW.ret (retK [roNode [], roTask []] [100000, 100001] (.tup [.agg [ow 0 0, pI 0, ow 1 0, pI 0], pI 0, pI 1]))
  ·intro h4 hm
   refine Sk ?_
   obtain ⟨r5, hr5, hm⟩ := bo hm
   refine Sq (Sq (RD hnt (nn 3 (o78 [] true r5 :: .no :: [])) [19] [(25, pB (!r5))] [] [] (an (Has_ref5Spec p0.tree p1 r5 hr5) tv) ?_))
   refine condM hm ?_ ?_
   ·intro h6 hm
    refine Sq (RD hnt (nn 4 []) [1, 2, 3, 25] [(7, pI 0), (8, pI 4)] [1024] [] tv ?_)
    refine DW.cv [] [] [] [(1048, bx [ow 100000 0, pI 0, ow 100001 0, pI 0]), (100000, ob0 (roNode [])), (100001, ob0 (roTask []))] (Conv.ads [(.o 1048 0, 100000, 6, elems encNode dNode []), (.o 1048 2, 100001, 4, elems encTask dTask [])]) ?_
    obtain rfl := sj hm
    exact DW.ret (retK [roNode [], roTask []] [100000, 100001] (.tup [.agg [ow 0 0, pI 0, ow 1 0, pI 0], pI 0, pI 4]))
   ·intro h6 hm
    refine Sk ?_
    obtain ⟨r7, hr7, hm⟩ := bo hm
    refine Sq (RK hnt (nn 4 (o107 [] true r7 :: nn 6 [])) [(6, rr 1048), (7, pI r7.2.1), (8, pI r7.2.2)] [(1048, bx [ow 1248 r7.1.tree.nodes.length, pI r7.1.tree.next, ow 1249 r7.1.tasks.length, pI r7.1.next]), (1248, ob0 (roNode r7.1.tree.nodes)), (1249, ob0 (roTask r7.1.tasks))] (an (add_ref6Spec p0 ({ id := 0, process := 0, group := p1, user := p2 } : Task) r7 hr7) tv) ?_)
    obtain rfl := sj hm
    exact DW.ret (retK [roNode r7.1.tree.nodes, roTask r7.1.tasks] [1248, 1249] (.tup [.agg [ow 0 r7.1.tree.nodes.length, pI r7.1.tree.next, ow 1 r7.1.tasks.length, pI r7.1.next], pI r7.2.1, pI r7.2.2]))
 ·rcases bt (!r1) with h2 | h2
  ·replace hm := if_t h2 hm
   refine RD hnt (.no :: o92 [] true r1 :: nn 2 (sk 2 (pT :: .no :: sk 2 (pT :: [])))) [] [(19, pB true)] [] [] (an (Check_ref6Spec p0 r1 hr1) (an3 h2 (an3 tt tv))) ?_
   exact jD true hm Conv.eqK
  ·replace hm := if_f h2 hm
   rcases bt (decide (p2 < 0)) with h3 | h3
   ·replace hm := if_t h3 hm
    refine RD hnt (.no :: o92 [] true r1 :: nn 4 (pF :: .no :: sk 2 (pT :: []))) [] [(19, pB true)] [] [] (an (Check_ref6Spec p0 r1 hr1) (an3 h2 (an3 h3 tv))) ?_
    exact jD true hm Conv.eqK
   ·replace hm := if_f h3 hm
    refine RD hnt (.no :: o92 [] true r1 :: nn 4 (pF :: nn 3 (pF :: []))) [] [(19, pB (decide (p2 > 1048576)))] [] [] (an (Check_ref6Spec p0 r1 hr1) (an3 h2 (an3 h3 tv))) ?_
    exact jD (decide (p2 > 1048576)) hm Conv.eqK
abbrev o106 (ks : List Nat) (b : Bool) (RES : Hierarchy × Int × Int) : Orc := .call 73 ks b (.tup [.agg [ow 0 RES.1.tree.nodes.length, pI RES.1.tree.next, ow 1 RES.1.tasks.length, pI RES.1.next], pI RES.2.1, pI RES.2.2]) [] [roNode RES.1.tree.nodes, roTask RES.1.tasks]

theorem Task_Dice_madeSpec (p0 : Dice) (p1 : Hierarchy) (RES : Int × Dice) (hm : Task_Dice_made p0 p1 = some RES) : Spec Tryz.prog 39 [rr 0, .p (.agg (encHierarchy p1))] [.box (pm (encDice p0))] (pI RES.1) [.box (pm (encDice RES.2))] [] := by
 unfold Task_Dice_made at hm
 refine SO Tryz.func39 rfl rfl [(0, rr 0), (1, .p (.agg (encHierarchy p1)))] [(0, bx (pm (encDice p0)))] ?_
 intro cx hnt
 refine Sq (RD hnt (nn 2 []) [1] [(3, rr 1024)] [] [(1024, bx (pm (encHierarchy p1)))] tv ?_)
 obtain ⟨r1, hr1, hm⟩ := bo hm
 refine Sq (Sq ?_)
 refine Jn (ι := Bool) (fun (y1 : Bool) => mkSt [(0, rr 0), (3, rr 1024), (12, pB y1)] [(0, bx (pm (encDice r1.2))), (1024, bx (pm (encHierarchy p1)))]) (fun y1 => (Task_Dice_madeJ1 p1 r1) y1 = some RES) ?_ ?_
 ·intro y1 hm
  unfold Task_Dice_madeJ1 at hm
  refine condM hm ?_ ?_
  ·intro h3 hm
   obtain ⟨r4, hr4, hm⟩ := bo hm
   refine Sq (RK hnt (.no :: o71 [0] true r4 :: nn 2 []) [(4, pI (w64 (r4.1 - 1)))] [(0, bx (pm (encDice r4.2)))] (an (Next_Dice_madeSpec r1.2 9 r4 hr4) (an tv tv)) ?_)
   obtain rfl := sj hm
   exact DW.ret (retK [.box (pm (encDice r4.2))] [] (pI (w64 (r4.1 - 1))))
  ·intro h3 hm
   refine Sk ?_
   obtain ⟨r5, hr5, hm⟩ := bo hm
   obtain ⟨g6, hm⟩ := go1 hm
   refine Sq (RK hnt (nn 6 (o71 [0] true r5 :: nn 4 [])) [(4, pI (p1.tasks.getD (Int.toNat r5.1) dTask).id)] [(0, bx (pm (encDice r5.2)))] (an (Next_Dice_madeSpec r1.2 ((p1.tasks.length : Nat) : Int) r5 hr5) (an tv (an g6.1 (an g6.2 tv)))) ?_)
   obtain rfl := sj hm
   exact DW.ret (retK [.box (pm (encDice r5.2))] [] (pI (p1.tasks.getD (Int.toNat r5.1) dTask).id))
 ·rcases bt r1.1 with h2 | h2
  ·replace hm := if_t h2 hm
   refine RD hnt (.no :: o83 [0] true r1 :: .no :: sk 4 (pT :: [])) [] [(12, pB true)] [] [(0, bx (pm (encDice r1.2)))] (an (Bool_Dice_madeSpec p0 15 r1 hr1) (an tv (an5 h2 tv))) ?_
   exact jD true hm Conv.eqK
  ·replace hm := if_f h2 hm
   refine RD hnt (.no :: o83 [0] true r1 :: nn 5 (pF :: [])) [] [(12, pB (((p1.tasks.length : Nat) : Int) == 0))] [] [(0, bx (pm (encDice r1.2)))] (an (Bool_Dice_madeSpec p0 15 r1 hr1) (an tv (an5 h2 tv))) ?_
   exact jD (((p1.tasks.length : Nat) : Int) == 0) hm Conv.eqK
abbrev o108 (ks : List Nat) (b : Bool) (RES : Int × Dice) : Orc := .call 39 ks b (pI RES.1) [.box (pm (encDice RES.2))] []

theorem Clone_ref6Spec (p0 : Hierarchy) (p1 : Int) (RES : Hierarchy × Int × Int) (hm : Clone_ref6 p0 p1 = some RES) : Spec Tryz.prog 74 [.p (.agg (encHierarchy p0)), pI p1] [] (.tup [.agg [ow 0 RES.1.tree.nodes.length, pI RES.1.tree.next, ow 1 RES.1.tasks.length, pI RES.1.next], pI RES.2.1, pI RES.2.2]) [] [roNode RES.1.tree.nodes, roTask RES.1.tasks] := by
 unfold Clone_ref6 at hm
 refine SO Tryz.func74 rfl rfl [(0, .p (.agg (encHierarchy p0))), (1, pI p1)] [] ?_
 intro cx hnt
 refine Sq (RK hnt (nn 4 []) [(1, pI p1), (2, rr 1016), (4, rr 1032)] [(1016, bx (pm (encHierarchy p0))), (1032, bx [.p (.sl .nil 0 0 (fun _ => [])), pI 0, .p (.sl .nil 0 0 (fun _ => [])), pI 0])] tv ?_)
 obtain ⟨r1, hr1, hm⟩ := bo hm
 refine Sq (Sq (RD hnt (.no :: o92 [] true r1 :: .no :: []) [] [(11, pB (!r1))] [] [] (an (Check_ref6Spec p0 r1 hr1) tv) ?_))
 refine condM hm ?_ ?_
 ·intro h2 hm
  refine Sq (RD hnt (nn 4 []) [1, 2, 11] [(5, pI 0), (6, pI 1)] [1016] [] tv ?_)
  refine DW.cv [] [] [] [(1032, bx [ow 100000 0, pI 0, ow 100001 0, pI 0]), (100000, ob0 (roNode [])), (100001, ob0 (roTask []))] (Conv.ads [(.o 1032 0, 100000, 6, elems encNode dNode []), (.o 1032 2, 100001, 4, elems encTask dTask [])]) ?_
  obtain rfl := sj hm
  exact DW.ret (retK [roNode [], roTask []] [100000, 100001] (.tup [.agg [ow 0 0, pI 0, ow 1 0, pI 0], pI 0, pI 1]))
 ·intro h2 hm
  refine Sk ?_
  obtain ⟨r3, hr3, hm⟩ := bo hm
  refine Sq (RD hnt (nn 2 (o97 [] true r3 :: nn 6 [])) [1, 11] [(7, rr 1056), (8, pB r3.2)] [] [(1056, bx (pm (encTask r3.1)))] (an (Find_ref6Spec p0 p1 r3 hr3) tv) ?_)
  refine Sq (Sq (RD hnt (nn 2 []) [8] [(20, pB (!r3.2))] [] [] tv ?_))
  refine condM hm ?_ ?_
  ·intro h4 hm
   refine Sq (RD hnt (nn 4 []) [2, 7, 20] [(5, pI 0), (6, pI 4)] [1016, 1056] [] tv ?_)
   refine DW.cv [] [] [] [(1032, bx [ow 100000 0, pI 0, ow 100001 0, pI 0]), (100000, ob0 (roNode [])), (100001, ob0 (roTask []))] (Conv.ads [(.o 1032 0, 100000, 6, elems encNode dNode []), (.o 1032 2, 100001, 4, elems encTask dTask [])]) ?_
   obtain rfl := sj hm
   exact DW.ret (retK [roNode [], roTask []] [100000, 100001] (.tup [.agg [ow 0 0, pI 0, ow 1 0, pI 0], pI 0, pI 4]))
  ·intro h4 hm
   refine Sk ?_
   obtain ⟨r5, hr5, hm⟩ := bo hm
   refine Sq (RK hnt (nn 2 (o107 [] true r5 :: nn 6 [])) [(4, rr 1032), (5, pI r5.2.1), (6, pI r5.2.2)] [(1032, bx [ow 1192 r5.1.tree.nodes.length, pI r5.1.tree.next, ow 1193 r5.1.tasks.length, pI r5.1.next]), (1192, ob0 (roNode r5.1.tree.nodes)), (1193, ob0 (roTask r5.1.tasks))] (an (add_ref6Spec p0 r3.1 r5 hr5) tv) ?_)
   obtain rfl := sj hm
   exact DW.ret (retK [roNode r5.1.tree.nodes, roTask r5.1.tasks] [1192, 1193] (.tup [.agg [ow 0 r5.1.tree.nodes.length, pI r5.1.tree.next, ow 1 r5.1.tasks.length, pI r5.1.next], pI r5.2.1, pI r5.2.2]))
abbrev o109 (ks : List Nat) (b : Bool) (RES : Hierarchy × Int × Int) : Orc := .call 74 ks b (.tup [.agg [ow 0 RES.1.tree.nodes.length, pI RES.1.tree.next, ow 1 RES.1.tasks.length, pI RES.1.next], pI RES.2.1, pI RES.2.2]) [] [roNode RES.1.tree.nodes, roTask RES.1.tasks]

abbrev c111e1 (s1 : (List Task) × Int) (p2 : Int) := ({ id := (s1.1.getD (Int.toNat s1.2) dTask).id, process := (s1.1.getD (Int.toNat s1.2) dTask).process, group := p2, user := (s1.1.getD (Int.toNat s1.2) dTask).user } : Task)
abbrev c111e2 : Nat × Obj := (1048, bx [.p (.sl .nil 0 0 (fun _ => [])), pI 0, .p (.sl .nil 0 0 (fun _ => [])), pI 0])
abbrev c111e3 (s1 : (List Task) × Int) (p2 : Int) := (updF (elTask s1.1) (Int.toNat s1.2) [vi (s1.1.getD (Int.toNat s1.2) dTask).id, vi (s1.1.getD (Int.toNat s1.2) dTask).process, vi p2, vi (s1.1.getD (Int.toNat s1.2) dTask).user])
theorem Place_ref6Spec (p0 : Hierarchy) (p1 : Int) (p2 : Int) (RES : Hierarchy × Int) (hm : Place_ref6 p0 p1 p2 = some RES) : Spec Tryz.prog 101 [.p (.agg (encHierarchy p0)), pI p1, pI p2] [] (.tup [.agg [ow 0 RES.1.tree.nodes.length, pI RES.1.tree.next, ow 1 RES.1.tasks.length, pI RES.1.next], pI RES.2]) [] [roNode RES.1.tree.nodes, roTask RES.1.tasks] := by
 unfold Place_ref6 at hm
 refine SO Tryz.func101 rfl rfl [(0, .p (.agg (encHierarchy p0))), (1, pI p1), (2, pI p2)] [] ?_
 intro cx hnt
 refine Sq (RD hnt (nn 3 []) [0] [(3, rr 1024), (6, rr 1048)] [] [(1024, bx (pm (encHierarchy p0))), (c111e2)] tv ?_)
 obtain ⟨r1, hr1, hm⟩ := bo hm
 refine Sq (Sq (RD hnt (.no :: o92 [] true r1 :: .no :: []) [] [(14, pB (!r1))] [] [] (an (Check_ref6Spec p0 r1 hr1) tv) ?_))
 refine condM hm ?_ ?_
 ·intro h2 hm
  refine Sq (RD hnt (nn 3 []) [1, 2, 3, 14] [(7, pI 1)] [1024] [] tv ?_)
  refine DW.cv [] [] [] [(1048, bx [ow 100000 0, pI 0, ow 100001 0, pI 0]), (100000, ob0 (roNode [])), (100001, ob0 (roTask []))] (Conv.ads [(.o 1048 0, 100000, 6, elems encNode dNode []), (.o 1048 2, 100001, 4, elems encTask dTask [])]) ?_
  obtain rfl := sj hm
  exact DW.ret (retK [roNode [], roTask []] [100000, 100001] (.tup [.agg [ow 0 0, pI 0, ow 1 0, pI 0], pI 1]))
 ·intro h2 hm
  refine Sk ?_
  obtain ⟨r3, hr3, hm⟩ := bo hm
  refine Sq (Sq (RD hnt (nn 2 (o97 [] true r3 :: nn 6 [])) [14] [(9, pB r3.2)] [] [] (an (Find_ref6Spec p0 p1 r3 hr3) tv) ?_))
  refine Sq ?_
  refine Jn (ι := Bool) (fun (y1 : Bool) => mkSt [(1, pI p1), (2, pI p2), (3, rr 1024), (6, rr 1048), (30, pB y1)] [(1024, bx (pm (encHierarchy p0))), (c111e2)]) (fun y1 => (Place_ref6J1 p0 p1 p2) y1 = some RES) ?_ ?_
  ·intro y1 hm
   unfold Place_ref6J1 at hm
   refine condM hm ?_ ?_
   ·intro h6 hm
    refine Sq (RD hnt (nn 3 []) [1, 2, 3, 30] [(7, pI 4)] [1024] [] tv ?_)
    refine DW.cv [] [] [] [(1048, bx [ow 100000 0, pI 0, ow 100001 0, pI 0]), (100000, ob0 (roNode [])), (100001, ob0 (roTask []))] (Conv.ads [(.o 1048 0, 100000, 6, elems encNode dNode []), (.o 1048 2, 100001, 4, elems encTask dTask [])]) ?_
    obtain rfl := sj hm
    exact DW.ret (retK [roNode [], roTask []] [100000, 100001] (.tup [.agg [ow 0 0, pI 0, ow 1 0, pI 0], pI 4]))
   ·intro h6 hm
    refine Sk ?_
    obtain ⟨r7, hr7, hm⟩ := bo hm
    refine Sq (RD hnt (.no :: o102 [] true r7 :: nn 2 []) [3, 30] [(10, rr 1080)] [1024] [(1080, bx [ow 1264 r7.tree.nodes.length, pI r7.tree.next, ow 1265 r7.tasks.length, pI r7.next]), (1264, ob0 (roNode r7.tree.nodes)), (1265, ob0 (roTask r7.tasks))] (an (Copy_ref6Spec p0 r7 hr7) tv) ?_)
    refine Sq (Sq (RD hnt (.no :: []) [] [(11, pI 0)] [] [] tv ?_))
    refine Bk ?_
    refine DW.whileO (fun (s1 : (List Task) × Int) => mkSt [(1, pI p1), (2, pI p2), (6, rr 1048), (10, rr 1080), (11, pI s1.2)] [(c111e2), (1080, bx [ow 1264 r7.tree.nodes.length, pI r7.tree.next, ow 1265 s1.1.length, pI r7.next]), (1264, ob0 (roNode r7.tree.nodes)), (1265, ob0 (roTask s1.1))]) hm Conv.eqK ?_
    intro s1 n1 hm
    unfold Place_ref6L1 at hm
    refine Sq (Sq (RD hnt (nn 5 []) [] [(38, pB (decide (s1.2 < ((s1.1.length : Nat) : Int))))] [] [] tv ?_))
    refine condM hm ?_ ?_
    ·intro h14 hm
     refine Sk ?_
     refine Sq ?_
     refine Jn (ι := List Task) (fun (y3 : List Task) => mkSt [(1, pI p1), (2, pI p2), (6, rr 1048), (10, rr 1080), (11, pI s1.2)] [(c111e2), (1080, bx [ow 1264 r7.tree.nodes.length, pI r7.tree.next, ow 1265 y3.length, pI r7.next]), (1264, ob0 (roNode r7.tree.nodes)), (1265, ob0 (roTask y3))]) (fun y3 => (Place_ref6J3 s1 n1) y3 = some RES) ?_ ?_
     ·intro y3 hm
      unfold Place_ref6J3 at hm
      refine RD hnt (nn 3 []) [] [(11, pI (w64 (s1.2 + 1)))] [] [] tv ?_
      exact jD (y3, (w64 (s1.2 + 1))) hm Conv.eqK
     ·refine Bk ?_
      obtain ⟨g15, g16, hm⟩ := go2 hm
      refine Sq (RD hnt (nn 8 []) [38] [(48, pB ((s1.1.getD (Int.toNat s1.2) dTask).id == p1))] [] [] (an g15.1 (an g15.2 (an g16 tv))) ?_)
      refine condM hm ?_ ?_
      ·intro h17 hm
       obtain ⟨g18, g19, hm⟩ := go2 hm
       refine RN hnt (nn 7 []) [(1, pI p1), (2, pI p2), (6, rr 1048), (10, rr 1080), (11, pI s1.2)] [(c111e2), (1080, bx [ow 1264 r7.tree.nodes.length, pI r7.tree.next, ow 1265 (s1.1.set (Int.toNat s1.2) (c111e1 s1 p2)).length, pI r7.next]), (1264, ob0 (roNode r7.tree.nodes)), (1265, ob0 (roTask (s1.1.set (Int.toNat s1.2) (c111e1 s1 p2))))] [] [(1080, .box [ow 1264 r7.tree.nodes.length, pI r7.tree.next, ow 1265 s1.1.length, pI r7.next]), (1265, .row 4 s1.1.length (c111e3 s1 p2))] (an g18.1 (an g18.2 (an g19 tv))) (by kernel_rfl) .nil (.cons rfl (.box (.cons .rfl (.cons .rfl (.cons (MLe.ownLen (enc := encTask) (d := dTask) (f := (c111e3 s1 p2)) (RowIs.upd RowIs.elems (c111e1 s1 p2) rfl)) (.cons .rfl .nil))))) (.cons rfl (BLe.typed (RowIs.upd RowIs.elems (c111e1 s1 p2) rfl)) .nil)) ?_
       exact bD (s1.1.set (Int.toNat s1.2) (c111e1 s1 p2)) hm .refl
      ·intro h17 hm
       refine Sk ?_
       exact bD s1.1 hm Conv.t0
    ·intro h14 hm
     refine DW.exit ?_
     refine joinQ_exit ?_
     refine KQ_exit ?_
     refine blockQ_exit ?_
     show DW _ _ _ _ _
     refine Sq (RD hnt (nn 3 []) [1, 2, 10, 11, 38] [(7, pI 0)] [1080] [(1048, bx [ow 1264 r7.tree.nodes.length, pI r7.tree.next, ow 1265 s1.1.length, pI r7.next])] tv ?_)
     obtain rfl := sj hm
     exact DW.ret (retK [roNode r7.tree.nodes, roTask s1.1] [1264, 1265] (.tup [.agg [ow 0 r7.tree.nodes.length, pI r7.tree.next, ow 1 s1.1.length, pI r7.next], pI 0]))
  ·rcases bt (!r3.2) with h4 | h4
   ·replace hm := if_t h4 hm
    refine RD hnt (nn 3 (sk 5 (pT :: []))) [9] [(30, pB true)] [] [] (an6 h4 tv) ?_
    exact jD true hm Conv.eqK
   ·replace hm := if_f h4 hm
    obtain ⟨r5, hr5, hm⟩ := bo hm
    refine RD hnt (nn 6 (o78 [] true r5 :: .no :: pF :: [])) [9] [(30, pB (!r5))] [] [] (an4 h4 (an (Has_ref5Spec p0.tree p2 r5 hr5) (an2 h4 tv))) ?_
    exact jD (!r5) hm Conv.eqK
abbrev o111 (ks : List Nat) (b : Bool) (RES : Hierarchy × Int) : Orc := .call 101 ks b (.tup [.agg [ow 0 RES.1.tree.nodes.length, pI RES.1.tree.next, ow 1 RES.1.tasks.length, pI RES.1.next], pI RES.2]) [] [roNode RES.1.tree.nodes, roTask RES.1.tasks]

abbrev c110e1 : Nat × Obj := (1048, bx [ow 100000 0, pI 0, ow 100001 0, pI 0])
abbrev c110e2 : Nat × Obj := (1048, bx [.p (.sl .nil 0 0 (fun _ => [])), pI 0, .p (.sl .nil 0 0 (fun _ => [])), pI 0])
theorem AttachThread_ref8Spec (p0 : Hierarchy) (p1 : Int) (p2 : Int) (RES : Hierarchy × Int) (hm : AttachThread_ref8 p0 p1 p2 = some RES) : Spec Tryz.prog 51 [.p (.agg (encHierarchy p0)), pI p1, pI p2] [] (.tup [.agg [ow 0 RES.1.tree.nodes.length, pI RES.1.tree.next, ow 1 RES.1.tasks.length, pI RES.1.next], pI RES.2]) [] [roNode RES.1.tree.nodes, roTask RES.1.tasks] := by
 unfold AttachThread_ref8 at hm
 refine SO Tryz.func51 rfl rfl [(0, .p (.agg (encHierarchy p0))), (1, pI p1), (2, pI p2)] [] ?_
 intro cx hnt
 refine Sq (RD hnt (nn 3 []) [0] [(3, rr 1024), (6, rr 1048)] [] [(1024, bx (pm (encHierarchy p0))), (c110e2)] tv ?_)
 obtain ⟨r1, hr1, hm⟩ := bo hm
 refine Sq (Sq (RD hnt (.no :: o90 [] true r1 :: .no :: []) [] [(17, pB (!r1))] [] [] (an (Fits_ref8Spec p0 r1 hr1) tv) ?_))
 refine condM hm ?_ ?_
 ·intro h2 hm
  refine Sq (RD hnt (nn 3 []) [1, 2, 3, 17] [(7, pI 1)] [1024] [] tv ?_)
  refine DW.cv [] [] [] [(c110e1), (100000, ob0 (roNode [])), (100001, ob0 (roTask []))] (Conv.ads [(.o 1048 0, 100000, 6, elems encNode dNode []), (.o 1048 2, 100001, 4, elems encTask dTask [])]) ?_
  obtain rfl := sj hm
  exact DW.ret (retK [roNode [], roTask []] [100000, 100001] (.tup [.agg [ow 0 0, pI 0, ow 1 0, pI 0], pI 1]))
 ·intro h2 hm
  refine Sk ?_
  obtain ⟨r3, hr3, hm⟩ := bo hm
  refine Sq (RD hnt (nn 2 (o97 [] true r3 :: nn 6 [])) [17] [(8, rr 1064), (9, pB r3.2)] [] [(1064, bx (pm (encTask r3.1)))] (an (Find_ref6Spec p0 p1 r3 hr3) tv) ?_)
  refine Sq (Sq ?_)
  refine Jn (ι := Bool) (fun (y1 : Bool) => mkSt [(1, pI p1), (2, pI p2), (3, rr 1024), (6, rr 1048), (8, rr 1064), (33, pB y1)] [(1024, bx (pm (encHierarchy p0))), (c110e2), (1064, bx (pm (encTask r3.1)))]) (fun y1 => (AttachThread_ref8J1 p0 p1 p2 r3) y1 = some RES) ?_ ?_
  ·intro y1 hm
   unfold AttachThread_ref8J1 at hm
   refine condM hm ?_ ?_
   ·intro h6 hm
    refine Sq (RD hnt (nn 3 []) [1, 2, 3, 8, 33] [(7, pI 4)] [1024, 1064] [] tv ?_)
    refine DW.cv [] [] [] [(c110e1), (100000, ob0 (roNode [])), (100001, ob0 (roTask []))] (Conv.ads [(.o 1048 0, 100000, 6, elems encNode dNode []), (.o 1048 2, 100001, 4, elems encTask dTask [])]) ?_
    obtain rfl := sj hm
    exact DW.ret (retK [roNode [], roTask []] [100000, 100001] (.tup [.agg [ow 0 0, pI 0, ow 1 0, pI 0], pI 4]))
   ·intro h6 hm
    refine Sk ?_
    obtain ⟨r7, hr7, hm⟩ := bo hm
    refine Sq (Sq (RD hnt (nn 2 (o105 [] true r7 :: .no :: [])) [33] [(10, pI r7)] [] [] (an (Admits_ref8Spec p0 p2 r7 hr7) tv) ?_))
    refine Sq (RD hnt (nn 2 []) [] [(39, pB (r7 != 0))] [] [] tv ?_)
    refine condM hm ?_ ?_
    ·intro h8 hm
     refine Sq (RD hnt (nn 4 []) [1, 2, 3, 8, 10, 39] [(7, pI r7)] [1024, 1064] [] tv ?_)
     refine DW.cv [] [] [] [(c110e1), (100000, ob0 (roNode [])), (100001, ob0 (roTask []))] (Conv.ads [(.o 1048 0, 100000, 6, elems encNode dNode []), (.o 1048 2, 100001, 4, elems encTask dTask [])]) ?_
     obtain rfl := sj hm
     exact DW.ret (retK [roNode [], roTask []] [100000, 100001] (.tup [.agg [ow 0 0, pI 0, ow 1 0, pI 0], pI r7]))
    ·intro h8 hm
     refine Sk ?_
     obtain ⟨r9, hr9, hm⟩ := bo hm
     refine Sq (RD hnt (nn 3 (o98 [] true r9 :: nn 5 [])) [10, 39] [(11, pI r9.1)] [] [] (an (Domain_ref8Spec p0.tree p2 r9 hr9) tv) ?_)
     obtain ⟨r10, hr10, hm⟩ := bo hm
     refine Sq (Sq (RD hnt (nn 4 (o98 [] true r10 :: nn 5 [])) [8] [(13, pI r10.1)] [1064] [] (an (Domain_ref8Spec p0.tree r3.1.group r10 hr10) tv) ?_))
     refine Sq (RD hnt (nn 3 []) [11, 13] [(59, pB (r9.1 != r10.1))] [] [] tv ?_)
     refine condM hm ?_ ?_
     ·intro h11 hm
      refine Sq (RD hnt (nn 3 []) [1, 2, 3, 59] [(7, pI 9)] [1024] [] tv ?_)
      refine DW.cv [] [] [] [(c110e1), (100000, ob0 (roNode [])), (100001, ob0 (roTask []))] (Conv.ads [(.o 1048 0, 100000, 6, elems encNode dNode []), (.o 1048 2, 100001, 4, elems encTask dTask [])]) ?_
      obtain rfl := sj hm
      exact DW.ret (retK [roNode [], roTask []] [100000, 100001] (.tup [.agg [ow 0 0, pI 0, ow 1 0, pI 0], pI 9]))
     ·intro h11 hm
      refine Sk ?_
      obtain ⟨r12, hr12, hm⟩ := bo hm
      refine Sq (RK hnt (nn 3 (o111 [] true r12 :: nn 4 [])) [(6, rr 1048), (7, pI r12.2)] [(1048, bx [ow 1512 r12.1.tree.nodes.length, pI r12.1.tree.next, ow 1513 r12.1.tasks.length, pI r12.1.next]), (1512, ob0 (roNode r12.1.tree.nodes)), (1513, ob0 (roTask r12.1.tasks))] (an (Place_ref6Spec p0 p1 p2 r12 hr12) tv) ?_)
      obtain rfl := sj hm
      exact DW.ret (retK [roNode r12.1.tree.nodes, roTask r12.1.tasks] [1512, 1513] (.tup [.agg [ow 0 r12.1.tree.nodes.length, pI r12.1.tree.next, ow 1 r12.1.tasks.length, pI r12.1.next], pI r12.2]))
  ·rcases bt (!r3.2) with h4 | h4
   ·replace hm := if_t h4 hm
    refine RD hnt (nn 3 (sk 5 (pT :: []))) [9] [(33, pB true)] [] [] (an6 h4 tv) ?_
    exact jD true hm Conv.eqK
   ·replace hm := if_f h4 hm
    obtain ⟨r5, hr5, hm⟩ := bo hm
    refine RD hnt (nn 6 (o78 [] true r5 :: .no :: pF :: [])) [9] [(33, pB (!r5))] [] [] (an4 h4 (an (Has_ref5Spec p0.tree p2 r5 hr5) (an2 h4 tv))) ?_
    exact jD (!r5) hm Conv.eqK
abbrev o110 (ks : List Nat) (b : Bool) (RES : Hierarchy × Int) : Orc := .call 51 ks b (.tup [.agg [ow 0 RES.1.tree.nodes.length, pI RES.1.tree.next, ow 1 RES.1.tasks.length, pI RES.1.next], pI RES.2]) [] [roNode RES.1.tree.nodes, roTask RES.1.tasks]

abbrev c112e1 (p0 : Hierarchy) (k1 : Nat) := (p0.tasks.getD k1 (default : Task))
abbrev c112e2 : Nat × Obj := (1032, bx [.p (.sl .nil 0 0 (fun _ => [])), pI 0, .p (.sl .nil 0 0 (fun _ => [])), pI 0])
abbrev c112e3 (p0 : Hierarchy) : Nat × Obj := (1016, bx (pm (encHierarchy p0)))
theorem Exit_ref6Spec (p0 : Hierarchy) (p1 : Int) (RES : Hierarchy × Int) (hm : Exit_ref6 p0 p1 = some RES) : Spec Tryz.prog 75 [.p (.agg (encHierarchy p0)), pI p1] [] (.tup [.agg [ow 0 RES.1.tree.nodes.length, pI RES.1.tree.next, ow 1 RES.1.tasks.length, pI RES.1.next], pI RES.2]) [] [roNode RES.1.tree.nodes, roTask RES.1.tasks] := by
 unfold Exit_ref6 at hm
 refine SO Tryz.func75 rfl rfl [(0, .p (.agg (encHierarchy p0))), (1, pI p1)] [] ?_
 intro cx hnt
 refine Sq (RK hnt (nn 3 []) [(1, pI p1), (2, rr 1016), (4, rr 1032)] [(c112e3 p0), (c112e2)] tv ?_)
 obtain ⟨r1, hr1, hm⟩ := bo hm
 refine Sq (Sq (RD hnt (.no :: o92 [] true r1 :: .no :: []) [] [(13, pB (!r1))] [] [] (an (Check_ref6Spec p0 r1 hr1) tv) ?_))
 refine condM hm ?_ ?_
 ·intro h2 hm
  refine Sq (RD hnt (nn 3 []) [1, 2, 13] [(5, pI 1)] [1016] [] tv ?_)
  refine DW.cv [] [] [] [(1032, bx [ow 100000 0, pI 0, ow 100001 0, pI 0]), (100000, ob0 (roNode [])), (100001, ob0 (roTask []))] (Conv.ads [(.o 1032 0, 100000, 6, elems encNode dNode []), (.o 1032 2, 100001, 4, elems encTask dTask [])]) ?_
  obtain rfl := sj hm
  exact DW.ret (retK [roNode [], roTask []] [100000, 100001] (.tup [.agg [ow 0 0, pI 0, ow 1 0, pI 0], pI 1]))
 ·intro h2 hm
  refine Sk ?_
  obtain ⟨r3, hr3, hm⟩ := bo hm
  refine Sq (Sq (RD hnt (nn 2 (o97 [] true r3 :: nn 6 [])) [13] [(7, pB r3.2)] [] [] (an (Find_ref6Spec p0 p1 r3 hr3) tv) ?_))
  refine Sq (RD hnt (nn 2 []) [7] [(22, pB (!r3.2))] [] [] tv ?_)
  refine condM hm ?_ ?_
  ·intro h4 hm
   refine Sq (RD hnt (nn 3 []) [1, 2, 22] [(5, pI 4)] [1016] [] tv ?_)
   refine DW.cv [] [] [] [(1032, bx [ow 100000 0, pI 0, ow 100001 0, pI 0]), (100000, ob0 (roNode [])), (100001, ob0 (roTask []))] (Conv.ads [(.o 1032 0, 100000, 6, elems encNode dNode []), (.o 1032 2, 100001, 4, elems encTask dTask [])]) ?_
   obtain rfl := sj hm
   exact DW.ret (retK [roNode [], roTask []] [100000, 100001] (.tup [.agg [ow 0 0, pI 0, ow 1 0, pI 0], pI 4]))
  ·intro h4 hm
   refine Sk ?_
   obtain ⟨r5, hr5, hm⟩ := bo hm
   refine Sq (RD hnt (nn 2 (o82 [] true r5 :: nn 5 [])) [22] [(8, rr 1064)] [] [(1064, bx [ow 1208 r5.nodes.length, pI r5.next, .p (.sl .nil 0 0 (fun _ => [])), pI p0.next]), (1208, ob0 (roNode r5.nodes))] (an (Copy_ref5Spec p0.tree r5 hr5) tv) ?_)
   refine Sq (Sq (RD hnt (.no :: []) [] [(9, pI 0)] [] [] tv ?_))
   refine Bk ?_
   obtain ⟨hc1, hm⟩ := go1 hm
   refine DW.rangeO (fun (k1 : Nat) (s1 : List Task) => mkSt [(1, pI p1), (2, rr 1016), (4, rr 1032), (8, rr 1064), (9, pI ((k1 : Nat) : Int))] [(c112e3 p0), (c112e2), (1064, bx [ow 1208 r5.nodes.length, pI r5.next, ow 1448 s1.length, pI p0.next]), (1208, ob0 (roNode r5.nodes)), (1448, ob0 (roTask s1))]) dTask hm (Conv.ads [(.o 1064 2, 1448, 4, elems encTask dTask [])]) ?_
   intro k1 s1 n1 hk1 hs1 he1
   refine Sq (Sq (RD hnt (nn 5 []) [] [(34, pB (decide (((k1 : Nat) : Int) < ((p0.tasks.length : Nat) : Int))))] [] [] tv ?_))
   refine condK (decide (((k1 : Nat) : Int) < ((p0.tasks.length : Nat) : Int))) ?_ ?_
   ·intro h15
    have hlt1 : k1 < p0.tasks.length := by have := of_decide_eq_true h15; omega
    have hm := hs1 hlt1
    unfold Exit_ref6L1 at hm
    refine Sk ?_
    refine Sq ?_
    refine Jn (ι := List Task) (fun (y3 : List Task) => mkSt [(1, pI p1), (2, rr 1016), (4, rr 1032), (8, rr 1064), (9, pI ((k1 : Nat) : Int))] [(c112e3 p0), (c112e2), (1064, bx [ow 1208 r5.nodes.length, pI r5.next, ow 1448 y3.length, pI p0.next]), (1208, ob0 (roNode r5.nodes)), (1448, ob0 (roTask y3))]) (fun y3 => (Exit_ref6J3 n1) y3 = some RES) ?_ ?_
    ·intro y3 hm
     unfold Exit_ref6J3 at hm
     refine RD hnt (nn 3 []) [] [(9, pI (w64 (((k1 : Nat) : Int) + 1)))] [] [] tv ?_
     exact jD y3 ⟨hlt1, hm⟩ (Conv.tp [(9, pI (w64 (((k1 : Nat) : Int) + 1)))] [] (by kernel_rfl) (.cons rfl (.of_eq (congrArg pI (w64_succ hlt1 hc1))) .nil) .nil)
    ·refine Bk ?_
     refine Sq (RD hnt (nn 7 []) [34] [(10, rr 1080)] [] [(1080, bx (pm (encTask (c112e1 p0 k1))))] (an (nn0 k1) (an (ltc hlt1) tv)) ?_)
     refine Sq (DW.regJ (sl2 := [(1, pI p1), (2, rr 1016), (4, rr 1032), (8, rr 1064), (9, pI ((k1 : Nat) : Int)), (10, rr 1080), (51, pB (((c112e1 p0 k1).id != p1) && ((c112e1 p0 k1).process != p1)))]) (ob2 := [(c112e3 p0), (c112e2), (1064, bx [ow 1208 r5.nodes.length, pI r5.next, ow 1448 s1.length, pI p0.next]), (1080, bx (pm (encTask (c112e1 p0 k1)))), (1208, ob0 (roNode r5.nodes)), (1448, ob0 (roTask s1))]) ?_ ?_)
     ·rcases bt ((c112e1 p0 k1).id != p1) with h16 | h16
      ·exact RT hnt (nn 9 (pT :: [])) [(51, pB ((c112e1 p0 k1).process != p1))] (an5 h16 tv) (by kernel_rfl) (.cons rfl (.of_eq (by rw [h16]; try rfl)) .nil)
      ·exact RT hnt (nn 5 (sk 4 (pF :: []))) [(51, pB false)] (an5 h16 tv) (by kernel_rfl) (.cons rfl (.of_eq (by rw [h16]; try rfl)) .nil)
     ·refine condM hm ?_ ?_
      ·intro h17 hm
       obtain ⟨g18, hm⟩ := go1 hm
       refine RN hnt (nn 7 []) [(1, pI p1), (2, rr 1016), (4, rr 1032), (8, rr 1064), (9, pI ((k1 : Nat) : Int))] [(c112e3 p0), (c112e2), (1064, bx [ow 1208 r5.nodes.length, pI r5.next, ow 1448 (s1 ++ [(c112e1 p0 k1)]).length, pI p0.next]), (1208, ob0 (roNode r5.nodes)), (1448, ob0 (roTask (s1 ++ [(c112e1 p0 k1)])))] [] [(1064, .box [ow 1208 r5.nodes.length, pI r5.next, ow 1448 (s1.length + 1), pI p0.next]), (1448, .row 4 (s1.length + 1) (catF s1.length (elTask s1) (cut 4 [vi (c112e1 p0 k1).id, vi (c112e1 p0 k1).process, vi (c112e1 p0 k1).group, vi (c112e1 p0 k1).user])))] (an (by omega : (s1.length + 1) * 32 ≤ 140737488355328) tv) (by kernel_rfl) .nil (.cons rfl (.box (.cons .rfl (.cons .rfl (.cons (MLe.ownLen (enc := encTask) (d := dTask) (f := (catF s1.length (elTask s1) (cut 4 [vi (c112e1 p0 k1).id, vi (c112e1 p0 k1).process, vi (c112e1 p0 k1).group, vi (c112e1 p0 k1).user]))) (RowIs.cat RowIs.elems (RowIs.lit (enc := encTask) (d := dTask) (n := 1) (f := (cut 4 [vi (c112e1 p0 k1).id, vi (c112e1 p0 k1).process, vi (c112e1 p0 k1).group, vi (c112e1 p0 k1).user])) [(c112e1 p0 k1)] rfl (fun | 0, _ => rfl | n + 1, h => absurd h (by omega))))) (.cons .rfl .nil))))) (.cons rfl (BLe.typed (RowIs.cat RowIs.elems (RowIs.lit (enc := encTask) (d := dTask) (n := 1) (f := (cut 4 [vi (c112e1 p0 k1).id, vi (c112e1 p0 k1).process, vi (c112e1 p0 k1).group, vi (c112e1 p0 k1).user])) [(c112e1 p0 k1)] rfl (fun | 0, _ => rfl | n + 1, h => absurd h (by omega))))) .nil)) ?_
       exact bD (s1 ++ [(c112e1 p0 k1)]) hm .refl
      ·intro h17 hm
       refine Sk ?_
       exact bD s1 hm Conv.t0
   ·intro h15
    have hge1 : ¬ k1 < p0.tasks.length := by have := of_decide_eq_false h15; omega
    have hm := he1 hge1
    unfold Exit_ref6D1 at hm
    refine DW.exit ?_
    refine joinQ_exit ?_
    refine KQ_exit ?_
    refine blockQ_exit ?_
    show DW _ _ _ _ _
    refine Sq (RD hnt (nn 3 []) [1, 2, 8, 9, 34] [(5, pI 0)] [1016, 1064] [(1032, bx [ow 1208 r5.nodes.length, pI r5.next, ow 1448 s1.length, pI p0.next])] tv ?_)
    obtain rfl := sj hm
    exact DW.ret (retK [roNode r5.nodes, roTask s1] [1208, 1448] (.tup [.agg [ow 0 r5.nodes.length, pI r5.next, ow 1 s1.length, pI p0.next], pI 0]))
abbrev o112 (ks : List Nat) (b : Bool) (RES : Hierarchy × Int) : Orc := .call 75 ks b (.tup [.agg [ow 0 RES.1.tree.nodes.length, pI RES.1.tree.next, ow 1 RES.1.tasks.length, pI RES.1.next], pI RES.2]) [] [roNode RES.1.tree.nodes, roTask RES.1.tasks]

abbrev c69e1 : Nat × Obj := (1048, bx [.p (.sl .nil 0 0 (fun _ => [])), pI 0, .p (.sl .nil 0 0 (fun _ => [])), pI 0])
theorem Hierarchy_Dice_madeSpec (p0 : Dice) (p1 : Int) (p2 : Int) (RES : Hierarchy × Dice) (hm : Hierarchy_Dice_made p0 p1 p2 = some RES) : Spec Tryz.prog 18 [rr 0, pI p1, pI p2] [.box (pm (encDice p0))] (.p (.agg (encHierarchy RES.1))) [.box (pm (encDice RES.2))] [] := by
 unfold Hierarchy_Dice_made at hm
 refine SO Tryz.func18 rfl rfl [(0, rr 0), (1, pI p1), (2, pI p2)] [(0, bx (pm (encDice p0)))] ?_
 intro cx hnt
 refine Sq (RD hnt (.no :: []) [] [(6, rr 1048)] [] [(c69e1)] tv ?_)
 obtain ⟨r1, hr1, hm⟩ := bo hm
 refine Sq (RD hnt (o4 [] true r1 :: nn 2 []) [] [(7, rr 1056)] [] [(1056, bx [ow 1168 r1.tree.nodes.length, pI r1.tree.next, ow 1169 r1.tasks.length, pI r1.next]), (1168, ob0 (roNode r1.tree.nodes)), (1169, ob0 (roTask r1.tasks))] (an (New_ref6Spec r1 hr1) tv) ?_)
 obtain ⟨r2, hr2, hm⟩ := bo hm
 refine Sq (RD hnt (nn 2 (o70 [0] true r2 :: nn 2 [])) [] [] [1168] [(0, bx (pm (encDice r2.2))), (1056, bx [.p (slNode r2.1.nodes), pI r2.1.next, ow 1169 r1.tasks.length, pI r1.next])] (an (Tree_Dice_madeSpec p0 p1 r2 hr2) (an tv tv)) ?_)
 obtain ⟨r3, hr3, hm⟩ := bo hm
 refine Sq (Sq (RD hnt (nn 3 (o71 [0] true r3 :: .no :: [])) [1] [(8, pI r3.1)] [] [(0, bx (pm (encDice r3.2)))] (an (Next_Dice_madeSpec r2.2 (w64 (p1 + 3)) r3 hr3) (an tv tv)) ?_))
 refine Bk ?_
 refine DW.whileO (fun (s1 : Dice × Hierarchy × Int) => mkSt [(0, rr 0), (2, pI p2), (6, rr 1048), (7, rr 1056), (8, pI s1.2.2)] [(0, bx (pm (encDice s1.1))), (c69e1), (1056, bx (pm (encHierarchy s1.2.1)))]) hm (Conv.frz [1169]) ?_
 intro s1 n1 hm
 unfold Hierarchy_Dice_madeL1 at hm
 refine Sq (Sq (RD hnt (nn 2 []) [] [(31, pB (decide (s1.2.2 > 0)))] [] [] tv ?_))
 refine condM hm ?_ ?_
 ·intro h56 hm
  refine Sk ?_
  refine Sq (Bk ?_)
  obtain ⟨r57, hr57, hm⟩ := bo hm
  refine RD hnt (nn 2 (o86 [0] true r57 :: .no :: [])) [31] [] [] [(0, bx (pm (encDice r57.2))), (1056, bx (pm (encHierarchy r57.1)))] (an (step_Dice_madeSpec s1.1 s1.2.1 r57 hr57) (an tv tv)) ?_
  refine DW.done ?_
  show DW _ _ _ _ _
  refine RD hnt (nn 3 []) [] [(8, pI (w64 (s1.2.2 - 1)))] [] [] tv ?_
  exact jD (r57.2, r57.1, (w64 (s1.2.2 - 1))) hm Conv.eqK
 ·intro h56 hm
  refine DW.exit ?_
  refine joinQ_exit ?_
  refine KQ_exit ?_
  refine blockQ_exit ?_
  show DW _ _ _ _ _
  obtain ⟨r58, hr58, hm⟩ := bo hm
  refine Sq (Sq (RD hnt (nn 3 (o71 [0] true r58 :: .no :: [])) [2, 8, 31] [(9, pI r58.1)] [] [(0, bx (pm (encDice r58.2)))] (an (Next_Dice_madeSpec s1.1 (w64 (p2 + 1)) r58 hr58) (an tv tv)) ?_))
  refine Bk ?_
  refine DW.whileO (fun (s3 : Dice × Hierarchy × Int) => mkSt [(0, rr 0), (6, rr 1048), (7, rr 1056), (9, pI s3.2.2)] [(0, bx (pm (encDice s3.1))), (c69e1), (1056, bx (pm (encHierarchy s3.2.1)))]) hm Conv.eqK ?_
  intro s3 n3 hm
  unfold Hierarchy_Dice_madeL3 at hm
  refine Sq (Sq (RD hnt (nn 2 []) [] [(42, pB (decide (s3.2.2 > 0)))] [] [] tv ?_))
  refine condM hm ?_ ?_
  ·intro h82 hm
   refine Sk ?_
   refine Sq ?_
   refine Jn (ι := Dice × Hierarchy) (fun (y13 : Dice × Hierarchy) => mkSt [(0, rr 0), (6, rr 1048), (7, rr 1056), (9, pI s3.2.2)] [(0, bx (pm (encDice y13.1))), (c69e1), (1056, bx (pm (encHierarchy y13.2)))]) (fun y13 => (Hierarchy_Dice_madeJ13 s3 n3) y13 = some RES) ?_ ?_
   ·intro y13 hm
    unfold Hierarchy_Dice_madeJ13 at hm
    refine RD hnt (nn 3 []) [] [(9, pI (w64 (s3.2.2 - 1)))] [] [] tv ?_
    exact jD (y13.1, y13.2, (w64 (s3.2.2 - 1))) hm Conv.eqK
   ·refine Bk ?_
    obtain ⟨r83, hr83, hm⟩ := bo hm
    refine Sq (RD hnt (nn 3 (o87 [0] true r83 :: .no :: [])) [42] [(10, pI r83.1)] [] [(0, bx (pm (encDice r83.2)))] (an (Group_Dice_madeSpec s3.1 s3.2.1.tree r83 hr83) (an tv tv)) ?_)
    obtain ⟨r84, hr84, hm⟩ := bo hm
    refine Sq (Sq (RD hnt (nn 2 (o105 [] true r84 :: .no :: [])) [] [(52, pB (r84 != 0))] [] [] (an (Admits_ref8Spec s3.2.1 r83.1 r84 hr84) tv) ?_))
    refine condM hm ?_ ?_
    ·intro h85 hm
     refine DW.exit ?_
     exact blockQ_exit (joinKQ (r83.2, s3.2.1) hm Conv.t0)
    ·intro h85 hm
     refine Sk ?_
     obtain ⟨r86, hr86, hm⟩ := bo hm
     obtain ⟨r87, hr87, hm⟩ := bo hm
     refine Sq (Sq (RD hnt (nn 3 (o71 [0] true r86 :: o106 [] true r87 :: nn 8 [])) [10, 52] [(11, rr 1088), (13, pI r87.2.2)] [] [(0, bx (pm (encDice r86.2))), (1088, bx [ow 1464 r87.1.tree.nodes.length, pI r87.1.tree.next, ow 1465 r87.1.tasks.length, pI r87.1.next]), (1464, ob0 (roNode r87.1.tree.nodes)), (1465, ob0 (roTask r87.1.tasks))] (an (Next_Dice_madeSpec r83.2 3 r86 hr86) (an tv (an (Spawn_ref6Spec s3.2.1 r83.1 r86.1 r87 hr87) tv))) ?_))
     refine Sq (RD hnt (nn 2 []) [13] [(63, pB (r87.2.2 == 0))] [] [] tv ?_)
     refine Jn (ι := Hierarchy) (fun (y14 : Hierarchy) => mkSt [(0, rr 0), (6, rr 1048), (7, rr 1056), (9, pI s3.2.2)] [(0, bx (pm (encDice r86.2))), (c69e1), (1056, bx (pm (encHierarchy y14)))]) (fun y14 => (Hierarchy_Dice_madeJ14 s3 n3 r86) y14 = some RES) ?_ ?_
     ·intro y14 hm
      unfold Hierarchy_Dice_madeJ14 at hm
      obtain ⟨r89, hr89, hm⟩ := bo hm
      refine Sq (Sq (RD hnt (.no :: o83 [0] true r89 :: []) [] [(66, pB r89.1)] [] [(0, bx (pm (encDice r89.2)))] (an (Bool_Dice_madeSpec r86.2 3 r89 hr89) (an tv tv)) ?_))
      refine Jn (ι := Dice × Hierarchy) (fun (y15 : Dice × Hierarchy) => mkSt [(0, rr 0), (6, rr 1048), (7, rr 1056), (9, pI s3.2.2)] [(0, bx (pm (encDice y15.1))), (c69e1), (1056, bx (pm (encHierarchy y15.2)))]) (fun y15 => (Hierarchy_Dice_madeJ15 s3 n3) y15 = some RES) ?_ ?_
      ·intro y15 hm
       unfold Hierarchy_Dice_madeJ15 at hm
       obtain ⟨r94, hr94, hm⟩ := bo hm
       refine Sq (Sq (RD hnt (.no :: o83 [0] true r94 :: []) [] [(80, pB r94.1)] [] [(0, bx (pm (encDice r94.2)))] (an (Bool_Dice_madeSpec y15.1 4 r94 hr94) (an tv tv)) ?_))
       refine Jn (ι := Dice × Hierarchy) (fun (y16 : Dice × Hierarchy) => mkSt [(0, rr 0), (6, rr 1048), (7, rr 1056), (9, pI s3.2.2)] [(0, bx (pm (encDice y16.1))), (c69e1), (1056, bx (pm (encHierarchy y16.2)))]) (fun y16 => (Hierarchy_Dice_madeJ16 s3 n3) y16 = some RES) ?_ ?_
       ·intro y16 hm
        unfold Hierarchy_Dice_madeJ16 at hm
        obtain ⟨r100, hr100, hm⟩ := bo hm
        refine Sq (RD hnt (.no :: o83 [0] true r100 :: []) [] [(97, pB r100.1)] [] [(0, bx (pm (encDice r100.2)))] (an (Bool_Dice_madeSpec y16.1 8 r100 hr100) (an tv tv)) ?_)
        refine condM hm ?_ ?_
        ·intro h101 hm
         obtain ⟨r102, hr102, hm⟩ := bo hm
         obtain ⟨r103, hr103, hm⟩ := bo hm
         refine Sq (RD hnt (nn 3 (o108 [0] true r102 :: o112 [] true r103 :: nn 6 [])) [97] [(19, rr 1152), (20, pI r103.2)] [] [(0, bx (pm (encDice r102.2))), (1152, bx [ow 1824 r103.1.tree.nodes.length, pI r103.1.tree.next, ow 1825 r103.1.tasks.length, pI r103.1.next]), (1824, ob0 (roNode r103.1.tree.nodes)), (1825, ob0 (roTask r103.1.tasks))] (an (Task_Dice_madeSpec r100.2 y16.2 r102 hr102) (an tv (an (Exit_ref6Spec y16.2 r102.1 r103 hr103) tv))) ?_)
         refine Sq (RD hnt (nn 2 []) [20] [(107, pB (r103.2 == 0))] [] [] tv ?_)
         refine condM hm ?_ ?_
         ·intro h104 hm
          refine RD hnt (nn 2 []) [19, 107] [] [1152] [(1056, bx [ow 1824 r103.1.tree.nodes.length, pI r103.1.tree.next, ow 1825 r103.1.tasks.length, pI r103.1.next])] tv ?_
          exact bD (r102.2, r103.1) hm (Conv.frz [1824, 1825])
         ·intro h104 hm
          refine Sk ?_
          exact bD (r102.2, y16.2) hm Conv.t0
        ·intro h101 hm
         refine Sk ?_
         exact bD (r100.2, y16.2) hm Conv.t0
       ·refine condM hm ?_ ?_
        ·intro h95 hm
         obtain ⟨r96, hr96, hm⟩ := bo hm
         obtain ⟨r97, hr97, hm⟩ := bo hm
         obtain ⟨r98, hr98, hm⟩ := bo hm
         refine Sq (RD hnt (nn 3 (o108 [0] true r96 :: nn 3 (o87 [0] true r97 :: o110 [] true r98 :: nn 6 []))) [80] [(17, rr 1136), (18, pI r98.2)] [] [(0, bx (pm (encDice r97.2))), (1136, bx [ow 1720 r98.1.tree.nodes.length, pI r98.1.tree.next, ow 1721 r98.1.tasks.length, pI r98.1.next]), (1720, ob0 (roNode r98.1.tree.nodes)), (1721, ob0 (roTask r98.1.tasks))] (an (Task_Dice_madeSpec r94.2 y15.2 r96 hr96) (an tv (an (Group_Dice_madeSpec r96.2 y15.2.tree r97 hr97) (an tv (an (AttachThread_ref8Spec y15.2 r96.1 r97.1 r98 hr98) tv))))) ?_)
         refine Sq (RD hnt (nn 2 []) [18] [(94, pB (r98.2 == 0))] [] [] tv ?_)
         refine condM hm ?_ ?_
         ·intro h99 hm
          refine RD hnt (nn 2 []) [17, 94] [] [1136] [(1056, bx [ow 1720 r98.1.tree.nodes.length, pI r98.1.tree.next, ow 1721 r98.1.tasks.length, pI r98.1.next])] tv ?_
          exact jD (r97.2, r98.1) hm (Conv.frz [1720, 1721])
         ·intro h99 hm
          refine Sk ?_
          exact jD (r97.2, y15.2) hm Conv.t0
        ·intro h95 hm
         refine Sk ?_
         exact jD (r94.2, y15.2) hm Conv.t0
      ·refine condM hm ?_ ?_
       ·intro h90 hm
        obtain ⟨r91, hr91, hm⟩ := bo hm
        obtain ⟨r92, hr92, hm⟩ := bo hm
        refine Sq (RD hnt (nn 3 (o108 [0] true r91 :: o109 [] true r92 :: nn 8 [])) [66] [(14, rr 1112), (16, pI r92.2.2)] [] [(0, bx (pm (encDice r91.2))), (1112, bx [ow 1576 r92.1.tree.nodes.length, pI r92.1.tree.next, ow 1577 r92.1.tasks.length, pI r92.1.next]), (1576, ob0 (roNode r92.1.tree.nodes)), (1577, ob0 (roTask r92.1.tasks))] (an (Task_Dice_madeSpec r89.2 y14 r91 hr91) (an tv (an (Clone_ref6Spec y14 r91.1 r92 hr92) tv))) ?_)
        refine Sq (RD hnt (nn 2 []) [16] [(77, pB (r92.2.2 == 0))] [] [] tv ?_)
        refine condM hm ?_ ?_
        ·intro h93 hm
         refine RD hnt (nn 2 []) [14, 77] [] [1112] [(1056, bx [ow 1576 r92.1.tree.nodes.length, pI r92.1.tree.next, ow 1577 r92.1.tasks.length, pI r92.1.next])] tv ?_
         exact jD (r91.2, r92.1) hm (Conv.frz [1576, 1577])
        ·intro h93 hm
         refine Sk ?_
         exact jD (r91.2, y14) hm Conv.t0
       ·intro h90 hm
        refine Sk ?_
        exact jD (r89.2, y14) hm Conv.t0
     ·refine condM hm ?_ ?_
      ·intro h88 hm
       refine RD hnt (nn 2 []) [11, 63] [] [1088] [(1056, bx [ow 1464 r87.1.tree.nodes.length, pI r87.1.tree.next, ow 1465 r87.1.tasks.length, pI r87.1.next])] tv ?_
       exact jD r87.1 hm (Conv.frz [1464, 1465])
      ·intro h88 hm
       refine Sk ?_
       exact jD s3.2.1 hm Conv.t0
  ·intro h82 hm
   refine DW.exit ?_
   refine joinQ_exit ?_
   refine KQ_exit ?_
   refine blockQ_exit ?_
   show DW _ _ _ _ _
   refine Sq (RD hnt (nn 2 []) [0, 7, 9, 42] [] [1056] [(1048, bx (pm (encHierarchy s3.2.1)))] tv ?_)
   obtain rfl := sj hm
   exact DW.ret (retK [.box (pm (encDice s3.1))] [] (.p (.agg (encHierarchy s3.2.1))))
abbrev o69 (ks : List Nat) (b : Bool) (RES : Hierarchy × Dice) : Orc := .call 18 ks b (.p (.agg (encHierarchy RES.1))) [.box (pm (encDice RES.2))] []

theorem Word_Dice_madeSpec (p0 : Dice) (RES : ByteArray × Dice) (hm : Word_Dice_made p0 = some RES) : Spec Tryz.prog 42 [rr 0] [.box (pm (encDice p0))] (pS RES.1) [.box (pm (encDice RES.2))] [] := by
 unfold Word_Dice_made at hm
 refine SO Tryz.func42 rfl rfl [(0, rr 0)] [(0, bx (pm (encDice p0)))] ?_
 intro cx hnt
 refine Sq (RD hnt (.no :: []) [] [] [] [] tv ?_)
 obtain ⟨r3, hr3, hm⟩ := bo hm
 obtain ⟨g4, g5, hm⟩ := go2 hm
 refine Sq (RK hnt (.asR (ow 1024 [(bs [97]), (bs [98]), (bs [99]), (bs [119, 101, 98]), (bs [100, 98, 45, 49]), (bs [88, 95, 57]), ByteArray.empty, (bs [45, 97]), (bs [97, 47, 98]), (bs [195, 169]), (bs [97, 97, 97, 97, 97, 97, 97, 97, 97, 97, 97, 97, 97, 97, 97, 97, 97, 97, 97, 97, 97, 97, 97, 97, 97, 97, 97, 97, 97, 97, 97, 97]), (bs [97, 97, 97, 97, 97, 97, 97, 97, 97, 97, 97, 97, 97, 97, 97, 97, 97, 97, 97, 97, 97, 97, 97, 97, 97, 97, 97, 97, 97, 97, 97, 97, 97])].length) [(bs [97]), (bs [98]), (bs [99]), (bs [119, 101, 98]), (bs [100, 98, 45, 49]), (bs [88, 95, 57]), ByteArray.empty, (bs [45, 97]), (bs [97, 47, 98]), (bs [195, 169]), (bs [97, 97, 97, 97, 97, 97, 97, 97, 97, 97, 97, 97, 97, 97, 97, 97, 97, 97, 97, 97, 97, 97, 97, 97, 97, 97, 97, 97, 97, 97, 97, 97]), (bs [97, 97, 97, 97, 97, 97, 97, 97, 97, 97, 97, 97, 97, 97, 97, 97, 97, 97, 97, 97, 97, 97, 97, 97, 97, 97, 97, 97, 97, 97, 97, 97, 97])].length (elems encS ByteArray.empty [(bs [97]), (bs [98]), (bs [99]), (bs [119, 101, 98]), (bs [100, 98, 45, 49]), (bs [88, 95, 57]), ByteArray.empty, (bs [45, 97]), (bs [97, 47, 98]), (bs [195, 169]), (bs [97, 97, 97, 97, 97, 97, 97, 97, 97, 97, 97, 97, 97, 97, 97, 97, 97, 97, 97, 97, 97, 97, 97, 97, 97, 97, 97, 97, 97, 97, 97, 97]), (bs [97, 97, 97, 97, 97, 97, 97, 97, 97, 97, 97, 97, 97, 97, 97, 97, 97, 97, 97, 97, 97, 97, 97, 97, 97, 97, 97, 97, 97, 97, 97, 97, 97])]) :: .no :: o71 [0] true r3 :: nn 3 []) [(2, pS ([(bs [97]), (bs [98]), (bs [99]), (bs [119, 101, 98]), (bs [100, 98, 45, 49]), (bs [88, 95, 57]), ByteArray.empty, (bs [45, 97]), (bs [97, 47, 98]), (bs [195, 169]), (bs [97, 97, 97, 97, 97, 97, 97, 97, 97, 97, 97, 97, 97, 97, 97, 97, 97, 97, 97, 97, 97, 97, 97, 97, 97, 97, 97, 97, 97, 97, 97, 97]), (bs [97, 97, 97, 97, 97, 97, 97, 97, 97, 97, 97, 97, 97, 97, 97, 97, 97, 97, 97, 97, 97, 97, 97, 97, 97, 97, 97, 97, 97, 97, 97, 97, 97])].getD (Int.toNat r3.1) ByteArray.empty))] [(0, bx (pm (encDice r3.2)))] (an (congrArg (MV.own 1024 0 0) (RowIs.asP (enc := encS) (d := ByteArray.empty) (L := [(bs [97]), (bs [98]), (bs [99]), (bs [119, 101, 98]), (bs [100, 98, 45, 49]), (bs [88, 95, 57]), ByteArray.empty, (bs [45, 97]), (bs [97, 47, 98]), (bs [195, 169]), (bs [97, 97, 97, 97, 97, 97, 97, 97, 97, 97, 97, 97, 97, 97, 97, 97, 97, 97, 97, 97, 97, 97, 97, 97, 97, 97, 97, 97, 97, 97, 97, 97]), (bs [97, 97, 97, 97, 97, 97, 97, 97, 97, 97, 97, 97, 97, 97, 97, 97, 97, 97, 97, 97, 97, 97, 97, 97, 97, 97, 97, 97, 97, 97, 97, 97, 97])]) (RowIs.lit (enc := encS) (d := ByteArray.empty) (n := 12) (f := (cut 1 [vs (bs [97]), vs (bs [98]), vs (bs [99]), vs (bs [119, 101, 98]), vs (bs [100, 98, 45, 49]), vs (bs [88, 95, 57]), vs ByteArray.empty, vs (bs [45, 97]), vs (bs [97, 47, 98]), vs (bs [195, 169]), vs (bs [97, 97, 97, 97, 97, 97, 97, 97, 97, 97, 97, 97, 97, 97, 97, 97, 97, 97, 97, 97, 97, 97, 97, 97, 97, 97, 97, 97, 97, 97, 97, 97]), vs (bs [97, 97, 97, 97, 97, 97, 97, 97, 97, 97, 97, 97, 97, 97, 97, 97, 97, 97, 97, 97, 97, 97, 97, 97, 97, 97, 97, 97, 97, 97, 97, 97, 97])])) [(bs [97]), (bs [98]), (bs [99]), (bs [119, 101, 98]), (bs [100, 98, 45, 49]), (bs [88, 95, 57]), ByteArray.empty, (bs [45, 97]), (bs [97, 47, 98]), (bs [195, 169]), (bs [97, 97, 97, 97, 97, 97, 97, 97, 97, 97, 97, 97, 97, 97, 97, 97, 97, 97, 97, 97, 97, 97, 97, 97, 97, 97, 97, 97, 97, 97, 97, 97]), (bs [97, 97, 97, 97, 97, 97, 97, 97, 97, 97, 97, 97, 97, 97, 97, 97, 97, 97, 97, 97, 97, 97, 97, 97, 97, 97, 97, 97, 97, 97, 97, 97, 97])] rfl (fun | 0, _ => rfl | 1, _ => rfl | 2, _ => rfl | 3, _ => rfl | 4, _ => rfl | 5, _ => rfl | 6, _ => rfl | 7, _ => rfl | 8, _ => rfl | 9, _ => rfl | 10, _ => rfl | 11, _ => rfl | n + 12, h => absurd h (by omega)))).1) (an (RowIs.asP (enc := encS) (d := ByteArray.empty) (L := [(bs [97]), (bs [98]), (bs [99]), (bs [119, 101, 98]), (bs [100, 98, 45, 49]), (bs [88, 95, 57]), ByteArray.empty, (bs [45, 97]), (bs [97, 47, 98]), (bs [195, 169]), (bs [97, 97, 97, 97, 97, 97, 97, 97, 97, 97, 97, 97, 97, 97, 97, 97, 97, 97, 97, 97, 97, 97, 97, 97, 97, 97, 97, 97, 97, 97, 97, 97]), (bs [97, 97, 97, 97, 97, 97, 97, 97, 97, 97, 97, 97, 97, 97, 97, 97, 97, 97, 97, 97, 97, 97, 97, 97, 97, 97, 97, 97, 97, 97, 97, 97, 97])]) (RowIs.lit (enc := encS) (d := ByteArray.empty) (n := 12) (f := (cut 1 [vs (bs [97]), vs (bs [98]), vs (bs [99]), vs (bs [119, 101, 98]), vs (bs [100, 98, 45, 49]), vs (bs [88, 95, 57]), vs ByteArray.empty, vs (bs [45, 97]), vs (bs [97, 47, 98]), vs (bs [195, 169]), vs (bs [97, 97, 97, 97, 97, 97, 97, 97, 97, 97, 97, 97, 97, 97, 97, 97, 97, 97, 97, 97, 97, 97, 97, 97, 97, 97, 97, 97, 97, 97, 97, 97]), vs (bs [97, 97, 97, 97, 97, 97, 97, 97, 97, 97, 97, 97, 97, 97, 97, 97, 97, 97, 97, 97, 97, 97, 97, 97, 97, 97, 97, 97, 97, 97, 97, 97, 97])])) [(bs [97]), (bs [98]), (bs [99]), (bs [119, 101, 98]), (bs [100, 98, 45, 49]), (bs [88, 95, 57]), ByteArray.empty, (bs [45, 97]), (bs [97, 47, 98]), (bs [195, 169]), (bs [97, 97, 97, 97, 97, 97, 97, 97, 97, 97, 97, 97, 97, 97, 97, 97, 97, 97, 97, 97, 97, 97, 97, 97, 97, 97, 97, 97, 97, 97, 97, 97]), (bs [97, 97, 97, 97, 97, 97, 97, 97, 97, 97, 97, 97, 97, 97, 97, 97, 97, 97, 97, 97, 97, 97, 97, 97, 97, 97, 97, 97, 97, 97, 97, 97, 97])] rfl (fun | 0, _ => rfl | 1, _ => rfl | 2, _ => rfl | 3, _ => rfl | 4, _ => rfl | 5, _ => rfl | 6, _ => rfl | 7, _ => rfl | 8, _ => rfl | 9, _ => rfl | 10, _ => rfl | 11, _ => rfl | n + 12, h => absurd h (by omega)))) (an (Next_Dice_madeSpec p0 12 r3 hr3) (an tv (an g4.1 (an g4.2 (an g5 tv))))))) ?_)
 obtain rfl := sj hm
 exact DW.ret (retK [.box (pm (encDice r3.2))] [] (pS ([(bs [97]), (bs [98]), (bs [99]), (bs [119, 101, 98]), (bs [100, 98, 45, 49]), (bs [88, 95, 57]), ByteArray.empty, (bs [45, 97]), (bs [97, 47, 98]), (bs [195, 169]), (bs [97, 97, 97, 97, 97, 97, 97, 97, 97, 97, 97, 97, 97, 97, 97, 97, 97, 97, 97, 97, 97, 97, 97, 97, 97, 97, 97, 97, 97, 97, 97, 97]), (bs [97, 97, 97, 97, 97, 97, 97, 97, 97, 97, 97, 97, 97, 97, 97, 97, 97, 97, 97, 97, 97, 97, 97, 97, 97, 97, 97, 97, 97, 97, 97, 97, 97])].getD (Int.toNat r3.1) ByteArray.empty)))
abbrev o114 (ks : List Nat) (b : Bool) (RES : ByteArray × Dice) : Orc := .call 42 ks b (pS RES.1) [.box (pm (encDice RES.2))] []

theorem User_Dice_madeSpec (p0 : Dice) (RES : Int × Dice) (hm : User_Dice_made p0 = some RES) : Spec Tryz.prog 61 [rr 0] [.box (pm (encDice p0))] (pI RES.1) [.box (pm (encDice RES.2))] [] := by
 unfold User_Dice_made at hm
 refine SO Tryz.func61 rfl rfl [(0, rr 0)] [(0, bx (pm (encDice p0)))] ?_
 intro cx hnt
 refine Sq (RD hnt (.no :: []) [] [] [] [] tv ?_)
 obtain ⟨r3, hr3, hm⟩ := bo hm
 obtain ⟨g4, g5, hm⟩ := go2 hm
 refine Sq (RK hnt (.asR (ow 1024 [0, 1, 2, 1, 7, (-1), 1048576, 1048577].length) [0, 1, 2, 1, 7, (-1), 1048576, 1048577].length (elems encI 0 [0, 1, 2, 1, 7, (-1), 1048576, 1048577]) :: .no :: o71 [0] true r3 :: nn 3 []) [(2, pI ([0, 1, 2, 1, 7, (-1), 1048576, 1048577].getD (Int.toNat r3.1) 0))] [(0, bx (pm (encDice r3.2)))] (an (congrArg (MV.own 1024 0 0) (RowIs.asP (enc := encI) (d := 0) (L := [0, 1, 2, 1, 7, (-1), 1048576, 1048577]) (RowIs.lit (enc := encI) (d := 0) (n := 8) (f := (cut 1 [vi 0, vi 1, vi 2, vi 1, vi 7, vi (-1), vi 1048576, vi 1048577])) [0, 1, 2, 1, 7, (-1), 1048576, 1048577] rfl (fun | 0, _ => rfl | 1, _ => rfl | 2, _ => rfl | 3, _ => rfl | 4, _ => rfl | 5, _ => rfl | 6, _ => rfl | 7, _ => rfl | n + 8, h => absurd h (by omega)))).1) (an (RowIs.asP (enc := encI) (d := 0) (L := [0, 1, 2, 1, 7, (-1), 1048576, 1048577]) (RowIs.lit (enc := encI) (d := 0) (n := 8) (f := (cut 1 [vi 0, vi 1, vi 2, vi 1, vi 7, vi (-1), vi 1048576, vi 1048577])) [0, 1, 2, 1, 7, (-1), 1048576, 1048577] rfl (fun | 0, _ => rfl | 1, _ => rfl | 2, _ => rfl | 3, _ => rfl | 4, _ => rfl | 5, _ => rfl | 6, _ => rfl | 7, _ => rfl | n + 8, h => absurd h (by omega)))) (an (Next_Dice_madeSpec p0 8 r3 hr3) (an tv (an g4.1 (an g4.2 (an g5 tv))))))) ?_)
 obtain rfl := sj hm
 exact DW.ret (retK [.box (pm (encDice r3.2))] [] (pI ([0, 1, 2, 1, 7, (-1), 1048576, 1048577].getD (Int.toNat r3.1) 0)))
abbrev o115 (ks : List Nat) (b : Bool) (RES : Int × Dice) : Orc := .call 61 ks b (pI RES.1) [.box (pm (encDice RES.2))] []
end Go.Dm


/- Go functions compute their models, printed by a program. -/
namespace Go.Dm
open Go.Proofs
set_option linter.unusedVariables false
abbrev c116e1 (r1 : Hierarchy) (r2 : Int × Dice) := (r1.tree.nodes.getD (Int.toNat r2.1) dNode)
abbrev c116e2 (r1 : Hierarchy) (r31 : Int × Dice) := (r1.tasks.getD (Int.toNat r31.1) dTask)
abbrev c116e3 : Nat × Obj := (1032, bx [.p (.sl .nil 0 0 (fun _ => [])), pI 0, .p (.sl .nil 0 0 (fun _ => [])), pI 0])
abbrev c116e4 (r1 : Hierarchy) (r2 : Int × Dice) (r18 : Int × Dice) := ({ id := (c116e1 r1 r2).id, parent := (c116e1 r1 r2).parent, name := (c116e1 r1 r2).name, control := (c116e1 r1 r2).control, kind := (w64 (r18.1 - 1)), owner := (c116e1 r1 r2).owner } : Node)
abbrev c116e5 (r6 : Int × Dice) (r1 : Hierarchy) (r2 : Int × Dice) := ({ id := r6.1, parent := (c116e1 r1 r2).parent, name := (c116e1 r1 r2).name, control := (c116e1 r1 r2).control, kind := (c116e1 r1 r2).kind, owner := (c116e1 r1 r2).owner } : Node)
abbrev c116e6 (r1 : Hierarchy) (r2 : Int × Dice) (r21 : Int × Dice) := ({ id := (c116e1 r1 r2).id, parent := (c116e1 r1 r2).parent, name := (c116e1 r1 r2).name, control := (c116e1 r1 r2).control, kind := (c116e1 r1 r2).kind, owner := r21.1 } : Node)
abbrev c116e7 (r1 : Hierarchy) (r2 : Int × Dice) (r9 : Int × Dice) := ({ id := (c116e1 r1 r2).id, parent := r9.1, name := (c116e1 r1 r2).name, control := (c116e1 r1 r2).control, kind := (c116e1 r1 r2).kind, owner := (c116e1 r1 r2).owner } : Node)
abbrev c116e8 (r1 : Hierarchy) (r2 : Int × Dice) (r12 : ByteArray × Dice) := ({ id := (c116e1 r1 r2).id, parent := (c116e1 r1 r2).parent, name := r12.1, control := (c116e1 r1 r2).control, kind := (c116e1 r1 r2).kind, owner := (c116e1 r1 r2).owner } : Node)
abbrev c116e9 (r1 : Hierarchy) (r2 : Int × Dice) (r15 : Int × Dice) := ({ id := (c116e1 r1 r2).id, parent := (c116e1 r1 r2).parent, name := (c116e1 r1 r2).name, control := r15.1, kind := (c116e1 r1 r2).kind, owner := (c116e1 r1 r2).owner } : Node)
abbrev c116e10 (r1 : Hierarchy) : Nat × Body := (1040, .box [ow 1072 r1.tree.nodes.length, pI r1.tree.next, ow 1073 r1.tasks.length, pI r1.next])
abbrev c116e11 (r35 : Int × Dice) (r1 : Hierarchy) (r31 : Int × Dice) := ({ id := r35.1, process := (c116e2 r1 r31).process, group := (c116e2 r1 r31).group, user := (c116e2 r1 r31).user } : Task)
abbrev c116e12 (r1 : Hierarchy) (r31 : Int × Dice) (r44 : Int × Dice) := ({ id := (c116e2 r1 r31).id, process := (c116e2 r1 r31).process, group := (c116e2 r1 r31).group, user := r44.1 } : Task)
abbrev c116e13 (r1 : Hierarchy) (r31 : Int × Dice) (r41 : Int × Dice) := ({ id := (c116e2 r1 r31).id, process := (c116e2 r1 r31).process, group := r41.1, user := (c116e2 r1 r31).user } : Task)
abbrev c116e14 (r1 : Hierarchy) (r31 : Int × Dice) (r38 : Int × Dice) := ({ id := (c116e2 r1 r31).id, process := r38.1, group := (c116e2 r1 r31).group, user := (c116e2 r1 r31).user } : Task)
abbrev c116e15 (y1 : Dice × Int × Int × (List Node)) (r1 : Hierarchy) : Nat × Body := (1040, .box [ow 1072 y1.2.2.2.length, pI y1.2.1, ow 1073 r1.tasks.length, pI y1.2.2.1])
abbrev c116e16 (r1 : Hierarchy) : Nat × Obj := (1073, ob0 (roTask r1.tasks))
abbrev c116e17 (r1 : Hierarchy) (r2 : Int × Dice) (r18 : Int × Dice) := (updF (elNode r1.tree.nodes) (Int.toNat r2.1) [vi (c116e1 r1 r2).id, vi (c116e1 r1 r2).parent, vs (c116e1 r1 r2).name, vi (c116e1 r1 r2).control, vi (w64 (r18.1 - 1)), vi (c116e1 r1 r2).owner])
abbrev c116e18 (r1 : Hierarchy) (r2 : Int × Dice) (r6 : Int × Dice) := (updF (elNode r1.tree.nodes) (Int.toNat r2.1) [vi r6.1, vi (c116e1 r1 r2).parent, vs (c116e1 r1 r2).name, vi (c116e1 r1 r2).control, vi (c116e1 r1 r2).kind, vi (c116e1 r1 r2).owner])
abbrev c116e19 (r1 : Hierarchy) (r2 : Int × Dice) (r9 : Int × Dice) := (updF (elNode r1.tree.nodes) (Int.toNat r2.1) [vi (c116e1 r1 r2).id, vi r9.1, vs (c116e1 r1 r2).name, vi (c116e1 r1 r2).control, vi (c116e1 r1 r2).kind, vi (c116e1 r1 r2).owner])
abbrev c116e20 (r1 : Hierarchy) (r2 : Int × Dice) (r21 : Int × Dice) := (updF (elNode r1.tree.nodes) (Int.toNat r2.1) [vi (c116e1 r1 r2).id, vi (c116e1 r1 r2).parent, vs (c116e1 r1 r2).name, vi (c116e1 r1 r2).control, vi (c116e1 r1 r2).kind, vi r21.1])
abbrev c116e21 (r1 : Hierarchy) (r2 : Int × Dice) (r15 : Int × Dice) := (updF (elNode r1.tree.nodes) (Int.toNat r2.1) [vi (c116e1 r1 r2).id, vi (c116e1 r1 r2).parent, vs (c116e1 r1 r2).name, vi r15.1, vi (c116e1 r1 r2).kind, vi (c116e1 r1 r2).owner])
abbrev c116e22 (r1 : Hierarchy) (r2 : Int × Dice) (r12 : ByteArray × Dice) := (updF (elNode r1.tree.nodes) (Int.toNat r2.1) [vi (c116e1 r1 r2).id, vi (c116e1 r1 r2).parent, vs r12.1, vi (c116e1 r1 r2).control, vi (c116e1 r1 r2).kind, vi (c116e1 r1 r2).owner])
abbrev c116e23 (r1 : Hierarchy) : Nat × Obj := (1040, bx [ow 1072 r1.tree.nodes.length, pI r1.tree.next, ow 1073 r1.tasks.length, pI r1.next])
theorem OddHierarchy_Dice_madeZSpec (p0 : Dice) (p1 : Hierarchy) (RES : Hierarchy × Dice) (hm : OddHierarchy_Dice_made p0 p1 = some RES) : Spec Tryz.prog 33 [rr 0, .p (.agg (encHierarchy p1))] [.box (pm (encDice p0))] (.p (.agg (encHierarchy RES.1))) [.box (pm (encDice RES.2))] [] := by
 unfold OddHierarchy_Dice_made at hm
 refine SO Tryz.func33 rfl rfl [(0, rr 0), (1, .p (.agg (encHierarchy p1)))] [(0, bx (pm (encDice p0)))] ?_
 intro cx hnt
 refine Sq (RD hnt (nn 2 []) [1] [(3, rr 1024), (4, rr 1032)] [] [(1024, bx (pm (encHierarchy p1))), (c116e3)] tv ?_)
 obtain ⟨r1, hr1, hm⟩ := bo hm
 refine Sq (RD hnt (.no :: o102 [] true r1 :: nn 2 []) [3] [(5, rr 1040)] [1024] [(c116e23 r1), (1072, ob0 (roNode r1.tree.nodes)), (c116e16 r1)] (an (Copy_ref6Spec p1 r1 hr1) tv) ?_)
 obtain ⟨r2, hr2, hm⟩ := bo hm
 obtain ⟨g3, hm⟩ := go1 hm
 refine Sq (RD hnt (nn 8 (o71 [0] true r2 :: nn 2 [])) [] [(6, .eref 1072 0 (Int.toNat r2.1) 0)] [] [(0, bx (pm (encDice r2.2)))] (an (Next_Dice_madeSpec p0 ((r1.tree.nodes.length : Nat) : Int) r2 hr2) (an tv (an g3.1 (an g3.2 tv)))) ?_)
 obtain ⟨r4, hr4, hm⟩ := bo hm
 refine Sq (Sq (RD hnt (.no :: o71 [0] true r4 :: []) [] [(21, pI r4.1)] [] [(0, bx (pm (encDice r4.2)))] (an (Next_Dice_madeSpec r2.2 12 r4 hr4) (an tv tv)) ?_))
 refine Jn (ι := Dice × Int × Int × (List Node)) (fun (y1 : Dice × Int × Int × (List Node)) => mkSt [(0, rr 0), (4, rr 1032), (5, rr 1040)] [(0, bx (pm (encDice y1.1))), (c116e3), (1040, bx [ow 1072 y1.2.2.2.length, pI y1.2.1, ow 1073 r1.tasks.length, pI y1.2.2.1]), (1072, ob0 (roNode y1.2.2.2)), (c116e16 r1)]) (fun y1 => (OddHierarchy_Dice_madeJ1 r1) y1 = some RES) ?_ ?_
 ·intro y1 hm
  unfold OddHierarchy_Dice_madeJ1 at hm
  refine Sq (Sq (RD hnt (nn 4 []) [] [(91, pB (decide (((r1.tasks.length : Nat) : Int) > 0)))] [] [] tv ?_))
  refine Jn (ι := Dice × (List Task)) (fun (y2 : Dice × (List Task)) => mkSt [(4, rr 1032), (5, rr 1040)] [(0, bx (pm (encDice y2.1))), (c116e3), (1040, bx [ow 1072 y1.2.2.2.length, pI y1.2.1, ow 1073 y2.2.length, pI y1.2.2.1]), (1072, ob0 (roNode y1.2.2.2)), (1073, ob0 (roTask y2.2))]) (fun y2 => (OddHierarchy_Dice_madeJ2 y1) y2 = some RES) ?_ ?_
  ·intro y2 hm
   unfold OddHierarchy_Dice_madeJ2 at hm
   refine Sq (RD hnt (nn 2 []) [5] [] [1040] [(1032, bx [ow 1072 y1.2.2.2.length, pI y1.2.1, ow 1073 y2.2.length, pI y1.2.2.1])] tv ?_)
   obtain rfl := sj hm
   exact DW.ret (retK [.box (pm (encDice y2.1))] [] (.p (.agg [slNode y1.2.2.2, vi y1.2.1, slTask y2.2, vi y1.2.2.1])))
  ·refine condM hm ?_ ?_
   ·intro h30 hm
    obtain ⟨r31, hr31, hm⟩ := bo hm
    obtain ⟨g32, hm⟩ := go1 hm
    refine Sq (RD hnt (nn 6 (o71 [0] true r31 :: nn 2 [])) [91] [(7, .eref 1073 0 (Int.toNat r31.1) 0)] [] [(0, bx (pm (encDice r31.2)))] (an (Next_Dice_madeSpec y1.1 ((r1.tasks.length : Nat) : Int) r31 hr31) (an tv (an g32.1 (an g32.2 tv)))) ?_)
    obtain ⟨r33, hr33, hm⟩ := bo hm
    refine Sq (RD hnt (.no :: o71 [0] true r33 :: []) [] [(101, pI r33.1)] [] [(0, bx (pm (encDice r33.2)))] (an (Next_Dice_madeSpec r31.2 8 r33 hr33) (an tv tv)) ?_)
    refine Bk ?_
    refine Sq (RD hnt (nn 2 []) [] [(102, pB (r33.1 == 0))] [] [] tv ?_)
    refine condM hm ?_ ?_
    ·intro h34 hm
     obtain ⟨r35, hr35, hm⟩ := bo hm
     obtain ⟨g36, hm⟩ := go1 hm
     refine RN hnt (nn 2 (o71 [0] true r35 :: nn 3 [])) [(4, rr 1032), (5, rr 1040)] [(0, bx (pm (encDice r35.2))), (c116e3), (1040, bx [ow 1072 y1.2.2.2.length, pI y1.2.1, ow 1073 (r1.tasks.set (Int.toNat r31.1) (c116e11 r35 r1 r31)).length, pI y1.2.2.1]), (1072, ob0 (roNode y1.2.2.2)), (1073, ob0 (roTask (r1.tasks.set (Int.toNat r31.1) (c116e11 r35 r1 r31))))] [] [(c116e15 y1 r1), (1073, .row 4 r1.tasks.length (updF (elTask r1.tasks) (Int.toNat r31.1) [vi r35.1, vi (c116e2 r1 r31).process, vi (c116e2 r1 r31).group, vi (c116e2 r1 r31).user]))] (an (Next_Dice_madeSpec r33.2 9 r35 hr35) (an tv (an g36 tv))) (by kernel_rfl) .nil (.cons rfl (.box (.cons .rfl (.cons .rfl (.cons (MLe.ownLen (enc := encTask) (d := dTask) (f := (updF (elTask r1.tasks) (Int.toNat r31.1) [vi r35.1, vi (c116e2 r1 r31).process, vi (c116e2 r1 r31).group, vi (c116e2 r1 r31).user])) (RowIs.upd RowIs.elems (c116e11 r35 r1 r31) rfl)) (.cons .rfl .nil))))) (.cons rfl (BLe.typed (RowIs.upd RowIs.elems (c116e11 r35 r1 r31) rfl)) .nil)) ?_
     refine DW.done ?_
     show DW _ _ _ _ _
     exact jD (r35.2, (r1.tasks.set (Int.toNat r31.1) (c116e11 r35 r1 r31))) hm .refl
    ·intro h34 hm
     refine Sq (RD hnt (nn 2 []) [102] [(109, pB (r33.1 == 1))] [] [] tv ?_)
     refine condM hm ?_ ?_
     ·intro h37 hm
      obtain ⟨r38, hr38, hm⟩ := bo hm
      obtain ⟨g39, hm⟩ := go1 hm
      refine RN hnt (nn 2 (o71 [0] true r38 :: nn 3 [])) [(4, rr 1032), (5, rr 1040)] [(0, bx (pm (encDice r38.2))), (c116e3), (1040, bx [ow 1072 y1.2.2.2.length, pI y1.2.1, ow 1073 (r1.tasks.set (Int.toNat r31.1) (c116e14 r1 r31 r38)).length, pI y1.2.2.1]), (1072, ob0 (roNode y1.2.2.2)), (1073, ob0 (roTask (r1.tasks.set (Int.toNat r31.1) (c116e14 r1 r31 r38))))] [] [(c116e15 y1 r1), (1073, .row 4 r1.tasks.length (updF (elTask r1.tasks) (Int.toNat r31.1) [vi (c116e2 r1 r31).id, vi r38.1, vi (c116e2 r1 r31).group, vi (c116e2 r1 r31).user]))] (an (Next_Dice_madeSpec r33.2 9 r38 hr38) (an tv (an g39 tv))) (by kernel_rfl) .nil (.cons rfl (.box (.cons .rfl (.cons .rfl (.cons (MLe.ownLen (enc := encTask) (d := dTask) (f := (updF (elTask r1.tasks) (Int.toNat r31.1) [vi (c116e2 r1 r31).id, vi r38.1, vi (c116e2 r1 r31).group, vi (c116e2 r1 r31).user])) (RowIs.upd RowIs.elems (c116e14 r1 r31 r38) rfl)) (.cons .rfl .nil))))) (.cons rfl (BLe.typed (RowIs.upd RowIs.elems (c116e14 r1 r31 r38) rfl)) .nil)) ?_
      refine DW.done ?_
      show DW _ _ _ _ _
      exact jD (r38.2, (r1.tasks.set (Int.toNat r31.1) (c116e14 r1 r31 r38))) hm .refl
     ·intro h37 hm
      refine Sq (RD hnt (nn 2 []) [109] [(116, pB (r33.1 == 2))] [] [] tv ?_)
      refine condM hm ?_ ?_
      ·intro h40 hm
       obtain ⟨r41, hr41, hm⟩ := bo hm
       obtain ⟨g42, hm⟩ := go1 hm
       refine RN hnt (nn 2 (o71 [0] true r41 :: nn 3 [])) [(4, rr 1032), (5, rr 1040)] [(0, bx (pm (encDice r41.2))), (c116e3), (1040, bx [ow 1072 y1.2.2.2.length, pI y1.2.1, ow 1073 (r1.tasks.set (Int.toNat r31.1) (c116e13 r1 r31 r41)).length, pI y1.2.2.1]), (1072, ob0 (roNode y1.2.2.2)), (1073, ob0 (roTask (r1.tasks.set (Int.toNat r31.1) (c116e13 r1 r31 r41))))] [] [(c116e15 y1 r1), (1073, .row 4 r1.tasks.length (updF (elTask r1.tasks) (Int.toNat r31.1) [vi (c116e2 r1 r31).id, vi (c116e2 r1 r31).process, vi r41.1, vi (c116e2 r1 r31).user]))] (an (Next_Dice_madeSpec r33.2 9 r41 hr41) (an tv (an g42 tv))) (by kernel_rfl) .nil (.cons rfl (.box (.cons .rfl (.cons .rfl (.cons (MLe.ownLen (enc := encTask) (d := dTask) (f := (updF (elTask r1.tasks) (Int.toNat r31.1) [vi (c116e2 r1 r31).id, vi (c116e2 r1 r31).process, vi r41.1, vi (c116e2 r1 r31).user])) (RowIs.upd RowIs.elems (c116e13 r1 r31 r41) rfl)) (.cons .rfl .nil))))) (.cons rfl (BLe.typed (RowIs.upd RowIs.elems (c116e13 r1 r31 r41) rfl)) .nil)) ?_
       refine DW.done ?_
       show DW _ _ _ _ _
       exact jD (r41.2, (r1.tasks.set (Int.toNat r31.1) (c116e13 r1 r31 r41))) hm .refl
      ·intro h40 hm
       refine Sq (RD hnt (nn 2 []) [101, 116] [(123, pB (r33.1 == 3))] [] [] tv ?_)
       refine condM hm ?_ ?_
       ·intro h43 hm
        obtain ⟨r44, hr44, hm⟩ := bo hm
        obtain ⟨g45, hm⟩ := go1 hm
        refine RN hnt (nn 2 (o115 [0] true r44 :: nn 3 [])) [(4, rr 1032), (5, rr 1040)] [(0, bx (pm (encDice r44.2))), (c116e3), (1040, bx [ow 1072 y1.2.2.2.length, pI y1.2.1, ow 1073 (r1.tasks.set (Int.toNat r31.1) (c116e12 r1 r31 r44)).length, pI y1.2.2.1]), (1072, ob0 (roNode y1.2.2.2)), (1073, ob0 (roTask (r1.tasks.set (Int.toNat r31.1) (c116e12 r1 r31 r44))))] [] [(c116e15 y1 r1), (1073, .row 4 r1.tasks.length (updF (elTask r1.tasks) (Int.toNat r31.1) [vi (c116e2 r1 r31).id, vi (c116e2 r1 r31).process, vi (c116e2 r1 r31).group, vi r44.1]))] (an (User_Dice_madeSpec r33.2 r44 hr44) (an tv (an g45 tv))) (by kernel_rfl) .nil (.cons rfl (.box (.cons .rfl (.cons .rfl (.cons (MLe.ownLen (enc := encTask) (d := dTask) (f := (updF (elTask r1.tasks) (Int.toNat r31.1) [vi (c116e2 r1 r31).id, vi (c116e2 r1 r31).process, vi (c116e2 r1 r31).group, vi r44.1])) (RowIs.upd RowIs.elems (c116e12 r1 r31 r44) rfl)) (.cons .rfl .nil))))) (.cons rfl (BLe.typed (RowIs.upd RowIs.elems (c116e12 r1 r31 r44) rfl)) .nil)) ?_
        refine DW.done ?_
        show DW _ _ _ _ _
        exact jD (r44.2, (r1.tasks.set (Int.toNat r31.1) (c116e12 r1 r31 r44))) hm .refl
       ·intro h43 hm
        refine Sk ?_
        refine DW.done ?_
        show DW _ _ _ _ _
        exact jD (r33.2, r1.tasks) hm Conv.t0
   ·intro h30 hm
    refine Sk ?_
    exact jD (y1.1, r1.tasks) hm Conv.t0
 ·refine Bk ?_
  refine Sq (RD hnt (nn 2 []) [] [(22, pB (r4.1 == 0))] [] [] tv ?_)
  refine condM hm ?_ ?_
  ·intro h5 hm
   obtain ⟨r6, hr6, hm⟩ := bo hm
   obtain ⟨g7, hm⟩ := go1 hm
   refine RN hnt (nn 2 (o71 [0] true r6 :: nn 3 [])) [(0, rr 0), (4, rr 1032), (5, rr 1040)] [(0, bx (pm (encDice r6.2))), (c116e3), (1040, bx [ow 1072 (r1.tree.nodes.set (Int.toNat r2.1) (c116e5 r6 r1 r2)).length, pI r1.tree.next, ow 1073 r1.tasks.length, pI r1.next]), (1072, ob0 (roNode (r1.tree.nodes.set (Int.toNat r2.1) (c116e5 r6 r1 r2)))), (c116e16 r1)] [] [(c116e10 r1), (1072, .row 6 r1.tree.nodes.length (c116e18 r1 r2 r6))] (an (Next_Dice_madeSpec r4.2 9 r6 hr6) (an tv (an g7 tv))) (by kernel_rfl) .nil (.cons rfl (.box (.cons (MLe.ownLen (enc := encNode) (d := dNode) (f := (c116e18 r1 r2 r6)) (RowIs.upd RowIs.elems (c116e5 r6 r1 r2) rfl)) (.cons .rfl (.cons .rfl (.cons .rfl .nil))))) (.cons rfl (BLe.typed (RowIs.upd RowIs.elems (c116e5 r6 r1 r2) rfl)) .nil)) ?_
   exact bD (r6.2, r1.tree.next, r1.next, (r1.tree.nodes.set (Int.toNat r2.1) (c116e5 r6 r1 r2))) hm .refl
  ·intro h5 hm
   refine Sq (RD hnt (nn 2 []) [22] [(29, pB (r4.1 == 1))] [] [] tv ?_)
   refine condM hm ?_ ?_
   ·intro h8 hm
    obtain ⟨r9, hr9, hm⟩ := bo hm
    obtain ⟨g10, hm⟩ := go1 hm
    refine RN hnt (nn 2 (o71 [0] true r9 :: nn 3 [])) [(0, rr 0), (4, rr 1032), (5, rr 1040)] [(0, bx (pm (encDice r9.2))), (c116e3), (1040, bx [ow 1072 (r1.tree.nodes.set (Int.toNat r2.1) (c116e7 r1 r2 r9)).length, pI r1.tree.next, ow 1073 r1.tasks.length, pI r1.next]), (1072, ob0 (roNode (r1.tree.nodes.set (Int.toNat r2.1) (c116e7 r1 r2 r9)))), (c116e16 r1)] [] [(c116e10 r1), (1072, .row 6 r1.tree.nodes.length (c116e19 r1 r2 r9))] (an (Next_Dice_madeSpec r4.2 9 r9 hr9) (an tv (an g10 tv))) (by kernel_rfl) .nil (.cons rfl (.box (.cons (MLe.ownLen (enc := encNode) (d := dNode) (f := (c116e19 r1 r2 r9)) (RowIs.upd RowIs.elems (c116e7 r1 r2 r9) rfl)) (.cons .rfl (.cons .rfl (.cons .rfl .nil))))) (.cons rfl (BLe.typed (RowIs.upd RowIs.elems (c116e7 r1 r2 r9) rfl)) .nil)) ?_
    exact bD (r9.2, r1.tree.next, r1.next, (r1.tree.nodes.set (Int.toNat r2.1) (c116e7 r1 r2 r9))) hm .refl
   ·intro h8 hm
    refine Sq (RD hnt (nn 2 []) [29] [(36, pB (r4.1 == 2))] [] [] tv ?_)
    refine condM hm ?_ ?_
    ·intro h11 hm
     obtain ⟨r12, hr12, hm⟩ := bo hm
     obtain ⟨g13, hm⟩ := go1 hm
     refine RN hnt (nn 2 (o114 [0] true r12 :: nn 3 [])) [(0, rr 0), (4, rr 1032), (5, rr 1040)] [(0, bx (pm (encDice r12.2))), (c116e3), (1040, bx [ow 1072 (r1.tree.nodes.set (Int.toNat r2.1) (c116e8 r1 r2 r12)).length, pI r1.tree.next, ow 1073 r1.tasks.length, pI r1.next]), (1072, ob0 (roNode (r1.tree.nodes.set (Int.toNat r2.1) (c116e8 r1 r2 r12)))), (c116e16 r1)] [] [(c116e10 r1), (1072, .row 6 r1.tree.nodes.length (c116e22 r1 r2 r12))] (an (Word_Dice_madeSpec r4.2 r12 hr12) (an tv (an g13 tv))) (by kernel_rfl) .nil (.cons rfl (.box (.cons (MLe.ownLen (enc := encNode) (d := dNode) (f := (c116e22 r1 r2 r12)) (RowIs.upd RowIs.elems (c116e8 r1 r2 r12) rfl)) (.cons .rfl (.cons .rfl (.cons .rfl .nil))))) (.cons rfl (BLe.typed (RowIs.upd RowIs.elems (c116e8 r1 r2 r12) rfl)) .nil)) ?_
     exact bD (r12.2, r1.tree.next, r1.next, (r1.tree.nodes.set (Int.toNat r2.1) (c116e8 r1 r2 r12))) hm .refl
    ·intro h11 hm
     refine Sq (RD hnt (nn 2 []) [36] [(43, pB (r4.1 == 3))] [] [] tv ?_)
     refine condM hm ?_ ?_
     ·intro h14 hm
      obtain ⟨r15, hr15, hm⟩ := bo hm
      obtain ⟨g16, hm⟩ := go1 hm
      refine RN hnt (nn 2 (o88 [0] true r15 :: nn 3 [])) [(0, rr 0), (4, rr 1032), (5, rr 1040)] [(0, bx (pm (encDice r15.2))), (c116e3), (1040, bx [ow 1072 (r1.tree.nodes.set (Int.toNat r2.1) (c116e9 r1 r2 r15)).length, pI r1.tree.next, ow 1073 r1.tasks.length, pI r1.next]), (1072, ob0 (roNode (r1.tree.nodes.set (Int.toNat r2.1) (c116e9 r1 r2 r15)))), (c116e16 r1)] [] [(c116e10 r1), (1072, .row 6 r1.tree.nodes.length (c116e21 r1 r2 r15))] (an (Controllers_Dice_madeSpec r4.2 r15 hr15) (an tv (an g16 tv))) (by kernel_rfl) .nil (.cons rfl (.box (.cons (MLe.ownLen (enc := encNode) (d := dNode) (f := (c116e21 r1 r2 r15)) (RowIs.upd RowIs.elems (c116e9 r1 r2 r15) rfl)) (.cons .rfl (.cons .rfl (.cons .rfl .nil))))) (.cons rfl (BLe.typed (RowIs.upd RowIs.elems (c116e9 r1 r2 r15) rfl)) .nil)) ?_
      exact bD (r15.2, r1.tree.next, r1.next, (r1.tree.nodes.set (Int.toNat r2.1) (c116e9 r1 r2 r15))) hm .refl
     ·intro h14 hm
      refine Sq (RK hnt (nn 2 []) [(0, rr 0), (4, rr 1032), (5, rr 1040), (6, .eref 1072 0 (Int.toNat r2.1) 0), (21, pI r4.1), (50, pB (r4.1 == 4))] [(0, bx (pm (encDice r4.2))), (c116e3), (c116e23 r1), (1072, ob0 (roNode r1.tree.nodes)), (c116e16 r1)] tv ?_)
      refine condM hm ?_ ?_
      ·intro h17 hm
       obtain ⟨r18, hr18, hm⟩ := bo hm
       obtain ⟨g19, hm⟩ := go1 hm
       refine RN hnt (nn 2 (o71 [0] true r18 :: nn 4 [])) [(0, rr 0), (4, rr 1032), (5, rr 1040)] [(0, bx (pm (encDice r18.2))), (c116e3), (1040, bx [ow 1072 (r1.tree.nodes.set (Int.toNat r2.1) (c116e4 r1 r2 r18)).length, pI r1.tree.next, ow 1073 r1.tasks.length, pI r1.next]), (1072, ob0 (roNode (r1.tree.nodes.set (Int.toNat r2.1) (c116e4 r1 r2 r18)))), (c116e16 r1)] [] [(c116e10 r1), (1072, .row 6 r1.tree.nodes.length (c116e17 r1 r2 r18))] (an (Next_Dice_madeSpec r4.2 4 r18 hr18) (an tv (an g19 tv))) (by kernel_rfl) .nil (.cons rfl (.box (.cons (MLe.ownLen (enc := encNode) (d := dNode) (f := (c116e17 r1 r2 r18)) (RowIs.upd RowIs.elems (c116e4 r1 r2 r18) rfl)) (.cons .rfl (.cons .rfl (.cons .rfl .nil))))) (.cons rfl (BLe.typed (RowIs.upd RowIs.elems (c116e4 r1 r2 r18) rfl)) .nil)) ?_
       exact bD (r18.2, r1.tree.next, r1.next, (r1.tree.nodes.set (Int.toNat r2.1) (c116e4 r1 r2 r18))) hm .refl
      ·intro h17 hm
       refine Sq (RD hnt (nn 2 []) [50] [(58, pB (r4.1 == 5))] [] [] tv ?_)
       refine condM hm ?_ ?_
       ·intro h20 hm
        obtain ⟨r21, hr21, hm⟩ := bo hm
        obtain ⟨g22, hm⟩ := go1 hm
        refine RN hnt (nn 2 (o115 [0] true r21 :: nn 3 [])) [(0, rr 0), (4, rr 1032), (5, rr 1040)] [(0, bx (pm (encDice r21.2))), (c116e3), (1040, bx [ow 1072 (r1.tree.nodes.set (Int.toNat r2.1) (c116e6 r1 r2 r21)).length, pI r1.tree.next, ow 1073 r1.tasks.length, pI r1.next]), (1072, ob0 (roNode (r1.tree.nodes.set (Int.toNat r2.1) (c116e6 r1 r2 r21)))), (c116e16 r1)] [] [(c116e10 r1), (1072, .row 6 r1.tree.nodes.length (c116e20 r1 r2 r21))] (an (User_Dice_madeSpec r4.2 r21 hr21) (an tv (an g22 tv))) (by kernel_rfl) .nil (.cons rfl (.box (.cons (MLe.ownLen (enc := encNode) (d := dNode) (f := (c116e20 r1 r2 r21)) (RowIs.upd RowIs.elems (c116e6 r1 r2 r21) rfl)) (.cons .rfl (.cons .rfl (.cons .rfl .nil))))) (.cons rfl (BLe.typed (RowIs.upd RowIs.elems (c116e6 r1 r2 r21) rfl)) .nil)) ?_
        exact bD (r21.2, r1.tree.next, r1.next, (r1.tree.nodes.set (Int.toNat r2.1) (c116e6 r1 r2 r21))) hm .refl
       ·intro h20 hm
        refine Sq (RD hnt (nn 2 []) [58] [(65, pB (r4.1 == 6))] [] [] tv ?_)
        refine condM hm ?_ ?_
        ·intro h23 hm
         obtain ⟨r24, hr24, hm⟩ := bo hm
         refine RD hnt (.no :: o71 [0] true r24 :: nn 3 []) [6, 21, 65] [] [] [(0, bx (pm (encDice r24.2))), (1040, bx [ow 1072 r1.tree.nodes.length, pI r24.1, ow 1073 r1.tasks.length, pI r1.next])] (an (Next_Dice_madeSpec r4.2 9 r24 hr24) (an tv tv)) ?_
         exact bD (r24.2, r24.1, r1.next, r1.tree.nodes) hm Conv.eqK
        ·intro h23 hm
         refine Sq (RD hnt (nn 2 []) [65] [(71, pB (r4.1 == 7))] [] [] tv ?_)
         refine condM hm ?_ ?_
         ·intro h25 hm
          obtain ⟨r26, hr26, hm⟩ := bo hm
          refine RD hnt (.no :: o71 [0] true r26 :: nn 2 []) [6, 21, 71] [] [] [(0, bx (pm (encDice r26.2))), (1040, bx [ow 1072 r1.tree.nodes.length, pI r1.tree.next, ow 1073 r1.tasks.length, pI r26.1])] (an (Next_Dice_madeSpec r4.2 9 r26 hr26) (an tv tv)) ?_
          exact bD (r26.2, r1.tree.next, r26.1, r1.tree.nodes) hm Conv.eqK
         ·intro h25 hm
          refine Sq (RD hnt (nn 2 []) [21, 71] [(76, pB (r4.1 == 8))] [] [] tv ?_)
          refine condM hm ?_ ?_
          ·intro h27 hm
           obtain ⟨g28, g29, hm⟩ := go2 hm
           refine RN hnt (nn 11 []) [(0, rr 0), (4, rr 1032), (5, rr 1040)] [(0, bx (pm (encDice r4.2))), (c116e3), (1040, bx [ow 1072 (r1.tree.nodes ++ [(c116e1 r1 r2)]).length, pI r1.tree.next, ow 1073 r1.tasks.length, pI r1.next]), (1072, ob0 (roNode (r1.tree.nodes ++ [(c116e1 r1 r2)]))), (c116e16 r1)] [] [(1040, .box [ow 1072 (r1.tree.nodes.length + 1), pI r1.tree.next, ow 1073 r1.tasks.length, pI r1.next]), (1072, .row 6 (r1.tree.nodes.length + 1) (catF r1.tree.nodes.length (elNode r1.tree.nodes) (cut 6 [vi (c116e1 r1 r2).id, vi (c116e1 r1 r2).parent, vs (c116e1 r1 r2).name, vi (c116e1 r1 r2).control, vi (c116e1 r1 r2).kind, vi (c116e1 r1 r2).owner])))] (an g28 (an (by omega : (r1.tree.nodes.length + 1) * 56 ≤ 140737488355328) tv)) (by kernel_rfl) .nil (.cons rfl (.box (.cons (MLe.ownLen (enc := encNode) (d := dNode) (f := (catF r1.tree.nodes.length (elNode r1.tree.nodes) (cut 6 [vi (c116e1 r1 r2).id, vi (c116e1 r1 r2).parent, vs (c116e1 r1 r2).name, vi (c116e1 r1 r2).control, vi (c116e1 r1 r2).kind, vi (c116e1 r1 r2).owner]))) (RowIs.cat RowIs.elems (RowIs.lit (enc := encNode) (d := dNode) (n := 1) (f := (cut 6 [vi (c116e1 r1 r2).id, vi (c116e1 r1 r2).parent, vs (c116e1 r1 r2).name, vi (c116e1 r1 r2).control, vi (c116e1 r1 r2).kind, vi (c116e1 r1 r2).owner])) [(c116e1 r1 r2)] rfl (fun | 0, _ => rfl | n + 1, h => absurd h (by omega))))) (.cons .rfl (.cons .rfl (.cons .rfl .nil))))) (.cons rfl (BLe.typed (RowIs.cat RowIs.elems (RowIs.lit (enc := encNode) (d := dNode) (n := 1) (f := (cut 6 [vi (c116e1 r1 r2).id, vi (c116e1 r1 r2).parent, vs (c116e1 r1 r2).name, vi (c116e1 r1 r2).control, vi (c116e1 r1 r2).kind, vi (c116e1 r1 r2).owner])) [(c116e1 r1 r2)] rfl (fun | 0, _ => rfl | n + 1, h => absurd h (by omega))))) .nil)) ?_
           exact bD (r4.2, r1.tree.next, r1.next, (r1.tree.nodes ++ [(c116e1 r1 r2)])) hm .refl
          ·intro h27 hm
           refine Sk ?_
           exact bD (r4.2, r1.tree.next, r1.next, r1.tree.nodes) hm Conv.t0
abbrev o116 (ks : List Nat) (b : Bool) (RES : Hierarchy × Dice) : Orc := .call 33 ks b (.p (.agg (encHierarchy RES.1))) [.box (pm (encDice RES.2))] []

theorem Same_ref5Spec (p0 : Tree) (p1 : Tree) (RES : Bool) (hm : Same_ref5 p0 p1 = some RES) : Spec Tryz.prog 58 [.p (.agg (encTree p0)), .p (.agg (encTree p1))] [] (pB RES) [] [] := by
 unfold Same_ref5 at hm
 refine SO Tryz.func58 rfl rfl [(0, .p (.agg (encTree p0))), (1, .p (.agg (encTree p1)))] [] ?_
 intro cx hnt
 refine Sq (RK hnt (nn 3 []) [(2, rr 1016), (3, rr 1024)] [(1016, bx (pm (encTree p0))), (1024, bx (pm (encTree p1)))] tv ?_)
 refine Sq (Sq (DW.regJ (sl2 := [(2, rr 1016), (3, rr 1024), (19, pB ((((p0.nodes.length : Nat) : Int) != ((p1.nodes.length : Nat) : Int)) || (p0.next != p1.next)))]) (ob2 := [(1016, bx (pm (encTree p0))), (1024, bx (pm (encTree p1)))]) ?_ ?_))
 ·rcases bt (((p0.nodes.length : Nat) : Int) != ((p1.nodes.length : Nat) : Int)) with h1 | h1
  ·exact RT hnt (nn 8 (sk 5 (pT :: []))) [(19, pB true)] (an6 h1 tv) (by kernel_rfl) (.cons rfl (.of_eq (by rw [h1]; try rfl)) .nil)
  ·exact RT hnt (nn 13 (pF :: [])) [(19, pB (p0.next != p1.next))] (an6 h1 tv) (by kernel_rfl) (.cons rfl (.of_eq (by rw [h1]; try rfl)) .nil)
 ·refine condM hm ?_ ?_
  ·intro h2 hm
   refine Sq (RK hnt (.no :: []) [(4, pB false)] [] tv ?_)
   obtain rfl := sj hm
   exact DW.ret (retK [] [] (pB false))
  ·intro h2 hm
   refine Sk ?_
   refine Sq (Sq (RD hnt (.no :: []) [19] [(5, pI 0)] [] [] tv ?_))
   refine Bk ?_
   obtain ⟨hc1, hm⟩ := go1 hm
   refine DW.rangeO (fun (k1 : Nat) (s1 : Unit) => mkSt [(2, rr 1016), (3, rr 1024), (5, pI ((k1 : Nat) : Int))] [(1016, bx (pm (encTree p0))), (1024, bx (pm (encTree p1)))]) dNode hm Conv.eqK ?_
   intro k1 s1 n1 hk1 hs1 he1
   refine Sq (Sq (RD hnt (nn 5 []) [] [(24, pB (decide (((k1 : Nat) : Int) < ((p0.nodes.length : Nat) : Int))))] [] [] tv ?_))
   refine condK (decide (((k1 : Nat) : Int) < ((p0.nodes.length : Nat) : Int))) ?_ ?_
   ·intro h11
    have hlt1 : k1 < p0.nodes.length := by have := of_decide_eq_true h11; omega
    have hm := hs1 hlt1
    unfold Same_ref5L1 at hm
    refine Sk ?_
    refine Sq (Bk ?_)
    obtain ⟨g12, hm⟩ := go1 hm
    refine Sq (RD hnt (nn 11 []) [24] [(37, pB (!(eqNode (p0.nodes.getD k1 (default : Node)) (p1.nodes.getD k1 dNode))))] [] [] (an (nn0 k1) (an (ltc hlt1) (an (nn0 k1) (an (ltc g12) tv)))) ?_)
    refine condM hm ?_ ?_
    ·intro h13 hm
     refine Sq (RK hnt (.no :: []) [(4, pB false)] [] tv ?_)
     obtain rfl := sj hm
     exact DW.ret (retK [] [] (pB false))
    ·intro h13 hm
     refine Sk ?_
     refine DW.done ?_
     show DW _ _ _ _ _
     refine RD hnt (nn 3 []) [37] [(5, pI (w64 (((k1 : Nat) : Int) + 1)))] [] [] tv ?_
     exact jD () ⟨hlt1, hm⟩ (Conv.tp [(5, pI (w64 (((k1 : Nat) : Int) + 1)))] [] (by kernel_rfl) (.cons rfl (.of_eq (congrArg pI (w64_succ hlt1 hc1))) .nil) .nil)
   ·intro h11
    have hge1 : ¬ k1 < p0.nodes.length := by have := of_decide_eq_false h11; omega
    have hm := he1 hge1
    unfold Same_ref5D1 at hm
    refine DW.exit ?_
    refine joinQ_exit ?_
    refine KQ_exit ?_
    refine blockQ_exit ?_
    show DW _ _ _ _ _
    refine Sq (RK hnt (.no :: []) [(4, pB true)] [] tv ?_)
    obtain rfl := sj hm
    exact DW.ret (retK [] [] (pB true))
abbrev o118 (ks : List Nat) (b : Bool) (RES : Bool) : Orc := .call 58 ks b (pB RES) [] []

theorem Same_ref6Spec (p0 : Hierarchy) (p1 : Hierarchy) (RES : Bool) (hm : Same_ref6 p0 p1 = some RES) : Spec Tryz.prog 24 [.p (.agg (encHierarchy p0)), .p (.agg (encHierarchy p1))] [] (pB RES) [] [] := by
 unfold Same_ref6 at hm
 refine SO Tryz.func24 rfl rfl [(0, .p (.agg (encHierarchy p0))), (1, .p (.agg (encHierarchy p1)))] [] ?_
 intro cx hnt
 refine Sq (RK hnt (nn 3 []) [(2, rr 1016), (3, rr 1024)] [(1016, bx (pm (encHierarchy p0))), (1024, bx (pm (encHierarchy p1)))] tv ?_)
 obtain ⟨r1, hr1, hm⟩ := bo hm
 refine Sq (Sq ?_)
 refine Jn (ι := Bool) (fun (y1 : Bool) => mkSt [(2, rr 1016), (3, rr 1024), (27, pB y1)] [(1016, bx (pm (encHierarchy p0))), (1024, bx (pm (encHierarchy p1)))]) (fun y1 => (Same_ref6J1 p0 p1) y1 = some RES) ?_ ?_
 ·intro y1 hm
  unfold Same_ref6J1 at hm
  refine condM hm ?_ ?_
  ·intro h4 hm
   refine Sq (RK hnt (.no :: []) [(4, pB false)] [] tv ?_)
   obtain rfl := sj hm
   exact DW.ret (retK [] [] (pB false))
  ·intro h4 hm
   refine Sk ?_
   refine Sq (Sq (RD hnt (.no :: []) [27] [(5, pI 0)] [] [] tv ?_))
   refine Bk ?_
   obtain ⟨hc1, hm⟩ := go1 hm
   refine DW.rangeO (fun (k1 : Nat) (s1 : Unit) => mkSt [(2, rr 1016), (3, rr 1024), (5, pI ((k1 : Nat) : Int))] [(1016, bx (pm (encHierarchy p0))), (1024, bx (pm (encHierarchy p1)))]) dTask hm Conv.eqK ?_
   intro k1 s1 n1 hk1 hs1 he1
   refine Sq (Sq (RD hnt (nn 5 []) [] [(32, pB (decide (((k1 : Nat) : Int) < ((p0.tasks.length : Nat) : Int))))] [] [] tv ?_))
   refine condK (decide (((k1 : Nat) : Int) < ((p0.tasks.length : Nat) : Int))) ?_ ?_
   ·intro h13
    have hlt1 : k1 < p0.tasks.length := by have := of_decide_eq_true h13; omega
    have hm := hs1 hlt1
    unfold Same_ref6L1 at hm
    refine Sk ?_
    refine Sq (Bk ?_)
    obtain ⟨g14, hm⟩ := go1 hm
    refine Sq (RD hnt (nn 11 []) [32] [(45, pB (!(eqTask (p0.tasks.getD k1 (default : Task)) (p1.tasks.getD k1 dTask))))] [] [] (an (nn0 k1) (an (ltc hlt1) (an (nn0 k1) (an (ltc g14) tv)))) ?_)
    refine condM hm ?_ ?_
    ·intro h15 hm
     refine Sq (RK hnt (.no :: []) [(4, pB false)] [] tv ?_)
     obtain rfl := sj hm
     exact DW.ret (retK [] [] (pB false))
    ·intro h15 hm
     refine Sk ?_
     refine DW.done ?_
     show DW _ _ _ _ _
     refine RD hnt (nn 3 []) [45] [(5, pI (w64 (((k1 : Nat) : Int) + 1)))] [] [] tv ?_
     exact jD () ⟨hlt1, hm⟩ (Conv.tp [(5, pI (w64 (((k1 : Nat) : Int) + 1)))] [] (by kernel_rfl) (.cons rfl (.of_eq (congrArg pI (w64_succ hlt1 hc1))) .nil) .nil)
   ·intro h13
    have hge1 : ¬ k1 < p0.tasks.length := by have := of_decide_eq_false h13; omega
    have hm := he1 hge1
    unfold Same_ref6D1 at hm
    refine DW.exit ?_
    refine joinQ_exit ?_
    refine KQ_exit ?_
    refine blockQ_exit ?_
    show DW _ _ _ _ _
    refine Sq (RK hnt (.no :: []) [(4, pB true)] [] tv ?_)
    obtain rfl := sj hm
    exact DW.ret (retK [] [] (pB true))
 ·rcases bt (!r1) with h2 | h2
  ·replace hm := if_t h2 hm
   refine RD hnt (nn 4 (o118 [] true r1 :: nn 2 (sk 7 (pT :: .no :: sk 5 (pT :: []))))) [] [(27, pB true)] [] [] (an (Same_ref5Spec p0.tree p1.tree r1 hr1) (an2 h2 (an6 h2 (an6 tt tv)))) ?_
   exact jD true hm Conv.eqK
  ·replace hm := if_f h2 hm
   rcases bt (((p0.tasks.length : Nat) : Int) != ((p1.tasks.length : Nat) : Int)) with h3 | h3
   ·replace hm := if_t h3 hm
    refine RD hnt (nn 4 (o118 [] true r1 :: nn 9 (pF :: .no :: sk 5 (pT :: [])))) [] [(27, pB true)] [] [] (an (Same_ref5Spec p0.tree p1.tree r1 hr1) (an2 h2 (an6 h2 (an6 h3 tv)))) ?_
    exact jD true hm Conv.eqK
   ·replace hm := if_f h3 hm
    refine RD hnt (nn 4 (o118 [] true r1 :: nn 9 (pF :: nn 6 (pF :: [])))) [] [(27, pB (p0.next != p1.next))] [] [] (an (Same_ref5Spec p0.tree p1.tree r1 hr1) (an2 h2 (an6 h2 (an6 h3 tv)))) ?_
    exact jD (p0.next != p1.next) hm Conv.eqK
abbrev o117 (ks : List Nat) (b : Bool) (RES : Bool) : Orc := .call 24 ks b (pB RES) [] []

theorem Create_ref8Spec (p0 : Hierarchy) (p1 : Int) (p2 : ByteArray) (RES : Hierarchy × Int × Int) (hm : Create_ref8 p0 p1 p2 = some RES) : Spec Tryz.prog 47 [.p (.agg (encHierarchy p0)), pI p1, pS p2] [] (.tup [.agg [ow 0 RES.1.tree.nodes.length, pI RES.1.tree.next, ow 1 RES.1.tasks.length, pI RES.1.next], pI RES.2.1, pI RES.2.2]) [] [roNode RES.1.tree.nodes, roTask RES.1.tasks] := by
 unfold Create_ref8 at hm
 refine SO Tryz.func47 rfl rfl [(0, .p (.agg (encHierarchy p0))), (1, pI p1), (2, pS p2)] [] ?_
 intro cx hnt
 refine Sq (RD hnt (nn 4 []) [0] [(3, rr 1024), (6, rr 1048)] [] [(1024, bx (pm (encHierarchy p0))), (1048, bx [.p (.sl .nil 0 0 (fun _ => [])), pI 0, .p (.sl .nil 0 0 (fun _ => [])), pI 0])] tv ?_)
 obtain ⟨r1, hr1, hm⟩ := bo hm
 refine Sq (Sq (RD hnt (.no :: o90 [] true r1 :: .no :: []) [] [(15, pB (!r1))] [] [] (an (Fits_ref8Spec p0 r1 hr1) tv) ?_))
 refine condM hm ?_ ?_
 ·intro h2 hm
  refine Sq (RD hnt (nn 4 []) [1, 2, 3, 15] [(7, pI 0), (8, pI 1)] [1024] [] tv ?_)
  refine DW.cv [] [] [] [(1048, bx [ow 100000 0, pI 0, ow 100001 0, pI 0]), (100000, ob0 (roNode [])), (100001, ob0 (roTask []))] (Conv.ads [(.o 1048 0, 100000, 6, elems encNode dNode []), (.o 1048 2, 100001, 4, elems encTask dTask [])]) ?_
  obtain rfl := sj hm
  exact DW.ret (retK [roNode [], roTask []] [100000, 100001] (.tup [.agg [ow 0 0, pI 0, ow 1 0, pI 0], pI 0, pI 1]))
 ·intro h2 hm
  refine Sk ?_
  obtain ⟨r3, hr3, hm⟩ := bo hm
  refine Sq (RD hnt (nn 4 (o73 [] true r3 :: nn 8 [])) [1, 2, 15] [(9, rr 1072), (10, pI r3.2.1), (11, pI r3.2.2)] [] [(1072, bx [ow 1176 r3.1.nodes.length, pI r3.1.next]), (1176, ob0 (roNode r3.1.nodes))] (an (Add_ref5Spec p0.tree p1 p2 r3 hr3) tv) ?_)
  refine Sq (Sq (RD hnt (nn 2 []) [] [(27, pB (r3.2.2 != 0))] [] [] tv ?_))
  refine condM hm ?_ ?_
  ·intro h4 hm
   refine Sq (RD hnt (nn 5 []) [3, 9, 10, 11, 27] [(7, pI 0), (8, pI r3.2.2)] [1024, 1072, 1176] [] tv ?_)
   refine DW.cv [] [] [] [(1048, bx [ow 100000 0, pI 0, ow 100001 0, pI 0]), (100000, ob0 (roNode [])), (100001, ob0 (roTask []))] (Conv.ads [(.o 1048 0, 100000, 6, elems encNode dNode []), (.o 1048 2, 100001, 4, elems encTask dTask [])]) ?_
   obtain rfl := sj hm
   exact DW.ret (retK [roNode [], roTask []] [100000, 100001] (.tup [.agg [ow 0 0, pI 0, ow 1 0, pI 0], pI 0, pI r3.2.2]))
  ·intro h4 hm
   refine Sk ?_
   obtain ⟨r5, hr5, hm⟩ := bo hm
   refine Sq (RD hnt (.no :: o102 [] true r5 :: nn 2 []) [3, 11, 27] [(12, rr 1096)] [1024] [(1096, bx [ow 1248 r5.tree.nodes.length, pI r5.tree.next, ow 1249 r5.tasks.length, pI r5.next]), (1248, ob0 (roNode r5.tree.nodes)), (1249, ob0 (roTask r5.tasks))] (an (Copy_ref6Spec p0 r5 hr5) tv) ?_)
   refine Sq (RD hnt (nn 3 []) [9] [] [1072, 1248] [(1096, bx [ow 1176 r3.1.nodes.length, pI r3.1.next, ow 1249 r5.tasks.length, pI r5.next])] tv ?_)
   refine Sq (RD hnt (nn 5 []) [10, 12] [(7, pI r3.2.1), (8, pI 0)] [1096] [(1048, bx [ow 1176 r3.1.nodes.length, pI r3.1.next, ow 1249 r5.tasks.length, pI r5.next])] tv ?_)
   obtain rfl := sj hm
   exact DW.ret (retK [roNode r3.1.nodes, roTask r5.tasks] [1176, 1249] (.tup [.agg [ow 0 r3.1.nodes.length, pI r3.1.next, ow 1 r5.tasks.length, pI r5.next], pI r3.2.1, pI 0]))
abbrev o119 (ks : List Nat) (b : Bool) (RES : Hierarchy × Int × Int) : Orc := .call 47 ks b (.tup [.agg [ow 0 RES.1.tree.nodes.length, pI RES.1.tree.next, ow 1 RES.1.tasks.length, pI RES.1.next], pI RES.2.1, pI RES.2.2]) [] [roNode RES.1.tree.nodes, roTask RES.1.tasks]

theorem set_controlSpec (p0 : Int) (RES : Bool) (hm : set_control p0 = some RES) : Spec Tryz.prog 146 [pI p0] [] (pB RES) [] [] := by
 unfold set_control at hm
 refine SO Tryz.func146 rfl rfl [(0, pI p0)] [] ?_
 intro cx hnt
 refine Sq (RK hnt (.no :: []) [(0, pI p0)] [] tv ?_)
 refine Sq (DW.regJ (sl2 := [(2, pB ((decide (p0 ≥ 0)) && ((kandNot .i64 p0 31) == 0)))]) (ob2 := []) ?_ ?_)
 ·rcases bt (decide (p0 ≥ 0)) with h1 | h1
  ·exact RT hnt (nn 6 (pT :: .no :: [])) [(2, pB ((kandNot .i64 p0 31) == 0))] (an4 h1 tv) (by kernel_rfl) (.cons rfl (.of_eq (by rw [h1]; try rfl)) .nil)
  ·exact RT hnt (nn 3 (sk 3 (pF :: .no :: []))) [(2, pB false)] (an4 h1 tv) (by kernel_rfl) (.cons rfl (.of_eq (by rw [h1]; try rfl)) .nil)
 ·refine DW.ret ?_
  obtain rfl := sj hm
  exact retK [] [] (pB ((decide (p0 ≥ 0)) && ((kandNot .i64 p0 31) == 0)))
abbrev o122 (ks : List Nat) (b : Bool) (RES : Bool) : Orc := .call 146 ks b (pB RES) [] []

abbrev c121e1 (r42 : Hierarchy) (r8 : Int) (p0 : Hierarchy) (p3 : Int) (p2 : Int) := ({ id := (r42.tree.nodes.getD (Int.toNat r8) dNode).id, parent := (r42.tree.nodes.getD (Int.toNat r8) dNode).parent, name := (r42.tree.nodes.getD (Int.toNat r8) dNode).name, control := (kor .i64 (kandNot .i64 (p0.tree.nodes.getD (Int.toNat r8) dNode).control p3) p2), kind := (r42.tree.nodes.getD (Int.toNat r8) dNode).kind, owner := (r42.tree.nodes.getD (Int.toNat r8) dNode).owner } : Node)
abbrev c121e2 : Nat × Obj := (1064, bx [.p (.sl .nil 0 0 (fun _ => [])), pI 0, .p (.sl .nil 0 0 (fun _ => [])), pI 0])
abbrev c121e3 (r42 : Hierarchy) (r8 : Int) (p0 : Hierarchy) (p3 : Int) (p2 : Int) := (updF (elNode r42.tree.nodes) (Int.toNat r8) [vi (r42.tree.nodes.getD (Int.toNat r8) dNode).id, vi (r42.tree.nodes.getD (Int.toNat r8) dNode).parent, vs (r42.tree.nodes.getD (Int.toNat r8) dNode).name, vi (kor .i64 (kandNot .i64 (p0.tree.nodes.getD (Int.toNat r8) dNode).control p3) p2), vi (r42.tree.nodes.getD (Int.toNat r8) dNode).kind, vi (r42.tree.nodes.getD (Int.toNat r8) dNode).owner])
abbrev c121e4 : Nat × Obj := (1064, bx [ow 100000 0, pI 0, ow 100001 0, pI 0])
abbrev c121e5 (p0 : Hierarchy) (r8 : Int) := (p0.tree.nodes.getD (Int.toNat r8) dNode)
abbrev c121e6 (p0 : Hierarchy) (k1 : Nat) := (p0.tree.nodes.getD k1 (default : Node))
abbrev c121e7 (p0 : Hierarchy) : Nat × Obj := (1032, bx (pm (encHierarchy p0)))
abbrev c121e8 (r42 : Hierarchy) (r8 : Int) (p0 : Hierarchy) (p3 : Int) (p2 : Int) := (r42.tree.nodes.set (Int.toNat r8) (c121e1 r42 r8 p0 p3 p2))
theorem Write_controlSpec (p0 : Hierarchy) (p1 : Int) (p2 : Int) (p3 : Int) (RES : Hierarchy × Int) (hm : Write_control p0 p1 p2 p3 = some RES) : Spec Tryz.prog 99 [.p (.agg (encHierarchy p0)), pI p1, pI p2, pI p3] [] (.tup [.agg [ow 0 RES.1.tree.nodes.length, pI RES.1.tree.next, ow 1 RES.1.tasks.length, pI RES.1.next], pI RES.2]) [] [roNode RES.1.tree.nodes, roTask RES.1.tasks] := by
 unfold Write_control at hm
 refine SO Tryz.func99 rfl rfl [(0, .p (.agg (encHierarchy p0))), (1, pI p1), (2, pI p2), (3, pI p3)] [] ?_
 intro cx hnt
 refine Sq (RD hnt (nn 3 []) [0] [(4, rr 1032), (8, rr 1064)] [] [(c121e7 p0), (c121e2)] tv ?_)
 obtain ⟨r1, hr1, hm⟩ := bo hm
 refine Sq (Sq ?_)
 refine Jn (ι := Bool) (fun (y1 : Bool) => mkSt [(1, pI p1), (2, pI p2), (3, pI p3), (4, rr 1032), (8, rr 1064), (34, pB y1)] [(c121e7 p0), (c121e2)]) (fun y1 => (Write_controlJ1 p0 p1 p2 p3) y1 = some RES) ?_ ?_
 ·intro y1 hm
  unfold Write_controlJ1 at hm
  refine condM hm ?_ ?_
  ·intro h7 hm
   refine Sq (RD hnt (nn 3 []) [1, 2, 3, 4, 34] [(9, pI 1)] [1032] [] tv ?_)
   refine DW.cv [] [] [] [(c121e4), (100000, ob0 (roNode [])), (100001, ob0 (roTask []))] (Conv.ads [(.o 1064 0, 100000, 6, elems encNode dNode []), (.o 1064 2, 100001, 4, elems encTask dTask [])]) ?_
   obtain rfl := sj hm
   exact DW.ret (retK [roNode [], roTask []] [100000, 100001] (.tup [.agg [ow 0 0, pI 0, ow 1 0, pI 0], pI 1]))
  ·intro h7 hm
   refine Sk ?_
   obtain ⟨r8, hr8, hm⟩ := bo hm
   refine Sq (RD hnt (nn 3 (o20 [] true r8 :: .no :: [])) [34] [(10, pI r8)] [] [] (an (At_forestSpec p0.tree p1 r8 hr8) tv) ?_)
   refine Sq (Sq (RD hnt (nn 2 []) [] [(41, pB (decide (r8 < 0)))] [] [] tv ?_))
   refine condM hm ?_ ?_
   ·intro h9 hm
    refine Sq (RD hnt (nn 3 []) [1, 2, 3, 4, 10, 41] [(9, pI 4)] [1032] [] tv ?_)
    refine DW.cv [] [] [] [(c121e4), (100000, ob0 (roNode [])), (100001, ob0 (roTask []))] (Conv.ads [(.o 1064 0, 100000, 6, elems encNode dNode []), (.o 1064 2, 100001, 4, elems encTask dTask [])]) ?_
    obtain rfl := sj hm
    exact DW.ret (retK [roNode [], roTask []] [100000, 100001] (.tup [.agg [ow 0 0, pI 0, ow 1 0, pI 0], pI 4]))
   ·intro h9 hm
    refine Sk ?_
    obtain ⟨g10, hm⟩ := go1 hm
    refine Sq (RD hnt (nn 8 []) [41] [(11, rr 1088)] [] [(1088, bx (pm (encNode (c121e5 p0 r8))))] (an g10.1 (an g10.2 tv)) ?_)
    obtain ⟨r11, hr11, hm⟩ := bo hm
    refine Sq (Sq (RD hnt (nn 4 (o23 [] true r11 :: nn 2 [])) [] [(55, pB ((kandNot .i64 p2 r11) != 0))] [] [] (an (from_controlSpec p0.tree (c121e5 p0 r8) r11 hr11) tv) ?_))
    refine condM hm ?_ ?_
    ·intro h12 hm
     refine Sq (RD hnt (nn 3 []) [1, 2, 3, 4, 10, 11, 55] [(9, pI 9)] [1032, 1088] [] tv ?_)
     refine DW.cv [] [] [] [(c121e4), (100000, ob0 (roNode [])), (100001, ob0 (roTask []))] (Conv.ads [(.o 1064 0, 100000, 6, elems encNode dNode []), (.o 1064 2, 100001, 4, elems encTask dTask [])]) ?_
     obtain rfl := sj hm
     exact DW.ret (retK [roNode [], roTask []] [100000, 100001] (.tup [.agg [ow 0 0, pI 0, ow 1 0, pI 0], pI 9]))
    ·intro h12 hm
     refine Sk ?_
     refine Sq (Sq (RD hnt (nn 5 []) [55] [(59, .p (slNode p0.tree.nodes)), (60, pI ((p0.tree.nodes.length : Nat) : Int)), (61, pI 0)] [] [] tv ?_))
     refine Bk ?_
     obtain ⟨hc1, hm⟩ := go1 hm
     refine DW.rangeO (fun (k1 : Nat) (s1 : Unit) => mkSt [(1, pI p1), (2, pI p2), (3, pI p3), (4, rr 1032), (8, rr 1064), (10, pI r8), (11, rr 1088), (59, .p (slNode p0.tree.nodes)), (60, pI ((p0.tree.nodes.length : Nat) : Int)), (61, pI ((k1 : Nat) : Int))] [(c121e7 p0), (c121e2), (1088, bx (pm (encNode (c121e5 p0 r8))))]) dNode hm Conv.eqK ?_
     intro k1 s1 n1 hk1 hs1 he1
     refine Sq (RD hnt (.no :: []) [] [(62, pB (decide (((k1 : Nat) : Int) < ((p0.tree.nodes.length : Nat) : Int))))] [] [] tv ?_)
     refine Sq (condK (decide (((k1 : Nat) : Int) < ((p0.tree.nodes.length : Nat) : Int))) ?_ ?_)
     ·intro h35
      have hlt1 : k1 < p0.tree.nodes.length := by have := of_decide_eq_true h35; omega
      have hm := hs1 hlt1
      unfold Write_controlL1 at hm
      refine Sk ?_
      refine Sq (Bk ?_)
      refine Sq (RD hnt (nn 4 []) [62] [(13, rr 1104)] [] [(1104, bx (pm (encNode (c121e6 p0 k1))))] (an (nn0 k1) (an (ltc hlt1) tv)) ?_)
      refine Sq (DW.regJ (sl2 := [(1, pI p1), (2, pI p2), (3, pI p3), (4, rr 1032), (8, rr 1064), (10, pI r8), (11, rr 1088), (59, .p (slNode p0.tree.nodes)), (60, pI ((p0.tree.nodes.length : Nat) : Int)), (61, pI ((k1 : Nat) : Int)), (75, pB (((c121e6 p0 k1).parent == p1) && ((kand .i64 (c121e6 p0 k1).control p3) != 0)))]) (ob2 := [(c121e7 p0), (c121e2), (1088, bx (pm (encNode (c121e5 p0 r8))))]) ?_ ?_)
      ·rcases bt ((c121e6 p0 k1).parent == p1) with h36 | h36
       ·exact RT hnt (nn 10 (pT :: [])) [(75, pB ((kand .i64 (c121e6 p0 k1).control p3) != 0))] (an6 h36 tv) (by kernel_rfl) (.cons rfl (.of_eq (by rw [h36]; try rfl)) .nil)
       ·exact RT hnt (nn 5 (sk 5 (pF :: []))) [(75, pB false)] (an6 h36 tv) (by kernel_rfl) (.cons rfl (.of_eq (by rw [h36]; try rfl)) .nil)
      ·refine condM hm ?_ ?_
       ·intro h37 hm
        refine Sq (RD hnt (nn 3 []) [1, 2, 3, 4, 10, 11, 59, 60, 61, 75] [(9, pI 9)] [1032, 1088] [] tv ?_)
        refine DW.cv [] [] [] [(c121e4), (100000, ob0 (roNode [])), (100001, ob0 (roTask []))] (Conv.ads [(.o 1064 0, 100000, 6, elems encNode dNode []), (.o 1064 2, 100001, 4, elems encTask dTask [])]) ?_
        obtain rfl := sj hm
        exact DW.ret (retK [roNode [], roTask []] [100000, 100001] (.tup [.agg [ow 0 0, pI 0, ow 1 0, pI 0], pI 9]))
       ·intro h37 hm
        refine Sk ?_
        refine DW.done ?_
        show DW _ _ _ _ _
        refine RD hnt (nn 2 []) [75] [(61, pI (w64 (((k1 : Nat) : Int) + 1)))] [] [] tv ?_
        exact jD () ⟨hlt1, hm⟩ (Conv.tp [(61, pI (w64 (((k1 : Nat) : Int) + 1)))] [] (by kernel_rfl) (.cons rfl (.of_eq (congrArg pI (w64_succ hlt1 hc1))) .nil) .nil)
     ·intro h35
      have hge1 : ¬ k1 < p0.tree.nodes.length := by have := of_decide_eq_false h35; omega
      have hm := he1 hge1
      unfold Write_controlD1 at hm
      refine DW.exit ?_
      refine joinQ_exit ?_
      refine KQ_exit ?_
      refine blockQ_exit ?_
      show DW _ _ _ _ _
      refine Sq (RD hnt (nn 7 []) [2, 3, 59, 60, 61, 62] [(14, pI (kor .i64 (kandNot .i64 (c121e5 p0 r8).control p3) p2))] [] [] tv ?_)
      refine Sq (Sq ?_)
      refine Jn (ι := Bool) (fun (y4 : Bool) => mkSt [(4, rr 1032), (8, rr 1064), (10, pI r8), (14, pI (kor .i64 (kandNot .i64 (c121e5 p0 r8).control p3) p2)), (100, pB y4)] [(c121e7 p0), (c121e2)]) (fun y4 => (Write_controlJ4 p0 p2 p3 r8) y4 = some RES) ?_ ?_
      ·intro y4 hm
       unfold Write_controlJ4 at hm
       refine condM hm ?_ ?_
       ·intro h41 hm
        refine Sq (RD hnt (nn 3 []) [4, 10, 14, 100] [(9, pI 6)] [1032] [] tv ?_)
        refine DW.cv [] [] [] [(c121e4), (100000, ob0 (roNode [])), (100001, ob0 (roTask []))] (Conv.ads [(.o 1064 0, 100000, 6, elems encNode dNode []), (.o 1064 2, 100001, 4, elems encTask dTask [])]) ?_
        obtain rfl := sj hm
        exact DW.ret (retK [roNode [], roTask []] [100000, 100001] (.tup [.agg [ow 0 0, pI 0, ow 1 0, pI 0], pI 6]))
       ·intro h41 hm
        refine Sk ?_
        obtain ⟨r42, hr42, hm⟩ := bo hm
        refine Sq (RD hnt (.no :: o62 [] true r42 :: nn 2 []) [4, 100] [(15, rr 1120)] [1032] [(1120, bx [ow 1824 r42.tree.nodes.length, pI r42.tree.next, ow 1825 r42.tasks.length, pI r42.next]), (1824, ob0 (roNode r42.tree.nodes)), (1825, ob0 (roTask r42.tasks))] (an (Copy_crewSpec p0 r42 hr42) tv) ?_)
        obtain ⟨g43, g44, hm⟩ := go2 hm
        refine Sq (RN hnt (nn 8 []) [(8, rr 1064), (15, rr 1120)] [(c121e2), (1120, bx [ow 1824 (c121e8 r42 r8 p0 p3 p2).length, pI r42.tree.next, ow 1825 r42.tasks.length, pI r42.next]), (1824, ob0 (roNode (c121e8 r42 r8 p0 p3 p2))), (1825, ob0 (roTask r42.tasks))] [] [(1120, .box [ow 1824 r42.tree.nodes.length, pI r42.tree.next, ow 1825 r42.tasks.length, pI r42.next]), (1824, .row 6 r42.tree.nodes.length (c121e3 r42 r8 p0 p3 p2))] (an g43.1 (an g43.2 (an g44 tv))) (by kernel_rfl) .nil (.cons rfl (.box (.cons (MLe.ownLen (enc := encNode) (d := dNode) (f := (c121e3 r42 r8 p0 p3 p2)) (RowIs.upd RowIs.elems (c121e1 r42 r8 p0 p3 p2) rfl)) (.cons .rfl (.cons .rfl (.cons .rfl .nil))))) (.cons rfl (BLe.typed (RowIs.upd RowIs.elems (c121e1 r42 r8 p0 p3 p2) rfl)) .nil)) ?_)
        refine Sq (RD hnt (nn 3 []) [15] [(9, pI 0)] [1120] [(1064, bx [ow 1824 (c121e8 r42 r8 p0 p3 p2).length, pI r42.tree.next, ow 1825 r42.tasks.length, pI r42.next])] tv ?_)
        obtain rfl := sj hm
        exact DW.ret (retK [roNode (c121e8 r42 r8 p0 p3 p2), roTask r42.tasks] [1824, 1825] (.tup [.agg [ow 0 (c121e8 r42 r8 p0 p3 p2).length, pI r42.tree.next, ow 1 r42.tasks.length, pI r42.next], pI 0]))
      ·rcases bt ((kand .i64 (kandNot .i64 (kor .i64 (kandNot .i64 (c121e5 p0 r8).control p3) p2) (c121e5 p0 r8).control) 6) != 0) with h38 | h38
       ·replace hm := if_t h38 hm
        rcases bt (p1 != 1) with h39 | h39
        ·replace hm := if_t h39 hm
         obtain ⟨r40, hr40, hm⟩ := bo hm
         refine RD hnt (nn 9 (pT :: nn 3 (o25 [] true r40 :: nn 2 (pT :: [])))) [1, 11] [(100, pB (decide (((r40.length : Nat) : Int) > 0)))] [1088] [] (an3 h38 (an3 h39 (an (Tasks_crewSpec p0 p1 r40 hr40) (an3 h39 tv)))) ?_
         exact jD (decide (((r40.length : Nat) : Int) > 0)) hm Conv.eqK
        ·replace hm := if_f h39 hm
         refine RD hnt (nn 9 (pT :: .no :: sk 5 (pF :: []))) [1, 11] [(100, pB false)] [1088] [] (an3 h38 (an6 h39 tv)) ?_
         exact jD false hm Conv.eqK
       ·replace hm := if_f h38 hm
        refine RD hnt (nn 7 (sk 2 (pF :: .no :: sk 5 (pF :: [])))) [1, 11] [(100, pB false)] [1088] [] (an3 h38 (an6 ff tv)) ?_
        exact jD false hm Conv.eqK
 ·rcases bt (!r1) with h2 | h2
  ·replace hm := if_t h2 hm
   refine RD hnt (.no :: o8 [] true r1 :: nn 2 (sk 3 (pT :: .no :: sk 3 (pT :: .no :: sk 4 (pT :: []))))) [] [(34, pB true)] [] [] (an (Sound_controlSpec p0 r1 hr1) (an4 h2 (an3 tt (an6 tt tv)))) ?_
   exact jD true hm Conv.eqK
  ·replace hm := if_f h2 hm
   obtain ⟨r3, hr3, hm⟩ := bo hm
   rcases bt (!r3) with h4 | h4
   ·replace hm := if_t h4 hm
    refine RD hnt (.no :: o8 [] true r1 :: nn 3 (o122 [] true r3 :: .no :: pF :: .no :: sk 3 (pT :: .no :: sk 4 (pT :: [])))) [] [(34, pB true)] [] [] (an (Sound_controlSpec p0 r1 hr1) (an2 h2 (an (set_controlSpec p2 r3 hr3) (an2 h2 (an4 h4 (an5 tt tv)))))) ?_
    exact jD true hm Conv.eqK
   ·replace hm := if_f h4 hm
    obtain ⟨r5, hr5, hm⟩ := bo hm
    rcases bt (!r5) with h6 | h6
    ·replace hm := if_t h6 hm
     refine RD hnt (.no :: o8 [] true r1 :: nn 3 (o122 [] true r3 :: .no :: pF :: nn 2 (o122 [] true r5 :: .no :: pF :: .no :: sk 4 (pT :: [])))) [] [(34, pB true)] [] [] (an (Sound_controlSpec p0 r1 hr1) (an2 h2 (an (set_controlSpec p2 r3 hr3) (an2 h2 (an2 h4 (an (set_controlSpec p3 r5 hr5) (an2 h4 (an5 h6 tv)))))))) ?_
     exact jD true hm Conv.eqK
    ·replace hm := if_f h6 hm
     refine RD hnt (.no :: o8 [] true r1 :: nn 3 (o122 [] true r3 :: .no :: pF :: nn 2 (o122 [] true r5 :: .no :: pF :: nn 5 (pF :: [])))) [] [(34, pB ((kand .i64 p2 p3) != 0))] [] [] (an (Sound_controlSpec p0 r1 hr1) (an2 h2 (an (set_controlSpec p2 r3 hr3) (an2 h2 (an2 h4 (an (set_controlSpec p3 r5 hr5) (an2 h4 (an5 h6 tv)))))))) ?_
     exact jD ((kand .i64 p2 p3) != 0) hm Conv.eqK
abbrev o121 (ks : List Nat) (b : Bool) (RES : Hierarchy × Int) : Orc := .call 99 ks b (.tup [.agg [ow 0 RES.1.tree.nodes.length, pI RES.1.tree.next, ow 1 RES.1.tasks.length, pI RES.1.next], pI RES.2]) [] [roNode RES.1.tree.nodes, roTask RES.1.tasks]

theorem Enable_threadedSpec (p0 : Hierarchy) (p1 : Int) (p2 : Int) (p3 : Int) (RES : Hierarchy × Int) (hm : Enable_threaded p0 p1 p2 p3 = some RES) : Spec Tryz.prog 48 [.p (.agg (encHierarchy p0)), pI p1, pI p2, pI p3] [] (.tup [.agg [ow 0 RES.1.tree.nodes.length, pI RES.1.tree.next, ow 1 RES.1.tasks.length, pI RES.1.next], pI RES.2]) [] [roNode RES.1.tree.nodes, roTask RES.1.tasks] := by
 unfold Enable_threaded at hm
 refine SO Tryz.func48 rfl rfl [(0, .p (.agg (encHierarchy p0))), (1, pI p1), (2, pI p2), (3, pI p3)] [] ?_
 intro cx hnt
 refine Sq (RD hnt (nn 3 []) [0] [(4, rr 1032), (8, rr 1064)] [] [(1032, bx (pm (encHierarchy p0))), (1064, bx [.p (.sl .nil 0 0 (fun _ => [])), pI 0, .p (.sl .nil 0 0 (fun _ => [])), pI 0])] tv ?_)
 obtain ⟨r1, hr1, hm⟩ := bo hm
 refine Sq (Sq (RD hnt (.no :: o7 [] true r1 :: .no :: []) [] [(14, pB (!r1))] [] [] (an (Fits_threadedSpec p0 r1 hr1) tv) ?_))
 refine condM hm ?_ ?_
 ·intro h2 hm
  obtain ⟨r3, hr3, hm⟩ := bo hm
  refine Sq (RK hnt (o65 [] true r3 :: nn 4 []) [(8, rr 1064), (9, pI r3.2)] [(1064, bx [ow 1120 r3.1.tree.nodes.length, pI r3.1.tree.next, ow 1121 r3.1.tasks.length, pI r3.1.next]), (1120, ob0 (roNode r3.1.tree.nodes)), (1121, ob0 (roTask r3.1.tasks))] (an (refuse_threadedSpec 1 r3 hr3) tv) ?_)
  obtain rfl := sj hm
  exact DW.ret (retK [roNode r3.1.tree.nodes, roTask r3.1.tasks] [1120, 1121] (.tup [.agg [ow 0 r3.1.tree.nodes.length, pI r3.1.tree.next, ow 1 r3.1.tasks.length, pI r3.1.next], pI r3.2]))
 ·intro h2 hm
  refine Sk ?_
  obtain ⟨r4, hr4, hm⟩ := bo hm
  refine Sq (RD hnt (nn 4 (o121 [] true r4 :: nn 6 [])) [1, 2, 3, 4, 14] [(10, rr 1080), (11, pI r4.2)] [1032] [(1080, bx [ow 1184 r4.1.tree.nodes.length, pI r4.1.tree.next, ow 1185 r4.1.tasks.length, pI r4.1.next]), (1184, ob0 (roNode r4.1.tree.nodes)), (1185, ob0 (roTask r4.1.tasks))] (an (Write_controlSpec p0 p1 p2 p3 r4 hr4) tv) ?_)
  refine Sq (Sq (RD hnt (nn 2 []) [] [(27, pB (r4.2 != 0))] [] [] tv ?_))
  refine condM hm ?_ ?_
  ·intro h5 hm
   obtain ⟨r6, hr6, hm⟩ := bo hm
   refine Sq (RK hnt (.no :: o65 [] true r6 :: nn 4 []) [(8, rr 1064), (9, pI r6.2)] [(1064, bx [ow 1232 r6.1.tree.nodes.length, pI r6.1.tree.next, ow 1233 r6.1.tasks.length, pI r6.1.next]), (1232, ob0 (roNode r6.1.tree.nodes)), (1233, ob0 (roTask r6.1.tasks))] (an (refuse_threadedSpec r4.2 r6 hr6) tv) ?_)
   obtain rfl := sj hm
   exact DW.ret (retK [roNode r6.1.tree.nodes, roTask r6.1.tasks] [1232, 1233] (.tup [.agg [ow 0 r6.1.tree.nodes.length, pI r6.1.tree.next, ow 1 r6.1.tasks.length, pI r6.1.next], pI r6.2]))
  ·intro h5 hm
   refine Sk ?_
   obtain ⟨r7, hr7, hm⟩ := bo hm
   refine Sq (Sq (RD hnt (.no :: o7 [] true r7 :: .no :: []) [11, 27] [(34, pB (!r7))] [] [] (an (Fits_threadedSpec r4.1 r7 hr7) tv) ?_))
   refine condM hm ?_ ?_
   ·intro h8 hm
    obtain ⟨r9, hr9, hm⟩ := bo hm
    refine Sq (RK hnt (o65 [] true r9 :: nn 4 []) [(8, rr 1064), (9, pI r9.2)] [(1064, bx [ow 1280 r9.1.tree.nodes.length, pI r9.1.tree.next, ow 1281 r9.1.tasks.length, pI r9.1.next]), (1280, ob0 (roNode r9.1.tree.nodes)), (1281, ob0 (roTask r9.1.tasks))] (an (refuse_threadedSpec 10 r9 hr9) tv) ?_)
    obtain rfl := sj hm
    exact DW.ret (retK [roNode r9.1.tree.nodes, roTask r9.1.tasks] [1280, 1281] (.tup [.agg [ow 0 r9.1.tree.nodes.length, pI r9.1.tree.next, ow 1 r9.1.tasks.length, pI r9.1.next], pI r9.2]))
   ·intro h8 hm
    refine Sk ?_
    refine Sq (RD hnt (nn 3 []) [10, 34] [(9, pI 0)] [1080] [(1064, bx [ow 1184 r4.1.tree.nodes.length, pI r4.1.tree.next, ow 1185 r4.1.tasks.length, pI r4.1.next])] tv ?_)
    obtain rfl := sj hm
    exact DW.ret (retK [roNode r4.1.tree.nodes, roTask r4.1.tasks] [1184, 1185] (.tup [.agg [ow 0 r4.1.tree.nodes.length, pI r4.1.tree.next, ow 1 r4.1.tasks.length, pI r4.1.next], pI 0]))
abbrev o120 (ks : List Nat) (b : Bool) (RES : Hierarchy × Int) : Orc := .call 48 ks b (.tup [.agg [ow 0 RES.1.tree.nodes.length, pI RES.1.tree.next, ow 1 RES.1.tasks.length, pI RES.1.next], pI RES.2]) [] [roNode RES.1.tree.nodes, roTask RES.1.tasks]

theorem admits_threadedSpec (p0 : Hierarchy) (p1 : Int) (RES : Int) (hm : admits_threaded p0 p1 = some RES) : Spec Tryz.prog 89 [.p (.agg (encHierarchy p0)), pI p1] [] (pI RES) [] [] := by
 unfold admits_threaded at hm
 refine SO Tryz.func89 rfl rfl [(0, .p (.agg (encHierarchy p0))), (1, pI p1)] [] ?_
 intro cx hnt
 refine Sq (RK hnt (nn 2 []) [(1, pI p1), (2, rr 1016)] [(1016, bx (pm (encHierarchy p0)))] tv ?_)
 obtain ⟨r1, hr1, hm⟩ := bo hm
 refine Sq (RD hnt (nn 3 (o24 [] true r1 :: nn 6 [])) [] [(5, rr 1040), (6, pB r1.2)] [] [(1040, bx (pm (encNode r1.1)))] (an (Find_forestSpec p0.tree p1 r1 hr1) tv) ?_)
 refine Sq (Bk ?_)
 refine Sq (RD hnt (nn 3 []) [6] [(14, pB (!r1.2))] [] [] tv ?_)
 refine condM hm ?_ ?_
 ·intro h2 hm
  refine Sq (RK hnt (.no :: []) [(4, pI 4)] [] tv ?_)
  obtain rfl := sj hm
  exact DW.ret (retK [] [] (pI 4))
 ·intro h2 hm
  refine Sq ?_
  refine Jn (ι := Bool) (fun (y1 : Bool) => mkSt [(1, pI p1), (5, rr 1040), (17, pB y1)] [(1040, bx (pm (encNode r1.1)))]) (fun y1 => (admits_threadedJ1 p1 r1) y1 = some RES) ?_ ?_
  ·intro y1 hm
   unfold admits_threadedJ1 at hm
   refine condM hm ?_ ?_
   ·intro h5 hm
    refine Sq (RK hnt (.no :: []) [(4, pI 10)] [] tv ?_)
    obtain rfl := sj hm
    exact DW.ret (retK [] [] (pI 10))
   ·intro h5 hm
    refine Sq (DW.regJ (sl2 := [(27, pB ((p1 != 1) && ((kand .i64 r1.1.control 6) != 0)))]) (ob2 := []) ?_ ?_)
    ·rcases bt (p1 != 1) with h6 | h6
     ·exact RT hnt (nn 7 (pT :: .no :: [])) [(27, pB ((kand .i64 r1.1.control 6) != 0))] (an5 h6 tv) (by kernel_rfl) (.cons rfl (.of_eq (by rw [h6]; try rfl)) .nil)
     ·exact RT hnt (nn 3 (sk 4 (pF :: .no :: []))) [(27, pB false)] (an5 h6 tv) (by kernel_rfl) (.cons rfl (.of_eq (by rw [h6]; try rfl)) .nil)
    ·refine condM hm ?_ ?_
     ·intro h7 hm
      refine Sq (RK hnt (.no :: []) [(4, pI 6)] [] tv ?_)
      obtain rfl := sj hm
      exact DW.ret (retK [] [] (pI 6))
     ·intro h7 hm
      refine Sk ?_
      refine DW.done ?_
      show DW _ _ _ _ _
      refine Sq (RK hnt (.no :: []) [(4, pI 0)] [] tv ?_)
      obtain rfl := sj hm
      exact DW.ret (retK [] [] (pI 0))
  ·rcases bt (r1.1.kind != 1) with h3 | h3
   ·replace hm := if_t h3 hm
    obtain ⟨r4, hr4, hm⟩ := bo hm
    refine RD hnt (nn 7 (o53 [] true r4 :: pT :: .no :: [])) [2, 14] [(17, pB r4)] [1016] [] (an4 h3 (an (invalid_threadedSpec p0.tree p1 r4 hr4) (an h3 tv))) ?_
    exact jD r4 hm Conv.eqK
   ·replace hm := if_f h3 hm
    refine RD hnt (nn 4 (sk 4 (pF :: .no :: []))) [2, 14] [(17, pB false)] [1016] [] (an5 h3 tv) ?_
    exact jD false hm Conv.eqK
abbrev o124 (ks : List Nat) (b : Bool) (RES : Int) : Orc := .call 89 ks b (pI RES) [] []

abbrev c123e1 (s1 : List Task) (k1 : Int) (p2 : Int) := ({ id := (s1.getD (Int.toNat k1) dTask).id, process := (s1.getD (Int.toNat k1) dTask).process, group := p2, user := (s1.getD (Int.toNat k1) dTask).user } : Task)
abbrev c123e2 : Nat × Obj := (1048, bx [.p (.sl .nil 0 0 (fun _ => [])), pI 0, .p (.sl .nil 0 0 (fun _ => [])), pI 0])
abbrev c123e3 (s1 : List Task) (k1 : Int) (p2 : Int) := (updF (elTask s1) (Int.toNat k1) [vi (s1.getD (Int.toNat k1) dTask).id, vi (s1.getD (Int.toNat k1) dTask).process, vi p2, vi (s1.getD (Int.toNat k1) dTask).user])
abbrev c123e4 (r15 : Hierarchy) : Nat × MV := (71, pI ((r15.tasks.length : Nat) : Int))
theorem Attach_threadedSpec (p0 : Hierarchy) (p1 : Int) (p2 : Int) (RES : Hierarchy × Int) (hm : Attach_threaded p0 p1 p2 = some RES) : Spec Tryz.prog 40 [.p (.agg (encHierarchy p0)), pI p1, pI p2] [] (.tup [.agg [ow 0 RES.1.tree.nodes.length, pI RES.1.tree.next, ow 1 RES.1.tasks.length, pI RES.1.next], pI RES.2]) [] [roNode RES.1.tree.nodes, roTask RES.1.tasks] := by
 unfold Attach_threaded at hm
 refine SO Tryz.func40 rfl rfl [(0, .p (.agg (encHierarchy p0))), (1, pI p1), (2, pI p2)] [] ?_
 intro cx hnt
 refine Sq (RD hnt (nn 3 []) [0] [(3, rr 1024), (6, rr 1048)] [] [(1024, bx (pm (encHierarchy p0))), (c123e2)] tv ?_)
 obtain ⟨r1, hr1, hm⟩ := bo hm
 refine Sq (Sq (RD hnt (.no :: o7 [] true r1 :: .no :: []) [] [(18, pB (!r1))] [] [] (an (Fits_threadedSpec p0 r1 hr1) tv) ?_))
 refine condM hm ?_ ?_
 ·intro h2 hm
  obtain ⟨r3, hr3, hm⟩ := bo hm
  refine Sq (RK hnt (o65 [] true r3 :: nn 4 []) [(6, rr 1048), (7, pI r3.2)] [(1048, bx [ow 1152 r3.1.tree.nodes.length, pI r3.1.tree.next, ow 1153 r3.1.tasks.length, pI r3.1.next]), (1152, ob0 (roNode r3.1.tree.nodes)), (1153, ob0 (roTask r3.1.tasks))] (an (refuse_threadedSpec 1 r3 hr3) tv) ?_)
  obtain rfl := sj hm
  exact DW.ret (retK [roNode r3.1.tree.nodes, roTask r3.1.tasks] [1152, 1153] (.tup [.agg [ow 0 r3.1.tree.nodes.length, pI r3.1.tree.next, ow 1 r3.1.tasks.length, pI r3.1.next], pI r3.2]))
 ·intro h2 hm
  refine Sk ?_
  obtain ⟨r4, hr4, hm⟩ := bo hm
  refine Sq (RD hnt (nn 2 (o16 [] true r4 :: nn 6 [])) [18] [(8, rr 1064), (9, pB r4.2)] [] [(1064, bx (pm (encTask r4.1)))] (an (Find_crewSpec p0 p1 r4 hr4) tv) ?_)
  obtain ⟨r5, hr5, hm⟩ := bo hm
  refine Sq (RD hnt (nn 3 (o24 [] true r5 :: nn 6 [])) [] [(10, rr 1080), (11, pB r5.2)] [] [(1080, bx (pm (encNode r5.1)))] (an (Find_forestSpec p0.tree p2 r5 hr5) tv) ?_)
  refine Sq (Bk ?_)
  refine Sq (DW.regJ (sl2 := [(1, pI p1), (2, pI p2), (3, rr 1024), (6, rr 1048), (10, rr 1080), (35, pB (((!r4.2) || (r4.1.process != p1)) || (!r5.2)))]) (ob2 := [(1024, bx (pm (encHierarchy p0))), (c123e2), (1080, bx (pm (encNode r5.1)))]) ?_ ?_)
  ·rcases bt (!r4.2) with h6 | h6
   ·exact RT hnt (nn 3 (sk 4 (pT :: .no :: sk 2 (pT :: .no :: [])))) [(35, pB true)] (an5 h6 (an3 tt tv)) (by kernel_rfl) (.cons rfl (.of_eq (by rw [h6]; try rfl)) .nil)
   ·rcases bt (r4.1.process != p1) with h7 | h7
    ·exact RT hnt (nn 7 (pF :: .no :: sk 2 (pT :: .no :: []))) [(35, pB true)] (an5 h6 (an3 h7 tv)) (by kernel_rfl) (.cons rfl (.of_eq (by rw [h6, h7]; try rfl)) .nil)
    ·exact RT hnt (nn 7 (pF :: nn 3 (pF :: .no :: []))) [(35, pB (!r5.2))] (an5 h6 (an3 h7 tv)) (by kernel_rfl) (.cons rfl (.of_eq (by rw [h6, h7]; try rfl)) .nil)
  ·refine condM hm ?_ ?_
   ·intro h8 hm
    obtain ⟨r9, hr9, hm⟩ := bo hm
    refine Sq (RK hnt (o65 [] true r9 :: nn 4 []) [(6, rr 1048), (7, pI r9.2)] [(1048, bx [ow 1384 r9.1.tree.nodes.length, pI r9.1.tree.next, ow 1385 r9.1.tasks.length, pI r9.1.next]), (1384, ob0 (roNode r9.1.tree.nodes)), (1385, ob0 (roTask r9.1.tasks))] (an (refuse_threadedSpec 4 r9 hr9) tv) ?_)
    obtain rfl := sj hm
    exact DW.ret (retK [roNode r9.1.tree.nodes, roTask r9.1.tasks] [1384, 1385] (.tup [.agg [ow 0 r9.1.tree.nodes.length, pI r9.1.tree.next, ow 1 r9.1.tasks.length, pI r9.1.next], pI r9.2]))
   ·intro h8 hm
    refine Sq (RD hnt (nn 4 []) [10, 35] [(51, pB (r5.1.kind == 1))] [1080] [] tv ?_)
    refine condM hm ?_ ?_
    ·intro h10 hm
     obtain ⟨r11, hr11, hm⟩ := bo hm
     refine Sq (RK hnt (o65 [] true r11 :: nn 4 []) [(6, rr 1048), (7, pI r11.2)] [(1048, bx [ow 1440 r11.1.tree.nodes.length, pI r11.1.tree.next, ow 1441 r11.1.tasks.length, pI r11.1.next]), (1440, ob0 (roNode r11.1.tree.nodes)), (1441, ob0 (roTask r11.1.tasks))] (an (refuse_threadedSpec 10 r11 hr11) tv) ?_)
     obtain rfl := sj hm
     exact DW.ret (retK [roNode r11.1.tree.nodes, roTask r11.1.tasks] [1440, 1441] (.tup [.agg [ow 0 r11.1.tree.nodes.length, pI r11.1.tree.next, ow 1 r11.1.tasks.length, pI r11.1.next], pI r11.2]))
    ·intro h10 hm
     refine Sk ?_
     refine DW.done ?_
     show DW _ _ _ _ _
     obtain ⟨r12, hr12, hm⟩ := bo hm
     refine Sq (Sq (RD hnt (nn 2 (o124 [] true r12 :: .no :: [])) [51] [(12, pI r12)] [] [] (an (admits_threadedSpec p0 p2 r12 hr12) tv) ?_))
     refine Sq (RD hnt (nn 2 []) [] [(62, pB (r12 != 0))] [] [] tv ?_)
     refine condM hm ?_ ?_
     ·intro h13 hm
      obtain ⟨r14, hr14, hm⟩ := bo hm
      refine Sq (RK hnt (.no :: o65 [] true r14 :: nn 4 []) [(6, rr 1048), (7, pI r14.2)] [(1048, bx [ow 1512 r14.1.tree.nodes.length, pI r14.1.tree.next, ow 1513 r14.1.tasks.length, pI r14.1.next]), (1512, ob0 (roNode r14.1.tree.nodes)), (1513, ob0 (roTask r14.1.tasks))] (an (refuse_threadedSpec r12 r14 hr14) tv) ?_)
      obtain rfl := sj hm
      exact DW.ret (retK [roNode r14.1.tree.nodes, roTask r14.1.tasks] [1512, 1513] (.tup [.agg [ow 0 r14.1.tree.nodes.length, pI r14.1.tree.next, ow 1 r14.1.tasks.length, pI r14.1.next], pI r14.2]))
     ·intro h13 hm
      refine Sk ?_
      obtain ⟨r15, hr15, hm⟩ := bo hm
      refine Sq (RD hnt (.no :: o62 [] true r15 :: nn 2 []) [3, 12, 62] [(13, rr 1104)] [1024] [(1104, bx [ow 1544 r15.tree.nodes.length, pI r15.tree.next, ow 1545 r15.tasks.length, pI r15.next]), (1544, ob0 (roNode r15.tree.nodes)), (1545, ob0 (roTask r15.tasks))] (an (Copy_crewSpec p0 r15 hr15) tv) ?_)
      refine Sq (Sq (RD hnt (nn 4 []) [] [(70, ow 1545 r15.tasks.length), (c123e4 r15), (72, pI 0)] [] [] tv ?_))
      refine Bk ?_
      obtain ⟨hc1, hm⟩ := go1 hm
      refine DW.forO (fun (k1 : Int) (s1 : List Task) => mkSt [(1, pI p1), (2, pI p2), (6, rr 1048), (13, rr 1104), (70, ow 1545 s1.length), (c123e4 r15), (72, pI k1)] [(c123e2), (1104, bx [ow 1544 r15.tree.nodes.length, pI r15.tree.next, ow 1545 s1.length, pI r15.next]), (1544, ob0 (roNode r15.tree.nodes)), (1545, ob0 (roTask s1))]) (lo := 0) (hi := ((r15.tasks.length : Nat) : Int)) hm Conv.eqK ?_
      intro k1 s1 n1 hk1 hs1 he1
      refine Sq (RD hnt (.no :: []) [] [(73, pB (decide (k1 < ((r15.tasks.length : Nat) : Int))))] [] [] tv ?_)
      refine Sq (condK (decide (k1 < ((r15.tasks.length : Nat) : Int))) ?_ ?_)
      ·intro h28
       have hlt1 : k1 < ((r15.tasks.length : Nat) : Int) := by have := of_decide_eq_true h28; omega
       have hm := hs1 hlt1
       unfold Attach_threadedL1 at hm
       refine Sk ?_
       refine Sq ?_
       refine Jn (ι := List Task) (fun (y3 : List Task) => mkSt [(1, pI p1), (2, pI p2), (6, rr 1048), (13, rr 1104), (70, ow 1545 y3.length), (c123e4 r15), (72, pI k1)] [(c123e2), (1104, bx [ow 1544 r15.tree.nodes.length, pI r15.tree.next, ow 1545 y3.length, pI r15.next]), (1544, ob0 (roNode r15.tree.nodes)), (1545, ob0 (roTask y3))]) (fun y3 => (Attach_threadedJ3 n1) y3 = some RES) ?_ ?_
       ·intro y3 hm
        unfold Attach_threadedJ3 at hm
        refine RD hnt (nn 2 []) [] [(72, pI (w64 (k1 + 1)))] [] [] tv ?_
        exact jD y3 ⟨hlt1, hm⟩ (Conv.tp [(72, pI (w64 (k1 + 1)))] [] (by kernel_rfl) (.cons rfl (.of_eq (congrArg pI (w64_for (lo := 0) (hi := ((r15.tasks.length : Nat) : Int)) (by omega) hk1 hlt1 (by omega)))) .nil) .nil)
       ·refine Bk ?_
        obtain ⟨g29, g30, hm⟩ := go2 hm
        refine Sq (RD hnt (nn 6 []) [73] [(14, pI k1), (15, rr 1120)] [] [(1120, bx (pm (encTask (s1.getD (Int.toNat k1) dTask))))] (an g29.1 (an g29.2 (an g30 tv))) ?_)
        refine Sq (RD hnt (nn 4 []) [15] [(80, pB ((s1.getD (Int.toNat k1) dTask).process == p1))] [1120] [] tv ?_)
        refine condM hm ?_ ?_
        ·intro h31 hm
         obtain ⟨g32, g33, hm⟩ := go2 hm
         refine RN hnt (nn 7 []) [(1, pI p1), (2, pI p2), (6, rr 1048), (13, rr 1104), (70, ow 1545 (s1.set (Int.toNat k1) (c123e1 s1 k1 p2)).length), (c123e4 r15), (72, pI k1)] [(c123e2), (1104, bx [ow 1544 r15.tree.nodes.length, pI r15.tree.next, ow 1545 (s1.set (Int.toNat k1) (c123e1 s1 k1 p2)).length, pI r15.next]), (1544, ob0 (roNode r15.tree.nodes)), (1545, ob0 (roTask (s1.set (Int.toNat k1) (c123e1 s1 k1 p2))))] [(70, ow 1545 s1.length)] [(1104, .box [ow 1544 r15.tree.nodes.length, pI r15.tree.next, ow 1545 s1.length, pI r15.next]), (1545, .row 4 s1.length (c123e3 s1 k1 p2))] (an g32.1 (an g32.2 (an g33 tv))) (by kernel_rfl) (.cons rfl (MLe.ownLen (enc := encTask) (d := dTask) (f := (c123e3 s1 k1 p2)) (RowIs.upd RowIs.elems (c123e1 s1 k1 p2) rfl)) .nil) (.cons rfl (.box (.cons .rfl (.cons .rfl (.cons (MLe.ownLen (enc := encTask) (d := dTask) (f := (c123e3 s1 k1 p2)) (RowIs.upd RowIs.elems (c123e1 s1 k1 p2) rfl)) (.cons .rfl .nil))))) (.cons rfl (BLe.typed (RowIs.upd RowIs.elems (c123e1 s1 k1 p2) rfl)) .nil)) ?_
         exact bD (s1.set (Int.toNat k1) (c123e1 s1 k1 p2)) hm .refl
        ·intro h31 hm
         refine Sk ?_
         exact bD s1 hm Conv.t0
      ·intro h28
       have hge1 : ¬ k1 < ((r15.tasks.length : Nat) : Int) := by have := of_decide_eq_false h28; omega
       have hm := he1 hge1
       unfold Attach_threadedD1 at hm
       refine DW.exit ?_
       refine joinQ_exit ?_
       refine KQ_exit ?_
       refine blockQ_exit ?_
       show DW _ _ _ _ _
       refine Sq (RD hnt (nn 3 []) [1, 2, 13, 70, 71, 72, 73] [(7, pI 0)] [1104] [(1048, bx [ow 1544 r15.tree.nodes.length, pI r15.tree.next, ow 1545 s1.length, pI r15.next])] tv ?_)
       obtain rfl := sj hm
       exact DW.ret (retK [roNode r15.tree.nodes, roTask s1] [1544, 1545] (.tup [.agg [ow 0 r15.tree.nodes.length, pI r15.tree.next, ow 1 s1.length, pI r15.next], pI 0]))
abbrev o123 (ks : List Nat) (b : Bool) (RES : Hierarchy × Int) : Orc := .call 40 ks b (.tup [.agg [ow 0 RES.1.tree.nodes.length, pI RES.1.tree.next, ow 1 RES.1.tasks.length, pI RES.1.next], pI RES.2]) [] [roNode RES.1.tree.nodes, roTask RES.1.tasks]

abbrev c126e1 (p0 : Hierarchy) (k1 : Nat) := (p0.tasks.getD k1 (default : Task))
theorem Threads_ref6Spec (p0 : Hierarchy) (p1 : Int) (RES : List Int) (hm : Threads_ref6 p0 p1 = some RES) : Spec Tryz.prog 28 [.p (.agg (encHierarchy p0)), pI p1] [] (ow 0 RES.length) [] [roI RES] := by
 unfold Threads_ref6 at hm
 refine SO Tryz.func28 rfl rfl [(0, .p (.agg (encHierarchy p0))), (1, pI p1)] [] ?_
 intro cx hnt
 refine Sq (RK hnt (nn 2 []) [(1, pI p1), (2, rr 1016)] [(1016, bx (pm (encHierarchy p0)))] tv ?_)
 obtain ⟨r1, hr1, hm⟩ := bo hm
 refine Sq (Sq (RD hnt (.no :: o92 [] true r1 :: .no :: []) [] [(9, pB (!r1))] [] [] (an (Check_ref6Spec p0 r1 hr1) tv) ?_))
 refine condM hm ?_ ?_
 ·intro h2 hm
  refine Sq (RK hnt (.no :: []) [(4, .p (.sl .nil 0 0 (fun _ => [])))] [] tv ?_)
  refine DW.cv [] [(4, ow 100000 0)] [] [(100000, ob0 (roI []))] (Conv.ads [(.s 4, 100000, 1, elems encI 0 [])]) ?_
  obtain rfl := sj hm
  exact DW.ret (retK [roI []] [100000] (ow 0 0))
 ·intro h2 hm
  refine Sk ?_
  refine Sq (RD hnt (.no :: []) [9] [(5, .p (.sl .nil 0 0 (fun _ => [])))] [] [] tv ?_)
  refine Sq (Sq (RD hnt (.no :: []) [] [(6, pI 0)] [] [] tv ?_))
  refine Bk ?_
  obtain ⟨hc1, hm⟩ := go1 hm
  refine DW.rangeO (fun (k1 : Nat) (s1 : List Int) => mkSt [(1, pI p1), (2, rr 1016), (5, ow 1264 s1.length), (6, pI ((k1 : Nat) : Int))] [(1016, bx (pm (encHierarchy p0))), (1264, ob0 (roI s1))]) dTask hm (Conv.ads [(.s 5, 1264, 1, elems encI 0 [])]) ?_
  intro k1 s1 n1 hk1 hs1 he1
  refine Sq (Sq (RD hnt (nn 5 []) [] [(14, pB (decide (((k1 : Nat) : Int) < ((p0.tasks.length : Nat) : Int))))] [] [] tv ?_))
  refine condK (decide (((k1 : Nat) : Int) < ((p0.tasks.length : Nat) : Int))) ?_ ?_
  ·intro h12
   have hlt1 : k1 < p0.tasks.length := by have := of_decide_eq_true h12; omega
   have hm := hs1 hlt1
   unfold Threads_ref6L1 at hm
   refine Sk ?_
   refine Sq ?_
   refine Jn (ι := List Int) (fun (y3 : List Int) => mkSt [(1, pI p1), (2, rr 1016), (5, ow 1264 y3.length), (6, pI ((k1 : Nat) : Int))] [(1016, bx (pm (encHierarchy p0))), (1264, ob0 (roI y3))]) (fun y3 => (Threads_ref6J3 n1) y3 = some RES) ?_ ?_
   ·intro y3 hm
    unfold Threads_ref6J3 at hm
    refine RD hnt (nn 3 []) [] [(6, pI (w64 (((k1 : Nat) : Int) + 1)))] [] [] tv ?_
    exact jD y3 ⟨hlt1, hm⟩ (Conv.tp [(6, pI (w64 (((k1 : Nat) : Int) + 1)))] [] (by kernel_rfl) (.cons rfl (.of_eq (congrArg pI (w64_succ hlt1 hc1))) .nil) .nil)
   ·refine Bk ?_
    refine Sq (RD hnt (nn 8 []) [14] [(24, pB ((c126e1 p0 k1).process == p1))] [] [] (an (nn0 k1) (an (ltc hlt1) tv)) ?_)
    refine condM hm ?_ ?_
    ·intro h13 hm
     obtain ⟨g14, hm⟩ := go1 hm
     refine RN hnt (nn 10 []) [(1, pI p1), (2, rr 1016), (5, ow 1264 (s1 ++ [(c126e1 p0 k1).id]).length), (6, pI ((k1 : Nat) : Int))] [(1016, bx (pm (encHierarchy p0))), (1264, ob0 (roI (s1 ++ [(c126e1 p0 k1).id])))] [(5, ow 1264 (s1.length + 1))] [(1264, .row 1 (s1.length + 1) (catF s1.length (elI s1) (cut 1 [vi (c126e1 p0 k1).id])))] (an (nn0 k1) (an (ltc hlt1) (an (by omega : (s1.length + 1) * 8 ≤ 140737488355328) tv))) (by kernel_rfl) (.cons rfl (MLe.ownLen (enc := encI) (d := 0) (f := (catF s1.length (elI s1) (cut 1 [vi (c126e1 p0 k1).id]))) (RowIs.cat RowIs.elems (RowIs.lit (enc := encI) (d := 0) (n := 1) (f := (cut 1 [vi (c126e1 p0 k1).id])) [(c126e1 p0 k1).id] rfl (fun | 0, _ => rfl | n + 1, h => absurd h (by omega))))) .nil) (.cons rfl (BLe.typed (RowIs.cat RowIs.elems (RowIs.lit (enc := encI) (d := 0) (n := 1) (f := (cut 1 [vi (c126e1 p0 k1).id])) [(c126e1 p0 k1).id] rfl (fun | 0, _ => rfl | n + 1, h => absurd h (by omega))))) .nil) ?_
     exact bD (s1 ++ [(c126e1 p0 k1).id]) hm .refl
    ·intro h13 hm
     refine Sk ?_
     exact bD s1 hm Conv.t0
  ·intro h12
   have hge1 : ¬ k1 < p0.tasks.length := by have := of_decide_eq_false h12; omega
   have hm := he1 hge1
   unfold Threads_ref6D1 at hm
   refine DW.exit ?_
   refine joinQ_exit ?_
   refine KQ_exit ?_
   refine blockQ_exit ?_
   show DW _ _ _ _ _
   refine Sq (RK hnt (nn 2 []) [(4, ow 1264 s1.length)] [(1264, ob0 (roI s1))] tv ?_)
   obtain rfl := sj hm
   exact DW.ret (retK [roI s1] [1264] (ow 0 s1.length))
abbrev o126 (ks : List Nat) (b : Bool) (RES : List Int) : Orc := .call 28 ks b (ow 0 RES.length) [] [roI RES]

abbrev c125e1 : Nat × Body := (1048, .box [.p (.sl .nil 0 0 (fun _ => [])), pI 0, .p (.sl .nil 0 0 (fun _ => [])), pI 0])
abbrev c125e2 : Nat × Obj := (1048, bx [.p (.sl .nil 0 0 (fun _ => [])), pI 0, .p (.sl .nil 0 0 (fun _ => [])), pI 0])
abbrev c125e3 : Nat × Obj := (1048, bx [.p (slNode []), pI 0, .p (slTask []), pI 0])
theorem Attach_ref8Spec (p0 : Hierarchy) (p1 : Int) (p2 : Int) (RES : Hierarchy × Int) (hm : Attach_ref8 p0 p1 p2 = some RES) : Spec Tryz.prog 50 [.p (.agg (encHierarchy p0)), pI p1, pI p2] [] (.p (.tup [.agg (encHierarchy RES.1), vi RES.2])) [] [] := by
 unfold Attach_ref8 at hm
 refine SO Tryz.func50 rfl rfl [(0, .p (.agg (encHierarchy p0))), (1, pI p1), (2, pI p2)] [] ?_
 intro cx hnt
 refine Sq (RD hnt (nn 3 []) [0] [(3, rr 1024), (6, rr 1048)] [] [(1024, bx (pm (encHierarchy p0))), (c125e2)] tv ?_)
 obtain ⟨r1, hr1, hm⟩ := bo hm
 refine Sq (Sq (RD hnt (.no :: o90 [] true r1 :: .no :: []) [] [(16, pB (!r1))] [] [] (an (Fits_ref8Spec p0 r1 hr1) tv) ?_))
 refine condM hm ?_ ?_
 ·intro h2 hm
  refine Sq (RD hnt (nn 3 []) [1, 2, 3, 16] [(7, pI 1)] [1024] [] tv ?_)
  refine DW.conv (τ := mkSt [(6, rr 1048), (7, pI 1)] [(c125e3)]) (Conv.tp [] [(c125e1)] (by kernel_rfl) .nil (.cons rfl (.box (.cons MLe.nilL (.cons .rfl (.cons MLe.nilL (.cons .rfl .nil))))) .nil)) ?_
  obtain rfl := sj hm
  exact DW.ret (retK [] [] (.p (.tup [.agg [slNode [], vi 0, slTask [], vi 0], vi 1])))
 ·intro h2 hm
  refine Sk ?_
  obtain ⟨r3, hr3, hm⟩ := bo hm
  refine Sq (Sq (RD hnt (nn 2 (o97 [] true r3 :: nn 6 [])) [16] [(8, rr 1064), (9, pB r3.2)] [] [(1064, bx (pm (encTask r3.1)))] (an (Find_ref6Spec p0 p1 r3 hr3) tv) ?_))
  refine Sq ?_
  refine Jn (ι := Bool) (fun (y1 : Bool) => mkSt [(1, pI p1), (2, pI p2), (3, rr 1024), (6, rr 1048), (38, pB y1)] [(1024, bx (pm (encHierarchy p0))), (c125e2)]) (fun y1 => (Attach_ref8J1 p0 p1 p2) y1 = some RES) ?_ ?_
  ·intro y1 hm
   unfold Attach_ref8J1 at hm
   refine condM hm ?_ ?_
   ·intro h7 hm
    refine Sq (RD hnt (nn 3 []) [1, 2, 3, 38] [(7, pI 4)] [1024] [] tv ?_)
    refine DW.conv (τ := mkSt [(6, rr 1048), (7, pI 4)] [(c125e3)]) (Conv.tp [] [(c125e1)] (by kernel_rfl) .nil (.cons rfl (.box (.cons MLe.nilL (.cons .rfl (.cons MLe.nilL (.cons .rfl .nil))))) .nil)) ?_
    obtain rfl := sj hm
    exact DW.ret (retK [] [] (.p (.tup [.agg [slNode [], vi 0, slTask [], vi 0], vi 4])))
   ·intro h7 hm
    refine Sk ?_
    obtain ⟨r8, hr8, hm⟩ := bo hm
    refine Sq (Sq (RD hnt (nn 3 (o99 [] true r8 :: .no :: [])) [38] [(44, pB (r8 == 2))] [] [] (an (Type_ref8Spec p0.tree p2 r8 hr8) tv) ?_))
    refine condM hm ?_ ?_
    ·intro h9 hm
     refine Sq (RD hnt (nn 3 []) [1, 2, 3, 44] [(7, pI 10)] [1024] [] tv ?_)
     refine DW.conv (τ := mkSt [(6, rr 1048), (7, pI 10)] [(c125e3)]) (Conv.tp [] [(c125e1)] (by kernel_rfl) .nil (.cons rfl (.box (.cons MLe.nilL (.cons .rfl (.cons MLe.nilL (.cons .rfl .nil))))) .nil)) ?_
     obtain rfl := sj hm
     exact DW.ret (retK [] [] (.p (.tup [.agg [slNode [], vi 0, slTask [], vi 0], vi 10])))
    ·intro h9 hm
     refine Sk ?_
     obtain ⟨r10, hr10, hm⟩ := bo hm
     refine Sq (Sq (RD hnt (nn 2 (o105 [] true r10 :: .no :: [])) [44] [(10, pI r10)] [] [] (an (Admits_ref8Spec p0 p2 r10 hr10) tv) ?_))
     refine Sq (RD hnt (nn 2 []) [] [(50, pB (r10 != 0))] [] [] tv ?_)
     refine condM hm ?_ ?_
     ·intro h11 hm
      refine Sq (RD hnt (nn 4 []) [1, 2, 3, 10, 50] [(7, pI r10)] [1024] [] tv ?_)
      refine DW.conv (τ := mkSt [(6, rr 1048), (7, pI r10)] [(c125e3)]) (Conv.tp [] [(c125e1)] (by kernel_rfl) .nil (.cons rfl (.box (.cons MLe.nilL (.cons .rfl (.cons MLe.nilL (.cons .rfl .nil))))) .nil)) ?_
      obtain rfl := sj hm
      exact DW.ret (retK [] [] (.p (.tup [.agg [slNode [], vi 0, slTask [], vi 0], vi r10])))
     ·intro h11 hm
      refine Sk ?_
      refine Sq (RD hnt (nn 3 []) [10, 50] [(11, rr 1088)] [] [(1088, bx (pm (encHierarchy p0)))] tv ?_)
      obtain ⟨r12, hr12, hm⟩ := bo hm
      refine Sq (RD hnt (nn 2 (o126 [] true r12 :: .no :: [])) [1, 3] [(12, ow 1448 r12.length)] [1024] [(1448, ob0 (roI r12))] (an (Threads_ref6Spec p0 p1 r12 hr12) tv) ?_)
      refine Sq (Sq (RD hnt (.no :: []) [] [(13, pI 0)] [] [] tv ?_))
      refine Bk ?_
      obtain ⟨hc1, hm⟩ := go1 hm
      refine DW.rangeO (fun (k1 : Nat) (s1 : Hierarchy) => mkSt [(2, pI p2), (6, rr 1048), (11, rr 1088), (12, ow 1448 r12.length), (13, pI ((k1 : Nat) : Int))] [(c125e2), (1088, bx (pm (encHierarchy s1))), (1448, ob0 (roI r12))]) 0 hm Conv.eqK ?_
      intro k1 s1 n1 hk1 hs1 he1
      refine Sq (Sq (RD hnt (nn 4 []) [] [(60, pB (decide (((k1 : Nat) : Int) < ((r12.length : Nat) : Int))))] [] [] tv ?_))
      refine condK (decide (((k1 : Nat) : Int) < ((r12.length : Nat) : Int))) ?_ ?_
      ·intro h21
       have hlt1 : k1 < r12.length := by have := of_decide_eq_true h21; omega
       have hm := hs1 hlt1
       unfold Attach_ref8L1 at hm
       refine Sk ?_
       refine Sq (Bk ?_)
       obtain ⟨r22, hr22, hm⟩ := bo hm
       refine RD hnt (nn 6 (o111 [] true r22 :: nn 4 [])) [60] [] [] [(1088, bx [ow 1560 r22.1.tree.nodes.length, pI r22.1.tree.next, ow 1561 r22.1.tasks.length, pI r22.1.next]), (1560, ob0 (roNode r22.1.tree.nodes)), (1561, ob0 (roTask r22.1.tasks))] (an (nn0 k1) (an (ltc hlt1) (an (by omega : k1 < r12.length) (an (Place_ref6Spec s1 (r12.getD k1 0) p2 r22 hr22) tv)))) ?_
       refine DW.done ?_
       show DW _ _ _ _ _
       refine RD hnt (nn 3 []) [] [(13, pI (w64 (((k1 : Nat) : Int) + 1)))] [] [] tv ?_
       exact jD r22.1 ⟨hlt1, hm⟩ (Conv.trans (τ := mkSt [(2, pI p2), (6, rr 1048), (11, rr 1088), (12, ow 1448 r12.length), (13, pI (w64 (((k1 : Nat) : Int) + 1)))] [(c125e2), (1088, bx (pm (encHierarchy r22.1))), (1448, ob0 (roI r12))]) (Conv.frz [1560, 1561]) (Conv.tp [(13, pI (w64 (((k1 : Nat) : Int) + 1)))] [] (by kernel_rfl) (.cons rfl (.of_eq (congrArg pI (w64_succ hlt1 hc1))) .nil) .nil))
      ·intro h21
       have hge1 : ¬ k1 < r12.length := by have := of_decide_eq_false h21; omega
       have hm := he1 hge1
       unfold Attach_ref8D1 at hm
       refine DW.exit ?_
       refine joinQ_exit ?_
       refine KQ_exit ?_
       refine blockQ_exit ?_
       show DW _ _ _ _ _
       refine Sq (RK hnt (nn 3 []) [(6, rr 1048), (7, pI 0)] [(1048, bx (pm (encHierarchy s1)))] tv ?_)
       obtain rfl := sj hm
       exact DW.ret (retK [] [] (.p (.tup [.agg (encHierarchy s1), vi 0])))
  ·rcases bt (!r3.2) with h4 | h4
   ·replace hm := if_t h4 hm
    refine RD hnt (nn 3 (sk 4 (pT :: .no :: sk 5 (pT :: [])))) [8, 9] [(38, pB true)] [1064] [] (an5 h4 (an6 tt tv)) ?_
    exact jD true hm Conv.eqK
   ·replace hm := if_f h4 hm
    rcases bt (r3.1.process != p1) with h5 | h5
    ·replace hm := if_t h5 hm
     refine RD hnt (nn 7 (pF :: .no :: sk 5 (pT :: []))) [8, 9] [(38, pB true)] [1064] [] (an5 h4 (an6 h5 tv)) ?_
     exact jD true hm Conv.eqK
    ·replace hm := if_f h5 hm
     obtain ⟨r6, hr6, hm⟩ := bo hm
     refine RD hnt (nn 7 (pF :: nn 4 (o78 [] true r6 :: .no :: pF :: []))) [8, 9] [(38, pB (!r6))] [1064] [] (an5 h4 (an4 h5 (an (Has_ref5Spec p0.tree p2 r6 hr6) (an2 h5 tv)))) ?_
     exact jD (!r6) hm Conv.eqK
abbrev o125 (ks : List Nat) (b : Bool) (RES : Hierarchy × Int) : Orc := .call 50 ks b (.p (.tup [.agg (encHierarchy RES.1), vi RES.2])) [] []

abbrev c127e1 (r17 : Hierarchy) (r4 : Int) (p2 : Int) := ({ id := (r17.tasks.getD (Int.toNat r4) dTask).id, process := (r17.tasks.getD (Int.toNat r4) dTask).process, group := p2, user := (r17.tasks.getD (Int.toNat r4) dTask).user } : Task)
abbrev c127e2 : Nat × Obj := (1048, bx [.p (.sl .nil 0 0 (fun _ => [])), pI 0, .p (.sl .nil 0 0 (fun _ => [])), pI 0])
abbrev c127e3 (r17 : Hierarchy) (r4 : Int) (p2 : Int) := (updF (elTask r17.tasks) (Int.toNat r4) [vi (r17.tasks.getD (Int.toNat r4) dTask).id, vi (r17.tasks.getD (Int.toNat r4) dTask).process, vi p2, vi (r17.tasks.getD (Int.toNat r4) dTask).user])
abbrev c127e4 (r17 : Hierarchy) (r4 : Int) (p2 : Int) := (r17.tasks.set (Int.toNat r4) (c127e1 r17 r4 p2))
theorem AttachThread_threadedSpec (p0 : Hierarchy) (p1 : Int) (p2 : Int) (RES : Hierarchy × Int) (hm : AttachThread_threaded p0 p1 p2 = some RES) : Spec Tryz.prog 41 [.p (.agg (encHierarchy p0)), pI p1, pI p2] [] (.tup [.agg [ow 0 RES.1.tree.nodes.length, pI RES.1.tree.next, ow 1 RES.1.tasks.length, pI RES.1.next], pI RES.2]) [] [roNode RES.1.tree.nodes, roTask RES.1.tasks] := by
 unfold AttachThread_threaded at hm
 refine SO Tryz.func41 rfl rfl [(0, .p (.agg (encHierarchy p0))), (1, pI p1), (2, pI p2)] [] ?_
 intro cx hnt
 refine Sq (RD hnt (nn 3 []) [0] [(3, rr 1024), (6, rr 1048)] [] [(1024, bx (pm (encHierarchy p0))), (c127e2)] tv ?_)
 obtain ⟨r1, hr1, hm⟩ := bo hm
 refine Sq (Sq (RD hnt (.no :: o7 [] true r1 :: .no :: []) [] [(13, pB (!r1))] [] [] (an (Fits_threadedSpec p0 r1 hr1) tv) ?_))
 refine condM hm ?_ ?_
 ·intro h2 hm
  obtain ⟨r3, hr3, hm⟩ := bo hm
  refine Sq (RK hnt (o65 [] true r3 :: nn 4 []) [(6, rr 1048), (7, pI r3.2)] [(1048, bx [ow 1112 r3.1.tree.nodes.length, pI r3.1.tree.next, ow 1113 r3.1.tasks.length, pI r3.1.next]), (1112, ob0 (roNode r3.1.tree.nodes)), (1113, ob0 (roTask r3.1.tasks))] (an (refuse_threadedSpec 1 r3 hr3) tv) ?_)
  obtain rfl := sj hm
  exact DW.ret (retK [roNode r3.1.tree.nodes, roTask r3.1.tasks] [1112, 1113] (.tup [.agg [ow 0 r3.1.tree.nodes.length, pI r3.1.tree.next, ow 1 r3.1.tasks.length, pI r3.1.next], pI r3.2]))
 ·intro h2 hm
  refine Sk ?_
  obtain ⟨r4, hr4, hm⟩ := bo hm
  refine Sq (RD hnt (nn 2 (o17 [] true r4 :: .no :: [])) [1, 13] [(8, pI r4)] [] [] (an (At_crewSpec p0 p1 r4 hr4) tv) ?_)
  refine Sq (Sq ?_)
  refine Jn (ι := Bool) (fun (y1 : Bool) => mkSt [(2, pI p2), (3, rr 1024), (6, rr 1048), (8, pI r4), (28, pB y1)] [(1024, bx (pm (encHierarchy p0))), (c127e2)]) (fun y1 => (AttachThread_threadedJ1 p0 p2 r4) y1 = some RES) ?_ ?_
  ·intro y1 hm
   unfold AttachThread_threadedJ1 at hm
   refine condM hm ?_ ?_
   ·intro h7 hm
    obtain ⟨r8, hr8, hm⟩ := bo hm
    refine Sq (RK hnt (o65 [] true r8 :: nn 4 []) [(6, rr 1048), (7, pI r8.2)] [(1048, bx [ow 1232 r8.1.tree.nodes.length, pI r8.1.tree.next, ow 1233 r8.1.tasks.length, pI r8.1.next]), (1232, ob0 (roNode r8.1.tree.nodes)), (1233, ob0 (roTask r8.1.tasks))] (an (refuse_threadedSpec 4 r8 hr8) tv) ?_)
    obtain rfl := sj hm
    exact DW.ret (retK [roNode r8.1.tree.nodes, roTask r8.1.tasks] [1232, 1233] (.tup [.agg [ow 0 r8.1.tree.nodes.length, pI r8.1.tree.next, ow 1 r8.1.tasks.length, pI r8.1.next], pI r8.2]))
   ·intro h7 hm
    refine Sk ?_
    obtain ⟨r9, hr9, hm⟩ := bo hm
    refine Sq (Sq (RD hnt (nn 2 (o124 [] true r9 :: .no :: [])) [28] [(9, pI r9)] [] [] (an (admits_threadedSpec p0 p2 r9 hr9) tv) ?_))
    refine Sq (RD hnt (nn 2 []) [] [(36, pB (r9 != 0))] [] [] tv ?_)
    refine condM hm ?_ ?_
    ·intro h10 hm
     obtain ⟨r11, hr11, hm⟩ := bo hm
     refine Sq (RK hnt (.no :: o65 [] true r11 :: nn 4 []) [(6, rr 1048), (7, pI r11.2)] [(1048, bx [ow 1304 r11.1.tree.nodes.length, pI r11.1.tree.next, ow 1305 r11.1.tasks.length, pI r11.1.next]), (1304, ob0 (roNode r11.1.tree.nodes)), (1305, ob0 (roTask r11.1.tasks))] (an (refuse_threadedSpec r9 r11 hr11) tv) ?_)
     obtain rfl := sj hm
     exact DW.ret (retK [roNode r11.1.tree.nodes, roTask r11.1.tasks] [1304, 1305] (.tup [.agg [ow 0 r11.1.tree.nodes.length, pI r11.1.tree.next, ow 1 r11.1.tasks.length, pI r11.1.next], pI r11.2]))
    ·intro h10 hm
     refine Sk ?_
     obtain ⟨g12, hm⟩ := go1 hm
     obtain ⟨r13, hr13, hm⟩ := bo hm
     obtain ⟨r14, hr14, hm⟩ := bo hm
     refine Sq (Sq (RD hnt (nn 8 (o50 [] true r13 :: nn 3 (o50 [] true r14 :: .no :: []))) [9, 36] [(54, pB (r13 != r14))] [] [] (an g12.1 (an g12.2 (an (domain_threadedSpec p0.tree (p0.tasks.getD (Int.toNat r4) dTask).group r13 hr13) (an (domain_threadedSpec p0.tree p2 r14 hr14) tv)))) ?_))
     refine condM hm ?_ ?_
     ·intro h15 hm
      obtain ⟨r16, hr16, hm⟩ := bo hm
      refine Sq (RK hnt (o65 [] true r16 :: nn 4 []) [(6, rr 1048), (7, pI r16.2)] [(1048, bx [ow 1440 r16.1.tree.nodes.length, pI r16.1.tree.next, ow 1441 r16.1.tasks.length, pI r16.1.next]), (1440, ob0 (roNode r16.1.tree.nodes)), (1441, ob0 (roTask r16.1.tasks))] (an (refuse_threadedSpec 9 r16 hr16) tv) ?_)
      obtain rfl := sj hm
      exact DW.ret (retK [roNode r16.1.tree.nodes, roTask r16.1.tasks] [1440, 1441] (.tup [.agg [ow 0 r16.1.tree.nodes.length, pI r16.1.tree.next, ow 1 r16.1.tasks.length, pI r16.1.next], pI r16.2]))
     ·intro h15 hm
      refine Sk ?_
      obtain ⟨r17, hr17, hm⟩ := bo hm
      refine Sq (RD hnt (.no :: o62 [] true r17 :: nn 2 []) [3, 54] [(10, rr 1080)] [1024] [(1080, bx [ow 1472 r17.tree.nodes.length, pI r17.tree.next, ow 1473 r17.tasks.length, pI r17.next]), (1472, ob0 (roNode r17.tree.nodes)), (1473, ob0 (roTask r17.tasks))] (an (Copy_crewSpec p0 r17 hr17) tv) ?_)
      obtain ⟨g18, g19, hm⟩ := go2 hm
      refine Sq (RN hnt (nn 7 []) [(6, rr 1048), (10, rr 1080)] [(c127e2), (1080, bx [ow 1472 r17.tree.nodes.length, pI r17.tree.next, ow 1473 (c127e4 r17 r4 p2).length, pI r17.next]), (1472, ob0 (roNode r17.tree.nodes)), (1473, ob0 (roTask (c127e4 r17 r4 p2)))] [] [(1080, .box [ow 1472 r17.tree.nodes.length, pI r17.tree.next, ow 1473 r17.tasks.length, pI r17.next]), (1473, .row 4 r17.tasks.length (c127e3 r17 r4 p2))] (an g18.1 (an g18.2 (an g19 tv))) (by kernel_rfl) .nil (.cons rfl (.box (.cons .rfl (.cons .rfl (.cons (MLe.ownLen (enc := encTask) (d := dTask) (f := (c127e3 r17 r4 p2)) (RowIs.upd RowIs.elems (c127e1 r17 r4 p2) rfl)) (.cons .rfl .nil))))) (.cons rfl (BLe.typed (RowIs.upd RowIs.elems (c127e1 r17 r4 p2) rfl)) .nil)) ?_)
      refine Sq (RD hnt (nn 3 []) [10] [(7, pI 0)] [1080] [(1048, bx [ow 1472 r17.tree.nodes.length, pI r17.tree.next, ow 1473 (c127e4 r17 r4 p2).length, pI r17.next])] tv ?_)
      obtain rfl := sj hm
      exact DW.ret (retK [roNode r17.tree.nodes, roTask (c127e4 r17 r4 p2)] [1472, 1473] (.tup [.agg [ow 0 r17.tree.nodes.length, pI r17.tree.next, ow 1 (c127e4 r17 r4 p2).length, pI r17.next], pI 0]))
  ·rcases bt (decide (r4 < 0)) with h5 | h5
   ·replace hm := if_t h5 hm
    refine RD hnt (nn 3 (sk 5 (pT :: []))) [] [(28, pB true)] [] [] (an6 h5 tv) ?_
    exact jD true hm Conv.eqK
   ·replace hm := if_f h5 hm
    obtain ⟨r6, hr6, hm⟩ := bo hm
    refine RD hnt (nn 6 (o20 [] true r6 :: .no :: pF :: [])) [] [(28, pB (decide (r6 < 0)))] [] [] (an4 h5 (an (At_forestSpec p0.tree p2 r6 hr6) (an2 h5 tv))) ?_
    exact jD (decide (r6 < 0)) hm Conv.eqK
abbrev o127 (ks : List Nat) (b : Bool) (RES : Hierarchy × Int) : Orc := .call 41 ks b (.tup [.agg [ow 0 RES.1.tree.nodes.length, pI RES.1.tree.next, ow 1 RES.1.tasks.length, pI RES.1.next], pI RES.2]) [] [roNode RES.1.tree.nodes, roTask RES.1.tasks]
end Go.Dm


/- Go functions compute their models, printed by a program. -/
namespace Go.Dm
open Go.Proofs
set_option linter.unusedVariables false
abbrev c1e1 (r5 : Hierarchy × Dice) (r7 : Hierarchy × Dice) (k1 : Nat) : Nat × Obj := (1064, bx (pm (encHierarchy ([r5.1, r7.1].getD k1 (default : Hierarchy)))))
abbrev c1e2 (r5 : Hierarchy × Dice) (r7 : Hierarchy × Dice) : Nat × Obj := (1264, ob0 (roHierarchy [r5.1, r7.1]))
abbrev c1e3 (r5 : Hierarchy × Dice) (r7 : Hierarchy × Dice) : Nat × MV := (33, ow 1264 [r5.1, r7.1].length)
abbrev c1e4 (k1 : Nat) : Nat × MV := (35, pI ((k1 : Nat) : Int))
abbrev c1e5 (k4 : Nat) : Nat × MV := (9, pI ((k4 : Nat) : Int))
abbrev c1e6 (y49 : Dice × Int × Int) : Nat × Obj := (1208, bx (pm (encDice y49.1)))
abbrev c1e7 (r296 : Hierarchy × Int) : Nat × Obj := (1120, bx [ow 1488 r296.1.tree.nodes.length, pI r296.1.tree.next, ow 1489 r296.1.tasks.length, pI r296.1.next])
abbrev c1e8 (r297 : Hierarchy × Int) : Nat × Obj := (1136, bx [ow 1536 r297.1.tree.nodes.length, pI r297.1.tree.next, ow 1537 r297.1.tasks.length, pI r297.1.next])
abbrev c1e9 (r307 : Hierarchy × Int) : Nat × Obj := (1120, bx [ow 1912 r307.1.tree.nodes.length, pI r307.1.tree.next, ow 1913 r307.1.tasks.length, pI r307.1.next])
abbrev c1e10 (r308 : Hierarchy × Int) : Nat × Obj := (1136, bx [ow 1976 r308.1.tree.nodes.length, pI r308.1.tree.next, ow 1977 r308.1.tasks.length, pI r308.1.next])
abbrev c1e11 (r312 : Hierarchy × Int) : Nat × Obj := (1120, bx [ow 2104 r312.1.tree.nodes.length, pI r312.1.tree.next, ow 2105 r312.1.tasks.length, pI r312.1.next])
abbrev c1e12 (r301 : Hierarchy × Int × Int) : Nat × Obj := (1120, bx [ow 1664 r301.1.tree.nodes.length, pI r301.1.tree.next, ow 1665 r301.1.tasks.length, pI r301.1.next])
abbrev c1e13 (r302 : Hierarchy × Int × Int) : Nat × Obj := (1136, bx [ow 1728 r302.1.tree.nodes.length, pI r302.1.tree.next, ow 1729 r302.1.tasks.length, pI r302.1.next])
theorem ThreadedChanges_law8Spec (p0 : List Int) (p1 : Int) (RES : Bool) (hm : ThreadedChanges_law8 p0 p1 = some RES) : Spec Tryz.prog 8 [.p (slI p0), pI p1] [] (pB RES) [] [] := by
 unfold ThreadedChanges_law8 at hm
 refine SO Tryz.func8 rfl rfl [(0, .p (slI p0)), (1, pI p1)] [] ?_
 intro cx hnt
 refine Sq (RK hnt (.no :: []) [(0, .p (slI p0))] [] tv ?_)
 obtain ⟨r1, hr1, hm⟩ := bo hm
 refine Sq (Sq (RD hnt (.no :: o2 [] true r1 :: .no :: []) [] [(23, pB (!r1))] [] [] (an (Light_madeSpec p0 r1 hr1) tv) ?_))
 refine condM hm ?_ ?_
 ·intro h2 hm
  obtain ⟨r3, hr3, hm⟩ := bo hm
  refine Sq (RK hnt (o3 [] true r3 :: .no :: []) [(4, pB r3)] [] (an (sane_law8Spec r3 hr3) tv) ?_)
  obtain rfl := sj hm
  exact DW.ret (retK [] [] (pB r3))
 ·intro h2 hm
  refine Sk ?_
  obtain ⟨r4, hr4, hm⟩ := bo hm
  refine Sq (RK hnt (.no :: o68 [] true r4 :: .no :: []) [(5, rr 1208)] [(1208, bx (pm (encDice r4)))] (an (Roll_madeSpec p0 r4 hr4) tv) ?_)
  obtain ⟨r5, hr5, hm⟩ := bo hm
  refine Sq (RK hnt (.no :: o69 [1208] true r5 :: nn 2 []) [(5, rr 1208), (6, rr 1048)] [(1048, bx (pm (encHierarchy r5.1))), (1208, bx (pm (encDice r5.2)))] (an (Hierarchy_Dice_madeSpec r4 7 7 r5 hr5) (an tv tv)) ?_)
  obtain ⟨r7, hr7, hm⟩ := bo hm
  refine Sq (Sq (RN hnt (nn 3 (o116 [1208] true r7 :: nn 3 [])) [(5, rr 1208), (c1e3 r5 r7), (34, pI 2), (35, pI 0)] [(1208, bx (pm (encDice r7.2))), (c1e2 r5 r7)] [(33, ow 1264 2)] [(1264, .row 4 2 (cut 4 [slNode r5.1.tree.nodes, vi r5.1.tree.next, slTask r5.1.tasks, vi r5.1.next, slNode r7.1.tree.nodes, vi r7.1.tree.next, slTask r7.1.tasks, vi r7.1.next]))] (an (OddHierarchy_Dice_madeZSpec r5.2 r5.1 r7 hr7) (an tv tv)) (by kernel_rfl) (.cons rfl (MLe.ownLen (enc := encHierarchy) (d := dHierarchy) (f := (cut 4 [slNode r5.1.tree.nodes, vi r5.1.tree.next, slTask r5.1.tasks, vi r5.1.next, slNode r7.1.tree.nodes, vi r7.1.tree.next, slTask r7.1.tasks, vi r7.1.next])) (RowIs.lit (enc := encHierarchy) (d := dHierarchy) (n := 2) (f := (cut 4 [slNode r5.1.tree.nodes, vi r5.1.tree.next, slTask r5.1.tasks, vi r5.1.next, slNode r7.1.tree.nodes, vi r7.1.tree.next, slTask r7.1.tasks, vi r7.1.next])) [r5.1, r7.1] rfl (fun | 0, _ => rfl | 1, _ => rfl | n + 2, h => absurd h (by omega)))) .nil) (.cons rfl (BLe.typed (RowIs.lit (enc := encHierarchy) (d := dHierarchy) (n := 2) (f := (cut 4 [slNode r5.1.tree.nodes, vi r5.1.tree.next, slTask r5.1.tasks, vi r5.1.next, slNode r7.1.tree.nodes, vi r7.1.tree.next, slTask r7.1.tasks, vi r7.1.next])) [r5.1, r7.1] rfl (fun | 0, _ => rfl | 1, _ => rfl | n + 2, h => absurd h (by omega)))) .nil) ?_))
  refine Bk ?_
  obtain ⟨hc1, hm⟩ := go1 hm
  refine DW.rangeO (fun (k1 : Nat) (s1 : Dice) => mkSt [(5, rr 1208), (c1e3 r5 r7), (34, pI 2), (c1e4 k1)] [(1208, bx (pm (encDice s1))), (c1e2 r5 r7)]) dHierarchy hm .refl ?_
  intro k1 s1 n1 hk1 hs1 he1
  refine Sq (RD hnt (.no :: []) [] [(36, pB (decide (((k1 : Nat) : Int) < 2)))] [] [] tv ?_)
  refine Sq (condK (decide (((k1 : Nat) : Int) < 2)) ?_ ?_)
  ·intro h219
   have hlt1 : k1 < [r5.1, r7.1].length := by have := of_decide_eq_true h219; have hL : [r5.1, r7.1].length = 2 := rfl; omega
   have hm := hs1 hlt1
   unfold ThreadedChanges_law8L1 at hm
   refine Sk ?_
   refine Sq (Bk ?_)
   refine Sq (RD hnt (nn 4 []) [36] [(8, rr 1064)] [] [(c1e1 r5 r7 k1)] (an (nn0 k1) (an (ltc hlt1) (an (by omega : k1 < [r5.1, r7.1].length) tv))) ?_)
   refine Sq (RD hnt (.no :: []) [] [(9, pI 0)] [] [] tv ?_)
   refine Bk ?_
   obtain ⟨hc4, hm⟩ := go1 hm
   refine DW.rangeO (fun (k4 : Nat) (s4 : Dice) => mkSt [(5, rr 1208), (8, rr 1064), (c1e5 k4), (c1e3 r5 r7), (34, pI 2), (c1e4 k1)] [(c1e1 r5 r7 k1), (1208, bx (pm (encDice s4))), (c1e2 r5 r7)]) dHierarchy hm Conv.eqK ?_
   intro k4 s4 n4 hk4 hs4 he4
   refine Sq (Sq (RD hnt (nn 2 []) [] [(40, pB (decide (((k4 : Nat) : Int) < 2)))] [] [] tv ?_))
   refine condK (decide (((k4 : Nat) : Int) < 2)) ?_ ?_
   ·intro h288
    have hlt4 : k4 < [r5.1, r7.1].length := by have := of_decide_eq_true h288; have hL : [r5.1, r7.1].length = 2 := rfl; omega
    have hm := hs4 hlt4
    unfold ThreadedChanges_law8L4 at hm
    refine Sk ?_
    refine Sq (Bk ?_)
    obtain ⟨r289, hr289, hm⟩ := bo hm
    obtain ⟨r290, hr290, hm⟩ := bo hm
    obtain ⟨r291, hr291, hm⟩ := bo hm
    refine Sq (RD hnt (nn 3 (o87 [1208] true r289 :: nn 2 (o108 [1208] true r290 :: .no :: o114 [1208] true r291 :: nn 3 []))) [40] [(10, pI r289.1), (11, pI r290.1), (12, pS r291.1)] [] [(1208, bx (pm (encDice r291.2)))] (an (Group_Dice_madeSpec s4 ([r5.1, r7.1].getD k1 (default : Hierarchy)).tree r289 hr289) (an tv (an (Task_Dice_madeSpec r289.2 ([r5.1, r7.1].getD k1 (default : Hierarchy)) r290 hr290) (an tv (an (Word_Dice_madeSpec r290.2 r291 hr291) (an tv tv)))))) ?_)
    obtain ⟨r292, hr292, hm⟩ := bo hm
    refine Sq (RD hnt (.no :: o88 [1208] true r292 :: nn 2 []) [] [(13, pI r292.1), (14, pI 0)] [] [(1208, bx (pm (encDice r292.2)))] (an (Controllers_Dice_madeSpec r291.2 r292 hr292) (an tv tv)) ?_)
    obtain ⟨r293, hr293, hm⟩ := bo hm
    refine Sq (Sq (RD hnt (.no :: o83 [1208] true r293 :: []) [] [(55, pB r293.1)] [] [(1208, bx (pm (encDice r293.2)))] (an (Bool_Dice_madeSpec r292.2 3 r293 hr293) (an tv tv)) ?_))
    refine Jn (ι := Dice × Int × Int) (fun (y49 : Dice × Int × Int) => mkSt [(5, rr 1208), (8, rr 1064), (c1e5 k4), (10, pI r289.1), (11, pI r290.1), (12, pS r291.1), (13, pI y49.2.1), (14, pI y49.2.2), (c1e3 r5 r7), (34, pI 2), (c1e4 k1)] [(c1e1 r5 r7 k1), (c1e6 y49), (c1e2 r5 r7)]) (fun y49 => (ThreadedChanges_law8J49 ([r5.1, r7.1].getD k1 (default : Hierarchy)) n4 r289 r290 r291) y49 = some RES) ?_ ?_
    ·intro y49 hm
     unfold ThreadedChanges_law8J49 at hm
     obtain ⟨r296, hr296, hm⟩ := bo hm
     refine Sq (RD hnt (nn 2 (o64 [] true r296 :: nn 6 [])) [] [(15, rr 1120), (16, pI r296.2)] [] [(c1e7 r296), (1488, ob0 (roNode r296.1.tree.nodes)), (1489, ob0 (roTask r296.1.tasks))] (an (Convert_threadedSpec ([r5.1, r7.1].getD k1 (default : Hierarchy)) r289.1 r296 hr296) tv) ?_)
     obtain ⟨r297, hr297, hm⟩ := bo hm
     refine Sq (RD hnt (nn 2 (o104 [] true r297 :: nn 6 [])) [] [(17, rr 1136), (18, pI r297.2)] [] [(c1e8 r297), (1536, ob0 (roNode r297.1.tree.nodes)), (1537, ob0 (roTask r297.1.tasks))] (an (Convert_ref8Spec ([r5.1, r7.1].getD k1 (default : Hierarchy)) r289.1 r297 hr297) tv) ?_)
     refine Sq (Sq ?_)
     refine Jn (ι := Bool) (fun (y50 : Bool) => mkSt [(5, rr 1208), (8, rr 1064), (c1e5 k4), (10, pI r289.1), (11, pI r290.1), (12, pS r291.1), (13, pI y49.2.1), (14, pI y49.2.2), (15, rr 1120), (17, rr 1136), (c1e3 r5 r7), (34, pI 2), (c1e4 k1), (78, pB y50)] [(c1e1 r5 r7 k1), (c1e7 r296), (c1e8 r297), (c1e6 y49), (c1e2 r5 r7), (1488, ob0 (roNode r296.1.tree.nodes)), (1489, ob0 (roTask r296.1.tasks)), (1536, ob0 (roNode r297.1.tree.nodes)), (1537, ob0 (roTask r297.1.tasks))]) (fun y50 => (ThreadedChanges_law8J50 ([r5.1, r7.1].getD k1 (default : Hierarchy)) n4 r289 r290 r291 y49) y50 = some RES) ?_ ?_
     ·intro y50 hm
      unfold ThreadedChanges_law8J50 at hm
      refine condM hm ?_ ?_
      ·intro h300 hm
       refine Sq (RK hnt (.no :: []) [(4, pB false)] [] tv ?_)
       obtain rfl := sj hm
       exact DW.ret (retK [] [] (pB false))
      ·intro h300 hm
       refine Sk ?_
       obtain ⟨r301, hr301, hm⟩ := bo hm
       refine Sq (RD hnt (nn 3 (o6 [] true r301 :: nn 7 [])) [78] [(16, pI r301.2.2), (19, pI r301.2.1)] [1488, 1489] [(c1e12 r301), (1664, ob0 (roNode r301.1.tree.nodes)), (1665, ob0 (roTask r301.1.tasks))] (an (Create_threadedSpec ([r5.1, r7.1].getD k1 (default : Hierarchy)) r289.1 r291.1 r301 hr301) tv) ?_)
       obtain ⟨r302, hr302, hm⟩ := bo hm
       refine Sq (RD hnt (nn 3 (o119 [] true r302 :: nn 7 [])) [12] [(18, pI r302.2.2), (20, pI r302.2.1)] [1536, 1537] [(c1e13 r302), (1728, ob0 (roNode r302.1.tree.nodes)), (1729, ob0 (roTask r302.1.tasks))] (an (Create_ref8Spec ([r5.1, r7.1].getD k1 (default : Hierarchy)) r289.1 r291.1 r302 hr302) tv) ?_)
       refine Sq (Sq ?_)
       refine Jn (ι := Bool) (fun (y51 : Bool) => mkSt [(5, rr 1208), (8, rr 1064), (c1e5 k4), (10, pI r289.1), (11, pI r290.1), (13, pI y49.2.1), (14, pI y49.2.2), (15, rr 1120), (17, rr 1136), (c1e3 r5 r7), (34, pI 2), (c1e4 k1), (108, pB y51)] [(c1e1 r5 r7 k1), (c1e12 r301), (c1e13 r302), (c1e6 y49), (c1e2 r5 r7), (1664, ob0 (roNode r301.1.tree.nodes)), (1665, ob0 (roTask r301.1.tasks)), (1728, ob0 (roNode r302.1.tree.nodes)), (1729, ob0 (roTask r302.1.tasks))]) (fun y51 => (ThreadedChanges_law8J51 ([r5.1, r7.1].getD k1 (default : Hierarchy)) n4 r289 r290 y49) y51 = some RES) ?_ ?_
       ·intro y51 hm
        unfold ThreadedChanges_law8J51 at hm
        refine condM hm ?_ ?_
        ·intro h306 hm
         refine Sq (RK hnt (.no :: []) [(4, pB false)] [] tv ?_)
         obtain rfl := sj hm
         exact DW.ret (retK [] [] (pB false))
        ·intro h306 hm
         refine Sk ?_
         obtain ⟨r307, hr307, hm⟩ := bo hm
         refine Sq (RD hnt (nn 4 (o120 [] true r307 :: nn 5 [])) [108] [(16, pI r307.2)] [1664, 1665] [(c1e9 r307), (1912, ob0 (roNode r307.1.tree.nodes)), (1913, ob0 (roTask r307.1.tasks))] (an (Enable_threadedSpec ([r5.1, r7.1].getD k1 (default : Hierarchy)) r289.1 y49.2.1 y49.2.2 r307 hr307) tv) ?_)
         obtain ⟨r308, hr308, hm⟩ := bo hm
         refine Sq (RD hnt (nn 4 (o89 [] true r308 :: nn 5 [])) [13, 14] [(18, pI r308.2)] [1728, 1729] [(c1e10 r308), (1976, ob0 (roNode r308.1.tree.nodes)), (1977, ob0 (roTask r308.1.tasks))] (an (Enable_ref8Spec ([r5.1, r7.1].getD k1 (default : Hierarchy)) r289.1 y49.2.1 y49.2.2 r308 hr308) tv) ?_)
         refine Sq (Sq ?_)
         refine Jn (ι := Bool) (fun (y52 : Bool) => mkSt [(5, rr 1208), (8, rr 1064), (c1e5 k4), (10, pI r289.1), (11, pI r290.1), (15, rr 1120), (17, rr 1136), (c1e3 r5 r7), (34, pI 2), (c1e4 k1), (133, pB y52)] [(c1e1 r5 r7 k1), (c1e9 r307), (c1e10 r308), (c1e6 y49), (c1e2 r5 r7), (1912, ob0 (roNode r307.1.tree.nodes)), (1913, ob0 (roTask r307.1.tasks)), (1976, ob0 (roNode r308.1.tree.nodes)), (1977, ob0 (roTask r308.1.tasks))]) (fun y52 => (ThreadedChanges_law8J52 ([r5.1, r7.1].getD k1 (default : Hierarchy)) n4 r289 r290 y49) y52 = some RES) ?_ ?_
         ·intro y52 hm
          unfold ThreadedChanges_law8J52 at hm
          refine condM hm ?_ ?_
          ·intro h311 hm
           refine Sq (RK hnt (.no :: []) [(4, pB false)] [] tv ?_)
           obtain rfl := sj hm
           exact DW.ret (retK [] [] (pB false))
          ·intro h311 hm
           refine Sk ?_
           obtain ⟨r312, hr312, hm⟩ := bo hm
           refine Sq (RD hnt (nn 3 (o123 [] true r312 :: nn 5 [])) [133] [(16, pI r312.2)] [1912, 1913] [(c1e11 r312), (2104, ob0 (roNode r312.1.tree.nodes)), (2105, ob0 (roTask r312.1.tasks))] (an (Attach_threadedSpec ([r5.1, r7.1].getD k1 (default : Hierarchy)) r290.1 r289.1 r312 hr312) tv) ?_)
           obtain ⟨r313, hr313, hm⟩ := bo hm
           refine Sq (RD hnt (nn 3 (o125 [] true r313 :: nn 5 [])) [] [(18, pI r313.2)] [1976, 1977] [(1136, bx (pm (encHierarchy r313.1)))] (an (Attach_ref8Spec ([r5.1, r7.1].getD k1 (default : Hierarchy)) r290.1 r289.1 r313 hr313) tv) ?_)
           refine Sq (Sq ?_)
           refine Jn (ι := Bool) (fun (y53 : Bool) => mkSt [(5, rr 1208), (8, rr 1064), (c1e5 k4), (10, pI r289.1), (11, pI r290.1), (15, rr 1120), (17, rr 1136), (c1e3 r5 r7), (34, pI 2), (c1e4 k1), (156, pB y53)] [(c1e1 r5 r7 k1), (c1e11 r312), (1136, bx (pm (encHierarchy r313.1))), (c1e6 y49), (c1e2 r5 r7), (2104, ob0 (roNode r312.1.tree.nodes)), (2105, ob0 (roTask r312.1.tasks))]) (fun y53 => (ThreadedChanges_law8J53 ([r5.1, r7.1].getD k1 (default : Hierarchy)) n4 r289 r290 y49) y53 = some RES) ?_ ?_
           ·intro y53 hm
            unfold ThreadedChanges_law8J53 at hm
            refine condM hm ?_ ?_
            ·intro h316 hm
             refine Sq (RK hnt (.no :: []) [(4, pB false)] [] tv ?_)
             obtain rfl := sj hm
             exact DW.ret (retK [] [] (pB false))
            ·intro h316 hm
             refine Sk ?_
             obtain ⟨r317, hr317, hm⟩ := bo hm
             refine Sq (RD hnt (nn 3 (o127 [] true r317 :: nn 5 [])) [156] [(16, pI r317.2)] [2104, 2105] [(1120, bx [ow 2288 r317.1.tree.nodes.length, pI r317.1.tree.next, ow 2289 r317.1.tasks.length, pI r317.1.next]), (2288, ob0 (roNode r317.1.tree.nodes)), (2289, ob0 (roTask r317.1.tasks))] (an (AttachThread_threadedSpec ([r5.1, r7.1].getD k1 (default : Hierarchy)) r290.1 r289.1 r317 hr317) tv) ?_)
             obtain ⟨r318, hr318, hm⟩ := bo hm
             refine Sq (RD hnt (nn 3 (o110 [] true r318 :: nn 5 [])) [10, 11] [(18, pI r318.2)] [] [(1136, bx [ow 2344 r318.1.tree.nodes.length, pI r318.1.tree.next, ow 2345 r318.1.tasks.length, pI r318.1.next]), (2344, ob0 (roNode r318.1.tree.nodes)), (2345, ob0 (roTask r318.1.tasks))] (an (AttachThread_ref8Spec ([r5.1, r7.1].getD k1 (default : Hierarchy)) r290.1 r289.1 r318 hr318) tv) ?_)
             refine Sq ?_
             refine Jn (ι := Bool) (fun (y54 : Bool) => mkSt [(5, rr 1208), (8, rr 1064), (c1e5 k4), (c1e3 r5 r7), (34, pI 2), (c1e4 k1), (179, pB y54)] [(c1e1 r5 r7 k1), (c1e6 y49), (c1e2 r5 r7)]) (fun y54 => (ThreadedChanges_law8J54 n4 y49) y54 = some RES) ?_ ?_
             ·intro y54 hm
              unfold ThreadedChanges_law8J54 at hm
              refine condM hm ?_ ?_
              ·intro h321 hm
               refine Sq (RK hnt (.no :: []) [(4, pB false)] [] tv ?_)
               obtain rfl := sj hm
               exact DW.ret (retK [] [] (pB false))
              ·intro h321 hm
               refine Sk ?_
               refine DW.done ?_
               show DW _ _ _ _ _
               refine RD hnt (nn 3 []) [179] [(9, pI (w64 (((k4 : Nat) : Int) + 1)))] [] [] tv ?_
               exact jD y49.1 ⟨hlt4, hm⟩ (Conv.tp [(9, pI (w64 (((k4 : Nat) : Int) + 1)))] [] (by kernel_rfl) (.cons rfl (.of_eq (congrArg pI (w64_succ hlt4 hc4))) .nil) .nil)
             ·rcases bt (r317.2 != r318.2) with h319 | h319
              ·replace hm := if_t h319 hm
               refine RD hnt (nn 4 (sk 4 (pT :: []))) [15, 16, 17, 18] [(179, pB true)] [1120, 1136, 2288, 2289, 2344, 2345] [] (an5 h319 tv) ?_
               exact jD true hm Conv.eqK
              ·replace hm := if_f h319 hm
               obtain ⟨r320, hr320, hm⟩ := bo hm
               refine RD hnt (nn 6 (o117 [] true r320 :: .no :: pF :: [])) [15, 16, 17, 18] [(179, pB (!r320))] [1120, 1136, 2288, 2289, 2344, 2345] [] (an3 h319 (an (Same_ref6Spec r317.1 r318.1 r320 hr320) (an2 h319 tv))) ?_
               exact jD (!r320) hm Conv.eqK
           ·rcases bt (r312.2 != r313.2) with h314 | h314
            ·replace hm := if_t h314 hm
             refine RD hnt (nn 4 (sk 4 (pT :: []))) [16, 18] [(156, pB true)] [] [] (an5 h314 tv) ?_
             exact jD true hm Conv.eqK
            ·replace hm := if_f h314 hm
             obtain ⟨r315, hr315, hm⟩ := bo hm
             refine RD hnt (nn 6 (o117 [] true r315 :: .no :: pF :: [])) [16, 18] [(156, pB (!r315))] [] [] (an3 h314 (an (Same_ref6Spec r312.1 r313.1 r315 hr315) (an2 h314 tv))) ?_
             exact jD (!r315) hm Conv.eqK
         ·rcases bt (r307.2 != r308.2) with h309 | h309
          ·replace hm := if_t h309 hm
           refine RD hnt (nn 4 (sk 4 (pT :: []))) [16, 18] [(133, pB true)] [] [] (an5 h309 tv) ?_
           exact jD true hm Conv.eqK
          ·replace hm := if_f h309 hm
           obtain ⟨r310, hr310, hm⟩ := bo hm
           refine RD hnt (nn 6 (o117 [] true r310 :: .no :: pF :: [])) [16, 18] [(133, pB (!r310))] [] [] (an3 h309 (an (Same_ref6Spec r307.1 r308.1 r310 hr310) (an2 h309 tv))) ?_
           exact jD (!r310) hm Conv.eqK
       ·rcases bt (r301.2.1 != r302.2.1) with h303 | h303
        ·replace hm := if_t h303 hm
         refine RD hnt (nn 4 (sk 3 (pT :: .no :: sk 4 (pT :: [])))) [16, 18, 19, 20] [(108, pB true)] [] [] (an4 h303 (an5 tt tv)) ?_
         exact jD true hm Conv.eqK
        ·replace hm := if_f h303 hm
         rcases bt (r301.2.2 != r302.2.2) with h304 | h304
         ·replace hm := if_t h304 hm
          refine RD hnt (nn 7 (pF :: .no :: sk 4 (pT :: []))) [16, 18, 19, 20] [(108, pB true)] [] [] (an4 h303 (an5 h304 tv)) ?_
          exact jD true hm Conv.eqK
         ·replace hm := if_f h304 hm
          obtain ⟨r305, hr305, hm⟩ := bo hm
          refine RD hnt (nn 7 (pF :: nn 3 (o117 [] true r305 :: .no :: pF :: []))) [16, 18, 19, 20] [(108, pB (!r305))] [] [] (an4 h303 (an3 h304 (an (Same_ref6Spec r301.1 r302.1 r305 hr305) (an2 h304 tv)))) ?_
          exact jD (!r305) hm Conv.eqK
     ·rcases bt (r296.2 != r297.2) with h298 | h298
      ·replace hm := if_t h298 hm
       refine RD hnt (nn 4 (sk 4 (pT :: []))) [16, 18] [(78, pB true)] [] [] (an5 h298 tv) ?_
       exact jD true hm Conv.eqK
      ·replace hm := if_f h298 hm
       obtain ⟨r299, hr299, hm⟩ := bo hm
       refine RD hnt (nn 6 (o117 [] true r299 :: .no :: pF :: [])) [16, 18] [(78, pB (!r299))] [] [] (an3 h298 (an (Same_ref6Spec r296.1 r297.1 r299 hr299) (an2 h298 tv))) ?_
       exact jD (!r299) hm Conv.eqK
    ·refine condM hm ?_ ?_
     ·intro h294 hm
      obtain ⟨r295, hr295, hm⟩ := bo hm
      refine RD hnt (.no :: o88 [1208] true r295 :: nn 2 []) [55] [(13, pI 0), (14, pI r295.1)] [] [(1208, bx (pm (encDice r295.2)))] (an (Controllers_Dice_madeSpec r293.2 r295 hr295) (an tv tv)) ?_
      exact jD (r295.2, 0, r295.1) hm Conv.eqK
     ·intro h294 hm
      refine Sk ?_
      exact jD (r293.2, r292.1, 0) hm Conv.t0
   ·intro h288
    have hge4 : ¬ k4 < [r5.1, r7.1].length := by have := of_decide_eq_false h288; have hL : [r5.1, r7.1].length = 2 := rfl; omega
    have hm := he4 hge4
    unfold ThreadedChanges_law8D4 at hm
    refine DW.exit ?_
    refine joinQ_exit ?_
    refine KQ_exit ?_
    refine blockQ_exit ?_
    show DW _ _ _ _ _
    refine DW.done ?_
    show DW _ _ _ _ _
    refine RD hnt (nn 2 []) [8, 9, 40] [(35, pI (w64 (((k1 : Nat) : Int) + 1)))] [1064] [] tv ?_
    exact jD s4 ⟨hlt1, hm⟩ (Conv.tp [(35, pI (w64 (((k1 : Nat) : Int) + 1)))] [] (by kernel_rfl) (.cons rfl (.of_eq (congrArg pI (w64_succ hlt1 hc1))) .nil) .nil)
  ·intro h219
   have hge1 : ¬ k1 < [r5.1, r7.1].length := by have := of_decide_eq_false h219; have hL : [r5.1, r7.1].length = 2 := rfl; omega
   have hm := he1 hge1
   unfold ThreadedChanges_law8D1 at hm
   refine DW.exit ?_
   refine joinQ_exit ?_
   refine KQ_exit ?_
   refine blockQ_exit ?_
   show DW _ _ _ _ _
   obtain ⟨r322, hr322, hm⟩ := bo hm
   refine Sq (RK hnt (o3 [] true r322 :: .no :: []) [(4, pB r322)] [] (an (sane_law8Spec r322 hr322) tv) ?_)
   obtain rfl := sj hm
   exact DW.ret (retK [] [] (pB r322))
abbrev o1 (ks : List Nat) (b : Bool) (RES : Bool) : Orc := .call 8 ks b (pB RES) [] []
end Go.Dm

