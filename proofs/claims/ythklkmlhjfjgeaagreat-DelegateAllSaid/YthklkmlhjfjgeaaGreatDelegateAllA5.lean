/- Texts of the proof of DelegateAll: the data machine, the models of the Go functions, their contracts. -/
import Derived.Test.YthklkmlhjfjgeaaGreatDelegateAllA4
set_option linter.unusedVariables false
set_option linter.unusedSimpArgs false
/- Go functions compute their models, printed by a program. -/
namespace Go.Dm
open Go.Proofs
set_option linter.unusedVariables false
theorem Threads_crewSpec (p0 : Hierarchy) (p1 : Int) (RES : List Int) (hm : Threads_crew p0 p1 = some RES) : Spec Tryz.prog 110 [.p (.agg (encHierarchy p0)), pI p1] [] (.p (slI RES)) [] [] := by
 unfold Threads_crew at hm
 refine SO Tryz.func110 rfl rfl [(0, .p (.agg (encHierarchy p0))), (1, pI p1)] [] ?_
 intro cx hnt
 refine Sq (RK hnt (nn 3 []) [(2, rr 1016), (3, rr 1024)] [(1016, bx (pm (encHierarchy p0))), (1024, bx [pI p1])] tv ?_)
 obtain ⟨r1, hr1, hm⟩ := bo hm
 refine Sq (RK hnt (nn 2 (.call 141 [1024] true (.p (slI r1)) [.box [pI p1]] [] :: .no :: [])) [(4, .p (slI r1))] [] (an (Those_crewQThreadsFa_crewQID_crewSpec p0 p1 r1 hr1) (an tv tv)) ?_)
 obtain rfl := sj hm
 exact DW.ret (retK [] [] (.p (slI r1)))
abbrev o101 (ks : List Nat) (b : Bool) (RES : List Int) : Orc := .call 110 ks b (.p (slI RES)) [] []

theorem Index_slices_intSpec (p0 : List Int) (p1 : Int) (RES : Int) (hm : Index_slices_int p0 p1 = some RES) : Spec Tryz.prog 171 [.p (slI p0), pI p1] [] (pI RES) [] [] := by
 unfold Index_slices_int at hm
 refine SO Tryz.func171 rfl rfl [(0, .p (slI p0)), (1, pI p1)] [] ?_
 intro cx hnt
 refine Sq (RD hnt (.no :: []) [] [] [] [] tv ?_)
 refine Sq (Sq (RD hnt (nn 3 []) [] [(7, pI ((p0.length : Nat) : Int)), (8, pI 0)] [] [] tv ?_))
 refine Bk ?_
 obtain ⟨hc1, hm⟩ := go1 hm
 refine DW.rangeO (fun (k1 : Nat) (s1 : Unit) => mkSt [(0, .p (slI p0)), (1, pI p1), (7, pI ((p0.length : Nat) : Int)), (8, pI ((k1 : Nat) : Int))] []) 0 hm Conv.eqK ?_
 intro k1 s1 n1 hk1 hs1 he1
 refine Sq (RD hnt (.no :: []) [] [(9, pB (decide (((k1 : Nat) : Int) < ((p0.length : Nat) : Int))))] [] [] tv ?_)
 refine Sq (condK (decide (((k1 : Nat) : Int) < ((p0.length : Nat) : Int))) ?_ ?_)
 ·intro h7
  have hlt1 : k1 < p0.length := by have := of_decide_eq_true h7; omega
  have hm := hs1 hlt1
  unfold Index_slices_intL1 at hm
  refine Sk ?_
  refine Sq (Bk ?_)
  refine Sq (RD hnt (nn 2 []) [9] [(5, pI ((k1 : Nat) : Int))] [] [] tv ?_)
  refine Sq (RD hnt (nn 6 []) [] [(16, pB (p1 == (p0.getD k1 0)))] [] [] (an (nn0 k1) (an (ltc hlt1) tv)) ?_)
  refine condM hm ?_ ?_
  ·intro h8 hm
   refine Sq (RK hnt (nn 2 []) [(4, pI ((k1 : Nat) : Int))] [] tv ?_)
   obtain rfl := sj hm
   exact DW.ret (retK [] [] (pI ((k1 : Nat) : Int)))
  ·intro h8 hm
   refine Sk ?_
   refine DW.done ?_
   show DW _ _ _ _ _
   refine RD hnt (nn 2 []) [5, 16] [(8, pI (w64 (((k1 : Nat) : Int) + 1)))] [] [] tv ?_
   exact jD () ⟨hlt1, hm⟩ (Conv.tp [(8, pI (w64 (((k1 : Nat) : Int) + 1)))] [] (by kernel_rfl) (.cons rfl (.of_eq (congrArg pI (w64_succ hlt1 hc1))) .nil) .nil)
 ·intro h7
  have hge1 : ¬ k1 < p0.length := by have := of_decide_eq_false h7; omega
  have hm := he1 hge1
  unfold Index_slices_intD1 at hm
  refine DW.exit ?_
  refine joinQ_exit ?_
  refine KQ_exit ?_
  refine blockQ_exit ?_
  show DW _ _ _ _ _
  refine Sq (RK hnt (.no :: []) [(4, pI (-1))] [] tv ?_)
  obtain rfl := sj hm
  exact DW.ret (retK [] [] (pI (-1)))
abbrev o107 (ks : List Nat) (b : Bool) (RES : Int) : Orc := .call 171 ks b (pI RES) [] []

theorem Contains_slices_intSpec (p0 : List Int) (p1 : Int) (RES : Bool) (hm : Contains_slices_int p0 p1 = some RES) : Spec Tryz.prog 165 [.p (slI p0), pI p1] [] (pB RES) [] [] := by
 unfold Contains_slices_int at hm
 refine SO Tryz.func165 rfl rfl [(0, .p (slI p0)), (1, pI p1)] [] ?_
 intro cx hnt
 refine Sq (RD hnt (.no :: []) [] [] [] [] tv ?_)
 obtain ⟨r1, hr1, hm⟩ := bo hm
 refine Sq (RK hnt (nn 2 (o107 [] true r1 :: nn 2 [])) [(4, pB (decide (r1 ≥ 0)))] [] (an (Index_slices_intSpec p0 p1 r1 hr1) tv) ?_)
 obtain rfl := sj hm
 exact DW.ret (retK [] [] (pB (decide (r1 ≥ 0))))
abbrev o106 (ks : List Nat) (b : Bool) (RES : Bool) : Orc := .call 165 ks b (pB RES) [] []

theorem Common_forestSpec (p0 : Tree) (p1 : Int) (p2 : Int) (RES : Int × Bool) (hm : Common_forest p0 p1 p2 = some RES) : Spec Tryz.prog 152 [.p (.agg (encTree p0)), pI p1, pI p2] [] (.p (.tup [vi RES.1, vb RES.2])) [] [] := by
 unfold Common_forest at hm
 refine SO Tryz.func152 rfl rfl [(0, .p (.agg (encTree p0))), (1, pI p1), (2, pI p2)] [] ?_
 intro cx hnt
 refine Sq (RD hnt (nn 3 []) [0] [(3, rr 1024)] [] [(1024, bx (pm (encTree p0)))] tv ?_)
 obtain ⟨r1, hr1, hm⟩ := bo hm
 refine Sq (RD hnt (nn 2 (o40 [] true r1 :: .no :: [])) [2] [(8, ow 1104 r1.length)] [] [(1104, ob0 (roI r1))] (an (Ancestors_forestSpec p0 p2 r1 hr1) tv) ?_)
 obtain ⟨r2, hr2, hm⟩ := bo hm
 refine Sq (Sq (RD hnt (nn 2 (o40 [] true r2 :: nn 2 [])) [1, 3] [(16, ow 1128 r2.length), (17, pI ((r2.length : Nat) : Int)), (18, pI 0)] [1024] [(1128, ob0 (roI r2))] (an (Ancestors_forestSpec p0 p1 r2 hr2) tv) ?_))
 refine Bk ?_
 obtain ⟨hc1, hm⟩ := go1 hm
 refine DW.rangeO (fun (k1 : Nat) (s1 : Unit) => mkSt [(8, ow 1104 r1.length), (16, ow 1128 r2.length), (17, pI ((r2.length : Nat) : Int)), (18, pI ((k1 : Nat) : Int))] [(1104, ob0 (roI r1)), (1128, ob0 (roI r2))]) 0 hm Conv.eqK ?_
 intro k1 s1 n1 hk1 hs1 he1
 refine Sq (RD hnt (.no :: []) [] [(19, pB (decide (((k1 : Nat) : Int) < ((r2.length : Nat) : Int))))] [] [] tv ?_)
 refine Sq (condK (decide (((k1 : Nat) : Int) < ((r2.length : Nat) : Int))) ?_ ?_)
 ·intro h13
  have hlt1 : k1 < r2.length := by have := of_decide_eq_true h13; omega
  have hm := hs1 hlt1
  unfold Common_forestL1 at hm
  refine Sk ?_
  refine Sq (Bk ?_)
  refine Sq (RD hnt (nn 3 []) [19] [(10, pI (r2.getD k1 0))] [] [] (an (nn0 k1) (an (ltc hlt1) (an (by omega : k1 < r2.length) tv))) ?_)
  obtain ⟨r14, hr14, hm⟩ := bo hm
  refine Sq (RD hnt (nn 2 (o106 [] true r14 :: [])) [] [(24, pB r14)] [] [] (an (Contains_slices_intSpec r1 (r2.getD k1 0) r14 hr14) tv) ?_)
  refine condM hm ?_ ?_
  ·intro h15 hm
   refine Sq (RK hnt (nn 3 []) [(6, pI (r2.getD k1 0)), (7, pB true)] [] tv ?_)
   obtain rfl := sj hm
   exact DW.ret (retK [] [] (.p (.tup [vi (r2.getD k1 0), vb true])))
  ·intro h15 hm
   refine Sk ?_
   refine DW.done ?_
   show DW _ _ _ _ _
   refine RD hnt (nn 2 []) [10, 24] [(18, pI (w64 (((k1 : Nat) : Int) + 1)))] [] [] tv ?_
   exact jD () ⟨hlt1, hm⟩ (Conv.tp [(18, pI (w64 (((k1 : Nat) : Int) + 1)))] [] (by kernel_rfl) (.cons rfl (.of_eq (congrArg pI (w64_succ hlt1 hc1))) .nil) .nil)
 ·intro h13
  have hge1 : ¬ k1 < r2.length := by have := of_decide_eq_false h13; omega
  have hm := he1 hge1
  unfold Common_forestD1 at hm
  refine DW.exit ?_
  refine joinQ_exit ?_
  refine KQ_exit ?_
  refine blockQ_exit ?_
  show DW _ _ _ _ _
  refine Sq (RK hnt (nn 2 []) [(6, pI 0), (7, pB false)] [] tv ?_)
  obtain rfl := sj hm
  exact DW.ret (retK [] [] (.p (.tup [vi 0, vb false])))
abbrev o105 (ks : List Nat) (b : Bool) (RES : Int × Bool) : Orc := .call 152 ks b (.p (.tup [vi RES.1, vb RES.2])) [] []

theorem moves_delegateSpec (p0 : Hierarchy) (p1 : Int) (p2 : Int) (p3 : List Int) (RES : Int) (hm : moves_delegate p0 p1 p2 p3 = some RES) : Spec Tryz.prog 109 [.p (.agg (encHierarchy p0)), pI p1, pI p2, .p (slI p3)] [] (pI RES) [] [] := by
 unfold moves_delegate at hm
 refine SO Tryz.func109 rfl rfl [(0, .p (.agg (encHierarchy p0))), (1, pI p1), (2, pI p2), (3, .p (slI p3))] [] ?_
 intro cx hnt
 refine Sq (RD hnt (nn 2 []) [0] [(4, rr 1032)] [] [(1032, bx (pm (encHierarchy p0)))] tv ?_)
 obtain ⟨r1, hr1, hm⟩ := bo hm
 refine Sq (Sq (RD hnt (nn 3 (o30 [] true r1 :: .no :: [])) [] [(19, pB (decide (r1 < 0)))] [] [] (an (At_forestSpec p0.tree p2 r1 hr1) tv) ?_))
 refine condM hm ?_ ?_
 ·intro h2 hm
  refine Sq (RK hnt (.no :: []) [(8, pI 4)] [] tv ?_)
  obtain rfl := sj hm
  exact DW.ret (retK [] [] (pI 4))
 ·intro h2 hm
  refine Sk ?_
  obtain ⟨r3, hr3, hm⟩ := bo hm
  refine Sq (Sq (RD hnt (nn 4 (o86 [] true r3 :: .no :: [])) [19] [(25, pB (!r3))] [] [] (an (enter_delegateSpec p0.tree p1 p2 r3 hr3) tv) ?_))
  refine condM hm ?_ ?_
  ·intro h4 hm
   refine Sq (RK hnt (.no :: []) [(8, pI 8)] [] tv ?_)
   obtain rfl := sj hm
   exact DW.ret (retK [] [] (pI 8))
  ·intro h4 hm
   refine Sk ?_
   refine Sq (Sq (RD hnt (nn 3 []) [3, 25] [(26, .p (slI p3)), (27, pI ((p3.length : Nat) : Int)), (28, pI 0)] [] [] tv ?_))
   refine Bk ?_
   obtain ⟨hc1, hm⟩ := go1 hm
   refine DW.rangeO (fun (k1 : Nat) (s1 : Unit) => mkSt [(1, pI p1), (2, pI p2), (4, rr 1032), (26, .p (slI p3)), (27, pI ((p3.length : Nat) : Int)), (28, pI ((k1 : Nat) : Int))] [(1032, bx (pm (encHierarchy p0)))]) 0 hm Conv.eqK ?_
   intro k1 s1 n1 hk1 hs1 he1
   refine Sq (RD hnt (.no :: []) [] [(29, pB (decide (((k1 : Nat) : Int) < ((p3.length : Nat) : Int))))] [] [] tv ?_)
   refine Sq (condK (decide (((k1 : Nat) : Int) < ((p3.length : Nat) : Int))) ?_ ?_)
   ·intro h23
    have hlt1 : k1 < p3.length := by have := of_decide_eq_true h23; omega
    have hm := hs1 hlt1
    unfold moves_delegateL1 at hm
    refine Sk ?_
    refine Sq (Bk ?_)
    refine Sq (RD hnt (nn 3 []) [29] [(10, pI (p3.getD k1 0))] [] [] (an (nn0 k1) (an (ltc hlt1) tv)) ?_)
    obtain ⟨r24, hr24, hm⟩ := bo hm
    refine Sq (RD hnt (nn 2 (o53 [] true r24 :: nn 6 [])) [10] [(11, rr 1088)] [] [(1088, bx (pm (encTask r24.1)))] (an (Find_crewSpec p0 (p3.getD k1 0) r24 hr24) tv) ?_)
    obtain ⟨r25, hr25, hm⟩ := bo hm
    refine Sq (RD hnt (nn 5 (o105 [] true r25 :: nn 5 [])) [] [(13, pI r25.1)] [] [] (an (Common_forestSpec p0.tree p2 r24.1.group r25 hr25) tv) ?_)
    refine Sq ?_
    refine Jn (ι := Bool) (fun (y3 : Bool) => mkSt [(1, pI p1), (2, pI p2), (4, rr 1032), (26, .p (slI p3)), (27, pI ((p3.length : Nat) : Int)), (28, pI ((k1 : Nat) : Int)), (62, pB y3)] [(1032, bx (pm (encHierarchy p0)))]) (fun y3 => (moves_delegateJ3 n1) y3 = some RES) ?_ ?_
    ·intro y3 hm
     unfold moves_delegateJ3 at hm
     refine condM hm ?_ ?_
     ·intro h30 hm
      refine Sq (RK hnt (.no :: []) [(8, pI 8)] [] tv ?_)
      obtain rfl := sj hm
      exact DW.ret (retK [] [] (pI 8))
     ·intro h30 hm
      refine Sk ?_
      refine DW.done ?_
      show DW _ _ _ _ _
      refine RD hnt (nn 2 []) [62] [(28, pI (w64 (((k1 : Nat) : Int) + 1)))] [] [] tv ?_
      exact jD () ⟨hlt1, hm⟩ (Conv.tp [(28, pI (w64 (((k1 : Nat) : Int) + 1)))] [] (by kernel_rfl) (.cons rfl (.of_eq (congrArg pI (w64_succ hlt1 hc1))) .nil) .nil)
    ·rcases bt (p1 != 0) with h26 | h26
     ·replace hm := if_t h26 hm
      rcases bt (r24.1.user != p1) with h27 | h27
      ·replace hm := if_t h27 hm
       refine RD hnt (nn 7 (pT :: .no :: sk 6 (pT :: []))) [11, 13] [(62, pB true)] [1088] [] (an5 h26 (an h27 (an6 h27 tv))) ?_
       exact jD true hm Conv.eqK
      ·replace hm := if_f h27 hm
       obtain ⟨r28, hr28, hm⟩ := bo hm
       refine RD hnt (nn 7 (pT :: nn 5 (o86 [] true r28 :: .no :: pF :: []))) [11, 13] [(62, pB (!r28))] [1088] [] (an5 h26 (an5 h27 (an (enter_delegateSpec p0.tree p1 r25.1 r28 hr28) (an2 h27 tv)))) ?_
       exact jD (!r28) hm Conv.eqK
     ·replace hm := if_f h26 hm
      obtain ⟨r29, hr29, hm⟩ := bo hm
      refine RD hnt (nn 3 (sk 4 (pF :: nn 5 (o86 [] true r29 :: .no :: pF :: [])))) [11, 13] [(62, pB (!r29))] [1088] [] (an5 h26 (an5 ff (an (enter_delegateSpec p0.tree p1 r25.1 r29 hr29) (an2 ff tv)))) ?_
      exact jD (!r29) hm Conv.eqK
   ·intro h23
    have hge1 : ¬ k1 < p3.length := by have := of_decide_eq_false h23; omega
    have hm := he1 hge1
    unfold moves_delegateD1 at hm
    refine DW.exit ?_
    refine joinQ_exit ?_
    refine KQ_exit ?_
    refine blockQ_exit ?_
    show DW _ _ _ _ _
    refine Sq (RK hnt (.no :: []) [(8, pI 0)] [] tv ?_)
    obtain rfl := sj hm
    exact DW.ret (retK [] [] (pI 0))
abbrev o104 (ks : List Nat) (b : Bool) (RES : Int) : Orc := .call 109 ks b (pI RES) [] []

theorem refuse_threadedSpec (p0 : Int) (RES : Hierarchy × Int) (hm : refuse_threaded p0 = some RES) : Spec Tryz.prog 91 [pI p0] [] (.tup [.agg [ow 0 RES.1.tree.nodes.length, pI RES.1.tree.next, ow 1 RES.1.tasks.length, pI RES.1.next], pI RES.2]) [] [roNode RES.1.tree.nodes, roTask RES.1.tasks] := by
 unfold refuse_threaded at hm
 refine SO Tryz.func91 rfl rfl [(0, pI p0)] [] ?_
 intro cx hnt
 refine Sq (RK hnt (nn 2 []) [(0, pI p0), (2, rr 1016)] [(1016, bx [.p (.sl .nil 0 0 (fun _ => [])), pI 0, .p (.sl .nil 0 0 (fun _ => [])), pI 0])] tv ?_)
 refine Sq (RD hnt (nn 4 []) [0] [(3, pI p0)] [] [] tv ?_)
 refine DW.cv [] [] [] [(1016, bx [ow 100000 0, pI 0, ow 100001 0, pI 0]), (100000, ob0 (roNode [])), (100001, ob0 (roTask []))] (Conv.ads [(.o 1016 0, 100000, 6, elems encNode dNode []), (.o 1016 2, 100001, 4, elems encTask dTask [])]) ?_
 obtain rfl := sj hm
 exact DW.ret (retK [roNode [], roTask []] [100000, 100001] (.tup [.agg [ow 0 0, pI 0, ow 1 0, pI 0], pI p0]))
abbrev o109 (ks : List Nat) (b : Bool) (RES : Hierarchy × Int) : Orc := .call 91 ks b (.tup [.agg [ow 0 RES.1.tree.nodes.length, pI RES.1.tree.next, ow 1 RES.1.tasks.length, pI RES.1.next], pI RES.2]) [] [roNode RES.1.tree.nodes, roTask RES.1.tasks]

theorem admits_threadedSpec (p0 : Hierarchy) (p1 : Int) (RES : Int) (hm : admits_threaded p0 p1 = some RES) : Spec Tryz.prog 89 [.p (.agg (encHierarchy p0)), pI p1] [] (pI RES) [] [] := by
 unfold admits_threaded at hm
 refine SO Tryz.func89 rfl rfl [(0, .p (.agg (encHierarchy p0))), (1, pI p1)] [] ?_
 intro cx hnt
 refine Sq (RK hnt (nn 2 []) [(1, pI p1), (2, rr 1016)] [(1016, bx (pm (encHierarchy p0)))] tv ?_)
 obtain ⟨r1, hr1, hm⟩ := bo hm
 refine Sq (RD hnt (nn 3 (o41 [] true r1 :: nn 6 [])) [] [(5, rr 1040), (6, pB r1.2)] [] [(1040, bx (pm (encNode r1.1)))] (an (Find_forestSpec p0.tree p1 r1 hr1) tv) ?_)
 refine Sq (Bk ?_)
 refine Sq (RD hnt (nn 3 []) [6] [(14, pB (!r1.2))] [] [] tv ?_)
 refine condM hm ?_ ?_
 ·intro h2 hm
  refine Sq (RK hnt (.no :: []) [(4, pI 4)] [] tv ?_)
  obtain rfl := sj hm
  exact DW.ret (retK [] [] (pI 4))
 ·intro h2 hm
  refine Sq ?_
  refine Jn (ι := Bool) (fun (y1 : Bool) => mkSt [(1, pI p1), (5, rr 1040), (17, pB y1)] [(1040, bx (pm (encNode r1.1)))]) (fun y1 => (admits_threadedJ1 p1 r1) y1 = some RES) ?_ ?_
  ·intro y1 hm
   unfold admits_threadedJ1 at hm
   refine condM hm ?_ ?_
   ·intro h5 hm
    refine Sq (RK hnt (.no :: []) [(4, pI 10)] [] tv ?_)
    obtain rfl := sj hm
    exact DW.ret (retK [] [] (pI 10))
   ·intro h5 hm
    refine Sq (DW.regJ (sl2 := [(27, pB ((p1 != 1) && ((kand .i64 r1.1.control 6) != 0)))]) (ob2 := []) ?_ ?_)
    ·rcases bt (p1 != 1) with h6 | h6
     ·exact RT hnt (nn 7 (pT :: .no :: [])) [(27, pB ((kand .i64 r1.1.control 6) != 0))] (an5 h6 tv) (by kernel_rfl) (.cons rfl (.of_eq (by rw [h6]; try rfl)) .nil)
     ·exact RT hnt (nn 3 (sk 4 (pF :: .no :: []))) [(27, pB false)] (an5 h6 tv) (by kernel_rfl) (.cons rfl (.of_eq (by rw [h6]; try rfl)) .nil)
    ·refine condM hm ?_ ?_
     ·intro h7 hm
      refine Sq (RK hnt (.no :: []) [(4, pI 6)] [] tv ?_)
      obtain rfl := sj hm
      exact DW.ret (retK [] [] (pI 6))
     ·intro h7 hm
      refine Sk ?_
      refine DW.done ?_
      show DW _ _ _ _ _
      refine Sq (RK hnt (.no :: []) [(4, pI 0)] [] tv ?_)
      obtain rfl := sj hm
      exact DW.ret (retK [] [] (pI 0))
  ·rcases bt (r1.1.kind != 1) with h3 | h3
   ·replace hm := if_t h3 hm
    obtain ⟨r4, hr4, hm⟩ := bo hm
    refine RD hnt (nn 7 (o85 [] true r4 :: pT :: .no :: [])) [2, 14] [(17, pB r4)] [1016] [] (an4 h3 (an (invalid_threadedSpec p0.tree p1 r4 hr4) (an h3 tv))) ?_
    exact jD r4 hm Conv.eqK
   ·replace hm := if_f h3 hm
    refine RD hnt (nn 4 (sk 4 (pF :: .no :: []))) [2, 14] [(17, pB false)] [1016] [] (an5 h3 tv) ?_
    exact jD false hm Conv.eqK
abbrev o110 (ks : List Nat) (b : Bool) (RES : Int) : Orc := .call 89 ks b (pI RES) [] []

abbrev c108e1 (s1 : List Task) (k1 : Int) (p2 : Int) := ({ id := (s1.getD (Int.toNat k1) dTask).id, process := (s1.getD (Int.toNat k1) dTask).process, group := p2, user := (s1.getD (Int.toNat k1) dTask).user } : Task)
abbrev c108e2 : Nat × Obj := (1048, bx [.p (.sl .nil 0 0 (fun _ => [])), pI 0, .p (.sl .nil 0 0 (fun _ => [])), pI 0])
abbrev c108e3 (s1 : List Task) (k1 : Int) (p2 : Int) := (updF (elTask s1) (Int.toNat k1) [vi (s1.getD (Int.toNat k1) dTask).id, vi (s1.getD (Int.toNat k1) dTask).process, vi p2, vi (s1.getD (Int.toNat k1) dTask).user])
abbrev c108e4 (r15 : Hierarchy) : Nat × MV := (71, pI ((r15.tasks.length : Nat) : Int))
theorem Attach_threadedSpec (p0 : Hierarchy) (p1 : Int) (p2 : Int) (RES : Hierarchy × Int) (hm : Attach_threaded p0 p1 p2 = some RES) : Spec Tryz.prog 40 [.p (.agg (encHierarchy p0)), pI p1, pI p2] [] (.tup [.agg [ow 0 RES.1.tree.nodes.length, pI RES.1.tree.next, ow 1 RES.1.tasks.length, pI RES.1.next], pI RES.2]) [] [roNode RES.1.tree.nodes, roTask RES.1.tasks] := by
 unfold Attach_threaded at hm
 refine SO Tryz.func40 rfl rfl [(0, .p (.agg (encHierarchy p0))), (1, pI p1), (2, pI p2)] [] ?_
 intro cx hnt
 refine Sq (RD hnt (nn 3 []) [0] [(3, rr 1024), (6, rr 1048)] [] [(1024, bx (pm (encHierarchy p0))), (c108e2)] tv ?_)
 obtain ⟨r1, hr1, hm⟩ := bo hm
 refine Sq (Sq (RD hnt (.no :: o49 [] true r1 :: .no :: []) [] [(18, pB (!r1))] [] [] (an (Fits_threadedSpec p0 r1 hr1) tv) ?_))
 refine condM hm ?_ ?_
 ·intro h2 hm
  obtain ⟨r3, hr3, hm⟩ := bo hm
  refine Sq (RK hnt (o109 [] true r3 :: nn 4 []) [(6, rr 1048), (7, pI r3.2)] [(1048, bx [ow 1152 r3.1.tree.nodes.length, pI r3.1.tree.next, ow 1153 r3.1.tasks.length, pI r3.1.next]), (1152, ob0 (roNode r3.1.tree.nodes)), (1153, ob0 (roTask r3.1.tasks))] (an (refuse_threadedSpec 1 r3 hr3) tv) ?_)
  obtain rfl := sj hm
  exact DW.ret (retK [roNode r3.1.tree.nodes, roTask r3.1.tasks] [1152, 1153] (.tup [.agg [ow 0 r3.1.tree.nodes.length, pI r3.1.tree.next, ow 1 r3.1.tasks.length, pI r3.1.next], pI r3.2]))
 ·intro h2 hm
  refine Sk ?_
  obtain ⟨r4, hr4, hm⟩ := bo hm
  refine Sq (RD hnt (nn 2 (o53 [] true r4 :: nn 6 [])) [18] [(8, rr 1064), (9, pB r4.2)] [] [(1064, bx (pm (encTask r4.1)))] (an (Find_crewSpec p0 p1 r4 hr4) tv) ?_)
  obtain ⟨r5, hr5, hm⟩ := bo hm
  refine Sq (RD hnt (nn 3 (o41 [] true r5 :: nn 6 [])) [] [(10, rr 1080), (11, pB r5.2)] [] [(1080, bx (pm (encNode r5.1)))] (an (Find_forestSpec p0.tree p2 r5 hr5) tv) ?_)
  refine Sq (Bk ?_)
  refine Sq (DW.regJ (sl2 := [(1, pI p1), (2, pI p2), (3, rr 1024), (6, rr 1048), (10, rr 1080), (35, pB (((!r4.2) || (r4.1.process != p1)) || (!r5.2)))]) (ob2 := [(1024, bx (pm (encHierarchy p0))), (c108e2), (1080, bx (pm (encNode r5.1)))]) ?_ ?_)
  ·rcases bt (!r4.2) with h6 | h6
   ·exact RT hnt (nn 3 (sk 4 (pT :: .no :: sk 2 (pT :: .no :: [])))) [(35, pB true)] (an5 h6 (an3 tt tv)) (by kernel_rfl) (.cons rfl (.of_eq (by rw [h6]; try rfl)) .nil)
   ·rcases bt (r4.1.process != p1) with h7 | h7
    ·exact RT hnt (nn 7 (pF :: .no :: sk 2 (pT :: .no :: []))) [(35, pB true)] (an5 h6 (an3 h7 tv)) (by kernel_rfl) (.cons rfl (.of_eq (by rw [h6, h7]; try rfl)) .nil)
    ·exact RT hnt (nn 7 (pF :: nn 3 (pF :: .no :: []))) [(35, pB (!r5.2))] (an5 h6 (an3 h7 tv)) (by kernel_rfl) (.cons rfl (.of_eq (by rw [h6, h7]; try rfl)) .nil)
  ·refine condM hm ?_ ?_
   ·intro h8 hm
    obtain ⟨r9, hr9, hm⟩ := bo hm
    refine Sq (RK hnt (o109 [] true r9 :: nn 4 []) [(6, rr 1048), (7, pI r9.2)] [(1048, bx [ow 1384 r9.1.tree.nodes.length, pI r9.1.tree.next, ow 1385 r9.1.tasks.length, pI r9.1.next]), (1384, ob0 (roNode r9.1.tree.nodes)), (1385, ob0 (roTask r9.1.tasks))] (an (refuse_threadedSpec 4 r9 hr9) tv) ?_)
    obtain rfl := sj hm
    exact DW.ret (retK [roNode r9.1.tree.nodes, roTask r9.1.tasks] [1384, 1385] (.tup [.agg [ow 0 r9.1.tree.nodes.length, pI r9.1.tree.next, ow 1 r9.1.tasks.length, pI r9.1.next], pI r9.2]))
   ·intro h8 hm
    refine Sq (RD hnt (nn 4 []) [10, 35] [(51, pB (r5.1.kind == 1))] [1080] [] tv ?_)
    refine condM hm ?_ ?_
    ·intro h10 hm
     obtain ⟨r11, hr11, hm⟩ := bo hm
     refine Sq (RK hnt (o109 [] true r11 :: nn 4 []) [(6, rr 1048), (7, pI r11.2)] [(1048, bx [ow 1440 r11.1.tree.nodes.length, pI r11.1.tree.next, ow 1441 r11.1.tasks.length, pI r11.1.next]), (1440, ob0 (roNode r11.1.tree.nodes)), (1441, ob0 (roTask r11.1.tasks))] (an (refuse_threadedSpec 10 r11 hr11) tv) ?_)
     obtain rfl := sj hm
     exact DW.ret (retK [roNode r11.1.tree.nodes, roTask r11.1.tasks] [1440, 1441] (.tup [.agg [ow 0 r11.1.tree.nodes.length, pI r11.1.tree.next, ow 1 r11.1.tasks.length, pI r11.1.next], pI r11.2]))
    ·intro h10 hm
     refine Sk ?_
     refine DW.done ?_
     show DW _ _ _ _ _
     obtain ⟨r12, hr12, hm⟩ := bo hm
     refine Sq (Sq (RD hnt (nn 2 (o110 [] true r12 :: .no :: [])) [51] [(12, pI r12)] [] [] (an (admits_threadedSpec p0 p2 r12 hr12) tv) ?_))
     refine Sq (RD hnt (nn 2 []) [] [(62, pB (r12 != 0))] [] [] tv ?_)
     refine condM hm ?_ ?_
     ·intro h13 hm
      obtain ⟨r14, hr14, hm⟩ := bo hm
      refine Sq (RK hnt (.no :: o109 [] true r14 :: nn 4 []) [(6, rr 1048), (7, pI r14.2)] [(1048, bx [ow 1512 r14.1.tree.nodes.length, pI r14.1.tree.next, ow 1513 r14.1.tasks.length, pI r14.1.next]), (1512, ob0 (roNode r14.1.tree.nodes)), (1513, ob0 (roTask r14.1.tasks))] (an (refuse_threadedSpec r12 r14 hr14) tv) ?_)
      obtain rfl := sj hm
      exact DW.ret (retK [roNode r14.1.tree.nodes, roTask r14.1.tasks] [1512, 1513] (.tup [.agg [ow 0 r14.1.tree.nodes.length, pI r14.1.tree.next, ow 1 r14.1.tasks.length, pI r14.1.next], pI r14.2]))
     ·intro h13 hm
      refine Sk ?_
      obtain ⟨r15, hr15, hm⟩ := bo hm
      refine Sq (RD hnt (.no :: o95 [] true r15 :: nn 2 []) [3, 12, 62] [(13, rr 1104)] [1024] [(1104, bx [ow 1544 r15.tree.nodes.length, pI r15.tree.next, ow 1545 r15.tasks.length, pI r15.next]), (1544, ob0 (roNode r15.tree.nodes)), (1545, ob0 (roTask r15.tasks))] (an (Copy_crewSpec p0 r15 hr15) tv) ?_)
      refine Sq (Sq (RD hnt (nn 4 []) [] [(70, ow 1545 r15.tasks.length), (c108e4 r15), (72, pI 0)] [] [] tv ?_))
      refine Bk ?_
      obtain ⟨hc1, hm⟩ := go1 hm
      refine DW.forO (fun (k1 : Int) (s1 : List Task) => mkSt [(1, pI p1), (2, pI p2), (6, rr 1048), (13, rr 1104), (70, ow 1545 s1.length), (c108e4 r15), (72, pI k1)] [(c108e2), (1104, bx [ow 1544 r15.tree.nodes.length, pI r15.tree.next, ow 1545 s1.length, pI r15.next]), (1544, ob0 (roNode r15.tree.nodes)), (1545, ob0 (roTask s1))]) (lo := 0) (hi := ((r15.tasks.length : Nat) : Int)) hm Conv.eqK ?_
      intro k1 s1 n1 hk1 hs1 he1
      refine Sq (RD hnt (.no :: []) [] [(73, pB (decide (k1 < ((r15.tasks.length : Nat) : Int))))] [] [] tv ?_)
      refine Sq (condK (decide (k1 < ((r15.tasks.length : Nat) : Int))) ?_ ?_)
      ·intro h28
       have hlt1 : k1 < ((r15.tasks.length : Nat) : Int) := by have := of_decide_eq_true h28; omega
       have hm := hs1 hlt1
       unfold Attach_threadedL1 at hm
       refine Sk ?_
       refine Sq ?_
       refine Jn (ι := List Task) (fun (y3 : List Task) => mkSt [(1, pI p1), (2, pI p2), (6, rr 1048), (13, rr 1104), (70, ow 1545 y3.length), (c108e4 r15), (72, pI k1)] [(c108e2), (1104, bx [ow 1544 r15.tree.nodes.length, pI r15.tree.next, ow 1545 y3.length, pI r15.next]), (1544, ob0 (roNode r15.tree.nodes)), (1545, ob0 (roTask y3))]) (fun y3 => (Attach_threadedJ3 n1) y3 = some RES) ?_ ?_
       ·intro y3 hm
        unfold Attach_threadedJ3 at hm
        refine RD hnt (nn 2 []) [] [(72, pI (w64 (k1 + 1)))] [] [] tv ?_
        exact jD y3 ⟨hlt1, hm⟩ (Conv.tp [(72, pI (w64 (k1 + 1)))] [] (by kernel_rfl) (.cons rfl (.of_eq (congrArg pI (w64_for (lo := 0) (hi := ((r15.tasks.length : Nat) : Int)) (by omega) hk1 hlt1 (by omega)))) .nil) .nil)
       ·refine Bk ?_
        obtain ⟨g29, g30, hm⟩ := go2 hm
        refine Sq (RD hnt (nn 6 []) [73] [(14, pI k1), (15, rr 1120)] [] [(1120, bx (pm (encTask (s1.getD (Int.toNat k1) dTask))))] (an g29.1 (an g29.2 (an g30 tv))) ?_)
        refine Sq (RD hnt (nn 4 []) [15] [(80, pB ((s1.getD (Int.toNat k1) dTask).process == p1))] [1120] [] tv ?_)
        refine condM hm ?_ ?_
        ·intro h31 hm
         obtain ⟨g32, g33, hm⟩ := go2 hm
         refine RN hnt (nn 7 []) [(1, pI p1), (2, pI p2), (6, rr 1048), (13, rr 1104), (70, ow 1545 (s1.set (Int.toNat k1) (c108e1 s1 k1 p2)).length), (c108e4 r15), (72, pI k1)] [(c108e2), (1104, bx [ow 1544 r15.tree.nodes.length, pI r15.tree.next, ow 1545 (s1.set (Int.toNat k1) (c108e1 s1 k1 p2)).length, pI r15.next]), (1544, ob0 (roNode r15.tree.nodes)), (1545, ob0 (roTask (s1.set (Int.toNat k1) (c108e1 s1 k1 p2))))] [(70, ow 1545 s1.length)] [(1104, .box [ow 1544 r15.tree.nodes.length, pI r15.tree.next, ow 1545 s1.length, pI r15.next]), (1545, .row 4 s1.length (c108e3 s1 k1 p2))] (an g32.1 (an g32.2 (an g33 tv))) (by kernel_rfl) (.cons rfl (MLe.ownLen (enc := encTask) (d := dTask) (f := (c108e3 s1 k1 p2)) (RowIs.upd RowIs.elems (c108e1 s1 k1 p2) rfl)) .nil) (.cons rfl (.box (.cons .rfl (.cons .rfl (.cons (MLe.ownLen (enc := encTask) (d := dTask) (f := (c108e3 s1 k1 p2)) (RowIs.upd RowIs.elems (c108e1 s1 k1 p2) rfl)) (.cons .rfl .nil))))) (.cons rfl (BLe.typed (RowIs.upd RowIs.elems (c108e1 s1 k1 p2) rfl)) .nil)) ?_
         exact bD (s1.set (Int.toNat k1) (c108e1 s1 k1 p2)) hm .refl
        ·intro h31 hm
         refine Sk ?_
         exact bD s1 hm Conv.t0
      ·intro h28
       have hge1 : ¬ k1 < ((r15.tasks.length : Nat) : Int) := by have := of_decide_eq_false h28; omega
       have hm := he1 hge1
       unfold Attach_threadedD1 at hm
       refine DW.exit ?_
       refine joinQ_exit ?_
       refine KQ_exit ?_
       refine blockQ_exit ?_
       show DW _ _ _ _ _
       refine Sq (RD hnt (nn 3 []) [1, 2, 13, 70, 71, 72, 73] [(7, pI 0)] [1104] [(1048, bx [ow 1544 r15.tree.nodes.length, pI r15.tree.next, ow 1545 s1.length, pI r15.next])] tv ?_)
       obtain rfl := sj hm
       exact DW.ret (retK [roNode r15.tree.nodes, roTask s1] [1544, 1545] (.tup [.agg [ow 0 r15.tree.nodes.length, pI r15.tree.next, ow 1 s1.length, pI r15.next], pI 0]))
abbrev o108 (ks : List Nat) (b : Bool) (RES : Hierarchy × Int) : Orc := .call 40 ks b (.tup [.agg [ow 0 RES.1.tree.nodes.length, pI RES.1.tree.next, ow 1 RES.1.tasks.length, pI RES.1.next], pI RES.2]) [] [roNode RES.1.tree.nodes, roTask RES.1.tasks]

abbrev c99e1 : Nat × Obj := (1064, bx [.p (.sl .nil 0 0 (fun _ => [])), pI 0, .p (.sl .nil 0 0 (fun _ => [])), pI 0])
theorem Move_delegateSpec (p0 : Hierarchy) (p1 : Int) (p2 : Int) (p3 : Int) (RES : Hierarchy × Int) (hm : Move_delegate p0 p1 p2 p3 = some RES) : Spec Tryz.prog 59 [.p (.agg (encHierarchy p0)), pI p1, pI p2, pI p3] [] (.tup [.agg [ow 0 RES.1.tree.nodes.length, pI RES.1.tree.next, ow 1 RES.1.tasks.length, pI RES.1.next], pI RES.2]) [] [roNode RES.1.tree.nodes, roTask RES.1.tasks] := by
 unfold Move_delegate at hm
 refine SO Tryz.func59 rfl rfl [(0, .p (.agg (encHierarchy p0))), (1, pI p1), (2, pI p2), (3, pI p3)] [] ?_
 intro cx hnt
 refine Sq (RD hnt (nn 3 []) [0] [(4, rr 1032), (8, rr 1064)] [] [(1032, bx (pm (encHierarchy p0))), (c99e1)] tv ?_)
 obtain ⟨r1, hr1, hm⟩ := bo hm
 refine Sq (Sq ?_)
 refine Jn (ι := Bool) (fun (y1 : Bool) => mkSt [(1, pI p1), (2, pI p2), (3, pI p3), (4, rr 1032), (8, rr 1064), (20, pB y1)] [(1032, bx (pm (encHierarchy p0))), (c99e1)]) (fun y1 => (Move_delegateJ1 p0 p1 p2 p3) y1 = some RES) ?_ ?_
 ·intro y1 hm
  unfold Move_delegateJ1 at hm
  refine condM hm ?_ ?_
  ·intro h4 hm
   obtain ⟨r5, hr5, hm⟩ := bo hm
   refine Sq (RK hnt (o100 [] true r5 :: nn 4 []) [(8, rr 1064), (9, pI r5.2)] [(1064, bx [ow 1168 r5.1.tree.nodes.length, pI r5.1.tree.next, ow 1169 r5.1.tasks.length, pI r5.1.next]), (1168, ob0 (roNode r5.1.tree.nodes)), (1169, ob0 (roTask r5.1.tasks))] (an (refuse_delegateSpec 1 r5 hr5) tv) ?_)
   obtain rfl := sj hm
   exact DW.ret (retK [roNode r5.1.tree.nodes, roTask r5.1.tasks] [1168, 1169] (.tup [.agg [ow 0 r5.1.tree.nodes.length, pI r5.1.tree.next, ow 1 r5.1.tasks.length, pI r5.1.next], pI r5.2]))
  ·intro h4 hm
   refine Sk ?_
   obtain ⟨r6, hr6, hm⟩ := bo hm
   refine Sq (Sq (RD hnt (nn 2 (o53 [] true r6 :: nn 6 [])) [20] [(10, rr 1080), (11, pB r6.2)] [] [(1080, bx (pm (encTask r6.1)))] (an (Find_crewSpec p0 p2 r6 hr6) tv) ?_))
   refine Sq (DW.regJ (sl2 := [(1, pI p1), (2, pI p2), (3, pI p3), (4, rr 1032), (8, rr 1064), (37, pB ((!r6.2) || (r6.1.process != p2)))]) (ob2 := [(1032, bx (pm (encHierarchy p0))), (c99e1)]) ?_ ?_)
   ·rcases bt (!r6.2) with h7 | h7
    ·exact RT hnt (nn 3 (sk 4 (pT :: []))) [(37, pB true)] (an5 h7 tv) (by kernel_rfl) (.cons rfl (.of_eq (by rw [h7]; try rfl)) .nil)
    ·exact RT hnt (nn 7 (pF :: [])) [(37, pB (r6.1.process != p2))] (an5 h7 tv) (by kernel_rfl) (.cons rfl (.of_eq (by rw [h7]; try rfl)) .nil)
   ·refine condM hm ?_ ?_
    ·intro h8 hm
     obtain ⟨r9, hr9, hm⟩ := bo hm
     refine Sq (RK hnt (o100 [] true r9 :: nn 4 []) [(8, rr 1064), (9, pI r9.2)] [(1064, bx [ow 1304 r9.1.tree.nodes.length, pI r9.1.tree.next, ow 1305 r9.1.tasks.length, pI r9.1.next]), (1304, ob0 (roNode r9.1.tree.nodes)), (1305, ob0 (roTask r9.1.tasks))] (an (refuse_delegateSpec 4 r9 hr9) tv) ?_)
     obtain rfl := sj hm
     exact DW.ret (retK [roNode r9.1.tree.nodes, roTask r9.1.tasks] [1304, 1305] (.tup [.agg [ow 0 r9.1.tree.nodes.length, pI r9.1.tree.next, ow 1 r9.1.tasks.length, pI r9.1.next], pI r9.2]))
    ·intro h8 hm
     refine Sk ?_
     obtain ⟨r10, hr10, hm⟩ := bo hm
     obtain ⟨r11, hr11, hm⟩ := bo hm
     refine Sq (Sq (RD hnt (nn 5 (o101 [] true r10 :: o104 [] true r11 :: .no :: [])) [1, 37] [(12, pI r11)] [] [] (an (Threads_crewSpec p0 p2 r10 hr10) (an (moves_delegateSpec p0 p1 p3 r10 r11 hr11) tv)) ?_))
     refine Sq (RD hnt (nn 2 []) [] [(49, pB (r11 != 0))] [] [] tv ?_)
     refine condM hm ?_ ?_
     ·intro h12 hm
      obtain ⟨r13, hr13, hm⟩ := bo hm
      refine Sq (RK hnt (.no :: o100 [] true r13 :: nn 4 []) [(8, rr 1064), (9, pI r13.2)] [(1064, bx [ow 1408 r13.1.tree.nodes.length, pI r13.1.tree.next, ow 1409 r13.1.tasks.length, pI r13.1.next]), (1408, ob0 (roNode r13.1.tree.nodes)), (1409, ob0 (roTask r13.1.tasks))] (an (refuse_delegateSpec r11 r13 hr13) tv) ?_)
      obtain rfl := sj hm
      exact DW.ret (retK [roNode r13.1.tree.nodes, roTask r13.1.tasks] [1408, 1409] (.tup [.agg [ow 0 r13.1.tree.nodes.length, pI r13.1.tree.next, ow 1 r13.1.tasks.length, pI r13.1.next], pI r13.2]))
     ·intro h12 hm
      refine Sk ?_
      obtain ⟨r14, hr14, hm⟩ := bo hm
      refine Sq (RK hnt (nn 3 (o108 [] true r14 :: nn 4 [])) [(8, rr 1064), (9, pI r14.2)] [(1064, bx [ow 1456 r14.1.tree.nodes.length, pI r14.1.tree.next, ow 1457 r14.1.tasks.length, pI r14.1.next]), (1456, ob0 (roNode r14.1.tree.nodes)), (1457, ob0 (roTask r14.1.tasks))] (an (Attach_threadedSpec p0 p2 p3 r14 hr14) tv) ?_)
      obtain rfl := sj hm
      exact DW.ret (retK [roNode r14.1.tree.nodes, roTask r14.1.tasks] [1456, 1457] (.tup [.agg [ow 0 r14.1.tree.nodes.length, pI r14.1.tree.next, ow 1 r14.1.tasks.length, pI r14.1.next], pI r14.2]))
 ·rcases bt (!r1) with h2 | h2
  ·replace hm := if_t h2 hm
   refine RD hnt (.no :: o38 [] true r1 :: nn 2 (sk 3 (pT :: []))) [] [(20, pB true)] [] [] (an (user_delegateSpec p1 r1 hr1) (an4 h2 tv)) ?_
   exact jD true hm Conv.eqK
  ·replace hm := if_f h2 hm
   obtain ⟨r3, hr3, hm⟩ := bo hm
   refine RD hnt (.no :: o38 [] true r1 :: nn 3 (o49 [] true r3 :: .no :: pF :: [])) [] [(20, pB (!r3))] [] [] (an (user_delegateSpec p1 r1 hr1) (an2 h2 (an (Fits_threadedSpec p0 r3 hr3) (an2 h2 tv)))) ?_
   exact jD (!r3) hm Conv.eqK
abbrev o99 (ks : List Nat) (b : Bool) (RES : Hierarchy × Int) : Orc := .call 59 ks b (.tup [.agg [ow 0 RES.1.tree.nodes.length, pI RES.1.tree.next, ow 1 RES.1.tasks.length, pI RES.1.next], pI RES.2]) [] [roNode RES.1.tree.nodes, roTask RES.1.tasks]

theorem sane_law9Spec (RES : Bool) (hm : sane_law9 = some RES) : Spec Tryz.prog 53 [] [] (pB RES) [] [] := by
 unfold sane_law9 at hm
 refine SO Tryz.func53 rfl rfl [] [] ?_
 intro cx hnt
 refine Sq (RK hnt (.no :: []) [] [] tv ?_)
 obtain ⟨r1, hr1, hm⟩ := bo hm
 obtain ⟨r2, hr2, hm⟩ := bo hm
 refine Sq (RK hnt (o4 [] true r1 :: o6 [] false r2 :: nn 8 []) [(1, rr 1008), (2, pI r2.2.1)] [(1008, bx [ow 1144 r2.1.tree.nodes.length, pI r2.1.tree.next, ow 1145 r2.1.tasks.length, pI r2.1.next]), (1144, ob0 (roNode r2.1.tree.nodes)), (1145, ob0 (roTask r2.1.tasks))] (an (New_ref6Spec r1 hr1) (an (Create_ref8Spec r1 1 (bs [97]) r2 hr2) tv)) ?_)
 refine Sq (DW.cv [] [] [1144] [(1008, bx [.p (slNode r2.1.tree.nodes), pI r2.1.tree.next, ow 1145 r2.1.tasks.length, pI r2.1.next])] (Conv.frz [1144]) ?_)
 obtain ⟨r4, hr4, hm⟩ := bo hm
 refine RD hnt (nn 3 (o29 [] true r4 :: nn 6 [])) [] [(4, rr 1032), (5, pI r4.2)] [] [(1032, bx [ow 1208 r4.1.nodes.length, pI r4.1.next]), (1208, ob0 (roNode r4.1.nodes))] (an (Grant_delegateSpec r2.1.tree 0 r2.2.1 7 r4 hr4) tv) ?_
 refine Sq (RD hnt (nn 3 []) [4] [] [1032] [(1008, bx [ow 1208 r4.1.nodes.length, pI r4.1.next, ow 1145 r2.1.tasks.length, pI r2.1.next])] tv ?_)
 refine Sq (DW.cv [] [] [1208] [(1008, bx [.p (slNode r4.1.nodes), pI r4.1.next, ow 1145 r2.1.tasks.length, pI r2.1.next])] (Conv.frz [1208]) ?_)
 refine DW.cv [] [] [1145] [(1008, bx [.p (slNode r4.1.nodes), pI r4.1.next, .p (slTask r2.1.tasks), pI r2.1.next])] (Conv.frz [1145]) ?_
 obtain ⟨r7, hr7, hm⟩ := bo hm
 refine RD hnt (nn 2 (o47 [] true r7 :: nn 7 [])) [] [(6, pI r7.2.1), (7, pI r7.2.2)] [] [(1008, bx [ow 1272 r7.1.tree.nodes.length, pI r7.1.tree.next, ow 1273 r7.1.tasks.length, pI r7.1.next]), (1272, ob0 (roNode r7.1.tree.nodes)), (1273, ob0 (roTask r7.1.tasks))] (an (Create_delegateSpec ({ tree := r4.1, tasks := r2.1.tasks, next := r2.1.next } : Hierarchy) 7 r2.2.1 (bs [98]) r7 hr7) tv) ?_
 refine Sq (DW.cv [] [] [1272] [(1008, bx [.p (slNode r7.1.tree.nodes), pI r7.1.tree.next, ow 1273 r7.1.tasks.length, pI r7.1.next])] (Conv.frz [1272]) ?_)
 refine DW.cv [] [] [1273] [(1008, bx (pm (encHierarchy r7.1)))] (Conv.frz [1273]) ?_
 obtain ⟨r10, hr10, hm⟩ := bo hm
 refine RK hnt (.no :: o97 [] true r10 :: nn 7 []) [(1, rr 1008), (2, pI r2.2.1), (5, pI r4.2), (6, pI r7.2.1), (7, pI r7.2.2), (8, pI r10.2.1)] [(1008, bx [ow 1320 r10.1.tree.nodes.length, pI r10.1.tree.next, ow 1321 r10.1.tasks.length, pI r10.1.next]), (1320, ob0 (roNode r10.1.tree.nodes)), (1321, ob0 (roTask r10.1.tasks))] (an (Spawn_ref6Spec r7.1 1 7 r10 hr10) tv) ?_
 refine Sq (DW.cv [] [] [1320] [(1008, bx [.p (slNode r10.1.tree.nodes), pI r10.1.tree.next, ow 1321 r10.1.tasks.length, pI r10.1.next])] (Conv.frz [1320]) ?_)
 refine DW.cv [] [] [1321] [(1008, bx (pm (encHierarchy r10.1)))] (Conv.frz [1321]) ?_
 obtain ⟨r13, hr13, hm⟩ := bo hm
 refine RD hnt (nn 2 (o97 [] true r13 :: nn 7 [])) [] [(10, pI r13.2.1)] [] [(1008, bx [ow 1376 r13.1.tree.nodes.length, pI r13.1.tree.next, ow 1377 r13.1.tasks.length, pI r13.1.next]), (1376, ob0 (roNode r13.1.tree.nodes)), (1377, ob0 (roTask r13.1.tasks))] (an (Spawn_ref6Spec r10.1 r2.2.1 7 r13 hr13) tv) ?_
 refine Sq (DW.cv [] [] [1376] [(1008, bx [.p (slNode r13.1.tree.nodes), pI r13.1.tree.next, ow 1377 r13.1.tasks.length, pI r13.1.next])] (Conv.frz [1376]) ?_)
 refine DW.cv [] [] [1377] [(1008, bx (pm (encHierarchy r13.1)))] (Conv.frz [1377]) ?_
 obtain ⟨r16, hr16, hm⟩ := bo hm
 refine RD hnt (nn 3 (o99 [] true r16 :: nn 6 [])) [2, 8] [(13, pI r16.2)] [] [] (an (Move_delegateSpec r13.1 7 r10.2.1 r2.2.1 r16 hr16) tv) ?_
 obtain ⟨r17, hr17, hm⟩ := bo hm
 refine Sq (RD hnt (nn 3 (o99 [] true r17 :: nn 6 [])) [1, 6, 10] [(15, pI r17.2)] [1008] [] (an (Move_delegateSpec r13.1 7 r13.2.1 r7.2.1 r17 hr17) tv) ?_)
 refine Sq (DW.regJ (sl2 := [(0, pB ((((r4.2 == 0) && (r7.2.2 == 0)) && (r16.2 == 8)) && (r17.2 == 0)))]) (ob2 := []) ?_ ?_)
 ·rcases bt (r4.2 == 0) with h18 | h18
  ·rcases bt (r7.2.2 == 0) with h19 | h19
   ·rcases bt (r16.2 == 8) with h20 | h20
    ·exact RT hnt (nn 5 (pT :: nn 3 (pT :: nn 3 (pT :: .no :: [])))) [(0, pB (r17.2 == 0))] (an3 h18 (an3 h19 (an3 h20 tv))) (by kernel_rfl) (.cons rfl (.of_eq (by rw [h18, h19, h20]; try rfl)) .nil)
    ·exact RT hnt (nn 5 (pT :: nn 3 (pT :: .no :: sk 2 (pF :: .no :: [])))) [(0, pB false)] (an3 h18 (an3 h19 (an3 h20 tv))) (by kernel_rfl) (.cons rfl (.of_eq (by rw [h18, h19, h20]; try rfl)) .nil)
   ·exact RT hnt (nn 5 (pT :: .no :: sk 2 (pF :: .no :: sk 2 (pF :: .no :: [])))) [(0, pB false)] (an3 h18 (an3 h19 (an3 ff tv))) (by kernel_rfl) (.cons rfl (.of_eq (by rw [h18, h19]; try rfl)) .nil)
  ·exact RT hnt (nn 3 (sk 2 (pF :: .no :: sk 2 (pF :: .no :: sk 2 (pF :: .no :: []))))) [(0, pB false)] (an3 h18 (an6 ff tv)) (by kernel_rfl) (.cons rfl (.of_eq (by rw [h18]; try rfl)) .nil)
 ·refine DW.ret ?_
  obtain rfl := sj hm
  exact retK [] [] (pB ((((r4.2 == 0) && (r7.2.2 == 0)) && (r16.2 == 8)) && (r17.2 == 0)))
abbrev o3 (ks : List Nat) (b : Bool) (RES : Bool) : Orc := .call 53 ks b (pB RES) [] []

theorem Roll_madeSpec (p0 : List Int) (RES : Dice) (hm : Roll_made p0 = some RES) : Spec Tryz.prog 17 [.p (slI p0)] [] (rr 0) [] [.box (pm (encDice RES))] := by
 unfold Roll_made at hm
 refine SO Tryz.func17 rfl rfl [(0, .p (slI p0))] [] ?_
 intro cx hnt
 refine Sq (RK hnt (.no :: []) [(0, .p (slI p0))] [] tv ?_)
 refine Sq (RK hnt (nn 4 []) [(2, rr 1040)] [(1040, bx [.p (slI p0), pI 0])] tv ?_)
 obtain rfl := sj hm
 exact DW.ret (retK [.box [.p (slI p0), pI 0]] [1040] (rr 0))
abbrev o111 (ks : List Nat) (b : Bool) (RES : Dice) : Orc := .call 17 ks b (rr 0) [] [.box (pm (encDice RES))]

abbrev c114e1 (p0 : Dice) := (p0.l.getD (Int.toNat (w64 ((w64 (p0.atF + 1)) - 1))) 0)
theorem Next_Dice_madeSpec (p0 : Dice) (p1 : Int) (RES : Int × Dice) (hm : Next_Dice_made p0 p1 = some RES) : Spec Tryz.prog 19 [rr 0, pI p1] [.box (pm (encDice p0))] (pI RES.1) [.box (pm (encDice RES.2))] [] := by
 unfold Next_Dice_made at hm
 refine SO Tryz.func19 rfl rfl [(0, rr 0), (1, pI p1)] [(0, bx (pm (encDice p0)))] ?_
 intro cx hnt
 refine Sq (RD hnt (.no :: []) [] [] [] [] tv ?_)
 refine Sq (Sq (DW.regJ (sl2 := [(0, rr 0), (1, pI p1), (19, pB ((decide (p0.atF ≥ ((p0.l.length : Nat) : Int))) || (decide (p1 < 1))))]) (ob2 := [(0, bx (pm (encDice p0)))]) ?_ ?_))
 ·rcases bt (decide (p0.atF ≥ ((p0.l.length : Nat) : Int))) with h1 | h1
  ·exact RT hnt (nn 11 (sk 2 (pT :: []))) [(19, pB true)] (an3 h1 tv) (by kernel_rfl) (.cons rfl (.of_eq (by rw [h1]; try rfl)) .nil)
  ·exact RT hnt (nn 13 (pF :: [])) [(19, pB (decide (p1 < 1)))] (an3 h1 tv) (by kernel_rfl) (.cons rfl (.of_eq (by rw [h1]; try rfl)) .nil)
 ·refine condM hm ?_ ?_
  ·intro h2 hm
   refine Sq (RD hnt (.no :: []) [0, 1, 19] [(4, pI 0)] [] [] tv ?_)
   obtain rfl := sj hm
   exact DW.ret (retK [.box (pm (encDice p0))] [] (pI 0))
  ·intro h2 hm
   refine Sk ?_
   refine Sq (RD hnt (nn 8 []) [19] [] [] [(0, bx [.p (slI p0.l), pI (w64 (p0.atF + 1))])] tv ?_)
   obtain ⟨g3, g4, hm⟩ := go2 hm
   refine Sq (RD hnt (nn 14 []) [0] [(5, pI (Int.tmod (c114e1 p0) p1))] [] [] (an g3.1 (an g3.2 (an g4 tv))) ?_)
   refine Sq (Sq (RD hnt (nn 2 []) [] [(41, pB (decide ((Int.tmod (c114e1 p0) p1) < 0)))] [] [] tv ?_))
   refine Jn (ι := Int) (fun (y1 : Int) => mkSt [(5, pI y1)] [(0, bx [.p (slI p0.l), pI (w64 (p0.atF + 1))])]) (fun y1 => (Next_Dice_madeJ1 p0) y1 = some RES) ?_ ?_
   ·intro y1 hm
    unfold Next_Dice_madeJ1 at hm
    refine Sq (RD hnt (nn 2 []) [5] [(4, pI y1)] [] [] tv ?_)
    obtain rfl := sj hm
    exact DW.ret (retK [.box [.p (slI p0.l), pI (w64 (p0.atF + 1))]] [] (pI y1))
   ·refine condM hm ?_ ?_
    ·intro h5 hm
     refine RD hnt (nn 4 []) [1, 41] [(5, pI (w64 ((Int.tmod (c114e1 p0) p1) + p1)))] [] [] tv ?_
     exact jD (w64 ((Int.tmod (c114e1 p0) p1) + p1)) hm Conv.eqK
    ·intro h5 hm
     refine Sk ?_
     exact jD (Int.tmod (c114e1 p0) p1) hm Conv.t0
abbrev o114 (ks : List Nat) (b : Bool) (RES : Int × Dice) : Orc := .call 19 ks b (pI RES.1) [.box (pm (encDice RES.2))] []

theorem Name_Dice_madeSpec (p0 : Dice) (RES : ByteArray × Dice) (hm : Name_Dice_made p0 = some RES) : Spec Tryz.prog 52 [rr 0] [.box (pm (encDice p0))] (pS RES.1) [.box (pm (encDice RES.2))] [] := by
 unfold Name_Dice_made at hm
 refine SO Tryz.func52 rfl rfl [(0, rr 0)] [(0, bx (pm (encDice p0)))] ?_
 intro cx hnt
 refine Sq (RD hnt (.no :: []) [] [] [] [] tv ?_)
 obtain ⟨r3, hr3, hm⟩ := bo hm
 obtain ⟨g4, g5, hm⟩ := go2 hm
 refine Sq (RK hnt (.asR (ow 1024 [(bs [97]), (bs [98]), (bs [99]), (bs [119, 101, 98]), (bs [100, 98, 45, 49]), (bs [88, 95, 57])].length) [(bs [97]), (bs [98]), (bs [99]), (bs [119, 101, 98]), (bs [100, 98, 45, 49]), (bs [88, 95, 57])].length (elems encS ByteArray.empty [(bs [97]), (bs [98]), (bs [99]), (bs [119, 101, 98]), (bs [100, 98, 45, 49]), (bs [88, 95, 57])]) :: .no :: o114 [0] true r3 :: nn 3 []) [(2, pS ([(bs [97]), (bs [98]), (bs [99]), (bs [119, 101, 98]), (bs [100, 98, 45, 49]), (bs [88, 95, 57])].getD (Int.toNat r3.1) ByteArray.empty))] [(0, bx (pm (encDice r3.2)))] (an (congrArg (MV.own 1024 0 0) (RowIs.asP (enc := encS) (d := ByteArray.empty) (L := [(bs [97]), (bs [98]), (bs [99]), (bs [119, 101, 98]), (bs [100, 98, 45, 49]), (bs [88, 95, 57])]) (RowIs.lit (enc := encS) (d := ByteArray.empty) (n := 6) (f := (cut 1 [vs (bs [97]), vs (bs [98]), vs (bs [99]), vs (bs [119, 101, 98]), vs (bs [100, 98, 45, 49]), vs (bs [88, 95, 57])])) [(bs [97]), (bs [98]), (bs [99]), (bs [119, 101, 98]), (bs [100, 98, 45, 49]), (bs [88, 95, 57])] rfl (fun | 0, _ => rfl | 1, _ => rfl | 2, _ => rfl | 3, _ => rfl | 4, _ => rfl | 5, _ => rfl | n + 6, h => absurd h (by omega)))).1) (an (RowIs.asP (enc := encS) (d := ByteArray.empty) (L := [(bs [97]), (bs [98]), (bs [99]), (bs [119, 101, 98]), (bs [100, 98, 45, 49]), (bs [88, 95, 57])]) (RowIs.lit (enc := encS) (d := ByteArray.empty) (n := 6) (f := (cut 1 [vs (bs [97]), vs (bs [98]), vs (bs [99]), vs (bs [119, 101, 98]), vs (bs [100, 98, 45, 49]), vs (bs [88, 95, 57])])) [(bs [97]), (bs [98]), (bs [99]), (bs [119, 101, 98]), (bs [100, 98, 45, 49]), (bs [88, 95, 57])] rfl (fun | 0, _ => rfl | 1, _ => rfl | 2, _ => rfl | 3, _ => rfl | 4, _ => rfl | 5, _ => rfl | n + 6, h => absurd h (by omega)))) (an (Next_Dice_madeSpec p0 6 r3 hr3) (an tv (an g4.1 (an g4.2 (an g5 tv))))))) ?_)
 obtain rfl := sj hm
 exact DW.ret (retK [.box (pm (encDice r3.2))] [] (pS ([(bs [97]), (bs [98]), (bs [99]), (bs [119, 101, 98]), (bs [100, 98, 45, 49]), (bs [88, 95, 57])].getD (Int.toNat r3.1) ByteArray.empty)))
abbrev o115 (ks : List Nat) (b : Bool) (RES : ByteArray × Dice) : Orc := .call 52 ks b (pS RES.1) [.box (pm (encDice RES.2))] []

theorem Bool_Dice_madeSpec (p0 : Dice) (p1 : Int) (RES : Bool × Dice) (hm : Bool_Dice_made p0 p1 = some RES) : Spec Tryz.prog 44 [rr 0, pI p1] [.box (pm (encDice p0))] (pB RES.1) [.box (pm (encDice RES.2))] [] := by
 unfold Bool_Dice_made at hm
 refine SO Tryz.func44 rfl rfl [(0, rr 0), (1, pI p1)] [(0, bx (pm (encDice p0)))] ?_
 intro cx hnt
 refine Sq (RD hnt (.no :: []) [] [] [] [] tv ?_)
 obtain ⟨r1, hr1, hm⟩ := bo hm
 refine Sq (RK hnt (nn 2 (o114 [0] true r1 :: nn 4 [])) [(4, pB (r1.1 == (w64 (p1 - 1))))] [(0, bx (pm (encDice r1.2)))] (an (Next_Dice_madeSpec p0 p1 r1 hr1) (an tv tv)) ?_)
 obtain rfl := sj hm
 exact DW.ret (retK [.box (pm (encDice r1.2))] [] (pB (r1.1 == (w64 (p1 - 1)))))
abbrev o116 (ks : List Nat) (b : Bool) (RES : Bool × Dice) : Orc := .call 44 ks b (pB RES.1) [.box (pm (encDice RES.2))] []

abbrev c117e1 (p0 : Tree) (k1 : Nat) := (p0.nodes.getD k1 (default : Node))
abbrev c117e2 : Nat × Obj := (1032, bx [.p (.sl .nil 0 0 (fun _ => [])), pI 0])
abbrev c117e3 : Nat × Obj := (1032, bx [ow 100000 0, pI 0])
theorem Remove_ref5Spec (p0 : Tree) (p1 : Int) (RES : Tree × Int) (hm : Remove_ref5 p0 p1 = some RES) : Spec Tryz.prog 81 [.p (.agg (encTree p0)), pI p1] [] (.tup [.agg [ow 0 RES.1.nodes.length, pI RES.1.next], pI RES.2]) [] [roNode RES.1.nodes] := by
 unfold Remove_ref5 at hm
 refine SO Tryz.func81 rfl rfl [(0, .p (.agg (encTree p0))), (1, pI p1)] [] ?_
 intro cx hnt
 refine Sq (RK hnt (nn 3 []) [(1, pI p1), (2, rr 1016), (4, rr 1032)] [(1016, bx (pm (encTree p0))), (c117e2)] tv ?_)
 refine Sq (Bk ?_)
 obtain ⟨r1, hr1, hm⟩ := bo hm
 refine Sq (RD hnt (.no :: o10 [] true r1 :: nn 2 []) [] [(8, pB (!r1))] [] [] (an (Check_ref5Spec p0 r1 hr1) tv) ?_)
 refine condM hm ?_ ?_
 ·intro h2 hm
  refine Sq (RD hnt (nn 3 []) [1, 2, 8] [(5, pI 1)] [1016] [] tv ?_)
  refine DW.cv [] [] [] [(c117e3), (100000, ob0 (roNode []))] (Conv.ads [(.o 1032 0, 100000, 6, elems encNode dNode [])]) ?_
  obtain rfl := sj hm
  exact DW.ret (retK [roNode []] [100000] (.tup [.agg [ow 0 0, pI 0], pI 1]))
 ·intro h2 hm
  obtain ⟨r3, hr3, hm⟩ := bo hm
  refine Sq (RD hnt (nn 2 (o15 [] true r3 :: nn 2 [])) [8] [(13, pB (!r3))] [] [] (an (Has_ref5Spec p0 p1 r3 hr3) tv) ?_)
  refine condM hm ?_ ?_
  ·intro h4 hm
   refine Sq (RD hnt (nn 3 []) [1, 2, 13] [(5, pI 4)] [1016] [] tv ?_)
   refine DW.cv [] [] [] [(c117e3), (100000, ob0 (roNode []))] (Conv.ads [(.o 1032 0, 100000, 6, elems encNode dNode [])]) ?_
   obtain rfl := sj hm
   exact DW.ret (retK [roNode []] [100000] (.tup [.agg [ow 0 0, pI 0], pI 4]))
  ·intro h4 hm
   refine Sq (RD hnt (nn 3 []) [13] [(19, pB (p1 == 1))] [] [] tv ?_)
   refine condM hm ?_ ?_
   ·intro h5 hm
    refine Sq (RD hnt (nn 3 []) [1, 2, 19] [(5, pI 9)] [1016] [] tv ?_)
    refine DW.cv [] [] [] [(c117e3), (100000, ob0 (roNode []))] (Conv.ads [(.o 1032 0, 100000, 6, elems encNode dNode [])]) ?_
    obtain rfl := sj hm
    exact DW.ret (retK [roNode []] [100000] (.tup [.agg [ow 0 0, pI 0], pI 9]))
   ·intro h5 hm
    obtain ⟨r6, hr6, hm⟩ := bo hm
    refine Sq (RD hnt (nn 2 (o24 [] true r6 :: nn 3 [])) [19] [(23, pB (decide (((r6.length : Nat) : Int) > 0)))] [] [] (an (Children_ref5Spec p0 p1 r6 hr6) tv) ?_)
    refine condM hm ?_ ?_
    ·intro h7 hm
     refine Sq (RD hnt (nn 3 []) [1, 2, 23] [(5, pI 6)] [1016] [] tv ?_)
     refine DW.cv [] [] [] [(c117e3), (100000, ob0 (roNode []))] (Conv.ads [(.o 1032 0, 100000, 6, elems encNode dNode [])]) ?_
     obtain rfl := sj hm
     exact DW.ret (retK [roNode []] [100000] (.tup [.agg [ow 0 0, pI 0], pI 6]))
    ·intro h7 hm
     refine Sk ?_
     refine DW.done ?_
     show DW _ _ _ _ _
     refine Sq (RD hnt (nn 5 []) [23] [(6, rr 1048)] [] [(1048, bx [.p (.sl .nil 0 0 (fun _ => [])), pI p0.next])] tv ?_)
     refine Sq (Sq (RD hnt (.no :: []) [] [(7, pI 0)] [] [] tv ?_))
     refine Bk ?_
     obtain ⟨hc1, hm⟩ := go1 hm
     refine DW.rangeO (fun (k1 : Nat) (s1 : List Node) => mkSt [(1, pI p1), (2, rr 1016), (4, rr 1032), (6, rr 1048), (7, pI ((k1 : Nat) : Int))] [(1016, bx (pm (encTree p0))), (c117e2), (1048, bx [ow 1448 s1.length, pI p0.next]), (1448, ob0 (roNode s1))]) dNode hm (Conv.ads [(.o 1048 0, 1448, 6, elems encNode dNode [])]) ?_
     intro k1 s1 n1 hk1 hs1 he1
     refine Sq (Sq (RD hnt (nn 5 []) [] [(37, pB (decide (((k1 : Nat) : Int) < ((p0.nodes.length : Nat) : Int))))] [] [] tv ?_))
     refine condK (decide (((k1 : Nat) : Int) < ((p0.nodes.length : Nat) : Int))) ?_ ?_
     ·intro h17
      have hlt1 : k1 < p0.nodes.length := by have := of_decide_eq_true h17; omega
      have hm := hs1 hlt1
      unfold Remove_ref5L1 at hm
      refine Sk ?_
      refine Sq ?_
      refine Jn (ι := List Node) (fun (y3 : List Node) => mkSt [(1, pI p1), (2, rr 1016), (4, rr 1032), (6, rr 1048), (7, pI ((k1 : Nat) : Int))] [(1016, bx (pm (encTree p0))), (c117e2), (1048, bx [ow 1448 y3.length, pI p0.next]), (1448, ob0 (roNode y3))]) (fun y3 => (Remove_ref5J3 n1) y3 = some RES) ?_ ?_
      ·intro y3 hm
       unfold Remove_ref5J3 at hm
       refine RD hnt (nn 3 []) [] [(7, pI (w64 (((k1 : Nat) : Int) + 1)))] [] [] tv ?_
       exact jD y3 ⟨hlt1, hm⟩ (Conv.tp [(7, pI (w64 (((k1 : Nat) : Int) + 1)))] [] (by kernel_rfl) (.cons rfl (.of_eq (congrArg pI (w64_succ hlt1 hc1))) .nil) .nil)
      ·refine Bk ?_
       refine Sq (RD hnt (nn 8 []) [37] [(47, pB ((c117e1 p0 k1).id != p1))] [] [] (an (nn0 k1) (an (ltc hlt1) tv)) ?_)
       refine condM hm ?_ ?_
       ·intro h18 hm
        obtain ⟨g19, hm⟩ := go1 hm
        refine RN hnt (nn 11 []) [(1, pI p1), (2, rr 1016), (4, rr 1032), (6, rr 1048), (7, pI ((k1 : Nat) : Int))] [(1016, bx (pm (encTree p0))), (c117e2), (1048, bx [ow 1448 (s1 ++ [(c117e1 p0 k1)]).length, pI p0.next]), (1448, ob0 (roNode (s1 ++ [(c117e1 p0 k1)])))] [] [(1048, .box [ow 1448 (s1.length + 1), pI p0.next]), (1448, .row 6 (s1.length + 1) (catF s1.length (elNode s1) (cut 6 [vi (c117e1 p0 k1).id, vi (c117e1 p0 k1).parent, vs (c117e1 p0 k1).name, vi (c117e1 p0 k1).control, vi (c117e1 p0 k1).kind, vi (c117e1 p0 k1).owner])))] (an (nn0 k1) (an (ltc hlt1) (an (by omega : (s1.length + 1) * 56 ≤ 140737488355328) tv))) (by kernel_rfl) .nil (.cons rfl (.box (.cons (MLe.ownLen (enc := encNode) (d := dNode) (f := (catF s1.length (elNode s1) (cut 6 [vi (c117e1 p0 k1).id, vi (c117e1 p0 k1).parent, vs (c117e1 p0 k1).name, vi (c117e1 p0 k1).control, vi (c117e1 p0 k1).kind, vi (c117e1 p0 k1).owner]))) (RowIs.cat RowIs.elems (RowIs.lit (enc := encNode) (d := dNode) (n := 1) (f := (cut 6 [vi (c117e1 p0 k1).id, vi (c117e1 p0 k1).parent, vs (c117e1 p0 k1).name, vi (c117e1 p0 k1).control, vi (c117e1 p0 k1).kind, vi (c117e1 p0 k1).owner])) [(c117e1 p0 k1)] rfl (fun | 0, _ => rfl | n + 1, h => absurd h (by omega))))) (.cons .rfl .nil))) (.cons rfl (BLe.typed (RowIs.cat RowIs.elems (RowIs.lit (enc := encNode) (d := dNode) (n := 1) (f := (cut 6 [vi (c117e1 p0 k1).id, vi (c117e1 p0 k1).parent, vs (c117e1 p0 k1).name, vi (c117e1 p0 k1).control, vi (c117e1 p0 k1).kind, vi (c117e1 p0 k1).owner])) [(c117e1 p0 k1)] rfl (fun | 0, _ => rfl | n + 1, h => absurd h (by omega))))) .nil)) ?_
        exact bD (s1 ++ [(c117e1 p0 k1)]) hm .refl
       ·intro h18 hm
        refine Sk ?_
        exact bD s1 hm Conv.t0
     ·intro h17
      have hge1 : ¬ k1 < p0.nodes.length := by have := of_decide_eq_false h17; omega
      have hm := he1 hge1
      unfold Remove_ref5D1 at hm
      refine DW.exit ?_
      refine joinQ_exit ?_
      refine KQ_exit ?_
      refine blockQ_exit ?_
      show DW _ _ _ _ _
      refine Sq (RK hnt (nn 3 []) [(4, rr 1032), (5, pI 0)] [(1032, bx [ow 1448 s1.length, pI p0.next]), (1448, ob0 (roNode s1))] tv ?_)
      obtain rfl := sj hm
      exact DW.ret (retK [roNode s1] [1448] (.tup [.agg [ow 0 s1.length, pI p0.next], pI 0]))
abbrev o117 (ks : List Nat) (b : Bool) (RES : Tree × Int) : Orc := .call 81 ks b (.tup [.agg [ow 0 RES.1.nodes.length, pI RES.1.next], pI RES.2]) [] [roNode RES.1.nodes]

abbrev c113e1 : Nat × Obj := (1032, bx [.p (.sl .nil 0 0 (fun _ => [])), pI 0])
theorem Tree_Dice_madeSpec (p0 : Dice) (p1 : Int) (RES : Tree × Dice) (hm : Tree_Dice_made p0 p1 = some RES) : Spec Tryz.prog 71 [rr 0, pI p1] [.box (pm (encDice p0))] (.p (.agg (encTree RES.1))) [.box (pm (encDice RES.2))] [] := by
 unfold Tree_Dice_made at hm
 refine SO Tryz.func71 rfl rfl [(0, rr 0), (1, pI p1)] [(0, bx (pm (encDice p0)))] ?_
 intro cx hnt
 refine Sq (RD hnt (.no :: []) [] [(4, rr 1032)] [] [(c113e1)] tv ?_)
 obtain ⟨r1, hr1, hm⟩ := bo hm
 refine Sq (RD hnt (o5 [] true r1 :: nn 2 []) [] [(5, rr 1040)] [] [(1040, bx [ow 1104 r1.nodes.length, pI r1.next]), (1104, ob0 (roNode r1.nodes))] (an (New_ref5Spec r1 hr1) tv) ?_)
 obtain ⟨r2, hr2, hm⟩ := bo hm
 refine Sq (Sq (RD hnt (nn 3 (o114 [0] true r2 :: .no :: [])) [1] [(6, pI r2.1)] [] [(0, bx (pm (encDice r2.2)))] (an (Next_Dice_madeSpec p0 (w64 (p1 + 1)) r2 hr2) (an tv tv)) ?_))
 refine Bk ?_
 refine DW.whileO (fun (s1 : Dice × Tree × Int) => mkSt [(0, rr 0), (4, rr 1032), (5, rr 1040), (6, pI s1.2.2)] [(0, bx (pm (encDice s1.1))), (c113e1), (1040, bx (pm (encTree s1.2.1)))]) hm (Conv.frz [1104]) ?_
 intro s1 n1 hm
 unfold Tree_Dice_madeL1 at hm
 refine Sq (Sq (RD hnt (nn 2 []) [] [(19, pB (decide (s1.2.2 > 0)))] [] [] tv ?_))
 refine condM hm ?_ ?_
 ·intro h18 hm
  refine Sk ?_
  refine Sq ?_
  refine Jn (ι := Dice × Tree) (fun (y3 : Dice × Tree) => mkSt [(0, rr 0), (4, rr 1032), (5, rr 1040), (6, pI s1.2.2)] [(0, bx (pm (encDice y3.1))), (c113e1), (1040, bx (pm (encTree y3.2)))]) (fun y3 => (Tree_Dice_madeJ3 s1 n1) y3 = some RES) ?_ ?_
  ·intro y3 hm
   unfold Tree_Dice_madeJ3 at hm
   refine RD hnt (nn 3 []) [] [(6, pI (w64 (s1.2.2 - 1)))] [] [] tv ?_
   exact jD (y3.1, y3.2, (w64 (s1.2.2 - 1))) hm Conv.eqK
  ·refine Bk ?_
   obtain ⟨r19, hr19, hm⟩ := bo hm
   obtain ⟨g20, hm⟩ := go1 hm
   refine Sq (RD hnt (nn 6 (o114 [0] true r19 :: nn 4 [])) [19] [(7, pI (s1.2.1.nodes.getD (Int.toNat r19.1) dNode).id)] [] [(0, bx (pm (encDice r19.2)))] (an (Next_Dice_madeSpec s1.1 ((s1.2.1.nodes.length : Nat) : Int) r19 hr19) (an tv (an g20.1 (an g20.2 tv)))) ?_)
   obtain ⟨r21, hr21, hm⟩ := bo hm
   obtain ⟨r22, hr22, hm⟩ := bo hm
   refine Sq (Sq (RD hnt (nn 3 (o115 [0] true r21 :: o25 [] true r22 :: nn 8 [])) [7] [(8, rr 1064), (10, pI r22.2.2)] [] [(0, bx (pm (encDice r21.2))), (1064, bx [ow 1296 r22.1.nodes.length, pI r22.1.next]), (1296, ob0 (roNode r22.1.nodes))] (an (Name_Dice_madeSpec r19.2 r21 hr21) (an tv (an (Add_ref5Spec s1.2.1 (s1.2.1.nodes.getD (Int.toNat r19.1) dNode).id r21.1 r22 hr22) tv))) ?_))
   refine Sq (RD hnt (nn 2 []) [10] [(42, pB (r22.2.2 == 0))] [] [] tv ?_)
   refine Jn (ι := Tree) (fun (y4 : Tree) => mkSt [(0, rr 0), (4, rr 1032), (5, rr 1040), (6, pI s1.2.2)] [(0, bx (pm (encDice r21.2))), (c113e1), (1040, bx (pm (encTree y4)))]) (fun y4 => (Tree_Dice_madeJ4 s1 n1 r21) y4 = some RES) ?_ ?_
   ·intro y4 hm
    unfold Tree_Dice_madeJ4 at hm
    obtain ⟨r24, hr24, hm⟩ := bo hm
    refine Sq (RD hnt (.no :: o116 [0] true r24 :: []) [] [(45, pB r24.1)] [] [(0, bx (pm (encDice r24.2)))] (an (Bool_Dice_madeSpec r21.2 6 r24 hr24) (an tv tv)) ?_)
    refine condM hm ?_ ?_
    ·intro h25 hm
     obtain ⟨r26, hr26, hm⟩ := bo hm
     obtain ⟨g27, hm⟩ := go1 hm
     obtain ⟨r28, hr28, hm⟩ := bo hm
     refine Sq (RD hnt (nn 7 (o114 [0] true r26 :: nn 3 (o117 [] true r28 :: nn 6 []))) [45] [(11, rr 1088), (12, pI r28.2)] [] [(0, bx (pm (encDice r26.2))), (1088, bx [ow 1464 r28.1.nodes.length, pI r28.1.next]), (1464, ob0 (roNode r28.1.nodes))] (an (Next_Dice_madeSpec r24.2 ((y4.nodes.length : Nat) : Int) r26 hr26) (an tv (an g27.1 (an g27.2 (an (Remove_ref5Spec y4 (y4.nodes.getD (Int.toNat r26.1) dNode).id r28 hr28) tv))))) ?_)
     refine Sq (RD hnt (nn 2 []) [12] [(62, pB (r28.2 == 0))] [] [] tv ?_)
     refine condM hm ?_ ?_
     ·intro h29 hm
      refine RD hnt (nn 2 []) [11, 62] [] [1088] [(1040, bx [ow 1464 r28.1.nodes.length, pI r28.1.next])] tv ?_
      exact bD (r26.2, r28.1) hm (Conv.frz [1464])
     ·intro h29 hm
      refine Sk ?_
      exact bD (r26.2, y4) hm Conv.t0
    ·intro h25 hm
     refine Sk ?_
     exact bD (r24.2, y4) hm Conv.t0
   ·refine condM hm ?_ ?_
    ·intro h23 hm
     refine RD hnt (nn 2 []) [8, 42] [] [1064] [(1040, bx [ow 1296 r22.1.nodes.length, pI r22.1.next])] tv ?_
     exact jD r22.1 hm (Conv.frz [1296])
    ·intro h23 hm
     refine Sk ?_
     exact jD s1.2.1 hm Conv.t0
 ·intro h18 hm
  refine DW.exit ?_
  refine joinQ_exit ?_
  refine KQ_exit ?_
  refine blockQ_exit ?_
  show DW _ _ _ _ _
  refine Sq (RD hnt (nn 2 []) [0, 5, 6, 19] [] [1040] [(1032, bx (pm (encTree s1.2.1)))] tv ?_)
  obtain rfl := sj hm
  exact DW.ret (retK [.box (pm (encDice s1.1))] [] (.p (.agg (encTree s1.2.1))))
abbrev o113 (ks : List Nat) (b : Bool) (RES : Tree × Dice) : Orc := .call 71 ks b (.p (.agg (encTree RES.1))) [.box (pm (encDice RES.2))] []

theorem Group_Dice_madeSpec (p0 : Dice) (p1 : Tree) (RES : Int × Dice) (hm : Group_Dice_made p0 p1 = some RES) : Spec Tryz.prog 35 [rr 0, .p (.agg (encTree p1))] [.box (pm (encDice p0))] (pI RES.1) [.box (pm (encDice RES.2))] [] := by
 unfold Group_Dice_made at hm
 refine SO Tryz.func35 rfl rfl [(0, rr 0), (1, .p (.agg (encTree p1)))] [(0, bx (pm (encDice p0)))] ?_
 intro cx hnt
 refine Sq (RD hnt (nn 2 []) [1] [(3, rr 1024)] [] [(1024, bx (pm (encTree p1)))] tv ?_)
 obtain ⟨r1, hr1, hm⟩ := bo hm
 refine Sq (Sq ?_)
 refine Jn (ι := Bool) (fun (y1 : Bool) => mkSt [(0, rr 0), (3, rr 1024), (12, pB y1)] [(0, bx (pm (encDice r1.2))), (1024, bx (pm (encTree p1)))]) (fun y1 => (Group_Dice_madeJ1 p1 r1) y1 = some RES) ?_ ?_
 ·intro y1 hm
  unfold Group_Dice_madeJ1 at hm
  refine condM hm ?_ ?_
  ·intro h3 hm
   obtain ⟨r4, hr4, hm⟩ := bo hm
   refine Sq (RK hnt (.no :: o114 [0] true r4 :: nn 2 []) [(4, pI (w64 (r4.1 - 1)))] [(0, bx (pm (encDice r4.2)))] (an (Next_Dice_madeSpec r1.2 9 r4 hr4) (an tv tv)) ?_)
   obtain rfl := sj hm
   exact DW.ret (retK [.box (pm (encDice r4.2))] [] (pI (w64 (r4.1 - 1))))
  ·intro h3 hm
   refine Sk ?_
   obtain ⟨r5, hr5, hm⟩ := bo hm
   obtain ⟨g6, hm⟩ := go1 hm
   refine Sq (RK hnt (nn 6 (o114 [0] true r5 :: nn 4 [])) [(4, pI (p1.nodes.getD (Int.toNat r5.1) dNode).id)] [(0, bx (pm (encDice r5.2)))] (an (Next_Dice_madeSpec r1.2 ((p1.nodes.length : Nat) : Int) r5 hr5) (an tv (an g6.1 (an g6.2 tv)))) ?_)
   obtain rfl := sj hm
   exact DW.ret (retK [.box (pm (encDice r5.2))] [] (pI (p1.nodes.getD (Int.toNat r5.1) dNode).id))
 ·rcases bt r1.1 with h2 | h2
  ·replace hm := if_t h2 hm
   refine RD hnt (.no :: o116 [0] true r1 :: .no :: sk 4 (pT :: [])) [] [(12, pB true)] [] [(0, bx (pm (encDice r1.2)))] (an (Bool_Dice_madeSpec p0 15 r1 hr1) (an tv (an5 h2 tv))) ?_
   exact jD true hm Conv.eqK
  ·replace hm := if_f h2 hm
   refine RD hnt (.no :: o116 [0] true r1 :: nn 5 (pF :: [])) [] [(12, pB (((p1.nodes.length : Nat) : Int) == 0))] [] [(0, bx (pm (encDice r1.2)))] (an (Bool_Dice_madeSpec p0 15 r1 hr1) (an tv (an5 h2 tv))) ?_
   exact jD (((p1.nodes.length : Nat) : Int) == 0) hm Conv.eqK
abbrev o119 (ks : List Nat) (b : Bool) (RES : Int × Dice) : Orc := .call 35 ks b (pI RES.1) [.box (pm (encDice RES.2))] []

theorem Controllers_Dice_madeSpec (p0 : Dice) (RES : Int × Dice) (hm : Controllers_Dice_made p0 = some RES) : Spec Tryz.prog 43 [rr 0] [.box (pm (encDice p0))] (pI RES.1) [.box (pm (encDice RES.2))] [] := by
 unfold Controllers_Dice_made at hm
 refine SO Tryz.func43 rfl rfl [(0, rr 0)] [(0, bx (pm (encDice p0)))] ?_
 intro cx hnt
 refine Sq (RD hnt (.no :: []) [] [] [] [] tv ?_)
 obtain ⟨r3, hr3, hm⟩ := bo hm
 obtain ⟨g4, g5, hm⟩ := go2 hm
 refine Sq (RK hnt (.asR (ow 1024 [1, 9, 31, 2, 25, 4, 0, 32, (-1)].length) [1, 9, 31, 2, 25, 4, 0, 32, (-1)].length (elems encI 0 [1, 9, 31, 2, 25, 4, 0, 32, (-1)]) :: .no :: o114 [0] true r3 :: nn 3 []) [(2, pI ([1, 9, 31, 2, 25, 4, 0, 32, (-1)].getD (Int.toNat r3.1) 0))] [(0, bx (pm (encDice r3.2)))] (an (congrArg (MV.own 1024 0 0) (RowIs.asP (enc := encI) (d := 0) (L := [1, 9, 31, 2, 25, 4, 0, 32, (-1)]) (RowIs.lit (enc := encI) (d := 0) (n := 9) (f := (cut 1 [vi 1, vi 9, vi 31, vi 2, vi 25, vi 4, vi 0, vi 32, vi (-1)])) [1, 9, 31, 2, 25, 4, 0, 32, (-1)] rfl (fun | 0, _ => rfl | 1, _ => rfl | 2, _ => rfl | 3, _ => rfl | 4, _ => rfl | 5, _ => rfl | 6, _ => rfl | 7, _ => rfl | 8, _ => rfl | n + 9, h => absurd h (by omega)))).1) (an (RowIs.asP (enc := encI) (d := 0) (L := [1, 9, 31, 2, 25, 4, 0, 32, (-1)]) (RowIs.lit (enc := encI) (d := 0) (n := 9) (f := (cut 1 [vi 1, vi 9, vi 31, vi 2, vi 25, vi 4, vi 0, vi 32, vi (-1)])) [1, 9, 31, 2, 25, 4, 0, 32, (-1)] rfl (fun | 0, _ => rfl | 1, _ => rfl | 2, _ => rfl | 3, _ => rfl | 4, _ => rfl | 5, _ => rfl | 6, _ => rfl | 7, _ => rfl | 8, _ => rfl | n + 9, h => absurd h (by omega)))) (an (Next_Dice_madeSpec p0 9 r3 hr3) (an tv (an g4.1 (an g4.2 (an g5 tv))))))) ?_)
 obtain rfl := sj hm
 exact DW.ret (retK [.box (pm (encDice r3.2))] [] (pI ([1, 9, 31, 2, 25, 4, 0, 32, (-1)].getD (Int.toNat r3.1) 0)))
abbrev o120 (ks : List Nat) (b : Bool) (RES : Int × Dice) : Orc := .call 43 ks b (pI RES.1) [.box (pm (encDice RES.2))] []

theorem Set_ref7Spec (p0 : Int) (RES : Bool) (hm : Set_ref7 p0 = some RES) : Spec Tryz.prog 147 [pI p0] [] (pB RES) [] [] := by
 unfold Set_ref7 at hm
 refine SO Tryz.func147 rfl rfl [(0, pI p0)] [] ?_
 intro cx hnt
 refine Sq (RK hnt (.no :: []) [(0, pI p0)] [] tv ?_)
 refine Sq (DW.regJ (sl2 := [(2, pB ((decide (p0 ≥ 0)) && (decide (p0 ≤ 31))))]) (ob2 := []) ?_ ?_)
 ·rcases bt (decide (p0 ≥ 0)) with h1 | h1
  ·exact RT hnt (nn 5 (pT :: .no :: [])) [(2, pB (decide (p0 ≤ 31)))] (an3 h1 tv) (by kernel_rfl) (.cons rfl (.of_eq (by rw [h1]; try rfl)) .nil)
  ·exact RT hnt (nn 3 (sk 2 (pF :: .no :: []))) [(2, pB false)] (an3 h1 tv) (by kernel_rfl) (.cons rfl (.of_eq (by rw [h1]; try rfl)) .nil)
 ·refine DW.ret ?_
  obtain rfl := sj hm
  exact retK [] [] (pB ((decide (p0 ≥ 0)) && (decide (p0 ≤ 31))))
abbrev o123 (ks : List Nat) (b : Bool) (RES : Bool) : Orc := .call 147 ks b (pB RES) [] []

abbrev c124e1 : Nat × Obj := (1032, bx [.p (.sl .nil 0 0 (fun _ => [])), pI 0])
theorem Set_ref5Spec (p0 : Tree) (p1 : Node) (RES : Tree) (hm : Set_ref5 p0 p1 = some RES) : Spec Tryz.prog 97 [.p (.agg (encTree p0)), .p (.agg (encNode p1))] [] (.agg [ow 0 RES.nodes.length, pI RES.next]) [] [roNode RES.nodes] := by
 unfold Set_ref5 at hm
 refine SO Tryz.func97 rfl rfl [(0, .p (.agg (encTree p0))), (1, .p (.agg (encNode p1)))] [] ?_
 intro cx hnt
 refine Sq (RK hnt (nn 3 []) [(2, rr 1016), (3, rr 1024), (4, rr 1032)] [(1016, bx (pm (encTree p0))), (1024, bx (pm (encNode p1))), (c124e1)] tv ?_)
 obtain ⟨r1, hr1, hm⟩ := bo hm
 refine Sq (RD hnt (.no :: o27 [] true r1 :: nn 2 []) [2] [(5, rr 1040)] [1016] [(1040, bx [ow 1064 r1.nodes.length, pI r1.next]), (1064, ob0 (roNode r1.nodes))] (an (Copy_ref5Spec p0 r1 hr1) tv) ?_)
 refine Sq (Sq (RD hnt (.no :: []) [] [(6, pI 0)] [] [] tv ?_))
 refine Bk ?_
 refine DW.whileO (fun (s1 : (List Node) × Int) => mkSt [(3, rr 1024), (4, rr 1032), (5, rr 1040), (6, pI s1.2)] [(1024, bx (pm (encNode p1))), (c124e1), (1040, bx [ow 1064 s1.1.length, pI r1.next]), (1064, ob0 (roNode s1.1))]) hm Conv.eqK ?_
 intro s1 n1 hm
 unfold Set_ref5L1 at hm
 refine Sq (Sq (RD hnt (nn 5 []) [] [(13, pB (decide (s1.2 < ((s1.1.length : Nat) : Int))))] [] [] tv ?_))
 refine condM hm ?_ ?_
 ·intro h8 hm
  refine Sk ?_
  refine Sq ?_
  refine Jn (ι := List Node) (fun (y2 : List Node) => mkSt [(3, rr 1024), (4, rr 1032), (5, rr 1040), (6, pI s1.2)] [(1024, bx (pm (encNode p1))), (c124e1), (1040, bx [ow 1064 y2.length, pI r1.next]), (1064, ob0 (roNode y2))]) (fun y2 => (Set_ref5J2 s1 n1) y2 = some RES) ?_ ?_
  ·intro y2 hm
   unfold Set_ref5J2 at hm
   refine RD hnt (nn 3 []) [] [(6, pI (w64 (s1.2 + 1)))] [] [] tv ?_
   exact jD (y2, (w64 (s1.2 + 1))) hm Conv.eqK
  ·refine Bk ?_
   obtain ⟨g9, g10, hm⟩ := go2 hm
   refine Sq (RD hnt (nn 9 []) [13] [(24, pB ((s1.1.getD (Int.toNat s1.2) dNode).id == p1.id))] [] [] (an g9.1 (an g9.2 (an g10 tv))) ?_)
   refine condM hm ?_ ?_
   ·intro h11 hm
    obtain ⟨g12, g13, hm⟩ := go2 hm
    refine RN hnt (nn 6 []) [(3, rr 1024), (4, rr 1032), (5, rr 1040), (6, pI s1.2)] [(1024, bx (pm (encNode p1))), (c124e1), (1040, bx [ow 1064 (s1.1.set (Int.toNat s1.2) p1).length, pI r1.next]), (1064, ob0 (roNode (s1.1.set (Int.toNat s1.2) p1)))] [] [(1040, .box [ow 1064 s1.1.length, pI r1.next]), (1064, .row 6 s1.1.length (updF (elNode s1.1) (Int.toNat s1.2) [vi p1.id, vi p1.parent, vs p1.name, vi p1.control, vi p1.kind, vi p1.owner]))] (an g12.1 (an g12.2 (an g13 tv))) (by kernel_rfl) .nil (.cons rfl (.box (.cons (MLe.ownLen (enc := encNode) (d := dNode) (f := (updF (elNode s1.1) (Int.toNat s1.2) [vi p1.id, vi p1.parent, vs p1.name, vi p1.control, vi p1.kind, vi p1.owner])) (RowIs.upd RowIs.elems p1 rfl)) (.cons .rfl .nil))) (.cons rfl (BLe.typed (RowIs.upd RowIs.elems p1 rfl)) .nil)) ?_
    exact bD (s1.1.set (Int.toNat s1.2) p1) hm .refl
   ·intro h11 hm
    refine Sk ?_
    exact bD s1.1 hm Conv.t0
 ·intro h8 hm
  refine DW.exit ?_
  refine joinQ_exit ?_
  refine KQ_exit ?_
  refine blockQ_exit ?_
  show DW _ _ _ _ _
  refine Sq (RD hnt (nn 2 []) [3, 5, 6, 13] [] [1024, 1040] [(1032, bx [ow 1064 s1.1.length, pI r1.next])] tv ?_)
  obtain rfl := sj hm
  exact DW.ret (retK [roNode s1.1] [1064] (.agg [ow 0 s1.1.length, pI r1.next]))
abbrev o124 (ks : List Nat) (b : Bool) (RES : Tree) : Orc := .call 97 ks b (.agg [ow 0 RES.nodes.length, pI RES.next]) [] [roNode RES.nodes]

abbrev c122e1 : Nat × Obj := (1064, bx [.p (.sl .nil 0 0 (fun _ => [])), pI 0, .p (.sl .nil 0 0 (fun _ => [])), pI 0])
abbrev c122e2 : Nat × Obj := (1064, bx [ow 100000 0, pI 0, ow 100001 0, pI 0])
abbrev c122e3 (r8 : Node × Bool) (p3 : Int) (p2 : Int) : Nat × Obj := (1080, bx [pI r8.1.id, pI r8.1.parent, pS r8.1.name, pI (kor .i64 (kandNot .i64 r8.1.control p3) p2), pI r8.1.kind, pI r8.1.owner])
theorem Write_ref7Spec (p0 : Hierarchy) (p1 : Int) (p2 : Int) (p3 : Int) (RES : Hierarchy × Int) (hm : Write_ref7 p0 p1 p2 p3 = some RES) : Spec Tryz.prog 100 [.p (.agg (encHierarchy p0)), pI p1, pI p2, pI p3] [] (.tup [.agg [ow 0 RES.1.tree.nodes.length, pI RES.1.tree.next, ow 1 RES.1.tasks.length, pI RES.1.next], pI RES.2]) [] [roNode RES.1.tree.nodes, roTask RES.1.tasks] := by
 unfold Write_ref7 at hm
 refine SO Tryz.func100 rfl rfl [(0, .p (.agg (encHierarchy p0))), (1, pI p1), (2, pI p2), (3, pI p3)] [] ?_
 intro cx hnt
 refine Sq (RD hnt (nn 3 []) [0] [(4, rr 1032), (8, rr 1064)] [] [(1032, bx (pm (encHierarchy p0))), (c122e1)] tv ?_)
 obtain ⟨r1, hr1, hm⟩ := bo hm
 refine Sq (Sq ?_)
 refine Jn (ι := Bool) (fun (y1 : Bool) => mkSt [(1, pI p1), (2, pI p2), (3, pI p3), (4, rr 1032), (8, rr 1064), (37, pB y1)] [(1032, bx (pm (encHierarchy p0))), (c122e1)]) (fun y1 => (Write_ref7J1 p0 p1 p2 p3) y1 = some RES) ?_ ?_
 ·intro y1 hm
  unfold Write_ref7J1 at hm
  refine condM hm ?_ ?_
  ·intro h7 hm
   refine Sq (RD hnt (nn 3 []) [1, 2, 3, 4, 37] [(9, pI 1)] [1032] [] tv ?_)
   refine DW.cv [] [] [] [(c122e2), (100000, ob0 (roNode [])), (100001, ob0 (roTask []))] (Conv.ads [(.o 1064 0, 100000, 6, elems encNode dNode []), (.o 1064 2, 100001, 4, elems encTask dTask [])]) ?_
   obtain rfl := sj hm
   exact DW.ret (retK [roNode [], roTask []] [100000, 100001] (.tup [.agg [ow 0 0, pI 0, ow 1 0, pI 0], pI 1]))
  ·intro h7 hm
   refine Sk ?_
   obtain ⟨r8, hr8, hm⟩ := bo hm
   refine Sq (RD hnt (nn 3 (o16 [] true r8 :: nn 6 [])) [37] [(10, rr 1080), (11, pB r8.2)] [] [(1080, bx (pm (encNode r8.1)))] (an (Find_ref5Spec p0.tree p1 r8 hr8) tv) ?_)
   refine Sq (Sq (RD hnt (nn 2 []) [11] [(47, pB (!r8.2))] [] [] tv ?_))
   refine condM hm ?_ ?_
   ·intro h9 hm
    refine Sq (RD hnt (nn 3 []) [1, 2, 3, 4, 10, 47] [(9, pI 4)] [1032, 1080] [] tv ?_)
    refine DW.cv [] [] [] [(c122e2), (100000, ob0 (roNode [])), (100001, ob0 (roTask []))] (Conv.ads [(.o 1064 0, 100000, 6, elems encNode dNode []), (.o 1064 2, 100001, 4, elems encTask dTask [])]) ?_
    obtain rfl := sj hm
    exact DW.ret (retK [roNode [], roTask []] [100000, 100001] (.tup [.agg [ow 0 0, pI 0, ow 1 0, pI 0], pI 4]))
   ·intro h9 hm
    refine Sk ?_
    obtain ⟨r10, hr10, hm⟩ := bo hm
    refine Sq (Sq (RD hnt (nn 4 (o17 [] true r10 :: nn 2 [])) [47] [(55, pB ((kandNot .i64 p2 r10) != 0))] [] [] (an (Available_ref7Spec p0.tree p1 r10 hr10) tv) ?_))
    refine condM hm ?_ ?_
    ·intro h11 hm
     refine Sq (RD hnt (nn 3 []) [1, 2, 3, 4, 10, 55] [(9, pI 9)] [1032, 1080] [] tv ?_)
     refine DW.cv [] [] [] [(c122e2), (100000, ob0 (roNode [])), (100001, ob0 (roTask []))] (Conv.ads [(.o 1064 0, 100000, 6, elems encNode dNode []), (.o 1064 2, 100001, 4, elems encTask dTask [])]) ?_
     obtain rfl := sj hm
     exact DW.ret (retK [roNode [], roTask []] [100000, 100001] (.tup [.agg [ow 0 0, pI 0, ow 1 0, pI 0], pI 9]))
    ·intro h11 hm
     refine Sk ?_
     obtain ⟨r12, hr12, hm⟩ := bo hm
     refine Sq (RD hnt (nn 3 (o24 [] true r12 :: .no :: [])) [55] [(12, ow 1480 r12.length)] [] [(1480, ob0 (roI r12))] (an (Children_ref5Spec p0.tree p1 r12 hr12) tv) ?_)
     refine Sq (Sq (RD hnt (.no :: []) [] [(13, pI 0)] [] [] tv ?_))
     refine Bk ?_
     obtain ⟨hc1, hm⟩ := go1 hm
     refine DW.rangeO (fun (k1 : Nat) (s1 : Unit) => mkSt [(1, pI p1), (2, pI p2), (3, pI p3), (4, rr 1032), (8, rr 1064), (10, rr 1080), (12, ow 1480 r12.length), (13, pI ((k1 : Nat) : Int))] [(1032, bx (pm (encHierarchy p0))), (c122e1), (1080, bx (pm (encNode r8.1))), (1480, ob0 (roI r12))]) 0 hm Conv.eqK ?_
     intro k1 s1 n1 hk1 hs1 he1
     refine Sq (Sq (RD hnt (nn 4 []) [] [(64, pB (decide (((k1 : Nat) : Int) < ((r12.length : Nat) : Int))))] [] [] tv ?_))
     refine condK (decide (((k1 : Nat) : Int) < ((r12.length : Nat) : Int))) ?_ ?_
     ·intro h35
      have hlt1 : k1 < r12.length := by have := of_decide_eq_true h35; omega
      have hm := hs1 hlt1
      unfold Write_ref7L1 at hm
      refine Sk ?_
      refine Sq (Bk ?_)
      obtain ⟨r36, hr36, hm⟩ := bo hm
      refine Sq (RD hnt (nn 6 (o16 [] true r36 :: nn 6 [])) [64] [(14, rr 1112)] [] [(1112, bx (pm (encNode r36.1)))] (an (nn0 k1) (an (ltc hlt1) (an (by omega : k1 < r12.length) (an (Find_ref5Spec p0.tree (r12.getD k1 0) r36 hr36) tv)))) ?_)
      refine Sq (RD hnt (nn 5 []) [14] [(81, pB ((kand .i64 r36.1.control p3) != 0))] [1112] [] tv ?_)
      refine condM hm ?_ ?_
      ·intro h37 hm
       refine Sq (RD hnt (nn 3 []) [1, 2, 3, 4, 10, 12, 13, 81] [(9, pI 9)] [1032, 1080, 1480] [] tv ?_)
       refine DW.cv [] [] [] [(c122e2), (100000, ob0 (roNode [])), (100001, ob0 (roTask []))] (Conv.ads [(.o 1064 0, 100000, 6, elems encNode dNode []), (.o 1064 2, 100001, 4, elems encTask dTask [])]) ?_
       obtain rfl := sj hm
       exact DW.ret (retK [roNode [], roTask []] [100000, 100001] (.tup [.agg [ow 0 0, pI 0, ow 1 0, pI 0], pI 9]))
      ·intro h37 hm
       refine Sk ?_
       refine DW.done ?_
       show DW _ _ _ _ _
       refine RD hnt (nn 3 []) [81] [(13, pI (w64 (((k1 : Nat) : Int) + 1)))] [] [] tv ?_
       exact jD () ⟨hlt1, hm⟩ (Conv.tp [(13, pI (w64 (((k1 : Nat) : Int) + 1)))] [] (by kernel_rfl) (.cons rfl (.of_eq (congrArg pI (w64_succ hlt1 hc1))) .nil) .nil)
     ·intro h35
      have hge1 : ¬ k1 < r12.length := by have := of_decide_eq_false h35; omega
      have hm := he1 hge1
      unfold Write_ref7D1 at hm
      refine DW.exit ?_
      refine joinQ_exit ?_
      refine KQ_exit ?_
      refine blockQ_exit ?_
      show DW _ _ _ _ _
      refine Sq (RD hnt (nn 3 []) [12, 13, 64] [(16, pI r8.1.control)] [1480] [] tv ?_)
      refine Sq (RD hnt (nn 7 []) [2, 3] [] [] [(c122e3 r8 p3 p2)] tv ?_)
      refine Sq (Sq (RD hnt (nn 4 []) [] [(17, pI (kand .i64 (kor .i64 (kandNot .i64 r8.1.control p3) p2) 6))] [] [] tv ?_))
      refine Sq ?_
      refine Jn (ι := Bool) (fun (y4 : Bool) => mkSt [(4, rr 1032), (8, rr 1064), (10, rr 1080), (108, pB y4)] [(1032, bx (pm (encHierarchy p0))), (c122e1), (c122e3 r8 p3 p2)]) (fun y4 => (Write_ref7J4 p0 p2 p3 r8) y4 = some RES) ?_ ?_
      ·intro y4 hm
       unfold Write_ref7J4 at hm
       refine condM hm ?_ ?_
       ·intro h41 hm
        refine Sq (RD hnt (nn 3 []) [4, 10, 108] [(9, pI 6)] [1032, 1080] [] tv ?_)
        refine DW.cv [] [] [] [(c122e2), (100000, ob0 (roNode [])), (100001, ob0 (roTask []))] (Conv.ads [(.o 1064 0, 100000, 6, elems encNode dNode []), (.o 1064 2, 100001, 4, elems encTask dTask [])]) ?_
        obtain rfl := sj hm
        exact DW.ret (retK [roNode [], roTask []] [100000, 100001] (.tup [.agg [ow 0 0, pI 0, ow 1 0, pI 0], pI 6]))
       ·intro h41 hm
        refine Sk ?_
        obtain ⟨r42, hr42, hm⟩ := bo hm
        refine Sq (RD hnt (.no :: o28 [] true r42 :: nn 2 []) [108] [(18, rr 1144)] [] [(1144, bx [ow 1888 r42.tree.nodes.length, pI r42.tree.next, ow 1889 r42.tasks.length, pI r42.next]), (1888, ob0 (roNode r42.tree.nodes)), (1889, ob0 (roTask r42.tasks))] (an (Copy_ref6Spec p0 r42 hr42) tv) ?_)
        obtain ⟨r43, hr43, hm⟩ := bo hm
        refine Sq (RD hnt (nn 3 (o124 [] true r43 :: nn 2 [])) [4, 10] [] [1032, 1080, 1888] [(1144, bx [ow 1920 r43.nodes.length, pI r43.next, ow 1889 r42.tasks.length, pI r42.next]), (1920, ob0 (roNode r43.nodes))] (an (Set_ref5Spec p0.tree ({ id := r8.1.id, parent := r8.1.parent, name := r8.1.name, control := (kor .i64 (kandNot .i64 r8.1.control p3) p2), kind := r8.1.kind, owner := r8.1.owner } : Node) r43 hr43) tv) ?_)
        refine Sq (RD hnt (nn 3 []) [18] [(9, pI 0)] [1144] [(1064, bx [ow 1920 r43.nodes.length, pI r43.next, ow 1889 r42.tasks.length, pI r42.next])] tv ?_)
        obtain rfl := sj hm
        exact DW.ret (retK [roNode r43.nodes, roTask r42.tasks] [1920, 1889] (.tup [.agg [ow 0 r43.nodes.length, pI r43.next, ow 1 r42.tasks.length, pI r42.next], pI 0]))
      ·rcases bt ((kandNot .i64 (kand .i64 (kor .i64 (kandNot .i64 r8.1.control p3) p2) 6) r8.1.control) != 0) with h38 | h38
       ·replace hm := if_t h38 hm
        rcases bt (p1 != 1) with h39 | h39
        ·replace hm := if_t h39 hm
         obtain ⟨r40, hr40, hm⟩ := bo hm
         refine RD hnt (nn 7 (pT :: nn 3 (o19 [] true r40 :: nn 2 (pT :: [])))) [1, 16, 17] [(108, pB (decide (((r40.length : Nat) : Int) > 0)))] [] [] (an3 h38 (an3 h39 (an (Tasks_ref6Spec p0 p1 r40 hr40) (an3 h39 tv)))) ?_
         exact jD (decide (((r40.length : Nat) : Int) > 0)) hm Conv.eqK
        ·replace hm := if_f h39 hm
         refine RD hnt (nn 7 (pT :: .no :: sk 5 (pF :: []))) [1, 16, 17] [(108, pB false)] [] [] (an3 h38 (an6 h39 tv)) ?_
         exact jD false hm Conv.eqK
       ·replace hm := if_f h38 hm
        refine RD hnt (nn 5 (sk 2 (pF :: .no :: sk 5 (pF :: [])))) [1, 16, 17] [(108, pB false)] [] [] (an3 h38 (an6 ff tv)) ?_
        exact jD false hm Conv.eqK
 ·rcases bt (!r1) with h2 | h2
  ·replace hm := if_t h2 hm
   refine RD hnt (.no :: o8 [] true r1 :: nn 2 (sk 3 (pT :: .no :: sk 3 (pT :: .no :: sk 4 (pT :: []))))) [] [(37, pB true)] [] [] (an (Sound_ref7Spec p0 r1 hr1) (an4 h2 (an3 tt (an6 tt tv)))) ?_
   exact jD true hm Conv.eqK
  ·replace hm := if_f h2 hm
   obtain ⟨r3, hr3, hm⟩ := bo hm
   rcases bt (!r3) with h4 | h4
   ·replace hm := if_t h4 hm
    refine RD hnt (.no :: o8 [] true r1 :: nn 3 (o123 [] true r3 :: .no :: pF :: .no :: sk 3 (pT :: .no :: sk 4 (pT :: [])))) [] [(37, pB true)] [] [] (an (Sound_ref7Spec p0 r1 hr1) (an2 h2 (an (Set_ref7Spec p2 r3 hr3) (an2 h2 (an4 h4 (an5 tt tv)))))) ?_
    exact jD true hm Conv.eqK
   ·replace hm := if_f h4 hm
    obtain ⟨r5, hr5, hm⟩ := bo hm
    rcases bt (!r5) with h6 | h6
    ·replace hm := if_t h6 hm
     refine RD hnt (.no :: o8 [] true r1 :: nn 3 (o123 [] true r3 :: .no :: pF :: nn 2 (o123 [] true r5 :: .no :: pF :: .no :: sk 4 (pT :: [])))) [] [(37, pB true)] [] [] (an (Sound_ref7Spec p0 r1 hr1) (an2 h2 (an (Set_ref7Spec p2 r3 hr3) (an2 h2 (an2 h4 (an (Set_ref7Spec p3 r5 hr5) (an2 h4 (an5 h6 tv)))))))) ?_
     exact jD true hm Conv.eqK
    ·replace hm := if_f h6 hm
     refine RD hnt (.no :: o8 [] true r1 :: nn 3 (o123 [] true r3 :: .no :: pF :: nn 2 (o123 [] true r5 :: .no :: pF :: nn 5 (pF :: [])))) [] [(37, pB ((kand .i64 p2 p3) != 0))] [] [] (an (Sound_ref7Spec p0 r1 hr1) (an2 h2 (an (Set_ref7Spec p2 r3 hr3) (an2 h2 (an2 h4 (an (Set_ref7Spec p3 r5 hr5) (an2 h4 (an5 h6 tv)))))))) ?_
     exact jD ((kand .i64 p2 p3) != 0) hm Conv.eqK
abbrev o122 (ks : List Nat) (b : Bool) (RES : Hierarchy × Int) : Orc := .call 100 ks b (.tup [.agg [ow 0 RES.1.tree.nodes.length, pI RES.1.tree.next, ow 1 RES.1.tasks.length, pI RES.1.next], pI RES.2]) [] [roNode RES.1.tree.nodes, roTask RES.1.tasks]

abbrev c121e1 : Nat × Obj := (1064, bx [ow 100000 0, pI 0, ow 100001 0, pI 0])
theorem Enable_ref8Spec (p0 : Hierarchy) (p1 : Int) (p2 : Int) (p3 : Int) (RES : Hierarchy × Int) (hm : Enable_ref8 p0 p1 p2 p3 = some RES) : Spec Tryz.prog 49 [.p (.agg (encHierarchy p0)), pI p1, pI p2, pI p3] [] (.tup [.agg [ow 0 RES.1.tree.nodes.length, pI RES.1.tree.next, ow 1 RES.1.tasks.length, pI RES.1.next], pI RES.2]) [] [roNode RES.1.tree.nodes, roTask RES.1.tasks] := by
 unfold Enable_ref8 at hm
 refine SO Tryz.func49 rfl rfl [(0, .p (.agg (encHierarchy p0))), (1, pI p1), (2, pI p2), (3, pI p3)] [] ?_
 intro cx hnt
 refine Sq (RD hnt (nn 3 []) [0] [(4, rr 1032), (8, rr 1064)] [] [(1032, bx (pm (encHierarchy p0))), (1064, bx [.p (.sl .nil 0 0 (fun _ => [])), pI 0, .p (.sl .nil 0 0 (fun _ => [])), pI 0])] tv ?_)
 obtain ⟨r1, hr1, hm⟩ := bo hm
 refine Sq (Sq (RD hnt (.no :: o7 [] true r1 :: .no :: []) [] [(14, pB (!r1))] [] [] (an (Fits_ref8Spec p0 r1 hr1) tv) ?_))
 refine condM hm ?_ ?_
 ·intro h2 hm
  refine Sq (RD hnt (nn 3 []) [1, 2, 3, 4, 14] [(9, pI 1)] [1032] [] tv ?_)
  refine DW.cv [] [] [] [(c121e1), (100000, ob0 (roNode [])), (100001, ob0 (roTask []))] (Conv.ads [(.o 1064 0, 100000, 6, elems encNode dNode []), (.o 1064 2, 100001, 4, elems encTask dTask [])]) ?_
  obtain rfl := sj hm
  exact DW.ret (retK [roNode [], roTask []] [100000, 100001] (.tup [.agg [ow 0 0, pI 0, ow 1 0, pI 0], pI 1]))
 ·intro h2 hm
  refine Sk ?_
  obtain ⟨r3, hr3, hm⟩ := bo hm
  refine Sq (RD hnt (nn 4 (o122 [] true r3 :: nn 6 [])) [1, 2, 3, 4, 14] [(10, rr 1080), (11, pI r3.2)] [1032] [(1080, bx [ow 1168 r3.1.tree.nodes.length, pI r3.1.tree.next, ow 1169 r3.1.tasks.length, pI r3.1.next]), (1168, ob0 (roNode r3.1.tree.nodes)), (1169, ob0 (roTask r3.1.tasks))] (an (Write_ref7Spec p0 p1 p2 p3 r3 hr3) tv) ?_)
  refine Sq (Sq (RD hnt (nn 2 []) [] [(25, pB (r3.2 != 0))] [] [] tv ?_))
  refine condM hm ?_ ?_
  ·intro h4 hm
   refine Sq (RD hnt (nn 4 []) [10, 11, 25] [(9, pI r3.2)] [1080, 1168, 1169] [] tv ?_)
   refine DW.cv [] [] [] [(c121e1), (100000, ob0 (roNode [])), (100001, ob0 (roTask []))] (Conv.ads [(.o 1064 0, 100000, 6, elems encNode dNode []), (.o 1064 2, 100001, 4, elems encTask dTask [])]) ?_
   obtain rfl := sj hm
   exact DW.ret (retK [roNode [], roTask []] [100000, 100001] (.tup [.agg [ow 0 0, pI 0, ow 1 0, pI 0], pI r3.2]))
  ·intro h4 hm
   refine Sk ?_
   obtain ⟨r5, hr5, hm⟩ := bo hm
   refine Sq (Sq (RD hnt (.no :: o7 [] true r5 :: .no :: []) [11, 25] [(30, pB (!r5))] [] [] (an (Fits_ref8Spec r3.1 r5 hr5) tv) ?_))
   refine condM hm ?_ ?_
   ·intro h6 hm
    refine Sq (RD hnt (nn 3 []) [10, 30] [(9, pI 10)] [1080, 1168, 1169] [] tv ?_)
    refine DW.cv [] [] [] [(c121e1), (100000, ob0 (roNode [])), (100001, ob0 (roTask []))] (Conv.ads [(.o 1064 0, 100000, 6, elems encNode dNode []), (.o 1064 2, 100001, 4, elems encTask dTask [])]) ?_
    obtain rfl := sj hm
    exact DW.ret (retK [roNode [], roTask []] [100000, 100001] (.tup [.agg [ow 0 0, pI 0, ow 1 0, pI 0], pI 10]))
   ·intro h6 hm
    refine Sk ?_
    refine Sq (RD hnt (nn 3 []) [10, 30] [(9, pI 0)] [1080] [(1064, bx [ow 1168 r3.1.tree.nodes.length, pI r3.1.tree.next, ow 1169 r3.1.tasks.length, pI r3.1.next])] tv ?_)
    obtain rfl := sj hm
    exact DW.ret (retK [roNode r3.1.tree.nodes, roTask r3.1.tasks] [1168, 1169] (.tup [.agg [ow 0 r3.1.tree.nodes.length, pI r3.1.tree.next, ow 1 r3.1.tasks.length, pI r3.1.next], pI 0]))
abbrev o121 (ks : List Nat) (b : Bool) (RES : Hierarchy × Int) : Orc := .call 49 ks b (.tup [.agg [ow 0 RES.1.tree.nodes.length, pI RES.1.tree.next, ow 1 RES.1.tasks.length, pI RES.1.next], pI RES.2]) [] [roNode RES.1.tree.nodes, roTask RES.1.tasks]

abbrev c125e1 : Nat × Obj := (1032, bx [.p (.sl .nil 0 0 (fun _ => [])), pI 0, .p (.sl .nil 0 0 (fun _ => [])), pI 0])
abbrev c125e2 : Nat × Obj := (1032, bx [ow 100000 0, pI 0, ow 100001 0, pI 0])
theorem Convert_ref8Spec (p0 : Hierarchy) (p1 : Int) (RES : Hierarchy × Int) (hm : Convert_ref8 p0 p1 = some RES) : Spec Tryz.prog 46 [.p (.agg (encHierarchy p0)), pI p1] [] (.tup [.agg [ow 0 RES.1.tree.nodes.length, pI RES.1.tree.next, ow 1 RES.1.tasks.length, pI RES.1.next], pI RES.2]) [] [roNode RES.1.tree.nodes, roTask RES.1.tasks] := by
 unfold Convert_ref8 at hm
 refine SO Tryz.func46 rfl rfl [(0, .p (.agg (encHierarchy p0))), (1, pI p1)] [] ?_
 intro cx hnt
 refine Sq (RK hnt (nn 3 []) [(1, pI p1), (2, rr 1016), (4, rr 1032)] [(1016, bx (pm (encHierarchy p0))), (c125e1)] tv ?_)
 obtain ⟨r1, hr1, hm⟩ := bo hm
 refine Sq (Sq (RD hnt (.no :: o7 [] true r1 :: .no :: []) [] [(13, pB (!r1))] [] [] (an (Fits_ref8Spec p0 r1 hr1) tv) ?_))
 refine condM hm ?_ ?_
 ·intro h2 hm
  refine Sq (RD hnt (nn 3 []) [1, 2, 13] [(5, pI 1)] [1016] [] tv ?_)
  refine DW.cv [] [] [] [(c125e2), (100000, ob0 (roNode [])), (100001, ob0 (roTask []))] (Conv.ads [(.o 1032 0, 100000, 6, elems encNode dNode []), (.o 1032 2, 100001, 4, elems encTask dTask [])]) ?_
  obtain rfl := sj hm
  exact DW.ret (retK [roNode [], roTask []] [100000, 100001] (.tup [.agg [ow 0 0, pI 0, ow 1 0, pI 0], pI 1]))
 ·intro h2 hm
  refine Sk ?_
  obtain ⟨r3, hr3, hm⟩ := bo hm
  refine Sq (RD hnt (nn 3 (o16 [] true r3 :: nn 6 [])) [13] [(6, rr 1048), (7, pB r3.2)] [] [(1048, bx (pm (encNode r3.1)))] (an (Find_ref5Spec p0.tree p1 r3 hr3) tv) ?_)
  refine Sq (Sq (RD hnt (nn 2 []) [7] [(23, pB (!r3.2))] [] [] tv ?_))
  refine condM hm ?_ ?_
  ·intro h4 hm
   refine Sq (RD hnt (nn 3 []) [1, 2, 6, 23] [(5, pI 4)] [1016, 1048] [] tv ?_)
   refine DW.cv [] [] [] [(c125e2), (100000, ob0 (roNode [])), (100001, ob0 (roTask []))] (Conv.ads [(.o 1032 0, 100000, 6, elems encNode dNode []), (.o 1032 2, 100001, 4, elems encTask dTask [])]) ?_
   obtain rfl := sj hm
   exact DW.ret (retK [roNode [], roTask []] [100000, 100001] (.tup [.agg [ow 0 0, pI 0, ow 1 0, pI 0], pI 4]))
  ·intro h4 hm
   refine Sk ?_
   refine Sq (Sq (DW.regJ (sl2 := [(1, pI p1), (2, rr 1016), (4, rr 1032), (6, rr 1048), (31, pB ((p1 == 1) || (r3.1.kind == 1)))]) (ob2 := [(1016, bx (pm (encHierarchy p0))), (c125e1), (1048, bx (pm (encNode r3.1)))]) ?_ ?_))
   ·rcases bt (p1 == 1) with h5 | h5
    ·exact RT hnt (nn 3 (sk 3 (pT :: []))) [(31, pB true)] (an4 h5 tv) (by kernel_rfl) (.cons rfl (.of_eq (by rw [h5]; try rfl)) .nil)
    ·exact RT hnt (nn 6 (pF :: [])) [(31, pB (r3.1.kind == 1))] (an4 h5 tv) (by kernel_rfl) (.cons rfl (.of_eq (by rw [h5]; try rfl)) .nil)
   ·refine condM hm ?_ ?_
    ·intro h6 hm
     refine Sq (RD hnt (nn 3 []) [1, 2, 6, 31] [(5, pI 9)] [1016, 1048] [] tv ?_)
     refine DW.cv [] [] [] [(c125e2), (100000, ob0 (roNode [])), (100001, ob0 (roTask []))] (Conv.ads [(.o 1032 0, 100000, 6, elems encNode dNode []), (.o 1032 2, 100001, 4, elems encTask dTask [])]) ?_
     obtain rfl := sj hm
     exact DW.ret (retK [roNode [], roTask []] [100000, 100001] (.tup [.agg [ow 0 0, pI 0, ow 1 0, pI 0], pI 9]))
    ·intro h6 hm
     refine Sk ?_
     obtain ⟨r7, hr7, hm⟩ := bo hm
     refine Sq (RD hnt (nn 4 (o16 [] true r7 :: nn 6 [])) [31] [(8, rr 1064)] [] [(1064, bx (pm (encNode r7.1)))] (an (Find_ref5Spec p0.tree r3.1.parent r7 hr7) tv) ?_)
     obtain ⟨r8, hr8, hm⟩ := bo hm
     refine Sq (Sq ?_)
     refine Jn (ι := Bool) (fun (y1 : Bool) => mkSt [(1, pI p1), (2, rr 1016), (4, rr 1032), (6, rr 1048), (57, pB y1)] [(1016, bx (pm (encHierarchy p0))), (c125e1), (1048, bx (pm (encNode r3.1)))]) (fun y1 => (Convert_ref8J1 p0 p1 r3) y1 = some RES) ?_ ?_
     ·intro y1 hm
      unfold Convert_ref8J1 at hm
      refine condM hm ?_ ?_
      ·intro h11 hm
       refine Sq (RD hnt (nn 3 []) [1, 2, 6, 57] [(5, pI 10)] [1016, 1048] [] tv ?_)
       refine DW.cv [] [] [] [(c125e2), (100000, ob0 (roNode [])), (100001, ob0 (roTask []))] (Conv.ads [(.o 1032 0, 100000, 6, elems encNode dNode []), (.o 1032 2, 100001, 4, elems encTask dTask [])]) ?_
       obtain rfl := sj hm
       exact DW.ret (retK [roNode [], roTask []] [100000, 100001] (.tup [.agg [ow 0 0, pI 0, ow 1 0, pI 0], pI 10]))
      ·intro h11 hm
       refine Sk ?_
       refine Sq (Sq (RD hnt (nn 4 []) [57] [(62, pB ((kand .i64 r3.1.control 6) != 0))] [] [] tv ?_))
       refine condM hm ?_ ?_
       ·intro h12 hm
        refine Sq (RD hnt (nn 3 []) [1, 2, 6, 62] [(5, pI 9)] [1016, 1048] [] tv ?_)
        refine DW.cv [] [] [] [(c125e2), (100000, ob0 (roNode [])), (100001, ob0 (roTask []))] (Conv.ads [(.o 1032 0, 100000, 6, elems encNode dNode []), (.o 1032 2, 100001, 4, elems encTask dTask [])]) ?_
        obtain rfl := sj hm
        exact DW.ret (retK [roNode [], roTask []] [100000, 100001] (.tup [.agg [ow 0 0, pI 0, ow 1 0, pI 0], pI 9]))
       ·intro h12 hm
        refine Sk ?_
        refine Sq (RD hnt (nn 2 []) [62] [] [] [(1048, bx [pI r3.1.id, pI r3.1.parent, pS r3.1.name, pI r3.1.control, pI 1, pI r3.1.owner])] tv ?_)
        obtain ⟨r13, hr13, hm⟩ := bo hm
        refine Sq (RD hnt (.no :: o28 [] true r13 :: nn 2 []) [] [(10, rr 1080)] [] [(1080, bx [ow 1528 r13.tree.nodes.length, pI r13.tree.next, ow 1529 r13.tasks.length, pI r13.next]), (1528, ob0 (roNode r13.tree.nodes)), (1529, ob0 (roTask r13.tasks))] (an (Copy_ref6Spec p0 r13 hr13) tv) ?_)
        obtain ⟨r14, hr14, hm⟩ := bo hm
        refine Sq (RD hnt (nn 3 (o124 [] true r14 :: nn 2 [])) [6] [] [1048, 1528] [(1080, bx [ow 1560 r14.nodes.length, pI r14.next, ow 1529 r13.tasks.length, pI r13.next]), (1560, ob0 (roNode r14.nodes))] (an (Set_ref5Spec p0.tree ({ id := r3.1.id, parent := r3.1.parent, name := r3.1.name, control := r3.1.control, kind := 1, owner := r3.1.owner } : Node) r14 hr14) tv) ?_)
        obtain ⟨r15, hr15, hm⟩ := bo hm
        refine Sq (Sq ?_)
        refine Jn (ι := Bool) (fun (y2 : Bool) => mkSt [(4, rr 1032), (10, rr 1080), (81, pB y2)] [(c125e1), (1080, bx [ow 1560 r14.nodes.length, pI r14.next, ow 1529 r13.tasks.length, pI r13.next]), (1529, ob0 (roTask r13.tasks)), (1560, ob0 (roNode r14.nodes))]) (fun y2 => (Convert_ref8J2 r13 r14) y2 = some RES) ?_ ?_
        ·intro y2 hm
         unfold Convert_ref8J2 at hm
         refine condM hm ?_ ?_
         ·intro h18 hm
          refine Sq (RD hnt (nn 3 []) [10, 81] [(5, pI 6)] [1080, 1529, 1560] [] tv ?_)
          refine DW.cv [] [] [] [(c125e2), (100000, ob0 (roNode [])), (100001, ob0 (roTask []))] (Conv.ads [(.o 1032 0, 100000, 6, elems encNode dNode []), (.o 1032 2, 100001, 4, elems encTask dTask [])]) ?_
          obtain rfl := sj hm
          exact DW.ret (retK [roNode [], roTask []] [100000, 100001] (.tup [.agg [ow 0 0, pI 0, ow 1 0, pI 0], pI 6]))
         ·intro h18 hm
          refine Sk ?_
          refine Sq (RD hnt (nn 3 []) [10, 81] [(5, pI 0)] [1080] [(1032, bx [ow 1560 r14.nodes.length, pI r14.next, ow 1529 r13.tasks.length, pI r13.next])] tv ?_)
          obtain rfl := sj hm
          exact DW.ret (retK [roNode r14.nodes, roTask r13.tasks] [1560, 1529] (.tup [.agg [ow 0 r14.nodes.length, pI r14.next, ow 1 r13.tasks.length, pI r13.next], pI 0]))
        ·rcases bt (decide (((r15.length : Nat) : Int) > 0)) with h16 | h16
         ·replace hm := if_t h16 hm
          refine RD hnt (nn 2 (o19 [] true r15 :: nn 3 (sk 3 (pT :: [])))) [1, 2] [(81, pB true)] [1016] [] (an (Tasks_ref6Spec p0 p1 r15 hr15) (an4 h16 tv)) ?_
          exact jD true hm Conv.eqK
         ·replace hm := if_f h16 hm
          obtain ⟨r17, hr17, hm⟩ := bo hm
          refine RD hnt (nn 2 (o19 [] true r15 :: nn 4 (o7 [] true r17 :: .no :: pF :: []))) [1, 2] [(81, pB (!r17))] [1016] [] (an (Tasks_ref6Spec p0 p1 r15 hr15) (an2 h16 (an (Fits_ref8Spec ({ tree := r14, tasks := r13.tasks, next := r13.next } : Hierarchy) r17 hr17) (an2 h16 tv)))) ?_
          exact jD (!r17) hm Conv.eqK
     ·rcases bt (r8 == 3) with h9 | h9
      ·replace hm := if_t h9 hm
       refine RD hnt (nn 4 (o23 [] true r8 :: nn 2 (sk 9 (pT :: [])))) [8] [(57, pB true)] [1064] [] (an (Type_ref8Spec p0.tree r7.1.id r8 hr8) (an6 h9 tv)) ?_
       exact jD true hm Conv.eqK
      ·replace hm := if_f h9 hm
       rcases bt (r7.1.id != 1) with h10 | h10
       ·replace hm := if_t h10 hm
        refine RD hnt (nn 4 (o23 [] true r8 :: nn 10 (pT :: pF :: []))) [8] [(57, pB ((kand .i64 r7.1.control 6) != 0))] [1064] [] (an (Type_ref8Spec p0.tree r7.1.id r8 hr8) (an4 h9 (an4 h10 (an h9 (an h10 (an h9 tv)))))) ?_
        exact jD ((kand .i64 r7.1.control 6) != 0) hm Conv.eqK
       ·replace hm := if_f h10 hm
        refine RD hnt (nn 4 (o23 [] true r8 :: nn 6 (sk 4 (pF :: pF :: [])))) [8] [(57, pB false)] [1064] [] (an (Type_ref8Spec p0.tree r7.1.id r8 hr8) (an4 h9 (an4 h10 (an h9 (an h10 (an h9 tv)))))) ?_
        exact jD false hm Conv.eqK
abbrev o125 (ks : List Nat) (b : Bool) (RES : Hierarchy × Int) : Orc := .call 46 ks b (.tup [.agg [ow 0 RES.1.tree.nodes.length, pI RES.1.tree.next, ow 1 RES.1.tasks.length, pI RES.1.next], pI RES.2]) [] [roNode RES.1.tree.nodes, roTask RES.1.tasks]

abbrev c118e1 : Nat × Obj := (1032, bx [.p (.sl .nil 0 0 (fun _ => [])), pI 0, .p (.sl .nil 0 0 (fun _ => [])), pI 0])
theorem step_Dice_madeSpec (p0 : Dice) (p1 : Hierarchy) (RES : Hierarchy × Dice) (hm : step_Dice_made p0 p1 = some RES) : Spec Tryz.prog 72 [rr 0, .p (.agg (encHierarchy p1))] [.box (pm (encDice p0))] (.p (.agg (encHierarchy RES.1))) [.box (pm (encDice RES.2))] [] := by
 unfold step_Dice_made at hm
 refine SO Tryz.func72 rfl rfl [(0, rr 0), (1, .p (.agg (encHierarchy p1)))] [(0, bx (pm (encDice p0)))] ?_
 intro cx hnt
 refine Sq (RD hnt (nn 2 []) [1] [(3, rr 1024), (4, rr 1032)] [] [(1024, bx (pm (encHierarchy p1))), (c118e1)] tv ?_)
 obtain ⟨r1, hr1, hm⟩ := bo hm
 refine Sq (RD hnt (nn 3 (o119 [0] true r1 :: .no :: [])) [] [(5, pI r1.1)] [] [(0, bx (pm (encDice r1.2)))] (an (Group_Dice_madeSpec p0 p1.tree r1 hr1) (an tv tv)) ?_)
 obtain ⟨r2, hr2, hm⟩ := bo hm
 refine Sq (Sq (RD hnt (.no :: o114 [0] true r2 :: []) [] [(17, pI r2.1)] [] [(0, bx (pm (encDice r2.2)))] (an (Next_Dice_madeSpec r1.2 5 r2 hr2) (an tv tv)) ?_))
 refine Jn (ι := Dice × Hierarchy) (fun (y1 : Dice × Hierarchy) => mkSt [(3, rr 1024), (4, rr 1032)] [(0, bx (pm (encDice y1.1))), (1024, bx (pm (encHierarchy y1.2))), (c118e1)]) (fun y1 => step_Dice_madeJ1 y1 = some RES) ?_ ?_
 ·intro y1 hm
  unfold step_Dice_madeJ1 at hm
  refine Sq (RD hnt (nn 2 []) [3] [] [1024] [(1032, bx (pm (encHierarchy y1.2)))] tv ?_)
  obtain rfl := sj hm
  exact DW.ret (retK [.box (pm (encDice y1.1))] [] (.p (.agg (encHierarchy y1.2))))
 ·refine Bk ?_
  refine Sq (Sq (RD hnt (nn 2 []) [] [(18, pB (r2.1 == 0))] [] [] tv ?_))
  refine Jn (ι := Bool) (fun (y2 : Bool) => mkSt [(0, rr 0), (3, rr 1024), (4, rr 1032), (5, pI r1.1), (17, pI r2.1), (18, pB y2)] [(0, bx (pm (encDice r2.2))), (1024, bx (pm (encHierarchy p1))), (c118e1)]) (fun y2 => (step_Dice_madeJ2 p1 r1 r2) y2 = some RES) ?_ ?_
  ·intro y2 hm
   unfold step_Dice_madeJ2 at hm
   refine condM hm ?_ ?_
   ·intro h4 hm
    obtain ⟨r5, hr5, hm⟩ := bo hm
    obtain ⟨r6, hr6, hm⟩ := bo hm
    refine Sq (RD hnt (nn 3 (o120 [0] true r5 :: o121 [] true r6 :: nn 6 [])) [0, 5, 17, 18] [(6, rr 1048), (7, pI r6.2)] [] [(0, bx (pm (encDice r5.2))), (1048, bx [ow 1208 r6.1.tree.nodes.length, pI r6.1.tree.next, ow 1209 r6.1.tasks.length, pI r6.1.next]), (1208, ob0 (roNode r6.1.tree.nodes)), (1209, ob0 (roTask r6.1.tasks))] (an (Controllers_Dice_madeSpec r2.2 r5 hr5) (an tv (an (Enable_ref8Spec p1 r1.1 r5.1 0 r6 hr6) tv))) ?_)
    refine Sq (RD hnt (nn 2 []) [7] [(30, pB (r6.2 == 0))] [] [] tv ?_)
    refine condM hm ?_ ?_
    ·intro h7 hm
     refine Sq (RD hnt (nn 2 []) [3, 6, 30] [] [1024, 1048] [(1032, bx [ow 1208 r6.1.tree.nodes.length, pI r6.1.tree.next, ow 1209 r6.1.tasks.length, pI r6.1.next])] tv ?_)
     obtain rfl := sj hm
     exact DW.ret (retK [.box (pm (encDice r5.2))] [] (.p (.agg (encHierarchy r6.1))))
    ·intro h7 hm
     refine Sk ?_
     exact bD (r5.2, p1) hm Conv.t0
   ·intro h4 hm
    refine Sq (RD hnt (nn 2 []) [18] [(32, pB (r2.1 == 2))] [] [] tv ?_)
    refine condM hm ?_ ?_
    ·intro h8 hm
     obtain ⟨r9, hr9, hm⟩ := bo hm
     refine Sq (RD hnt (nn 2 (o125 [] true r9 :: nn 6 [])) [0, 5, 17, 32] [(8, rr 1064), (9, pI r9.2)] [] [(1064, bx [ow 1296 r9.1.tree.nodes.length, pI r9.1.tree.next, ow 1297 r9.1.tasks.length, pI r9.1.next]), (1296, ob0 (roNode r9.1.tree.nodes)), (1297, ob0 (roTask r9.1.tasks))] (an (Convert_ref8Spec p1 r1.1 r9 hr9) tv) ?_)
     refine Sq (RD hnt (nn 2 []) [9] [(41, pB (r9.2 == 0))] [] [] tv ?_)
     refine condM hm ?_ ?_
     ·intro h10 hm
      refine Sq (RD hnt (nn 2 []) [3, 8, 41] [] [1024, 1064] [(1032, bx [ow 1296 r9.1.tree.nodes.length, pI r9.1.tree.next, ow 1297 r9.1.tasks.length, pI r9.1.next])] tv ?_)
      obtain rfl := sj hm
      exact DW.ret (retK [.box (pm (encDice r2.2))] [] (.p (.agg (encHierarchy r9.1))))
     ·intro h10 hm
      refine Sk ?_
      exact bD (r2.2, p1) hm Conv.t0
    ·intro h8 hm
     refine Sq (RD hnt (nn 2 []) [17, 32] [(43, pB (r2.1 == 3))] [] [] tv ?_)
     refine condM hm ?_ ?_
     ·intro h11 hm
      obtain ⟨r12, hr12, hm⟩ := bo hm
      refine Sq (RD hnt (nn 3 (o16 [] true r12 :: nn 6 [])) [43] [(10, rr 1080), (11, pB r12.2)] [] [(1080, bx (pm (encNode r12.1)))] (an (Find_ref5Spec p1.tree r1.1 r12 hr12) tv) ?_)
      refine Sq (DW.regJ (sl2 := [(0, rr 0), (3, rr 1024), (4, rr 1032), (10, rr 1080), (56, pB (r12.2 && (r1.1 != 1)))]) (ob2 := [(0, bx (pm (encDice r2.2))), (1024, bx (pm (encHierarchy p1))), (c118e1), (1080, bx (pm (encNode r12.1)))]) ?_ ?_)
      ·rcases bt r12.2 with h13 | h13
       ·exact RT hnt (nn 4 (pT :: [])) [(56, pB (r1.1 != 1))] (an3 h13 tv) (by kernel_rfl) (.cons rfl (.of_eq (by rw [h13]; try rfl)) .nil)
       ·exact RT hnt (nn 2 (sk 2 (pF :: []))) [(56, pB false)] (an3 h13 tv) (by kernel_rfl) (.cons rfl (.of_eq (by rw [h13]; try rfl)) .nil)
      ·refine condM hm ?_ ?_
       ·intro h14 hm
        obtain ⟨r15, hr15, hm⟩ := bo hm
        refine Sq (RD hnt (.no :: o114 [0] true r15 :: nn 2 []) [0, 56] [] [] [(0, bx (pm (encDice r15.2))), (1080, bx [pI r12.1.id, pI r12.1.parent, pS r12.1.name, pI r12.1.control, pI r12.1.kind, pI r15.1])] (an (Next_Dice_madeSpec r2.2 3 r15 hr15) (an tv tv)) ?_)
        obtain ⟨r16, hr16, hm⟩ := bo hm
        refine RD hnt (nn 3 (o124 [] true r16 :: nn 2 [])) [10] [] [1080] [(1024, bx [ow 1504 r16.nodes.length, pI r16.next, .p (slTask p1.tasks), pI p1.next]), (1504, ob0 (roNode r16.nodes))] (an (Set_ref5Spec p1.tree ({ id := r12.1.id, parent := r12.1.parent, name := r12.1.name, control := r12.1.control, kind := r12.1.kind, owner := r15.1 } : Node) r16 hr16) tv) ?_
        exact bD (r15.2, ({ tree := r16, tasks := p1.tasks, next := p1.next } : Hierarchy)) hm (Conv.frz [1504])
       ·intro h14 hm
        refine Sk ?_
        exact bD (r2.2, p1) hm Conv.t0
     ·intro h11 hm
      refine Sk ?_
      exact bD (r2.2, p1) hm Conv.t0
  ·refine condM hm ?_ ?_
   ·intro h3 hm
    refine Sk ?_
    exact jD (r2.1 == 0) hm Conv.eqK
   ·intro h3 hm
    refine RD hnt (nn 2 []) [] [(18, pB (r2.1 == 1))] [] [] tv ?_
    exact jD (r2.1 == 1) hm Conv.eqK
abbrev o118 (ks : List Nat) (b : Bool) (RES : Hierarchy × Dice) : Orc := .call 72 ks b (.p (.agg (encHierarchy RES.1))) [.box (pm (encDice RES.2))] []

theorem Admits_ref8Spec (p0 : Hierarchy) (p1 : Int) (RES : Int) (hm : Admits_ref8 p0 p1 = some RES) : Spec Tryz.prog 38 [.p (.agg (encHierarchy p0)), pI p1] [] (pI RES) [] [] := by
 unfold Admits_ref8 at hm
 refine SO Tryz.func38 rfl rfl [(0, .p (.agg (encHierarchy p0))), (1, pI p1)] [] ?_
 intro cx hnt
 refine Sq (RK hnt (nn 2 []) [(1, pI p1), (2, rr 1016)] [(1016, bx (pm (encHierarchy p0)))] tv ?_)
 obtain ⟨r1, hr1, hm⟩ := bo hm
 refine Sq (Sq (RD hnt (.no :: o7 [] true r1 :: .no :: []) [] [(9, pB (!r1))] [] [] (an (Fits_ref8Spec p0 r1 hr1) tv) ?_))
 refine condM hm ?_ ?_
 ·intro h2 hm
  refine Sq (RK hnt (.no :: []) [(4, pI 1)] [] tv ?_)
  obtain rfl := sj hm
  exact DW.ret (retK [] [] (pI 1))
 ·intro h2 hm
  refine Sk ?_
  obtain ⟨r3, hr3, hm⟩ := bo hm
  refine Sq (RD hnt (nn 3 (o16 [] true r3 :: nn 6 [])) [9] [(5, rr 1040), (6, pB r3.2)] [] [(1040, bx (pm (encNode r3.1)))] (an (Find_ref5Spec p0.tree p1 r3 hr3) tv) ?_)
  refine Sq (Bk ?_)
  refine Sq (RD hnt (nn 3 []) [6] [(17, pB (!r3.2))] [] [] tv ?_)
  refine condM hm ?_ ?_
  ·intro h4 hm
   refine Sq (RK hnt (.no :: []) [(4, pI 4)] [] tv ?_)
   obtain rfl := sj hm
   exact DW.ret (retK [] [] (pI 4))
  ·intro h4 hm
   obtain ⟨r5, hr5, hm⟩ := bo hm
   refine Sq (RD hnt (nn 3 (o23 [] true r5 :: nn 2 [])) [2, 17] [(20, pB (r5 == 3))] [1016] [] (an (Type_ref8Spec p0.tree p1 r5 hr5) tv) ?_)
   refine condM hm ?_ ?_
   ·intro h6 hm
    refine Sq (RK hnt (.no :: []) [(4, pI 10)] [] tv ?_)
    obtain rfl := sj hm
    exact DW.ret (retK [] [] (pI 10))
   ·intro h6 hm
    refine Sq (DW.regJ (sl2 := [(26, pB ((p1 != 1) && ((kand .i64 r3.1.control 6) != 0)))]) (ob2 := []) ?_ ?_)
    ·rcases bt (p1 != 1) with h7 | h7
     ·exact RT hnt (nn 7 (pT :: .no :: [])) [(26, pB ((kand .i64 r3.1.control 6) != 0))] (an5 h7 tv) (by kernel_rfl) (.cons rfl (.of_eq (by rw [h7]; try rfl)) .nil)
     ·exact RT hnt (nn 3 (sk 4 (pF :: .no :: []))) [(26, pB false)] (an5 h7 tv) (by kernel_rfl) (.cons rfl (.of_eq (by rw [h7]; try rfl)) .nil)
    ·refine condM hm ?_ ?_
     ·intro h8 hm
      refine Sq (RK hnt (.no :: []) [(4, pI 6)] [] tv ?_)
      obtain rfl := sj hm
      exact DW.ret (retK [] [] (pI 6))
     ·intro h8 hm
      refine Sk ?_
      refine DW.done ?_
      show DW _ _ _ _ _
      refine Sq (RK hnt (.no :: []) [(4, pI 0)] [] tv ?_)
      obtain rfl := sj hm
      exact DW.ret (retK [] [] (pI 0))
abbrev o126 (ks : List Nat) (b : Bool) (RES : Int) : Orc := .call 38 ks b (pI RES) [] []

theorem Task_Dice_madeSpec (p0 : Dice) (p1 : Hierarchy) (RES : Int × Dice) (hm : Task_Dice_made p0 p1 = some RES) : Spec Tryz.prog 39 [rr 0, .p (.agg (encHierarchy p1))] [.box (pm (encDice p0))] (pI RES.1) [.box (pm (encDice RES.2))] [] := by
 unfold Task_Dice_made at hm
 refine SO Tryz.func39 rfl rfl [(0, rr 0), (1, .p (.agg (encHierarchy p1)))] [(0, bx (pm (encDice p0)))] ?_
 intro cx hnt
 refine Sq (RD hnt (nn 2 []) [1] [(3, rr 1024)] [] [(1024, bx (pm (encHierarchy p1)))] tv ?_)
 obtain ⟨r1, hr1, hm⟩ := bo hm
 refine Sq (Sq ?_)
 refine Jn (ι := Bool) (fun (y1 : Bool) => mkSt [(0, rr 0), (3, rr 1024), (12, pB y1)] [(0, bx (pm (encDice r1.2))), (1024, bx (pm (encHierarchy p1)))]) (fun y1 => (Task_Dice_madeJ1 p1 r1) y1 = some RES) ?_ ?_
 ·intro y1 hm
  unfold Task_Dice_madeJ1 at hm
  refine condM hm ?_ ?_
  ·intro h3 hm
   obtain ⟨r4, hr4, hm⟩ := bo hm
   refine Sq (RK hnt (.no :: o114 [0] true r4 :: nn 2 []) [(4, pI (w64 (r4.1 - 1)))] [(0, bx (pm (encDice r4.2)))] (an (Next_Dice_madeSpec r1.2 9 r4 hr4) (an tv tv)) ?_)
   obtain rfl := sj hm
   exact DW.ret (retK [.box (pm (encDice r4.2))] [] (pI (w64 (r4.1 - 1))))
  ·intro h3 hm
   refine Sk ?_
   obtain ⟨r5, hr5, hm⟩ := bo hm
   obtain ⟨g6, hm⟩ := go1 hm
   refine Sq (RK hnt (nn 6 (o114 [0] true r5 :: nn 4 [])) [(4, pI (p1.tasks.getD (Int.toNat r5.1) dTask).id)] [(0, bx (pm (encDice r5.2)))] (an (Next_Dice_madeSpec r1.2 ((p1.tasks.length : Nat) : Int) r5 hr5) (an tv (an g6.1 (an g6.2 tv)))) ?_)
   obtain rfl := sj hm
   exact DW.ret (retK [.box (pm (encDice r5.2))] [] (pI (p1.tasks.getD (Int.toNat r5.1) dTask).id))
 ·rcases bt r1.1 with h2 | h2
  ·replace hm := if_t h2 hm
   refine RD hnt (.no :: o116 [0] true r1 :: .no :: sk 4 (pT :: [])) [] [(12, pB true)] [] [(0, bx (pm (encDice r1.2)))] (an (Bool_Dice_madeSpec p0 15 r1 hr1) (an tv (an5 h2 tv))) ?_
   exact jD true hm Conv.eqK
  ·replace hm := if_f h2 hm
   refine RD hnt (.no :: o116 [0] true r1 :: nn 5 (pF :: [])) [] [(12, pB (((p1.tasks.length : Nat) : Int) == 0))] [] [(0, bx (pm (encDice r1.2)))] (an (Bool_Dice_madeSpec p0 15 r1 hr1) (an tv (an5 h2 tv))) ?_
   exact jD (((p1.tasks.length : Nat) : Int) == 0) hm Conv.eqK
abbrev o127 (ks : List Nat) (b : Bool) (RES : Int × Dice) : Orc := .call 39 ks b (pI RES.1) [.box (pm (encDice RES.2))] []

theorem Clone_ref6Spec (p0 : Hierarchy) (p1 : Int) (RES : Hierarchy × Int × Int) (hm : Clone_ref6 p0 p1 = some RES) : Spec Tryz.prog 74 [.p (.agg (encHierarchy p0)), pI p1] [] (.tup [.agg [ow 0 RES.1.tree.nodes.length, pI RES.1.tree.next, ow 1 RES.1.tasks.length, pI RES.1.next], pI RES.2.1, pI RES.2.2]) [] [roNode RES.1.tree.nodes, roTask RES.1.tasks] := by
 unfold Clone_ref6 at hm
 refine SO Tryz.func74 rfl rfl [(0, .p (.agg (encHierarchy p0))), (1, pI p1)] [] ?_
 intro cx hnt
 refine Sq (RK hnt (nn 4 []) [(1, pI p1), (2, rr 1016), (4, rr 1032)] [(1016, bx (pm (encHierarchy p0))), (1032, bx [.p (.sl .nil 0 0 (fun _ => [])), pI 0, .p (.sl .nil 0 0 (fun _ => [])), pI 0])] tv ?_)
 obtain ⟨r1, hr1, hm⟩ := bo hm
 refine Sq (Sq (RD hnt (.no :: o9 [] true r1 :: .no :: []) [] [(11, pB (!r1))] [] [] (an (Check_ref6Spec p0 r1 hr1) tv) ?_))
 refine condM hm ?_ ?_
 ·intro h2 hm
  refine Sq (RD hnt (nn 4 []) [1, 2, 11] [(5, pI 0), (6, pI 1)] [1016] [] tv ?_)
  refine DW.cv [] [] [] [(1032, bx [ow 100000 0, pI 0, ow 100001 0, pI 0]), (100000, ob0 (roNode [])), (100001, ob0 (roTask []))] (Conv.ads [(.o 1032 0, 100000, 6, elems encNode dNode []), (.o 1032 2, 100001, 4, elems encTask dTask [])]) ?_
  obtain rfl := sj hm
  exact DW.ret (retK [roNode [], roTask []] [100000, 100001] (.tup [.agg [ow 0 0, pI 0, ow 1 0, pI 0], pI 0, pI 1]))
 ·intro h2 hm
  refine Sk ?_
  obtain ⟨r3, hr3, hm⟩ := bo hm
  refine Sq (RD hnt (nn 2 (o20 [] true r3 :: nn 6 [])) [1, 11] [(7, rr 1056), (8, pB r3.2)] [] [(1056, bx (pm (encTask r3.1)))] (an (Find_ref6Spec p0 p1 r3 hr3) tv) ?_)
  refine Sq (Sq (RD hnt (nn 2 []) [8] [(20, pB (!r3.2))] [] [] tv ?_))
  refine condM hm ?_ ?_
  ·intro h4 hm
   refine Sq (RD hnt (nn 4 []) [2, 7, 20] [(5, pI 0), (6, pI 4)] [1016, 1056] [] tv ?_)
   refine DW.cv [] [] [] [(1032, bx [ow 100000 0, pI 0, ow 100001 0, pI 0]), (100000, ob0 (roNode [])), (100001, ob0 (roTask []))] (Conv.ads [(.o 1032 0, 100000, 6, elems encNode dNode []), (.o 1032 2, 100001, 4, elems encTask dTask [])]) ?_
   obtain rfl := sj hm
   exact DW.ret (retK [roNode [], roTask []] [100000, 100001] (.tup [.agg [ow 0 0, pI 0, ow 1 0, pI 0], pI 0, pI 4]))
  ·intro h4 hm
   refine Sk ?_
   obtain ⟨r5, hr5, hm⟩ := bo hm
   refine Sq (RK hnt (nn 2 (o98 [] true r5 :: nn 6 [])) [(4, rr 1032), (5, pI r5.2.1), (6, pI r5.2.2)] [(1032, bx [ow 1192 r5.1.tree.nodes.length, pI r5.1.tree.next, ow 1193 r5.1.tasks.length, pI r5.1.next]), (1192, ob0 (roNode r5.1.tree.nodes)), (1193, ob0 (roTask r5.1.tasks))] (an (add_ref6Spec p0 r3.1 r5 hr5) tv) ?_)
   obtain rfl := sj hm
   exact DW.ret (retK [roNode r5.1.tree.nodes, roTask r5.1.tasks] [1192, 1193] (.tup [.agg [ow 0 r5.1.tree.nodes.length, pI r5.1.tree.next, ow 1 r5.1.tasks.length, pI r5.1.next], pI r5.2.1, pI r5.2.2]))
abbrev o128 (ks : List Nat) (b : Bool) (RES : Hierarchy × Int × Int) : Orc := .call 74 ks b (.tup [.agg [ow 0 RES.1.tree.nodes.length, pI RES.1.tree.next, ow 1 RES.1.tasks.length, pI RES.1.next], pI RES.2.1, pI RES.2.2]) [] [roNode RES.1.tree.nodes, roTask RES.1.tasks]

abbrev c130e1 (s1 : (List Task) × Int) (p2 : Int) := ({ id := (s1.1.getD (Int.toNat s1.2) dTask).id, process := (s1.1.getD (Int.toNat s1.2) dTask).process, group := p2, user := (s1.1.getD (Int.toNat s1.2) dTask).user } : Task)
abbrev c130e2 : Nat × Obj := (1048, bx [.p (.sl .nil 0 0 (fun _ => [])), pI 0, .p (.sl .nil 0 0 (fun _ => [])), pI 0])
abbrev c130e3 (s1 : (List Task) × Int) (p2 : Int) := (updF (elTask s1.1) (Int.toNat s1.2) [vi (s1.1.getD (Int.toNat s1.2) dTask).id, vi (s1.1.getD (Int.toNat s1.2) dTask).process, vi p2, vi (s1.1.getD (Int.toNat s1.2) dTask).user])
theorem Place_ref6Spec (p0 : Hierarchy) (p1 : Int) (p2 : Int) (RES : Hierarchy × Int) (hm : Place_ref6 p0 p1 p2 = some RES) : Spec Tryz.prog 101 [.p (.agg (encHierarchy p0)), pI p1, pI p2] [] (.tup [.agg [ow 0 RES.1.tree.nodes.length, pI RES.1.tree.next, ow 1 RES.1.tasks.length, pI RES.1.next], pI RES.2]) [] [roNode RES.1.tree.nodes, roTask RES.1.tasks] := by
 unfold Place_ref6 at hm
 refine SO Tryz.func101 rfl rfl [(0, .p (.agg (encHierarchy p0))), (1, pI p1), (2, pI p2)] [] ?_
 intro cx hnt
 refine Sq (RD hnt (nn 3 []) [0] [(3, rr 1024), (6, rr 1048)] [] [(1024, bx (pm (encHierarchy p0))), (c130e2)] tv ?_)
 obtain ⟨r1, hr1, hm⟩ := bo hm
 refine Sq (Sq (RD hnt (.no :: o9 [] true r1 :: .no :: []) [] [(14, pB (!r1))] [] [] (an (Check_ref6Spec p0 r1 hr1) tv) ?_))
 refine condM hm ?_ ?_
 ·intro h2 hm
  refine Sq (RD hnt (nn 3 []) [1, 2, 3, 14] [(7, pI 1)] [1024] [] tv ?_)
  refine DW.cv [] [] [] [(1048, bx [ow 100000 0, pI 0, ow 100001 0, pI 0]), (100000, ob0 (roNode [])), (100001, ob0 (roTask []))] (Conv.ads [(.o 1048 0, 100000, 6, elems encNode dNode []), (.o 1048 2, 100001, 4, elems encTask dTask [])]) ?_
  obtain rfl := sj hm
  exact DW.ret (retK [roNode [], roTask []] [100000, 100001] (.tup [.agg [ow 0 0, pI 0, ow 1 0, pI 0], pI 1]))
 ·intro h2 hm
  refine Sk ?_
  obtain ⟨r3, hr3, hm⟩ := bo hm
  refine Sq (Sq (RD hnt (nn 2 (o20 [] true r3 :: nn 6 [])) [14] [(9, pB r3.2)] [] [] (an (Find_ref6Spec p0 p1 r3 hr3) tv) ?_))
  refine Sq ?_
  refine Jn (ι := Bool) (fun (y1 : Bool) => mkSt [(1, pI p1), (2, pI p2), (3, rr 1024), (6, rr 1048), (30, pB y1)] [(1024, bx (pm (encHierarchy p0))), (c130e2)]) (fun y1 => (Place_ref6J1 p0 p1 p2) y1 = some RES) ?_ ?_
  ·intro y1 hm
   unfold Place_ref6J1 at hm
   refine condM hm ?_ ?_
   ·intro h6 hm
    refine Sq (RD hnt (nn 3 []) [1, 2, 3, 30] [(7, pI 4)] [1024] [] tv ?_)
    refine DW.cv [] [] [] [(1048, bx [ow 100000 0, pI 0, ow 100001 0, pI 0]), (100000, ob0 (roNode [])), (100001, ob0 (roTask []))] (Conv.ads [(.o 1048 0, 100000, 6, elems encNode dNode []), (.o 1048 2, 100001, 4, elems encTask dTask [])]) ?_
    obtain rfl := sj hm
    exact DW.ret (retK [roNode [], roTask []] [100000, 100001] (.tup [.agg [ow 0 0, pI 0, ow 1 0, pI 0], pI 4]))
   ·intro h6 hm
    refine Sk ?_
    obtain ⟨r7, hr7, hm⟩ := bo hm
    refine Sq (RD hnt (.no :: o28 [] true r7 :: nn 2 []) [3, 30] [(10, rr 1080)] [1024] [(1080, bx [ow 1264 r7.tree.nodes.length, pI r7.tree.next, ow 1265 r7.tasks.length, pI r7.next]), (1264, ob0 (roNode r7.tree.nodes)), (1265, ob0 (roTask r7.tasks))] (an (Copy_ref6Spec p0 r7 hr7) tv) ?_)
    refine Sq (Sq (RD hnt (.no :: []) [] [(11, pI 0)] [] [] tv ?_))
    refine Bk ?_
    refine DW.whileO (fun (s1 : (List Task) × Int) => mkSt [(1, pI p1), (2, pI p2), (6, rr 1048), (10, rr 1080), (11, pI s1.2)] [(c130e2), (1080, bx [ow 1264 r7.tree.nodes.length, pI r7.tree.next, ow 1265 s1.1.length, pI r7.next]), (1264, ob0 (roNode r7.tree.nodes)), (1265, ob0 (roTask s1.1))]) hm Conv.eqK ?_
    intro s1 n1 hm
    unfold Place_ref6L1 at hm
    refine Sq (Sq (RD hnt (nn 5 []) [] [(38, pB (decide (s1.2 < ((s1.1.length : Nat) : Int))))] [] [] tv ?_))
    refine condM hm ?_ ?_
    ·intro h14 hm
     refine Sk ?_
     refine Sq ?_
     refine Jn (ι := List Task) (fun (y3 : List Task) => mkSt [(1, pI p1), (2, pI p2), (6, rr 1048), (10, rr 1080), (11, pI s1.2)] [(c130e2), (1080, bx [ow 1264 r7.tree.nodes.length, pI r7.tree.next, ow 1265 y3.length, pI r7.next]), (1264, ob0 (roNode r7.tree.nodes)), (1265, ob0 (roTask y3))]) (fun y3 => (Place_ref6J3 s1 n1) y3 = some RES) ?_ ?_
     ·intro y3 hm
      unfold Place_ref6J3 at hm
      refine RD hnt (nn 3 []) [] [(11, pI (w64 (s1.2 + 1)))] [] [] tv ?_
      exact jD (y3, (w64 (s1.2 + 1))) hm Conv.eqK
     ·refine Bk ?_
      obtain ⟨g15, g16, hm⟩ := go2 hm
      refine Sq (RD hnt (nn 8 []) [38] [(48, pB ((s1.1.getD (Int.toNat s1.2) dTask).id == p1))] [] [] (an g15.1 (an g15.2 (an g16 tv))) ?_)
      refine condM hm ?_ ?_
      ·intro h17 hm
       obtain ⟨g18, g19, hm⟩ := go2 hm
       refine RN hnt (nn 7 []) [(1, pI p1), (2, pI p2), (6, rr 1048), (10, rr 1080), (11, pI s1.2)] [(c130e2), (1080, bx [ow 1264 r7.tree.nodes.length, pI r7.tree.next, ow 1265 (s1.1.set (Int.toNat s1.2) (c130e1 s1 p2)).length, pI r7.next]), (1264, ob0 (roNode r7.tree.nodes)), (1265, ob0 (roTask (s1.1.set (Int.toNat s1.2) (c130e1 s1 p2))))] [] [(1080, .box [ow 1264 r7.tree.nodes.length, pI r7.tree.next, ow 1265 s1.1.length, pI r7.next]), (1265, .row 4 s1.1.length (c130e3 s1 p2))] (an g18.1 (an g18.2 (an g19 tv))) (by kernel_rfl) .nil (.cons rfl (.box (.cons .rfl (.cons .rfl (.cons (MLe.ownLen (enc := encTask) (d := dTask) (f := (c130e3 s1 p2)) (RowIs.upd RowIs.elems (c130e1 s1 p2) rfl)) (.cons .rfl .nil))))) (.cons rfl (BLe.typed (RowIs.upd RowIs.elems (c130e1 s1 p2) rfl)) .nil)) ?_
       exact bD (s1.1.set (Int.toNat s1.2) (c130e1 s1 p2)) hm .refl
      ·intro h17 hm
       refine Sk ?_
       exact bD s1.1 hm Conv.t0
    ·intro h14 hm
     refine DW.exit ?_
     refine joinQ_exit ?_
     refine KQ_exit ?_
     refine blockQ_exit ?_
     show DW _ _ _ _ _
     refine Sq (RD hnt (nn 3 []) [1, 2, 10, 11, 38] [(7, pI 0)] [1080] [(1048, bx [ow 1264 r7.tree.nodes.length, pI r7.tree.next, ow 1265 s1.1.length, pI r7.next])] tv ?_)
     obtain rfl := sj hm
     exact DW.ret (retK [roNode r7.tree.nodes, roTask s1.1] [1264, 1265] (.tup [.agg [ow 0 r7.tree.nodes.length, pI r7.tree.next, ow 1 s1.1.length, pI r7.next], pI 0]))
  ·rcases bt (!r3.2) with h4 | h4
   ·replace hm := if_t h4 hm
    refine RD hnt (nn 3 (sk 5 (pT :: []))) [9] [(30, pB true)] [] [] (an6 h4 tv) ?_
    exact jD true hm Conv.eqK
   ·replace hm := if_f h4 hm
    obtain ⟨r5, hr5, hm⟩ := bo hm
    refine RD hnt (nn 6 (o15 [] true r5 :: .no :: pF :: [])) [9] [(30, pB (!r5))] [] [] (an4 h4 (an (Has_ref5Spec p0.tree p2 r5 hr5) (an2 h4 tv))) ?_
    exact jD (!r5) hm Conv.eqK
abbrev o130 (ks : List Nat) (b : Bool) (RES : Hierarchy × Int) : Orc := .call 101 ks b (.tup [.agg [ow 0 RES.1.tree.nodes.length, pI RES.1.tree.next, ow 1 RES.1.tasks.length, pI RES.1.next], pI RES.2]) [] [roNode RES.1.tree.nodes, roTask RES.1.tasks]

abbrev c129e1 : Nat × Obj := (1048, bx [ow 100000 0, pI 0, ow 100001 0, pI 0])
abbrev c129e2 : Nat × Obj := (1048, bx [.p (.sl .nil 0 0 (fun _ => [])), pI 0, .p (.sl .nil 0 0 (fun _ => [])), pI 0])
theorem AttachThread_ref8Spec (p0 : Hierarchy) (p1 : Int) (p2 : Int) (RES : Hierarchy × Int) (hm : AttachThread_ref8 p0 p1 p2 = some RES) : Spec Tryz.prog 51 [.p (.agg (encHierarchy p0)), pI p1, pI p2] [] (.tup [.agg [ow 0 RES.1.tree.nodes.length, pI RES.1.tree.next, ow 1 RES.1.tasks.length, pI RES.1.next], pI RES.2]) [] [roNode RES.1.tree.nodes, roTask RES.1.tasks] := by
 unfold AttachThread_ref8 at hm
 refine SO Tryz.func51 rfl rfl [(0, .p (.agg (encHierarchy p0))), (1, pI p1), (2, pI p2)] [] ?_
 intro cx hnt
 refine Sq (RD hnt (nn 3 []) [0] [(3, rr 1024), (6, rr 1048)] [] [(1024, bx (pm (encHierarchy p0))), (c129e2)] tv ?_)
 obtain ⟨r1, hr1, hm⟩ := bo hm
 refine Sq (Sq (RD hnt (.no :: o7 [] true r1 :: .no :: []) [] [(17, pB (!r1))] [] [] (an (Fits_ref8Spec p0 r1 hr1) tv) ?_))
 refine condM hm ?_ ?_
 ·intro h2 hm
  refine Sq (RD hnt (nn 3 []) [1, 2, 3, 17] [(7, pI 1)] [1024] [] tv ?_)
  refine DW.cv [] [] [] [(c129e1), (100000, ob0 (roNode [])), (100001, ob0 (roTask []))] (Conv.ads [(.o 1048 0, 100000, 6, elems encNode dNode []), (.o 1048 2, 100001, 4, elems encTask dTask [])]) ?_
  obtain rfl := sj hm
  exact DW.ret (retK [roNode [], roTask []] [100000, 100001] (.tup [.agg [ow 0 0, pI 0, ow 1 0, pI 0], pI 1]))
 ·intro h2 hm
  refine Sk ?_
  obtain ⟨r3, hr3, hm⟩ := bo hm
  refine Sq (RD hnt (nn 2 (o20 [] true r3 :: nn 6 [])) [17] [(8, rr 1064), (9, pB r3.2)] [] [(1064, bx (pm (encTask r3.1)))] (an (Find_ref6Spec p0 p1 r3 hr3) tv) ?_)
  refine Sq (Sq ?_)
  refine Jn (ι := Bool) (fun (y1 : Bool) => mkSt [(1, pI p1), (2, pI p2), (3, rr 1024), (6, rr 1048), (8, rr 1064), (33, pB y1)] [(1024, bx (pm (encHierarchy p0))), (c129e2), (1064, bx (pm (encTask r3.1)))]) (fun y1 => (AttachThread_ref8J1 p0 p1 p2 r3) y1 = some RES) ?_ ?_
  ·intro y1 hm
   unfold AttachThread_ref8J1 at hm
   refine condM hm ?_ ?_
   ·intro h6 hm
    refine Sq (RD hnt (nn 3 []) [1, 2, 3, 8, 33] [(7, pI 4)] [1024, 1064] [] tv ?_)
    refine DW.cv [] [] [] [(c129e1), (100000, ob0 (roNode [])), (100001, ob0 (roTask []))] (Conv.ads [(.o 1048 0, 100000, 6, elems encNode dNode []), (.o 1048 2, 100001, 4, elems encTask dTask [])]) ?_
    obtain rfl := sj hm
    exact DW.ret (retK [roNode [], roTask []] [100000, 100001] (.tup [.agg [ow 0 0, pI 0, ow 1 0, pI 0], pI 4]))
   ·intro h6 hm
    refine Sk ?_
    obtain ⟨r7, hr7, hm⟩ := bo hm
    refine Sq (Sq (RD hnt (nn 2 (o126 [] true r7 :: .no :: [])) [33] [(10, pI r7)] [] [] (an (Admits_ref8Spec p0 p2 r7 hr7) tv) ?_))
    refine Sq (RD hnt (nn 2 []) [] [(39, pB (r7 != 0))] [] [] tv ?_)
    refine condM hm ?_ ?_
    ·intro h8 hm
     refine Sq (RD hnt (nn 4 []) [1, 2, 3, 8, 10, 39] [(7, pI r7)] [1024, 1064] [] tv ?_)
     refine DW.cv [] [] [] [(c129e1), (100000, ob0 (roNode [])), (100001, ob0 (roTask []))] (Conv.ads [(.o 1048 0, 100000, 6, elems encNode dNode []), (.o 1048 2, 100001, 4, elems encTask dTask [])]) ?_
     obtain rfl := sj hm
     exact DW.ret (retK [roNode [], roTask []] [100000, 100001] (.tup [.agg [ow 0 0, pI 0, ow 1 0, pI 0], pI r7]))
    ·intro h8 hm
     refine Sk ?_
     obtain ⟨r9, hr9, hm⟩ := bo hm
     refine Sq (RD hnt (nn 3 (o21 [] true r9 :: nn 5 [])) [10, 39] [(11, pI r9.1)] [] [] (an (Domain_ref8Spec p0.tree p2 r9 hr9) tv) ?_)
     obtain ⟨r10, hr10, hm⟩ := bo hm
     refine Sq (Sq (RD hnt (nn 4 (o21 [] true r10 :: nn 5 [])) [8] [(13, pI r10.1)] [1064] [] (an (Domain_ref8Spec p0.tree r3.1.group r10 hr10) tv) ?_))
     refine Sq (RD hnt (nn 3 []) [11, 13] [(59, pB (r9.1 != r10.1))] [] [] tv ?_)
     refine condM hm ?_ ?_
     ·intro h11 hm
      refine Sq (RD hnt (nn 3 []) [1, 2, 3, 59] [(7, pI 9)] [1024] [] tv ?_)
      refine DW.cv [] [] [] [(c129e1), (100000, ob0 (roNode [])), (100001, ob0 (roTask []))] (Conv.ads [(.o 1048 0, 100000, 6, elems encNode dNode []), (.o 1048 2, 100001, 4, elems encTask dTask [])]) ?_
      obtain rfl := sj hm
      exact DW.ret (retK [roNode [], roTask []] [100000, 100001] (.tup [.agg [ow 0 0, pI 0, ow 1 0, pI 0], pI 9]))
     ·intro h11 hm
      refine Sk ?_
      obtain ⟨r12, hr12, hm⟩ := bo hm
      refine Sq (RK hnt (nn 3 (o130 [] true r12 :: nn 4 [])) [(6, rr 1048), (7, pI r12.2)] [(1048, bx [ow 1512 r12.1.tree.nodes.length, pI r12.1.tree.next, ow 1513 r12.1.tasks.length, pI r12.1.next]), (1512, ob0 (roNode r12.1.tree.nodes)), (1513, ob0 (roTask r12.1.tasks))] (an (Place_ref6Spec p0 p1 p2 r12 hr12) tv) ?_)
      obtain rfl := sj hm
      exact DW.ret (retK [roNode r12.1.tree.nodes, roTask r12.1.tasks] [1512, 1513] (.tup [.agg [ow 0 r12.1.tree.nodes.length, pI r12.1.tree.next, ow 1 r12.1.tasks.length, pI r12.1.next], pI r12.2]))
  ·rcases bt (!r3.2) with h4 | h4
   ·replace hm := if_t h4 hm
    refine RD hnt (nn 3 (sk 5 (pT :: []))) [9] [(33, pB true)] [] [] (an6 h4 tv) ?_
    exact jD true hm Conv.eqK
   ·replace hm := if_f h4 hm
    obtain ⟨r5, hr5, hm⟩ := bo hm
    refine RD hnt (nn 6 (o15 [] true r5 :: .no :: pF :: [])) [9] [(33, pB (!r5))] [] [] (an4 h4 (an (Has_ref5Spec p0.tree p2 r5 hr5) (an2 h4 tv))) ?_
    exact jD (!r5) hm Conv.eqK
abbrev o129 (ks : List Nat) (b : Bool) (RES : Hierarchy × Int) : Orc := .call 51 ks b (.tup [.agg [ow 0 RES.1.tree.nodes.length, pI RES.1.tree.next, ow 1 RES.1.tasks.length, pI RES.1.next], pI RES.2]) [] [roNode RES.1.tree.nodes, roTask RES.1.tasks]
end Go.Dm


/- Go functions compute their models, printed by a program. -/
namespace Go.Dm
open Go.Proofs
set_option linter.unusedVariables false
abbrev c131e1 (p0 : Hierarchy) (k1 : Nat) := (p0.tasks.getD k1 (default : Task))
abbrev c131e2 : Nat × Obj := (1032, bx [.p (.sl .nil 0 0 (fun _ => [])), pI 0, .p (.sl .nil 0 0 (fun _ => [])), pI 0])
abbrev c131e3 (p0 : Hierarchy) : Nat × Obj := (1016, bx (pm (encHierarchy p0)))
theorem Exit_ref6Spec (p0 : Hierarchy) (p1 : Int) (RES : Hierarchy × Int) (hm : Exit_ref6 p0 p1 = some RES) : Spec Tryz.prog 75 [.p (.agg (encHierarchy p0)), pI p1] [] (.tup [.agg [ow 0 RES.1.tree.nodes.length, pI RES.1.tree.next, ow 1 RES.1.tasks.length, pI RES.1.next], pI RES.2]) [] [roNode RES.1.tree.nodes, roTask RES.1.tasks] := by
 unfold Exit_ref6 at hm
 refine SO Tryz.func75 rfl rfl [(0, .p (.agg (encHierarchy p0))), (1, pI p1)] [] ?_
 intro cx hnt
 refine Sq (RK hnt (nn 3 []) [(1, pI p1), (2, rr 1016), (4, rr 1032)] [(c131e3 p0), (c131e2)] tv ?_)
 obtain ⟨r1, hr1, hm⟩ := bo hm
 refine Sq (Sq (RD hnt (.no :: o9 [] true r1 :: .no :: []) [] [(13, pB (!r1))] [] [] (an (Check_ref6Spec p0 r1 hr1) tv) ?_))
 refine condM hm ?_ ?_
 ·intro h2 hm
  refine Sq (RD hnt (nn 3 []) [1, 2, 13] [(5, pI 1)] [1016] [] tv ?_)
  refine DW.cv [] [] [] [(1032, bx [ow 100000 0, pI 0, ow 100001 0, pI 0]), (100000, ob0 (roNode [])), (100001, ob0 (roTask []))] (Conv.ads [(.o 1032 0, 100000, 6, elems encNode dNode []), (.o 1032 2, 100001, 4, elems encTask dTask [])]) ?_
  obtain rfl := sj hm
  exact DW.ret (retK [roNode [], roTask []] [100000, 100001] (.tup [.agg [ow 0 0, pI 0, ow 1 0, pI 0], pI 1]))
 ·intro h2 hm
  refine Sk ?_
  obtain ⟨r3, hr3, hm⟩ := bo hm
  refine Sq (Sq (RD hnt (nn 2 (o20 [] true r3 :: nn 6 [])) [13] [(7, pB r3.2)] [] [] (an (Find_ref6Spec p0 p1 r3 hr3) tv) ?_))
  refine Sq (RD hnt (nn 2 []) [7] [(22, pB (!r3.2))] [] [] tv ?_)
  refine condM hm ?_ ?_
  ·intro h4 hm
   refine Sq (RD hnt (nn 3 []) [1, 2, 22] [(5, pI 4)] [1016] [] tv ?_)
   refine DW.cv [] [] [] [(1032, bx [ow 100000 0, pI 0, ow 100001 0, pI 0]), (100000, ob0 (roNode [])), (100001, ob0 (roTask []))] (Conv.ads [(.o 1032 0, 100000, 6, elems encNode dNode []), (.o 1032 2, 100001, 4, elems encTask dTask [])]) ?_
   obtain rfl := sj hm
   exact DW.ret (retK [roNode [], roTask []] [100000, 100001] (.tup [.agg [ow 0 0, pI 0, ow 1 0, pI 0], pI 4]))
  ·intro h4 hm
   refine Sk ?_
   obtain ⟨r5, hr5, hm⟩ := bo hm
   refine Sq (RD hnt (nn 2 (o27 [] true r5 :: nn 5 [])) [22] [(8, rr 1064)] [] [(1064, bx [ow 1208 r5.nodes.length, pI r5.next, .p (.sl .nil 0 0 (fun _ => [])), pI p0.next]), (1208, ob0 (roNode r5.nodes))] (an (Copy_ref5Spec p0.tree r5 hr5) tv) ?_)
   refine Sq (Sq (RD hnt (.no :: []) [] [(9, pI 0)] [] [] tv ?_))
   refine Bk ?_
   obtain ⟨hc1, hm⟩ := go1 hm
   refine DW.rangeO (fun (k1 : Nat) (s1 : List Task) => mkSt [(1, pI p1), (2, rr 1016), (4, rr 1032), (8, rr 1064), (9, pI ((k1 : Nat) : Int))] [(c131e3 p0), (c131e2), (1064, bx [ow 1208 r5.nodes.length, pI r5.next, ow 1448 s1.length, pI p0.next]), (1208, ob0 (roNode r5.nodes)), (1448, ob0 (roTask s1))]) dTask hm (Conv.ads [(.o 1064 2, 1448, 4, elems encTask dTask [])]) ?_
   intro k1 s1 n1 hk1 hs1 he1
   refine Sq (Sq (RD hnt (nn 5 []) [] [(34, pB (decide (((k1 : Nat) : Int) < ((p0.tasks.length : Nat) : Int))))] [] [] tv ?_))
   refine condK (decide (((k1 : Nat) : Int) < ((p0.tasks.length : Nat) : Int))) ?_ ?_
   ·intro h15
    have hlt1 : k1 < p0.tasks.length := by have := of_decide_eq_true h15; omega
    have hm := hs1 hlt1
    unfold Exit_ref6L1 at hm
    refine Sk ?_
    refine Sq ?_
    refine Jn (ι := List Task) (fun (y3 : List Task) => mkSt [(1, pI p1), (2, rr 1016), (4, rr 1032), (8, rr 1064), (9, pI ((k1 : Nat) : Int))] [(c131e3 p0), (c131e2), (1064, bx [ow 1208 r5.nodes.length, pI r5.next, ow 1448 y3.length, pI p0.next]), (1208, ob0 (roNode r5.nodes)), (1448, ob0 (roTask y3))]) (fun y3 => (Exit_ref6J3 n1) y3 = some RES) ?_ ?_
    ·intro y3 hm
     unfold Exit_ref6J3 at hm
     refine RD hnt (nn 3 []) [] [(9, pI (w64 (((k1 : Nat) : Int) + 1)))] [] [] tv ?_
     exact jD y3 ⟨hlt1, hm⟩ (Conv.tp [(9, pI (w64 (((k1 : Nat) : Int) + 1)))] [] (by kernel_rfl) (.cons rfl (.of_eq (congrArg pI (w64_succ hlt1 hc1))) .nil) .nil)
    ·refine Bk ?_
     refine Sq (RD hnt (nn 7 []) [34] [(10, rr 1080)] [] [(1080, bx (pm (encTask (c131e1 p0 k1))))] (an (nn0 k1) (an (ltc hlt1) tv)) ?_)
     refine Sq (DW.regJ (sl2 := [(1, pI p1), (2, rr 1016), (4, rr 1032), (8, rr 1064), (9, pI ((k1 : Nat) : Int)), (10, rr 1080), (51, pB (((c131e1 p0 k1).id != p1) && ((c131e1 p0 k1).process != p1)))]) (ob2 := [(c131e3 p0), (c131e2), (1064, bx [ow 1208 r5.nodes.length, pI r5.next, ow 1448 s1.length, pI p0.next]), (1080, bx (pm (encTask (c131e1 p0 k1)))), (1208, ob0 (roNode r5.nodes)), (1448, ob0 (roTask s1))]) ?_ ?_)
     ·rcases bt ((c131e1 p0 k1).id != p1) with h16 | h16
      ·exact RT hnt (nn 9 (pT :: [])) [(51, pB ((c131e1 p0 k1).process != p1))] (an5 h16 tv) (by kernel_rfl) (.cons rfl (.of_eq (by rw [h16]; try rfl)) .nil)
      ·exact RT hnt (nn 5 (sk 4 (pF :: []))) [(51, pB false)] (an5 h16 tv) (by kernel_rfl) (.cons rfl (.of_eq (by rw [h16]; try rfl)) .nil)
     ·refine condM hm ?_ ?_
      ·intro h17 hm
       obtain ⟨g18, hm⟩ := go1 hm
       refine RN hnt (nn 7 []) [(1, pI p1), (2, rr 1016), (4, rr 1032), (8, rr 1064), (9, pI ((k1 : Nat) : Int))] [(c131e3 p0), (c131e2), (1064, bx [ow 1208 r5.nodes.length, pI r5.next, ow 1448 (s1 ++ [(c131e1 p0 k1)]).length, pI p0.next]), (1208, ob0 (roNode r5.nodes)), (1448, ob0 (roTask (s1 ++ [(c131e1 p0 k1)])))] [] [(1064, .box [ow 1208 r5.nodes.length, pI r5.next, ow 1448 (s1.length + 1), pI p0.next]), (1448, .row 4 (s1.length + 1) (catF s1.length (elTask s1) (cut 4 [vi (c131e1 p0 k1).id, vi (c131e1 p0 k1).process, vi (c131e1 p0 k1).group, vi (c131e1 p0 k1).user])))] (an (by omega : (s1.length + 1) * 32 ≤ 140737488355328) tv) (by kernel_rfl) .nil (.cons rfl (.box (.cons .rfl (.cons .rfl (.cons (MLe.ownLen (enc := encTask) (d := dTask) (f := (catF s1.length (elTask s1) (cut 4 [vi (c131e1 p0 k1).id, vi (c131e1 p0 k1).process, vi (c131e1 p0 k1).group, vi (c131e1 p0 k1).user]))) (RowIs.cat RowIs.elems (RowIs.lit (enc := encTask) (d := dTask) (n := 1) (f := (cut 4 [vi (c131e1 p0 k1).id, vi (c131e1 p0 k1).process, vi (c131e1 p0 k1).group, vi (c131e1 p0 k1).user])) [(c131e1 p0 k1)] rfl (fun | 0, _ => rfl | n + 1, h => absurd h (by omega))))) (.cons .rfl .nil))))) (.cons rfl (BLe.typed (RowIs.cat RowIs.elems (RowIs.lit (enc := encTask) (d := dTask) (n := 1) (f := (cut 4 [vi (c131e1 p0 k1).id, vi (c131e1 p0 k1).process, vi (c131e1 p0 k1).group, vi (c131e1 p0 k1).user])) [(c131e1 p0 k1)] rfl (fun | 0, _ => rfl | n + 1, h => absurd h (by omega))))) .nil)) ?_
       exact bD (s1 ++ [(c131e1 p0 k1)]) hm .refl
      ·intro h17 hm
       refine Sk ?_
       exact bD s1 hm Conv.t0
   ·intro h15
    have hge1 : ¬ k1 < p0.tasks.length := by have := of_decide_eq_false h15; omega
    have hm := he1 hge1
    unfold Exit_ref6D1 at hm
    refine DW.exit ?_
    refine joinQ_exit ?_
    refine KQ_exit ?_
    refine blockQ_exit ?_
    show DW _ _ _ _ _
    refine Sq (RD hnt (nn 3 []) [1, 2, 8, 9, 34] [(5, pI 0)] [1016, 1064] [(1032, bx [ow 1208 r5.nodes.length, pI r5.next, ow 1448 s1.length, pI p0.next])] tv ?_)
    obtain rfl := sj hm
    exact DW.ret (retK [roNode r5.nodes, roTask s1] [1208, 1448] (.tup [.agg [ow 0 r5.nodes.length, pI r5.next, ow 1 s1.length, pI p0.next], pI 0]))
abbrev o131 (ks : List Nat) (b : Bool) (RES : Hierarchy × Int) : Orc := .call 75 ks b (.tup [.agg [ow 0 RES.1.tree.nodes.length, pI RES.1.tree.next, ow 1 RES.1.tasks.length, pI RES.1.next], pI RES.2]) [] [roNode RES.1.tree.nodes, roTask RES.1.tasks]

abbrev c112e1 : Nat × Obj := (1048, bx [.p (.sl .nil 0 0 (fun _ => [])), pI 0, .p (.sl .nil 0 0 (fun _ => [])), pI 0])
theorem Hierarchy_Dice_madeSpec (p0 : Dice) (p1 : Int) (p2 : Int) (RES : Hierarchy × Dice) (hm : Hierarchy_Dice_made p0 p1 p2 = some RES) : Spec Tryz.prog 18 [rr 0, pI p1, pI p2] [.box (pm (encDice p0))] (.p (.agg (encHierarchy RES.1))) [.box (pm (encDice RES.2))] [] := by
 unfold Hierarchy_Dice_made at hm
 refine SO Tryz.func18 rfl rfl [(0, rr 0), (1, pI p1), (2, pI p2)] [(0, bx (pm (encDice p0)))] ?_
 intro cx hnt
 refine Sq (RD hnt (.no :: []) [] [(6, rr 1048)] [] [(c112e1)] tv ?_)
 obtain ⟨r1, hr1, hm⟩ := bo hm
 refine Sq (RD hnt (o4 [] true r1 :: nn 2 []) [] [(7, rr 1056)] [] [(1056, bx [ow 1168 r1.tree.nodes.length, pI r1.tree.next, ow 1169 r1.tasks.length, pI r1.next]), (1168, ob0 (roNode r1.tree.nodes)), (1169, ob0 (roTask r1.tasks))] (an (New_ref6Spec r1 hr1) tv) ?_)
 obtain ⟨r2, hr2, hm⟩ := bo hm
 refine Sq (RD hnt (nn 2 (o113 [0] true r2 :: nn 2 [])) [] [] [1168] [(0, bx (pm (encDice r2.2))), (1056, bx [.p (slNode r2.1.nodes), pI r2.1.next, ow 1169 r1.tasks.length, pI r1.next])] (an (Tree_Dice_madeSpec p0 p1 r2 hr2) (an tv tv)) ?_)
 obtain ⟨r3, hr3, hm⟩ := bo hm
 refine Sq (Sq (RD hnt (nn 3 (o114 [0] true r3 :: .no :: [])) [1] [(8, pI r3.1)] [] [(0, bx (pm (encDice r3.2)))] (an (Next_Dice_madeSpec r2.2 (w64 (p1 + 3)) r3 hr3) (an tv tv)) ?_))
 refine Bk ?_
 refine DW.whileO (fun (s1 : Dice × Hierarchy × Int) => mkSt [(0, rr 0), (2, pI p2), (6, rr 1048), (7, rr 1056), (8, pI s1.2.2)] [(0, bx (pm (encDice s1.1))), (c112e1), (1056, bx (pm (encHierarchy s1.2.1)))]) hm (Conv.frz [1169]) ?_
 intro s1 n1 hm
 unfold Hierarchy_Dice_madeL1 at hm
 refine Sq (Sq (RD hnt (nn 2 []) [] [(31, pB (decide (s1.2.2 > 0)))] [] [] tv ?_))
 refine condM hm ?_ ?_
 ·intro h56 hm
  refine Sk ?_
  refine Sq (Bk ?_)
  obtain ⟨r57, hr57, hm⟩ := bo hm
  refine RD hnt (nn 2 (o118 [0] true r57 :: .no :: [])) [31] [] [] [(0, bx (pm (encDice r57.2))), (1056, bx (pm (encHierarchy r57.1)))] (an (step_Dice_madeSpec s1.1 s1.2.1 r57 hr57) (an tv tv)) ?_
  refine DW.done ?_
  show DW _ _ _ _ _
  refine RD hnt (nn 3 []) [] [(8, pI (w64 (s1.2.2 - 1)))] [] [] tv ?_
  exact jD (r57.2, r57.1, (w64 (s1.2.2 - 1))) hm Conv.eqK
 ·intro h56 hm
  refine DW.exit ?_
  refine joinQ_exit ?_
  refine KQ_exit ?_
  refine blockQ_exit ?_
  show DW _ _ _ _ _
  obtain ⟨r58, hr58, hm⟩ := bo hm
  refine Sq (Sq (RD hnt (nn 3 (o114 [0] true r58 :: .no :: [])) [2, 8, 31] [(9, pI r58.1)] [] [(0, bx (pm (encDice r58.2)))] (an (Next_Dice_madeSpec s1.1 (w64 (p2 + 1)) r58 hr58) (an tv tv)) ?_))
  refine Bk ?_
  refine DW.whileO (fun (s3 : Dice × Hierarchy × Int) => mkSt [(0, rr 0), (6, rr 1048), (7, rr 1056), (9, pI s3.2.2)] [(0, bx (pm (encDice s3.1))), (c112e1), (1056, bx (pm (encHierarchy s3.2.1)))]) hm Conv.eqK ?_
  intro s3 n3 hm
  unfold Hierarchy_Dice_madeL3 at hm
  refine Sq (Sq (RD hnt (nn 2 []) [] [(42, pB (decide (s3.2.2 > 0)))] [] [] tv ?_))
  refine condM hm ?_ ?_
  ·intro h82 hm
   refine Sk ?_
   refine Sq ?_
   refine Jn (ι := Dice × Hierarchy) (fun (y13 : Dice × Hierarchy) => mkSt [(0, rr 0), (6, rr 1048), (7, rr 1056), (9, pI s3.2.2)] [(0, bx (pm (encDice y13.1))), (c112e1), (1056, bx (pm (encHierarchy y13.2)))]) (fun y13 => (Hierarchy_Dice_madeJ13 s3 n3) y13 = some RES) ?_ ?_
   ·intro y13 hm
    unfold Hierarchy_Dice_madeJ13 at hm
    refine RD hnt (nn 3 []) [] [(9, pI (w64 (s3.2.2 - 1)))] [] [] tv ?_
    exact jD (y13.1, y13.2, (w64 (s3.2.2 - 1))) hm Conv.eqK
   ·refine Bk ?_
    obtain ⟨r83, hr83, hm⟩ := bo hm
    refine Sq (RD hnt (nn 3 (o119 [0] true r83 :: .no :: [])) [42] [(10, pI r83.1)] [] [(0, bx (pm (encDice r83.2)))] (an (Group_Dice_madeSpec s3.1 s3.2.1.tree r83 hr83) (an tv tv)) ?_)
    obtain ⟨r84, hr84, hm⟩ := bo hm
    refine Sq (Sq (RD hnt (nn 2 (o126 [] true r84 :: .no :: [])) [] [(52, pB (r84 != 0))] [] [] (an (Admits_ref8Spec s3.2.1 r83.1 r84 hr84) tv) ?_))
    refine condM hm ?_ ?_
    ·intro h85 hm
     refine DW.exit ?_
     exact blockQ_exit (joinKQ (r83.2, s3.2.1) hm Conv.t0)
    ·intro h85 hm
     refine Sk ?_
     obtain ⟨r86, hr86, hm⟩ := bo hm
     obtain ⟨r87, hr87, hm⟩ := bo hm
     refine Sq (Sq (RD hnt (nn 3 (o114 [0] true r86 :: o97 [] true r87 :: nn 8 [])) [10, 52] [(11, rr 1088), (13, pI r87.2.2)] [] [(0, bx (pm (encDice r86.2))), (1088, bx [ow 1464 r87.1.tree.nodes.length, pI r87.1.tree.next, ow 1465 r87.1.tasks.length, pI r87.1.next]), (1464, ob0 (roNode r87.1.tree.nodes)), (1465, ob0 (roTask r87.1.tasks))] (an (Next_Dice_madeSpec r83.2 3 r86 hr86) (an tv (an (Spawn_ref6Spec s3.2.1 r83.1 r86.1 r87 hr87) tv))) ?_))
     refine Sq (RD hnt (nn 2 []) [13] [(63, pB (r87.2.2 == 0))] [] [] tv ?_)
     refine Jn (ι := Hierarchy) (fun (y14 : Hierarchy) => mkSt [(0, rr 0), (6, rr 1048), (7, rr 1056), (9, pI s3.2.2)] [(0, bx (pm (encDice r86.2))), (c112e1), (1056, bx (pm (encHierarchy y14)))]) (fun y14 => (Hierarchy_Dice_madeJ14 s3 n3 r86) y14 = some RES) ?_ ?_
     ·intro y14 hm
      unfold Hierarchy_Dice_madeJ14 at hm
      obtain ⟨r89, hr89, hm⟩ := bo hm
      refine Sq (Sq (RD hnt (.no :: o116 [0] true r89 :: []) [] [(66, pB r89.1)] [] [(0, bx (pm (encDice r89.2)))] (an (Bool_Dice_madeSpec r86.2 3 r89 hr89) (an tv tv)) ?_))
      refine Jn (ι := Dice × Hierarchy) (fun (y15 : Dice × Hierarchy) => mkSt [(0, rr 0), (6, rr 1048), (7, rr 1056), (9, pI s3.2.2)] [(0, bx (pm (encDice y15.1))), (c112e1), (1056, bx (pm (encHierarchy y15.2)))]) (fun y15 => (Hierarchy_Dice_madeJ15 s3 n3) y15 = some RES) ?_ ?_
      ·intro y15 hm
       unfold Hierarchy_Dice_madeJ15 at hm
       obtain ⟨r94, hr94, hm⟩ := bo hm
       refine Sq (Sq (RD hnt (.no :: o116 [0] true r94 :: []) [] [(80, pB r94.1)] [] [(0, bx (pm (encDice r94.2)))] (an (Bool_Dice_madeSpec y15.1 4 r94 hr94) (an tv tv)) ?_))
       refine Jn (ι := Dice × Hierarchy) (fun (y16 : Dice × Hierarchy) => mkSt [(0, rr 0), (6, rr 1048), (7, rr 1056), (9, pI s3.2.2)] [(0, bx (pm (encDice y16.1))), (c112e1), (1056, bx (pm (encHierarchy y16.2)))]) (fun y16 => (Hierarchy_Dice_madeJ16 s3 n3) y16 = some RES) ?_ ?_
       ·intro y16 hm
        unfold Hierarchy_Dice_madeJ16 at hm
        obtain ⟨r100, hr100, hm⟩ := bo hm
        refine Sq (RD hnt (.no :: o116 [0] true r100 :: []) [] [(97, pB r100.1)] [] [(0, bx (pm (encDice r100.2)))] (an (Bool_Dice_madeSpec y16.1 8 r100 hr100) (an tv tv)) ?_)
        refine condM hm ?_ ?_
        ·intro h101 hm
         obtain ⟨r102, hr102, hm⟩ := bo hm
         obtain ⟨r103, hr103, hm⟩ := bo hm
         refine Sq (RD hnt (nn 3 (o127 [0] true r102 :: o131 [] true r103 :: nn 6 [])) [97] [(19, rr 1152), (20, pI r103.2)] [] [(0, bx (pm (encDice r102.2))), (1152, bx [ow 1824 r103.1.tree.nodes.length, pI r103.1.tree.next, ow 1825 r103.1.tasks.length, pI r103.1.next]), (1824, ob0 (roNode r103.1.tree.nodes)), (1825, ob0 (roTask r103.1.tasks))] (an (Task_Dice_madeSpec r100.2 y16.2 r102 hr102) (an tv (an (Exit_ref6Spec y16.2 r102.1 r103 hr103) tv))) ?_)
         refine Sq (RD hnt (nn 2 []) [20] [(107, pB (r103.2 == 0))] [] [] tv ?_)
         refine condM hm ?_ ?_
         ·intro h104 hm
          refine RD hnt (nn 2 []) [19, 107] [] [1152] [(1056, bx [ow 1824 r103.1.tree.nodes.length, pI r103.1.tree.next, ow 1825 r103.1.tasks.length, pI r103.1.next])] tv ?_
          exact bD (r102.2, r103.1) hm (Conv.frz [1824, 1825])
         ·intro h104 hm
          refine Sk ?_
          exact bD (r102.2, y16.2) hm Conv.t0
        ·intro h101 hm
         refine Sk ?_
         exact bD (r100.2, y16.2) hm Conv.t0
       ·refine condM hm ?_ ?_
        ·intro h95 hm
         obtain ⟨r96, hr96, hm⟩ := bo hm
         obtain ⟨r97, hr97, hm⟩ := bo hm
         obtain ⟨r98, hr98, hm⟩ := bo hm
         refine Sq (RD hnt (nn 3 (o127 [0] true r96 :: nn 3 (o119 [0] true r97 :: o129 [] true r98 :: nn 6 []))) [80] [(17, rr 1136), (18, pI r98.2)] [] [(0, bx (pm (encDice r97.2))), (1136, bx [ow 1720 r98.1.tree.nodes.length, pI r98.1.tree.next, ow 1721 r98.1.tasks.length, pI r98.1.next]), (1720, ob0 (roNode r98.1.tree.nodes)), (1721, ob0 (roTask r98.1.tasks))] (an (Task_Dice_madeSpec r94.2 y15.2 r96 hr96) (an tv (an (Group_Dice_madeSpec r96.2 y15.2.tree r97 hr97) (an tv (an (AttachThread_ref8Spec y15.2 r96.1 r97.1 r98 hr98) tv))))) ?_)
         refine Sq (RD hnt (nn 2 []) [18] [(94, pB (r98.2 == 0))] [] [] tv ?_)
         refine condM hm ?_ ?_
         ·intro h99 hm
          refine RD hnt (nn 2 []) [17, 94] [] [1136] [(1056, bx [ow 1720 r98.1.tree.nodes.length, pI r98.1.tree.next, ow 1721 r98.1.tasks.length, pI r98.1.next])] tv ?_
          exact jD (r97.2, r98.1) hm (Conv.frz [1720, 1721])
         ·intro h99 hm
          refine Sk ?_
          exact jD (r97.2, y15.2) hm Conv.t0
        ·intro h95 hm
         refine Sk ?_
         exact jD (r94.2, y15.2) hm Conv.t0
      ·refine condM hm ?_ ?_
       ·intro h90 hm
        obtain ⟨r91, hr91, hm⟩ := bo hm
        obtain ⟨r92, hr92, hm⟩ := bo hm
        refine Sq (RD hnt (nn 3 (o127 [0] true r91 :: o128 [] true r92 :: nn 8 [])) [66] [(14, rr 1112), (16, pI r92.2.2)] [] [(0, bx (pm (encDice r91.2))), (1112, bx [ow 1576 r92.1.tree.nodes.length, pI r92.1.tree.next, ow 1577 r92.1.tasks.length, pI r92.1.next]), (1576, ob0 (roNode r92.1.tree.nodes)), (1577, ob0 (roTask r92.1.tasks))] (an (Task_Dice_madeSpec r89.2 y14 r91 hr91) (an tv (an (Clone_ref6Spec y14 r91.1 r92 hr92) tv))) ?_)
        refine Sq (RD hnt (nn 2 []) [16] [(77, pB (r92.2.2 == 0))] [] [] tv ?_)
        refine condM hm ?_ ?_
        ·intro h93 hm
         refine RD hnt (nn 2 []) [14, 77] [] [1112] [(1056, bx [ow 1576 r92.1.tree.nodes.length, pI r92.1.tree.next, ow 1577 r92.1.tasks.length, pI r92.1.next])] tv ?_
         exact jD (r91.2, r92.1) hm (Conv.frz [1576, 1577])
        ·intro h93 hm
         refine Sk ?_
         exact jD (r91.2, y14) hm Conv.t0
       ·intro h90 hm
        refine Sk ?_
        exact jD (r89.2, y14) hm Conv.t0
     ·refine condM hm ?_ ?_
      ·intro h88 hm
       refine RD hnt (nn 2 []) [11, 63] [] [1088] [(1056, bx [ow 1464 r87.1.tree.nodes.length, pI r87.1.tree.next, ow 1465 r87.1.tasks.length, pI r87.1.next])] tv ?_
       exact jD r87.1 hm (Conv.frz [1464, 1465])
      ·intro h88 hm
       refine Sk ?_
       exact jD s3.2.1 hm Conv.t0
  ·intro h82 hm
   refine DW.exit ?_
   refine joinQ_exit ?_
   refine KQ_exit ?_
   refine blockQ_exit ?_
   show DW _ _ _ _ _
   refine Sq (RD hnt (nn 2 []) [0, 7, 9, 42] [] [1056] [(1048, bx (pm (encHierarchy s3.2.1)))] tv ?_)
   obtain rfl := sj hm
   exact DW.ret (retK [.box (pm (encDice s3.1))] [] (.p (.agg (encHierarchy s3.2.1))))
abbrev o112 (ks : List Nat) (b : Bool) (RES : Hierarchy × Dice) : Orc := .call 18 ks b (.p (.agg (encHierarchy RES.1))) [.box (pm (encDice RES.2))] []

abbrev c133e1 (p0 : Hierarchy) (k1 : Nat) := (p0.tasks.getD k1 (default : Task))
theorem Threads_ref6Spec (p0 : Hierarchy) (p1 : Int) (RES : List Int) (hm : Threads_ref6 p0 p1 = some RES) : Spec Tryz.prog 28 [.p (.agg (encHierarchy p0)), pI p1] [] (ow 0 RES.length) [] [roI RES] := by
 unfold Threads_ref6 at hm
 refine SO Tryz.func28 rfl rfl [(0, .p (.agg (encHierarchy p0))), (1, pI p1)] [] ?_
 intro cx hnt
 refine Sq (RK hnt (nn 2 []) [(1, pI p1), (2, rr 1016)] [(1016, bx (pm (encHierarchy p0)))] tv ?_)
 obtain ⟨r1, hr1, hm⟩ := bo hm
 refine Sq (Sq (RD hnt (.no :: o9 [] true r1 :: .no :: []) [] [(9, pB (!r1))] [] [] (an (Check_ref6Spec p0 r1 hr1) tv) ?_))
 refine condM hm ?_ ?_
 ·intro h2 hm
  refine Sq (RK hnt (.no :: []) [(4, .p (.sl .nil 0 0 (fun _ => [])))] [] tv ?_)
  refine DW.cv [] [(4, ow 100000 0)] [] [(100000, ob0 (roI []))] (Conv.ads [(.s 4, 100000, 1, elems encI 0 [])]) ?_
  obtain rfl := sj hm
  exact DW.ret (retK [roI []] [100000] (ow 0 0))
 ·intro h2 hm
  refine Sk ?_
  refine Sq (RD hnt (.no :: []) [9] [(5, .p (.sl .nil 0 0 (fun _ => [])))] [] [] tv ?_)
  refine Sq (Sq (RD hnt (.no :: []) [] [(6, pI 0)] [] [] tv ?_))
  refine Bk ?_
  obtain ⟨hc1, hm⟩ := go1 hm
  refine DW.rangeO (fun (k1 : Nat) (s1 : List Int) => mkSt [(1, pI p1), (2, rr 1016), (5, ow 1264 s1.length), (6, pI ((k1 : Nat) : Int))] [(1016, bx (pm (encHierarchy p0))), (1264, ob0 (roI s1))]) dTask hm (Conv.ads [(.s 5, 1264, 1, elems encI 0 [])]) ?_
  intro k1 s1 n1 hk1 hs1 he1
  refine Sq (Sq (RD hnt (nn 5 []) [] [(14, pB (decide (((k1 : Nat) : Int) < ((p0.tasks.length : Nat) : Int))))] [] [] tv ?_))
  refine condK (decide (((k1 : Nat) : Int) < ((p0.tasks.length : Nat) : Int))) ?_ ?_
  ·intro h12
   have hlt1 : k1 < p0.tasks.length := by have := of_decide_eq_true h12; omega
   have hm := hs1 hlt1
   unfold Threads_ref6L1 at hm
   refine Sk ?_
   refine Sq ?_
   refine Jn (ι := List Int) (fun (y3 : List Int) => mkSt [(1, pI p1), (2, rr 1016), (5, ow 1264 y3.length), (6, pI ((k1 : Nat) : Int))] [(1016, bx (pm (encHierarchy p0))), (1264, ob0 (roI y3))]) (fun y3 => (Threads_ref6J3 n1) y3 = some RES) ?_ ?_
   ·intro y3 hm
    unfold Threads_ref6J3 at hm
    refine RD hnt (nn 3 []) [] [(6, pI (w64 (((k1 : Nat) : Int) + 1)))] [] [] tv ?_
    exact jD y3 ⟨hlt1, hm⟩ (Conv.tp [(6, pI (w64 (((k1 : Nat) : Int) + 1)))] [] (by kernel_rfl) (.cons rfl (.of_eq (congrArg pI (w64_succ hlt1 hc1))) .nil) .nil)
   ·refine Bk ?_
    refine Sq (RD hnt (nn 8 []) [14] [(24, pB ((c133e1 p0 k1).process == p1))] [] [] (an (nn0 k1) (an (ltc hlt1) tv)) ?_)
    refine condM hm ?_ ?_
    ·intro h13 hm
     obtain ⟨g14, hm⟩ := go1 hm
     refine RN hnt (nn 10 []) [(1, pI p1), (2, rr 1016), (5, ow 1264 (s1 ++ [(c133e1 p0 k1).id]).length), (6, pI ((k1 : Nat) : Int))] [(1016, bx (pm (encHierarchy p0))), (1264, ob0 (roI (s1 ++ [(c133e1 p0 k1).id])))] [(5, ow 1264 (s1.length + 1))] [(1264, .row 1 (s1.length + 1) (catF s1.length (elI s1) (cut 1 [vi (c133e1 p0 k1).id])))] (an (nn0 k1) (an (ltc hlt1) (an (by omega : (s1.length + 1) * 8 ≤ 140737488355328) tv))) (by kernel_rfl) (.cons rfl (MLe.ownLen (enc := encI) (d := 0) (f := (catF s1.length (elI s1) (cut 1 [vi (c133e1 p0 k1).id]))) (RowIs.cat RowIs.elems (RowIs.lit (enc := encI) (d := 0) (n := 1) (f := (cut 1 [vi (c133e1 p0 k1).id])) [(c133e1 p0 k1).id] rfl (fun | 0, _ => rfl | n + 1, h => absurd h (by omega))))) .nil) (.cons rfl (BLe.typed (RowIs.cat RowIs.elems (RowIs.lit (enc := encI) (d := 0) (n := 1) (f := (cut 1 [vi (c133e1 p0 k1).id])) [(c133e1 p0 k1).id] rfl (fun | 0, _ => rfl | n + 1, h => absurd h (by omega))))) .nil) ?_
     exact bD (s1 ++ [(c133e1 p0 k1).id]) hm .refl
    ·intro h13 hm
     refine Sk ?_
     exact bD s1 hm Conv.t0
  ·intro h12
   have hge1 : ¬ k1 < p0.tasks.length := by have := of_decide_eq_false h12; omega
   have hm := he1 hge1
   unfold Threads_ref6D1 at hm
   refine DW.exit ?_
   refine joinQ_exit ?_
   refine KQ_exit ?_
   refine blockQ_exit ?_
   show DW _ _ _ _ _
   refine Sq (RK hnt (nn 2 []) [(4, ow 1264 s1.length)] [(1264, ob0 (roI s1))] tv ?_)
   obtain rfl := sj hm
   exact DW.ret (retK [roI s1] [1264] (ow 0 s1.length))
abbrev o133 (ks : List Nat) (b : Bool) (RES : List Int) : Orc := .call 28 ks b (ow 0 RES.length) [] [roI RES]

abbrev c132e1 : Nat × Body := (1048, .box [.p (.sl .nil 0 0 (fun _ => [])), pI 0, .p (.sl .nil 0 0 (fun _ => [])), pI 0])
abbrev c132e2 : Nat × Obj := (1048, bx [.p (.sl .nil 0 0 (fun _ => [])), pI 0, .p (.sl .nil 0 0 (fun _ => [])), pI 0])
abbrev c132e3 : Nat × Obj := (1048, bx [.p (slNode []), pI 0, .p (slTask []), pI 0])
theorem Attach_ref8Spec (p0 : Hierarchy) (p1 : Int) (p2 : Int) (RES : Hierarchy × Int) (hm : Attach_ref8 p0 p1 p2 = some RES) : Spec Tryz.prog 50 [.p (.agg (encHierarchy p0)), pI p1, pI p2] [] (.p (.tup [.agg (encHierarchy RES.1), vi RES.2])) [] [] := by
 unfold Attach_ref8 at hm
 refine SO Tryz.func50 rfl rfl [(0, .p (.agg (encHierarchy p0))), (1, pI p1), (2, pI p2)] [] ?_
 intro cx hnt
 refine Sq (RD hnt (nn 3 []) [0] [(3, rr 1024), (6, rr 1048)] [] [(1024, bx (pm (encHierarchy p0))), (c132e2)] tv ?_)
 obtain ⟨r1, hr1, hm⟩ := bo hm
 refine Sq (Sq (RD hnt (.no :: o7 [] true r1 :: .no :: []) [] [(16, pB (!r1))] [] [] (an (Fits_ref8Spec p0 r1 hr1) tv) ?_))
 refine condM hm ?_ ?_
 ·intro h2 hm
  refine Sq (RD hnt (nn 3 []) [1, 2, 3, 16] [(7, pI 1)] [1024] [] tv ?_)
  refine DW.conv (τ := mkSt [(6, rr 1048), (7, pI 1)] [(c132e3)]) (Conv.tp [] [(c132e1)] (by kernel_rfl) .nil (.cons rfl (.box (.cons MLe.nilL (.cons .rfl (.cons MLe.nilL (.cons .rfl .nil))))) .nil)) ?_
  obtain rfl := sj hm
  exact DW.ret (retK [] [] (.p (.tup [.agg [slNode [], vi 0, slTask [], vi 0], vi 1])))
 ·intro h2 hm
  refine Sk ?_
  obtain ⟨r3, hr3, hm⟩ := bo hm
  refine Sq (Sq (RD hnt (nn 2 (o20 [] true r3 :: nn 6 [])) [16] [(8, rr 1064), (9, pB r3.2)] [] [(1064, bx (pm (encTask r3.1)))] (an (Find_ref6Spec p0 p1 r3 hr3) tv) ?_))
  refine Sq ?_
  refine Jn (ι := Bool) (fun (y1 : Bool) => mkSt [(1, pI p1), (2, pI p2), (3, rr 1024), (6, rr 1048), (38, pB y1)] [(1024, bx (pm (encHierarchy p0))), (c132e2)]) (fun y1 => (Attach_ref8J1 p0 p1 p2) y1 = some RES) ?_ ?_
  ·intro y1 hm
   unfold Attach_ref8J1 at hm
   refine condM hm ?_ ?_
   ·intro h7 hm
    refine Sq (RD hnt (nn 3 []) [1, 2, 3, 38] [(7, pI 4)] [1024] [] tv ?_)
    refine DW.conv (τ := mkSt [(6, rr 1048), (7, pI 4)] [(c132e3)]) (Conv.tp [] [(c132e1)] (by kernel_rfl) .nil (.cons rfl (.box (.cons MLe.nilL (.cons .rfl (.cons MLe.nilL (.cons .rfl .nil))))) .nil)) ?_
    obtain rfl := sj hm
    exact DW.ret (retK [] [] (.p (.tup [.agg [slNode [], vi 0, slTask [], vi 0], vi 4])))
   ·intro h7 hm
    refine Sk ?_
    obtain ⟨r8, hr8, hm⟩ := bo hm
    refine Sq (Sq (RD hnt (nn 3 (o23 [] true r8 :: .no :: [])) [38] [(44, pB (r8 == 2))] [] [] (an (Type_ref8Spec p0.tree p2 r8 hr8) tv) ?_))
    refine condM hm ?_ ?_
    ·intro h9 hm
     refine Sq (RD hnt (nn 3 []) [1, 2, 3, 44] [(7, pI 10)] [1024] [] tv ?_)
     refine DW.conv (τ := mkSt [(6, rr 1048), (7, pI 10)] [(c132e3)]) (Conv.tp [] [(c132e1)] (by kernel_rfl) .nil (.cons rfl (.box (.cons MLe.nilL (.cons .rfl (.cons MLe.nilL (.cons .rfl .nil))))) .nil)) ?_
     obtain rfl := sj hm
     exact DW.ret (retK [] [] (.p (.tup [.agg [slNode [], vi 0, slTask [], vi 0], vi 10])))
    ·intro h9 hm
     refine Sk ?_
     obtain ⟨r10, hr10, hm⟩ := bo hm
     refine Sq (Sq (RD hnt (nn 2 (o126 [] true r10 :: .no :: [])) [44] [(10, pI r10)] [] [] (an (Admits_ref8Spec p0 p2 r10 hr10) tv) ?_))
     refine Sq (RD hnt (nn 2 []) [] [(50, pB (r10 != 0))] [] [] tv ?_)
     refine condM hm ?_ ?_
     ·intro h11 hm
      refine Sq (RD hnt (nn 4 []) [1, 2, 3, 10, 50] [(7, pI r10)] [1024] [] tv ?_)
      refine DW.conv (τ := mkSt [(6, rr 1048), (7, pI r10)] [(c132e3)]) (Conv.tp [] [(c132e1)] (by kernel_rfl) .nil (.cons rfl (.box (.cons MLe.nilL (.cons .rfl (.cons MLe.nilL (.cons .rfl .nil))))) .nil)) ?_
      obtain rfl := sj hm
      exact DW.ret (retK [] [] (.p (.tup [.agg [slNode [], vi 0, slTask [], vi 0], vi r10])))
     ·intro h11 hm
      refine Sk ?_
      refine Sq (RD hnt (nn 3 []) [10, 50] [(11, rr 1088)] [] [(1088, bx (pm (encHierarchy p0)))] tv ?_)
      obtain ⟨r12, hr12, hm⟩ := bo hm
      refine Sq (RD hnt (nn 2 (o133 [] true r12 :: .no :: [])) [1, 3] [(12, ow 1448 r12.length)] [1024] [(1448, ob0 (roI r12))] (an (Threads_ref6Spec p0 p1 r12 hr12) tv) ?_)
      refine Sq (Sq (RD hnt (.no :: []) [] [(13, pI 0)] [] [] tv ?_))
      refine Bk ?_
      obtain ⟨hc1, hm⟩ := go1 hm
      refine DW.rangeO (fun (k1 : Nat) (s1 : Hierarchy) => mkSt [(2, pI p2), (6, rr 1048), (11, rr 1088), (12, ow 1448 r12.length), (13, pI ((k1 : Nat) : Int))] [(c132e2), (1088, bx (pm (encHierarchy s1))), (1448, ob0 (roI r12))]) 0 hm Conv.eqK ?_
      intro k1 s1 n1 hk1 hs1 he1
      refine Sq (Sq (RD hnt (nn 4 []) [] [(60, pB (decide (((k1 : Nat) : Int) < ((r12.length : Nat) : Int))))] [] [] tv ?_))
      refine condK (decide (((k1 : Nat) : Int) < ((r12.length : Nat) : Int))) ?_ ?_
      ·intro h21
       have hlt1 : k1 < r12.length := by have := of_decide_eq_true h21; omega
       have hm := hs1 hlt1
       unfold Attach_ref8L1 at hm
       refine Sk ?_
       refine Sq (Bk ?_)
       obtain ⟨r22, hr22, hm⟩ := bo hm
       refine RD hnt (nn 6 (o130 [] true r22 :: nn 4 [])) [60] [] [] [(1088, bx [ow 1560 r22.1.tree.nodes.length, pI r22.1.tree.next, ow 1561 r22.1.tasks.length, pI r22.1.next]), (1560, ob0 (roNode r22.1.tree.nodes)), (1561, ob0 (roTask r22.1.tasks))] (an (nn0 k1) (an (ltc hlt1) (an (by omega : k1 < r12.length) (an (Place_ref6Spec s1 (r12.getD k1 0) p2 r22 hr22) tv)))) ?_
       refine DW.done ?_
       show DW _ _ _ _ _
       refine RD hnt (nn 3 []) [] [(13, pI (w64 (((k1 : Nat) : Int) + 1)))] [] [] tv ?_
       exact jD r22.1 ⟨hlt1, hm⟩ (Conv.trans (τ := mkSt [(2, pI p2), (6, rr 1048), (11, rr 1088), (12, ow 1448 r12.length), (13, pI (w64 (((k1 : Nat) : Int) + 1)))] [(c132e2), (1088, bx (pm (encHierarchy r22.1))), (1448, ob0 (roI r12))]) (Conv.frz [1560, 1561]) (Conv.tp [(13, pI (w64 (((k1 : Nat) : Int) + 1)))] [] (by kernel_rfl) (.cons rfl (.of_eq (congrArg pI (w64_succ hlt1 hc1))) .nil) .nil))
      ·intro h21
       have hge1 : ¬ k1 < r12.length := by have := of_decide_eq_false h21; omega
       have hm := he1 hge1
       unfold Attach_ref8D1 at hm
       refine DW.exit ?_
       refine joinQ_exit ?_
       refine KQ_exit ?_
       refine blockQ_exit ?_
       show DW _ _ _ _ _
       refine Sq (RK hnt (nn 3 []) [(6, rr 1048), (7, pI 0)] [(1048, bx (pm (encHierarchy s1)))] tv ?_)
       obtain rfl := sj hm
       exact DW.ret (retK [] [] (.p (.tup [.agg (encHierarchy s1), vi 0])))
  ·rcases bt (!r3.2) with h4 | h4
   ·replace hm := if_t h4 hm
    refine RD hnt (nn 3 (sk 4 (pT :: .no :: sk 5 (pT :: [])))) [8, 9] [(38, pB true)] [1064] [] (an5 h4 (an6 tt tv)) ?_
    exact jD true hm Conv.eqK
   ·replace hm := if_f h4 hm
    rcases bt (r3.1.process != p1) with h5 | h5
    ·replace hm := if_t h5 hm
     refine RD hnt (nn 7 (pF :: .no :: sk 5 (pT :: []))) [8, 9] [(38, pB true)] [1064] [] (an5 h4 (an6 h5 tv)) ?_
     exact jD true hm Conv.eqK
    ·replace hm := if_f h5 hm
     obtain ⟨r6, hr6, hm⟩ := bo hm
     refine RD hnt (nn 7 (pF :: nn 4 (o15 [] true r6 :: .no :: pF :: []))) [8, 9] [(38, pB (!r6))] [1064] [] (an5 h4 (an4 h5 (an (Has_ref5Spec p0.tree p2 r6 hr6) (an2 h5 tv)))) ?_
     exact jD (!r6) hm Conv.eqK
abbrev o132 (ks : List Nat) (b : Bool) (RES : Hierarchy × Int) : Orc := .call 50 ks b (.p (.tup [.agg (encHierarchy RES.1), vi RES.2])) [] []

theorem Same_ref5Spec (p0 : Tree) (p1 : Tree) (RES : Bool) (hm : Same_ref5 p0 p1 = some RES) : Spec Tryz.prog 58 [.p (.agg (encTree p0)), .p (.agg (encTree p1))] [] (pB RES) [] [] := by
 unfold Same_ref5 at hm
 refine SO Tryz.func58 rfl rfl [(0, .p (.agg (encTree p0))), (1, .p (.agg (encTree p1)))] [] ?_
 intro cx hnt
 refine Sq (RK hnt (nn 3 []) [(2, rr 1016), (3, rr 1024)] [(1016, bx (pm (encTree p0))), (1024, bx (pm (encTree p1)))] tv ?_)
 refine Sq (Sq (DW.regJ (sl2 := [(2, rr 1016), (3, rr 1024), (19, pB ((((p0.nodes.length : Nat) : Int) != ((p1.nodes.length : Nat) : Int)) || (p0.next != p1.next)))]) (ob2 := [(1016, bx (pm (encTree p0))), (1024, bx (pm (encTree p1)))]) ?_ ?_))
 ·rcases bt (((p0.nodes.length : Nat) : Int) != ((p1.nodes.length : Nat) : Int)) with h1 | h1
  ·exact RT hnt (nn 8 (sk 5 (pT :: []))) [(19, pB true)] (an6 h1 tv) (by kernel_rfl) (.cons rfl (.of_eq (by rw [h1]; try rfl)) .nil)
  ·exact RT hnt (nn 13 (pF :: [])) [(19, pB (p0.next != p1.next))] (an6 h1 tv) (by kernel_rfl) (.cons rfl (.of_eq (by rw [h1]; try rfl)) .nil)
 ·refine condM hm ?_ ?_
  ·intro h2 hm
   refine Sq (RK hnt (.no :: []) [(4, pB false)] [] tv ?_)
   obtain rfl := sj hm
   exact DW.ret (retK [] [] (pB false))
  ·intro h2 hm
   refine Sk ?_
   refine Sq (Sq (RD hnt (.no :: []) [19] [(5, pI 0)] [] [] tv ?_))
   refine Bk ?_
   obtain ⟨hc1, hm⟩ := go1 hm
   refine DW.rangeO (fun (k1 : Nat) (s1 : Unit) => mkSt [(2, rr 1016), (3, rr 1024), (5, pI ((k1 : Nat) : Int))] [(1016, bx (pm (encTree p0))), (1024, bx (pm (encTree p1)))]) dNode hm Conv.eqK ?_
   intro k1 s1 n1 hk1 hs1 he1
   refine Sq (Sq (RD hnt (nn 5 []) [] [(24, pB (decide (((k1 : Nat) : Int) < ((p0.nodes.length : Nat) : Int))))] [] [] tv ?_))
   refine condK (decide (((k1 : Nat) : Int) < ((p0.nodes.length : Nat) : Int))) ?_ ?_
   ·intro h11
    have hlt1 : k1 < p0.nodes.length := by have := of_decide_eq_true h11; omega
    have hm := hs1 hlt1
    unfold Same_ref5L1 at hm
    refine Sk ?_
    refine Sq (Bk ?_)
    obtain ⟨g12, hm⟩ := go1 hm
    refine Sq (RD hnt (nn 11 []) [24] [(37, pB (!(eqNode (p0.nodes.getD k1 (default : Node)) (p1.nodes.getD k1 dNode))))] [] [] (an (nn0 k1) (an (ltc hlt1) (an (nn0 k1) (an (ltc g12) tv)))) ?_)
    refine condM hm ?_ ?_
    ·intro h13 hm
     refine Sq (RK hnt (.no :: []) [(4, pB false)] [] tv ?_)
     obtain rfl := sj hm
     exact DW.ret (retK [] [] (pB false))
    ·intro h13 hm
     refine Sk ?_
     refine DW.done ?_
     show DW _ _ _ _ _
     refine RD hnt (nn 3 []) [37] [(5, pI (w64 (((k1 : Nat) : Int) + 1)))] [] [] tv ?_
     exact jD () ⟨hlt1, hm⟩ (Conv.tp [(5, pI (w64 (((k1 : Nat) : Int) + 1)))] [] (by kernel_rfl) (.cons rfl (.of_eq (congrArg pI (w64_succ hlt1 hc1))) .nil) .nil)
   ·intro h11
    have hge1 : ¬ k1 < p0.nodes.length := by have := of_decide_eq_false h11; omega
    have hm := he1 hge1
    unfold Same_ref5D1 at hm
    refine DW.exit ?_
    refine joinQ_exit ?_
    refine KQ_exit ?_
    refine blockQ_exit ?_
    show DW _ _ _ _ _
    refine Sq (RK hnt (.no :: []) [(4, pB true)] [] tv ?_)
    obtain rfl := sj hm
    exact DW.ret (retK [] [] (pB true))
abbrev o135 (ks : List Nat) (b : Bool) (RES : Bool) : Orc := .call 58 ks b (pB RES) [] []

theorem Same_ref6Spec (p0 : Hierarchy) (p1 : Hierarchy) (RES : Bool) (hm : Same_ref6 p0 p1 = some RES) : Spec Tryz.prog 24 [.p (.agg (encHierarchy p0)), .p (.agg (encHierarchy p1))] [] (pB RES) [] [] := by
 unfold Same_ref6 at hm
 refine SO Tryz.func24 rfl rfl [(0, .p (.agg (encHierarchy p0))), (1, .p (.agg (encHierarchy p1)))] [] ?_
 intro cx hnt
 refine Sq (RK hnt (nn 3 []) [(2, rr 1016), (3, rr 1024)] [(1016, bx (pm (encHierarchy p0))), (1024, bx (pm (encHierarchy p1)))] tv ?_)
 obtain ⟨r1, hr1, hm⟩ := bo hm
 refine Sq (Sq ?_)
 refine Jn (ι := Bool) (fun (y1 : Bool) => mkSt [(2, rr 1016), (3, rr 1024), (27, pB y1)] [(1016, bx (pm (encHierarchy p0))), (1024, bx (pm (encHierarchy p1)))]) (fun y1 => (Same_ref6J1 p0 p1) y1 = some RES) ?_ ?_
 ·intro y1 hm
  unfold Same_ref6J1 at hm
  refine condM hm ?_ ?_
  ·intro h4 hm
   refine Sq (RK hnt (.no :: []) [(4, pB false)] [] tv ?_)
   obtain rfl := sj hm
   exact DW.ret (retK [] [] (pB false))
  ·intro h4 hm
   refine Sk ?_
   refine Sq (Sq (RD hnt (.no :: []) [27] [(5, pI 0)] [] [] tv ?_))
   refine Bk ?_
   obtain ⟨hc1, hm⟩ := go1 hm
   refine DW.rangeO (fun (k1 : Nat) (s1 : Unit) => mkSt [(2, rr 1016), (3, rr 1024), (5, pI ((k1 : Nat) : Int))] [(1016, bx (pm (encHierarchy p0))), (1024, bx (pm (encHierarchy p1)))]) dTask hm Conv.eqK ?_
   intro k1 s1 n1 hk1 hs1 he1
   refine Sq (Sq (RD hnt (nn 5 []) [] [(32, pB (decide (((k1 : Nat) : Int) < ((p0.tasks.length : Nat) : Int))))] [] [] tv ?_))
   refine condK (decide (((k1 : Nat) : Int) < ((p0.tasks.length : Nat) : Int))) ?_ ?_
   ·intro h13
    have hlt1 : k1 < p0.tasks.length := by have := of_decide_eq_true h13; omega
    have hm := hs1 hlt1
    unfold Same_ref6L1 at hm
    refine Sk ?_
    refine Sq (Bk ?_)
    obtain ⟨g14, hm⟩ := go1 hm
    refine Sq (RD hnt (nn 11 []) [32] [(45, pB (!(eqTask (p0.tasks.getD k1 (default : Task)) (p1.tasks.getD k1 dTask))))] [] [] (an (nn0 k1) (an (ltc hlt1) (an (nn0 k1) (an (ltc g14) tv)))) ?_)
    refine condM hm ?_ ?_
    ·intro h15 hm
     refine Sq (RK hnt (.no :: []) [(4, pB false)] [] tv ?_)
     obtain rfl := sj hm
     exact DW.ret (retK [] [] (pB false))
    ·intro h15 hm
     refine Sk ?_
     refine DW.done ?_
     show DW _ _ _ _ _
     refine RD hnt (nn 3 []) [45] [(5, pI (w64 (((k1 : Nat) : Int) + 1)))] [] [] tv ?_
     exact jD () ⟨hlt1, hm⟩ (Conv.tp [(5, pI (w64 (((k1 : Nat) : Int) + 1)))] [] (by kernel_rfl) (.cons rfl (.of_eq (congrArg pI (w64_succ hlt1 hc1))) .nil) .nil)
   ·intro h13
    have hge1 : ¬ k1 < p0.tasks.length := by have := of_decide_eq_false h13; omega
    have hm := he1 hge1
    unfold Same_ref6D1 at hm
    refine DW.exit ?_
    refine joinQ_exit ?_
    refine KQ_exit ?_
    refine blockQ_exit ?_
    show DW _ _ _ _ _
    refine Sq (RK hnt (.no :: []) [(4, pB true)] [] tv ?_)
    obtain rfl := sj hm
    exact DW.ret (retK [] [] (pB true))
 ·rcases bt (!r1) with h2 | h2
  ·replace hm := if_t h2 hm
   refine RD hnt (nn 4 (o135 [] true r1 :: nn 2 (sk 7 (pT :: .no :: sk 5 (pT :: []))))) [] [(27, pB true)] [] [] (an (Same_ref5Spec p0.tree p1.tree r1 hr1) (an2 h2 (an6 h2 (an6 tt tv)))) ?_
   exact jD true hm Conv.eqK
  ·replace hm := if_f h2 hm
   rcases bt (((p0.tasks.length : Nat) : Int) != ((p1.tasks.length : Nat) : Int)) with h3 | h3
   ·replace hm := if_t h3 hm
    refine RD hnt (nn 4 (o135 [] true r1 :: nn 9 (pF :: .no :: sk 5 (pT :: [])))) [] [(27, pB true)] [] [] (an (Same_ref5Spec p0.tree p1.tree r1 hr1) (an2 h2 (an6 h2 (an6 h3 tv)))) ?_
    exact jD true hm Conv.eqK
   ·replace hm := if_f h3 hm
    refine RD hnt (nn 4 (o135 [] true r1 :: nn 9 (pF :: nn 6 (pF :: [])))) [] [(27, pB (p0.next != p1.next))] [] [] (an (Same_ref5Spec p0.tree p1.tree r1 hr1) (an2 h2 (an6 h2 (an6 h3 tv)))) ?_
    exact jD (p0.next != p1.next) hm Conv.eqK
abbrev o134 (ks : List Nat) (b : Bool) (RES : Bool) : Orc := .call 24 ks b (pB RES) [] []

theorem Enter_delegateSpec (p0 : Tree) (p1 : Int) (p2 : Int) (RES : Bool) (hm : Enter_delegate p0 p1 p2 = some RES) : Spec Tryz.prog 56 [.p (.agg (encTree p0)), pI p1, pI p2] [] (pB RES) [] [] := by
 unfold Enter_delegate at hm
 refine SO Tryz.func56 rfl rfl [(0, .p (.agg (encTree p0))), (1, pI p1), (2, pI p2)] [] ?_
 intro cx hnt
 refine Sq (RD hnt (nn 2 []) [0] [(3, rr 1024)] [] [(1024, bx (pm (encTree p0)))] tv ?_)
 obtain ⟨r1, hr1, hm⟩ := bo hm
 refine Sq ?_
 refine Jn (ι := Bool) (fun (y1 : Bool) => mkSt [(6, pB y1)] []) (fun y1 => Enter_delegateJ1 y1 = some RES) ?_ ?_
 ·intro y1 hm
  unfold Enter_delegateJ1 at hm
  obtain rfl := sj hm
  exact DW.ret (retK [] [] (pB y1))
 ·rcases bt r1 with h2 | h2
  ·replace hm := if_t h2 hm
   obtain ⟨r3, hr3, hm⟩ := bo hm
   refine RK hnt (.no :: o33 [] true r1 :: nn 4 (o86 [] true r3 :: pT :: .no :: [])) [(6, pB r3)] [] (an (Check_treeSpec p0 r1 hr1) (an4 h2 (an (enter_delegateSpec p0 p1 p2 r3 hr3) (an h2 tv)))) ?_
   exact jD r3 hm .refl
  ·replace hm := if_f h2 hm
   refine RK hnt (.no :: o33 [] true r1 :: .no :: sk 4 (pF :: .no :: [])) [(6, pB false)] [] (an (Check_treeSpec p0 r1 hr1) (an5 h2 tv)) ?_
   exact jD false hm .refl
abbrev o136 (ks : List Nat) (b : Bool) (RES : Bool) : Orc := .call 56 ks b (pB RES) [] []

theorem Full_delegateSpec (p0 : Tree) (p1 : Int) (p2 : Int) (RES : Bool) (hm : Full_delegate p0 p1 p2 = some RES) : Spec Tryz.prog 57 [.p (.agg (encTree p0)), pI p1, pI p2] [] (pB RES) [] [] := by
 unfold Full_delegate at hm
 refine SO Tryz.func57 rfl rfl [(0, .p (.agg (encTree p0))), (1, pI p1), (2, pI p2)] [] ?_
 intro cx hnt
 refine Sq (RD hnt (nn 2 []) [0] [(3, rr 1024)] [] [(1024, bx (pm (encTree p0)))] tv ?_)
 obtain ⟨r1, hr1, hm⟩ := bo hm
 refine Sq ?_
 refine Jn (ι := Bool) (fun (y1 : Bool) => mkSt [(6, pB y1)] []) (fun y1 => Full_delegateJ1 y1 = some RES) ?_ ?_
 ·intro y1 hm
  unfold Full_delegateJ1 at hm
  obtain rfl := sj hm
  exact DW.ret (retK [] [] (pB y1))
 ·rcases bt r1 with h2 | h2
  ·replace hm := if_t h2 hm
   obtain ⟨r3, hr3, hm⟩ := bo hm
   refine RK hnt (.no :: o33 [] true r1 :: nn 4 (o39 [] true r3 :: pT :: .no :: [])) [(6, pB r3)] [] (an (Check_treeSpec p0 r1 hr1) (an4 h2 (an (full_delegateSpec p0 p1 p2 r3 hr3) (an h2 tv)))) ?_
   exact jD r3 hm .refl
  ·replace hm := if_f h2 hm
   refine RK hnt (.no :: o33 [] true r1 :: .no :: sk 4 (pF :: .no :: [])) [(6, pB false)] [] (an (Check_treeSpec p0 r1 hr1) (an5 h2 tv)) ?_
   exact jD false hm .refl
abbrev o137 (ks : List Nat) (b : Bool) (RES : Bool) : Orc := .call 57 ks b (pB RES) [] []

abbrev c1e1 (r5 : Hierarchy × Dice) (k1 : Nat) := (r5.1.tree.nodes.getD k1 (default : Node))
abbrev c1e2 (r5 : Hierarchy × Dice) : Nat × MV := (60, pI ((r5.1.tree.nodes.length : Nat) : Int))
abbrev c1e3 (r5 : Hierarchy × Dice) : Nat × Obj := (1032, bx (pm (encHierarchy r5.1)))
theorem DelegateAll_law9Spec (p0 : List Int) (RES : Bool) (hm : DelegateAll_law9 p0 = some RES) : Spec Tryz.prog 11 [.p (slI p0)] [] (pB RES) [] [] := by
 unfold DelegateAll_law9 at hm
 refine SO Tryz.func11 rfl rfl [(0, .p (slI p0))] [] ?_
 intro cx hnt
 refine Sq (RK hnt (.no :: []) [(0, .p (slI p0))] [] tv ?_)
 obtain ⟨r1, hr1, hm⟩ := bo hm
 refine Sq (Sq (RD hnt (.no :: o2 [] true r1 :: .no :: []) [] [(18, pB (!r1))] [] [] (an (Light_madeSpec p0 r1 hr1) tv) ?_))
 refine condM hm ?_ ?_
 ·intro h2 hm
  obtain ⟨r3, hr3, hm⟩ := bo hm
  refine Sq (RK hnt (o3 [] true r3 :: .no :: []) [(2, pB r3)] [] (an (sane_law9Spec r3 hr3) tv) ?_)
  obtain rfl := sj hm
  exact DW.ret (retK [] [] (pB r3))
 ·intro h2 hm
  refine Sk ?_
  obtain ⟨r4, hr4, hm⟩ := bo hm
  refine Sq (RK hnt (.no :: o111 [] true r4 :: .no :: []) [(3, rr 1168)] [(1168, bx (pm (encDice r4)))] (an (Roll_madeSpec p0 r4 hr4) tv) ?_)
  obtain ⟨r5, hr5, hm⟩ := bo hm
  refine Sq (RK hnt (.no :: o112 [1168] true r5 :: nn 2 []) [(3, rr 1168), (4, rr 1032)] [(c1e3 r5), (1168, bx (pm (encDice r5.2)))] (an (Hierarchy_Dice_madeSpec r4 6 6 r5 hr5) (an tv tv)) ?_)
  obtain ⟨r6, hr6, hm⟩ := bo hm
  obtain ⟨r7, hr7, hm⟩ := bo hm
  refine Sq (RD hnt (nn 3 (o119 [1168] true r6 :: nn 2 (o127 [1168] true r7 :: nn 2 []))) [] [(5, pI r6.1), (6, pI r7.1)] [] [(1168, bx (pm (encDice r7.2)))] (an (Group_Dice_madeSpec r5.2 r5.1.tree r6 hr6) (an tv (an (Task_Dice_madeSpec r6.2 r5.1 r7 hr7) (an tv tv)))) ?_)
  obtain ⟨r8, hr8, hm⟩ := bo hm
  refine Sq (RD hnt (nn 3 (o99 [] true r8 :: nn 6 [])) [] [(7, rr 1056), (8, pI r8.2)] [] [(1056, bx [ow 1280 r8.1.tree.nodes.length, pI r8.1.tree.next, ow 1281 r8.1.tasks.length, pI r8.1.next]), (1280, ob0 (roNode r8.1.tree.nodes)), (1281, ob0 (roTask r8.1.tasks))] (an (Move_delegateSpec r5.1 0 r7.1 r6.1 r8 hr8) tv) ?_)
  obtain ⟨r9, hr9, hm⟩ := bo hm
  refine Sq (RD hnt (nn 3 (o132 [] true r9 :: nn 6 [])) [5, 6] [(9, rr 1072), (10, pI r9.2)] [] [(1072, bx (pm (encHierarchy r9.1)))] (an (Attach_ref8Spec r5.1 r7.1 r6.1 r9 hr9) tv) ?_)
  refine Sq (Sq ?_)
  refine Jn (ι := Bool) (fun (y1 : Bool) => mkSt [(3, rr 1168), (4, rr 1032), (53, pB y1)] [(c1e3 r5), (1168, bx (pm (encDice r7.2)))]) (fun y1 => (DelegateAll_law9J1 r5 r7) y1 = some RES) ?_ ?_
  ·intro y1 hm
   unfold DelegateAll_law9J1 at hm
   refine condM hm ?_ ?_
   ·intro h12 hm
    refine Sq (RK hnt (.no :: []) [(2, pB false)] [] tv ?_)
    obtain rfl := sj hm
    exact DW.ret (retK [] [] (pB false))
   ·intro h12 hm
    refine Sk ?_
    obtain ⟨r13, hr13, hm⟩ := bo hm
    refine Sq (RD hnt (.no :: o114 [1168] true r13 :: nn 2 []) [3, 53] [(11, pI (w64 (1 + r13.1)))] [1168] [] (an (Next_Dice_madeSpec r7.2 2 r13 hr13) (an tv tv)) ?_)
    refine Sq (Sq (RD hnt (nn 5 []) [] [(c1e2 r5), (61, pI 0)] [] [] tv ?_))
    refine Bk ?_
    obtain ⟨hc1, hm⟩ := go1 hm
    refine DW.rangeO (fun (k1 : Nat) (s1 : Unit) => mkSt [(4, rr 1032), (11, pI (w64 (1 + r13.1))), (c1e2 r5), (61, pI ((k1 : Nat) : Int))] [(c1e3 r5)]) dNode hm Conv.eqK ?_
    intro k1 s1 n1 hk1 hs1 he1
    refine Sq (RD hnt (.no :: []) [] [(62, pB (decide (((k1 : Nat) : Int) < ((r5.1.tree.nodes.length : Nat) : Int))))] [] [] tv ?_)
    refine Sq (condK (decide (((k1 : Nat) : Int) < ((r5.1.tree.nodes.length : Nat) : Int))) ?_ ?_)
    ·intro h66
     have hlt1 : k1 < r5.1.tree.nodes.length := by have := of_decide_eq_true h66; omega
     have hm := hs1 hlt1
     unfold DelegateAll_law9L1 at hm
     refine Sk ?_
     refine Sq (Bk ?_)
     refine Sq (RD hnt (nn 2 []) [62] [(12, pI ((k1 : Nat) : Int))] [] [] tv ?_)
     refine Sq (RD hnt (nn 8 []) [12] [(13, rr 1104)] [] [(1104, bx (pm (encNode (c1e1 r5 k1))))] (an (nn0 k1) (an (ltc hlt1) tv)) ?_)
     obtain ⟨r67, hr67, hm⟩ := bo hm
     refine Sq (Sq (RD hnt (nn 5 (o136 [] true r67 :: [])) [] [(75, pB r67)] [] [] (an (Enter_delegateSpec r5.1.tree (w64 (1 + r13.1)) (c1e1 r5 k1).id r67 hr67) tv) ?_))
     refine Jn (ι := Unit) (fun (y6 : Unit) => mkSt [(4, rr 1032), (11, pI (w64 (1 + r13.1))), (13, rr 1104), (c1e2 r5), (61, pI ((k1 : Nat) : Int))] [(c1e3 r5), (1104, bx (pm (encNode (c1e1 r5 k1))))]) (fun y6 => (DelegateAll_law9J6 r5 r13 (c1e1 r5 k1) n1) y6 = some RES) ?_ ?_
     ·intro y6 hm
      unfold DelegateAll_law9J6 at hm
      obtain ⟨r83, hr83, hm⟩ := bo hm
      refine Sq ?_
      refine Jn (ι := Bool) (fun (y7 : Bool) => mkSt [(4, rr 1032), (11, pI (w64 (1 + r13.1))), (c1e2 r5), (61, pI ((k1 : Nat) : Int)), (115, pB y7)] [(c1e3 r5)]) (fun y7 => (DelegateAll_law9J7 n1) y7 = some RES) ?_ ?_
      ·intro y7 hm
       unfold DelegateAll_law9J7 at hm
       refine condM hm ?_ ?_
       ·intro h89 hm
        refine Sq (RK hnt (.no :: []) [(2, pB false)] [] tv ?_)
        obtain rfl := sj hm
        exact DW.ret (retK [] [] (pB false))
       ·intro h89 hm
        refine Sk ?_
        refine DW.done ?_
        show DW _ _ _ _ _
        refine RD hnt (nn 2 []) [115] [(61, pI (w64 (((k1 : Nat) : Int) + 1)))] [] [] tv ?_
        exact jD () ⟨hlt1, hm⟩ (Conv.tp [(61, pI (w64 (((k1 : Nat) : Int) + 1)))] [] (by kernel_rfl) (.cons rfl (.of_eq (congrArg pI (w64_succ hlt1 hc1))) .nil) .nil)
      ·rcases bt r83 with h84 | h84
       ·replace hm := if_t h84 hm
        obtain ⟨r85, hr85, hm⟩ := bo hm
        rcases bt (!r85) with h86 | h86
        ·replace hm := if_t h86 hm
         refine RD hnt (nn 5 (o137 [] true r83 :: nn 6 (o136 [] true r85 :: .no :: pT :: .no :: sk 6 (pT :: [])))) [13] [(115, pB true)] [1104] [] (an (Full_delegateSpec r5.1.tree (w64 (1 + r13.1)) (c1e1 r5 k1).id r83 hr83) (an6 h84 (an (Enter_delegateSpec r5.1.tree (w64 (1 + r13.1)) (c1e1 r5 k1).id r85 hr85) (an2 h84 (an h86 (an6 h86 tv)))))) ?_
         exact jD true hm Conv.eqK
        ·replace hm := if_f h86 hm
         obtain ⟨r87, hr87, hm⟩ := bo hm
         refine RD hnt (nn 5 (o137 [] true r83 :: nn 6 (o136 [] true r85 :: .no :: pT :: nn 5 (o137 [] true r87 :: .no :: pF :: [])))) [13] [(115, pB (!r87))] [1104] [] (an (Full_delegateSpec r5.1.tree (w64 (1 + r13.1)) (c1e1 r5 k1).id r83 hr83) (an6 h84 (an (Enter_delegateSpec r5.1.tree (w64 (1 + r13.1)) (c1e1 r5 k1).id r85 hr85) (an2 h84 (an5 h86 (an (Full_delegateSpec r5.1.tree 0 (c1e1 r5 k1).id r87 hr87) (an2 h86 tv))))))) ?_
         exact jD (!r87) hm Conv.eqK
       ·replace hm := if_f h84 hm
        obtain ⟨r88, hr88, hm⟩ := bo hm
        refine RD hnt (nn 5 (o137 [] true r83 :: .no :: sk 7 (pF :: nn 5 (o137 [] true r88 :: .no :: pF :: [])))) [13] [(115, pB (!r88))] [1104] [] (an (Full_delegateSpec r5.1.tree (w64 (1 + r13.1)) (c1e1 r5 k1).id r83 hr83) (an2 h84 (an6 h84 (an5 ff (an (Full_delegateSpec r5.1.tree 0 (c1e1 r5 k1).id r88 hr88) (an2 ff tv)))))) ?_
        exact jD (!r88) hm Conv.eqK
     ·refine condM hm ?_ ?_
      ·intro h68 hm
       obtain ⟨r69, hr69, hm⟩ := bo hm
       refine Sq (RD hnt (nn 4 (o24 [] true r69 :: nn 2 [])) [75] [(80, ow 1640 r69.length), (81, pI ((r69.length : Nat) : Int)), (82, pI 0)] [] [(1640, ob0 (roI r69))] (an (Children_ref5Spec r5.1.tree (c1e1 r5 k1).id r69 hr69) tv) ?_)
       refine Bk ?_
       obtain ⟨hc4, hm⟩ := go1 hm
       refine DW.rangeO (fun (k4 : Nat) (s4 : Unit) => mkSt [(4, rr 1032), (11, pI (w64 (1 + r13.1))), (13, rr 1104), (c1e2 r5), (61, pI ((k1 : Nat) : Int)), (80, ow 1640 r69.length), (81, pI ((r69.length : Nat) : Int)), (82, pI ((k4 : Nat) : Int))] [(c1e3 r5), (1104, bx (pm (encNode (c1e1 r5 k1)))), (1640, ob0 (roI r69))]) 0 hm Conv.eqK ?_
       intro k4 s4 n4 hk4 hs4 he4
       refine Sq (RD hnt (.no :: []) [] [(83, pB (decide (((k4 : Nat) : Int) < ((r69.length : Nat) : Int))))] [] [] tv ?_)
       refine Sq (condK (decide (((k4 : Nat) : Int) < ((r69.length : Nat) : Int))) ?_ ?_)
       ·intro h80
        have hlt4 : k4 < r69.length := by have := of_decide_eq_true h80; omega
        have hm := hs4 hlt4
        unfold DelegateAll_law9L4 at hm
        refine Sk ?_
        refine Sq (Bk ?_)
        refine Sq (RD hnt (nn 3 []) [83] [(15, pI (r69.getD k4 0))] [] [] (an (nn0 k4) (an (ltc hlt4) (an (by omega : k4 < r69.length) tv))) ?_)
        obtain ⟨r81, hr81, hm⟩ := bo hm
        refine Sq (RD hnt (nn 4 (o137 [] true r81 :: .no :: [])) [15] [(91, pB (!r81))] [] [] (an (Full_delegateSpec r5.1.tree (w64 (1 + r13.1)) (r69.getD k4 0) r81 hr81) tv) ?_)
        refine condM hm ?_ ?_
        ·intro h82 hm
         refine Sq (RK hnt (.no :: []) [(2, pB false)] [] tv ?_)
         obtain rfl := sj hm
         exact DW.ret (retK [] [] (pB false))
        ·intro h82 hm
         refine Sk ?_
         refine DW.done ?_
         show DW _ _ _ _ _
         refine RD hnt (nn 2 []) [91] [(82, pI (w64 (((k4 : Nat) : Int) + 1)))] [] [] tv ?_
         exact jD () ⟨hlt4, hm⟩ (Conv.tp [(82, pI (w64 (((k4 : Nat) : Int) + 1)))] [] (by kernel_rfl) (.cons rfl (.of_eq (congrArg pI (w64_succ hlt4 hc4))) .nil) .nil)
       ·intro h80
        have hge4 : ¬ k4 < r69.length := by have := of_decide_eq_false h80; omega
        have hm := he4 hge4
        unfold DelegateAll_law9D4 at hm
        refine DW.exit ?_
        refine joinQ_exit ?_
        refine KQ_exit ?_
        refine blockQ_exit ?_
        show DW _ _ _ _ _
        exact jD () hm Conv.t0
      ·intro h68 hm
       refine Sk ?_
       exact jD () hm Conv.t0
    ·intro h66
     have hge1 : ¬ k1 < r5.1.tree.nodes.length := by have := of_decide_eq_false h66; omega
     have hm := he1 hge1
     unfold DelegateAll_law9D1 at hm
     refine DW.exit ?_
     refine joinQ_exit ?_
     refine KQ_exit ?_
     refine blockQ_exit ?_
     show DW _ _ _ _ _
     obtain ⟨r90, hr90, hm⟩ := bo hm
     refine Sq (RK hnt (o3 [] true r90 :: .no :: []) [(2, pB r90)] [] (an (sane_law9Spec r90 hr90) tv) ?_)
     obtain rfl := sj hm
     exact DW.ret (retK [] [] (pB r90))
  ·rcases bt (r8.2 != r9.2) with h10 | h10
   ·replace hm := if_t h10 hm
    refine RD hnt (nn 4 (sk 4 (pT :: []))) [7, 8, 9, 10] [(53, pB true)] [1056, 1072, 1280, 1281] [] (an5 h10 tv) ?_
    exact jD true hm Conv.eqK
   ·replace hm := if_f h10 hm
    obtain ⟨r11, hr11, hm⟩ := bo hm
    refine RD hnt (nn 6 (o134 [] true r11 :: .no :: pF :: [])) [7, 8, 9, 10] [(53, pB (!r11))] [1056, 1072, 1280, 1281] [] (an3 h10 (an (Same_ref6Spec r8.1 r9.1 r11 hr11) (an2 h10 tv))) ?_
    exact jD (!r11) hm Conv.eqK
abbrev o1 (ks : List Nat) (b : Bool) (RES : Bool) : Orc := .call 11 ks b (pB RES) [] []
end Go.Dm

