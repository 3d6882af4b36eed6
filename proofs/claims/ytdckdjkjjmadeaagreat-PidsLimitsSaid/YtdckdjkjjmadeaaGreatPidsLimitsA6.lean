/- Go functions compute their models, printed by a program. -/
import Derived.Test.YtdckdjkjjmadeaaGreatPidsLimitsA5
set_option linter.unusedVariables false
set_option linter.unusedSimpArgs false
namespace Go.Dm
open Go.Proofs
set_option linter.unusedVariables false
abbrev c131e1 (s4 : (List Int) × Int) (k1 : Int) (k4 : Int) := (s4.1.getD (addN (Int.toNat k1) (Int.toNat k4)) 0)
abbrev c131e2 (k1 : Int) (p0 : List Int) : Nat × MV := (4, .own 0 0 (Int.toNat k1) (subN p0.length (Int.toNat k1)))
abbrev c131e3 (s4 : (List Int) × Int) := (fillL s4.1 (Int.toNat s4.2) (subN s4.1.length (Int.toNat s4.2)) 0)
theorem Compact_slices_intSpec (p0 : List Int) (RES : Nat × (List Int)) (hm : Compact_slices_int p0 = some RES) : Spec Tryz.prog 156 [ow 0 p0.length] [roI p0] (ow 0 RES.1) [roI RES.2] [] := by
 unfold Compact_slices_int at hm
 refine SO Tryz.func156 rfl rfl [(0, ow 0 p0.length)] [(0, ob0 (roI p0))] ?_
 intro cx hnt
 refine Sq (RD hnt (.no :: []) [] [] [] [] tv ?_)
 refine Sq (Sq (RD hnt (nn 3 []) [] [(8, pB (decide (((p0.length : Nat) : Int) < 2)))] [] [] tv ?_))
 refine condM hm ?_ ?_
 ·intro h1 hm
  refine Sq (RK hnt (nn 2 []) [(2, ow 0 p0.length)] [(0, ob0 (roI p0))] tv ?_)
  obtain rfl := sj hm
  exact DW.ret (retK [roI p0] [] (ow 0 p0.length))
 ·intro h1 hm
  refine Sk ?_
  refine Sq (Sq (RD hnt (.no :: []) [8] [(3, pI 1)] [] [] tv ?_))
  refine Bk ?_
  obtain ⟨hc1, hm⟩ := go1 hm
  refine DW.forO (fun (k1 : Int) (s1 : Unit) => mkSt [(0, ow 0 p0.length), (3, pI k1)] [(0, ob0 (roI p0))]) (lo := 1) (hi := ((p0.length : Nat) : Int)) hm Conv.eqK ?_
  intro k1 s1 n1 hk1 hs1 he1
  refine Sq (Sq (RD hnt (nn 4 []) [] [(13, pB (decide (k1 < ((p0.length : Nat) : Int))))] [] [] tv ?_))
  refine condK (decide (k1 < ((p0.length : Nat) : Int))) ?_ ?_
  ·intro h94
   have hlt1 : k1 < ((p0.length : Nat) : Int) := by have := of_decide_eq_true h94; omega
   have hm := hs1 hlt1
   unfold Compact_slices_intL1 at hm
   refine Sk ?_
   refine Sq (Bk ?_)
   obtain ⟨g95, g96, g97, g98, hm⟩ := go4 hm
   refine Sq (RD hnt (nn 10 []) [13] [(25, pB ((p0.getD (Int.toNat k1) 0) == (p0.getD (Int.toNat (w64 (k1 - 1))) 0)))] [] [] (an g95.1 (an g95.2 (an g96 (an g97.1 (an g97.2 (an g98 tv)))))) ?_)
   refine condM hm ?_ ?_
   ·intro h99 hm
    obtain ⟨g100, hm⟩ := go1 hm
    refine Sq (RD hnt (nn 4 []) [25] [(c131e2 k1 p0)] [] [] (an (by omega : (0 : Int) ≤ k1) (an (by omega : k1 ≤ ((p0.length : Nat) : Int)) (an (by omega : ((p0.length : Nat) : Int) ≤ ((p0.length : Nat) : Int)) tv))) ?_)
    refine Sq (Sq (RD hnt (.no :: []) [] [(5, pI 1)] [] [] tv ?_))
    refine Bk ?_
    obtain ⟨hc4, hm⟩ := go1 hm
    refine DW.forO (fun (k4 : Int) (s4 : (List Int) × Int) => mkSt [(0, ow 0 s4.1.length), (3, pI s4.2), (c131e2 k1 p0), (5, pI k4)] [(0, ob0 (roI s4.1))]) (lo := 1) (hi := (((subN p0.length (Int.toNat k1)) : Nat) : Int)) hm Conv.eqK ?_
    intro k4 s4 n4 hk4 hs4 he4
    refine Sq (Sq (RD hnt (nn 4 []) [] [(32, pB (decide (k4 < (((subN p0.length (Int.toNat k1)) : Nat) : Int))))] [] [] tv ?_))
    refine condK (decide (k4 < (((subN p0.length (Int.toNat k1)) : Nat) : Int))) ?_ ?_
    ·intro h127
     have hlt4 : k4 < (((subN p0.length (Int.toNat k1)) : Nat) : Int) := by have := of_decide_eq_true h127; omega
     have hm := hs4 hlt4
     unfold Compact_slices_intL4 at hm
     refine Sk ?_
     refine Sq ?_
     refine Jn (ι := (List Int) × Int) (fun (y9 : (List Int) × Int) => mkSt [(0, ow 0 y9.1.length), (3, pI y9.2), (c131e2 k1 p0), (5, pI k4)] [(0, ob0 (roI y9.1))]) (fun y9 => (Compact_slices_intJ9 n4) y9 = some RES) ?_ ?_
     ·intro y9 hm
      unfold Compact_slices_intJ9 at hm
      refine RD hnt (nn 3 []) [] [(5, pI (w64 (k4 + 1)))] [] [] tv ?_
      exact jD (y9.1, y9.2) ⟨hlt4, hm⟩ (Conv.tp [(5, pI (w64 (k4 + 1)))] [] (by kernel_rfl) (.cons rfl (.of_eq (congrArg pI (w64_for (lo := 1) (hi := (((subN p0.length (Int.toNat k1)) : Nat) : Int)) (by omega) hk4 hlt4 (by omega)))) .nil) .nil)
     ·refine Bk ?_
      obtain ⟨g128, g129, g130, g131, hm⟩ := go4 hm
      refine Sq (RD hnt (nn 10 []) [32] [(44, pB ((c131e1 s4 k1 k4) != (s4.1.getD (addN (Int.toNat k1) (Int.toNat (w64 (k4 - 1)))) 0)))] [] [] (an g128.1 (an g128.2 (an g129 (an g130.1 (an g130.2 (an g131 tv)))))) ?_)
      refine condM hm ?_ ?_
      ·intro h132 hm
       obtain ⟨g133, g134, g135, g136, hm⟩ := go4 hm
       refine Sq (RN hnt (nn 8 []) [(0, ow 0 (s4.1.set (Int.toNat s4.2) (c131e1 s4 k1 k4)).length), (3, pI s4.2), (c131e2 k1 p0), (5, pI k4)] [(0, ob0 (roI (s4.1.set (Int.toNat s4.2) (c131e1 s4 k1 k4))))] [(0, ow 0 s4.1.length)] [(0, .row 1 s4.1.length (updF (elI s4.1) (Int.toNat s4.2) [vi (c131e1 s4 k1 k4)]))] (an g133.1 (an g133.2 (an g134 (an g135.1 (an g135.2 (an g136 tv)))))) (by kernel_rfl) (.cons rfl (MLe.ownLen (enc := encI) (d := 0) (f := (updF (elI s4.1) (Int.toNat s4.2) [vi (c131e1 s4 k1 k4)])) (RowIs.upd RowIs.elems (c131e1 s4 k1 k4) rfl)) .nil) (.cons rfl (BLe.typed (RowIs.upd RowIs.elems (c131e1 s4 k1 k4) rfl)) .nil) ?_)
       refine RD hnt (nn 3 []) [] [(3, pI (w64 (s4.2 + 1)))] [] [] tv ?_
       exact bD ((s4.1.set (Int.toNat s4.2) (c131e1 s4 k1 k4)), (w64 (s4.2 + 1))) hm Conv.eqK
      ·intro h132 hm
       refine Sk ?_
       exact bD (s4.1, s4.2) hm Conv.t0
    ·intro h127
     have hge4 : ¬ k4 < (((subN p0.length (Int.toNat k1)) : Nat) : Int) := by have := of_decide_eq_false h127; omega
     have hm := he4 hge4
     unfold Compact_slices_intD4 at hm
     refine DW.exit ?_
     refine joinQ_exit ?_
     refine KQ_exit ?_
     refine blockQ_exit ?_
     show DW _ _ _ _ _
     obtain ⟨g137, g138, hm⟩ := go2 hm
     refine Sq (RN hnt (nn 4 []) [(0, ow 0 (c131e3 s4).length), (3, pI s4.2)] [(0, ob0 (roI (c131e3 s4)))] [(0, ow 0 s4.1.length)] [(0, .row 1 s4.1.length (overF (elI s4.1) (Int.toNat s4.2) (subN s4.1.length (Int.toNat s4.2)) (fun _ => [vi 0])))] (an (by omega : (0 : Int) ≤ s4.2) (an (by omega : s4.2 ≤ ((s4.1.length : Nat) : Int)) (an (by omega : ((s4.1.length : Nat) : Int) ≤ ((s4.1.length : Nat) : Int)) (an g138 tv)))) (by kernel_rfl) (.cons rfl (MLe.ownLen (enc := encI) (d := 0) (f := (overF (elI s4.1) (Int.toNat s4.2) (subN s4.1.length (Int.toNat s4.2)) (fun _ => [vi 0]))) (RowIs.fill RowIs.elems 0 rfl (by first | exact g138 | omega))) .nil) (.cons rfl (BLe.typed (RowIs.fill RowIs.elems 0 rfl (by first | exact g138 | omega))) .nil) ?_)
     obtain ⟨g139, hm⟩ := go1 hm
     refine Sq (RD hnt (nn 4 []) [0, 3] [(2, ow 0 (Int.toNat s4.2))] [] [] (an (by omega : (0 : Int) ≤ 0) (an (by omega : (0 : Int) ≤ s4.2) (an (by omega : s4.2 ≤ (((fillL s4.1 (Int.toNat s4.2) (subN s4.1.length (Int.toNat s4.2)) 0).length : Nat) : Int)) tv))) ?_)
     obtain rfl := sj hm
     exact DW.ret (retK [roI (c131e3 s4)] [] (ow 0 (Int.toNat s4.2)))
   ·intro h99 hm
    refine Sk ?_
    refine DW.done ?_
    show DW _ _ _ _ _
    refine RD hnt (nn 3 []) [25] [(3, pI (w64 (k1 + 1)))] [] [] tv ?_
    exact jD () ⟨hlt1, hm⟩ (Conv.tp [(3, pI (w64 (k1 + 1)))] [] (by kernel_rfl) (.cons rfl (.of_eq (congrArg pI (w64_for (lo := 1) (hi := ((p0.length : Nat) : Int)) (by omega) hk1 hlt1 (by omega)))) .nil) .nil)
  ·intro h94
   have hge1 : ¬ k1 < ((p0.length : Nat) : Int) := by have := of_decide_eq_false h94; omega
   have hm := he1 hge1
   unfold Compact_slices_intD1 at hm
   refine DW.exit ?_
   refine joinQ_exit ?_
   refine KQ_exit ?_
   refine blockQ_exit ?_
   show DW _ _ _ _ _
   refine Sq (RK hnt (nn 2 []) [(2, ow 0 p0.length)] [(0, ob0 (roI p0))] tv ?_)
   obtain rfl := sj hm
   exact DW.ret (retK [roI p0] [] (ow 0 p0.length))
abbrev o131 (ks : List Nat) (b : Bool) (RES : Nat × (List Int)) : Orc := .call 156 ks b (ow 0 RES.1) [roI RES.2] []

abbrev c108e1 (p0 : Hierarchy) : Nat × MV := (12, pI ((p0.tasks.length : Nat) : Int))
theorem Those_crewQTasksFa_crewQID_crewSpec (p0 : Hierarchy) (p1c0 : Int) (RES : List Int) (hm : Those_crewQTasksFa_crewQID_crew p0 p1c0 = some RES) : Spec Tryz.prog 112 [.p (.agg (encHierarchy p0)), .fn 151 [rr 0], .p (.fn 148 [])] [.box [pI p1c0]] (.p (slI RES)) [.box [pI p1c0]] [] := by
 unfold Those_crewQTasksFa_crewQID_crew at hm
 refine SO Tryz.func112 rfl rfl [(0, .p (.agg (encHierarchy p0))), (1, .fn 151 [rr 0]), (2, .p (.fn 148 []))] [(0, bx [pI p1c0])] ?_
 intro cx hnt
 refine Sq (RD hnt (nn 2 []) [0] [(3, rr 1024)] [] [(1024, bx (pm (encHierarchy p0)))] tv ?_)
 refine Sq (RD hnt (.no :: []) [] [(7, .p (.sl .nil 0 0 (fun _ => [])))] [] [] tv ?_)
 refine Sq (Sq (RD hnt (nn 4 []) [3] [(11, .p (slTask p0.tasks)), (c108e1 p0), (13, pI 0)] [1024] [] tv ?_))
 refine Bk ?_
 obtain ⟨hc1, hm⟩ := go1 hm
 refine DW.rangeO (fun (k1 : Nat) (s1 : List Int) => mkSt [(1, .fn 151 [rr 0]), (2, .p (.fn 148 [])), (7, ow 1200 s1.length), (11, .p (slTask p0.tasks)), (c108e1 p0), (13, pI ((k1 : Nat) : Int))] [(0, bx [pI p1c0]), (1200, ob0 (roI s1))]) dTask hm (Conv.ads [(.s 7, 1200, 1, elems encI 0 [])]) ?_
 intro k1 s1 n1 hk1 hs1 he1
 refine Sq (RD hnt (.no :: []) [] [(14, pB (decide (((k1 : Nat) : Int) < ((p0.tasks.length : Nat) : Int))))] [] [] tv ?_)
 refine Sq (condK (decide (((k1 : Nat) : Int) < ((p0.tasks.length : Nat) : Int))) ?_ ?_)
 ·intro h22
  have hlt1 : k1 < p0.tasks.length := by have := of_decide_eq_true h22; omega
  have hm := hs1 hlt1
  unfold Those_crewQTasksFa_crewQID_crewL1 at hm
  refine Sk ?_
  refine Sq ?_
  refine Jn (ι := List Int) (fun (y3 : List Int) => mkSt [(1, .fn 151 [rr 0]), (2, .p (.fn 148 [])), (7, ow 1200 y3.length), (11, .p (slTask p0.tasks)), (c108e1 p0), (13, pI ((k1 : Nat) : Int))] [(0, bx [pI p1c0]), (1200, ob0 (roI y3))]) (fun y3 => (Those_crewQTasksFa_crewQID_crewJ3 n1) y3 = some RES) ?_ ?_
  ·intro y3 hm
   unfold Those_crewQTasksFa_crewQID_crewJ3 at hm
   refine RD hnt (nn 2 []) [] [(13, pI (w64 (((k1 : Nat) : Int) + 1)))] [] [] tv ?_
   exact jD y3 ⟨hlt1, hm⟩ (Conv.tp [(13, pI (w64 (((k1 : Nat) : Int) + 1)))] [] (by kernel_rfl) (.cons rfl (.of_eq (congrArg pI (w64_succ hlt1 hc1))) .nil) .nil)
  ·refine Bk ?_
   refine Sq (RD hnt (nn 4 []) [14] [(9, rr 1072)] [] [(1072, bx (pm (encTask (p0.tasks.getD k1 (default : Task)))))] (an (nn0 k1) (an (ltc hlt1) tv)) ?_)
   obtain ⟨r23, hr23, hm⟩ := bo hm
   refine Sq (RD hnt (nn 2 (.call 151 [0] true (pB r23) [.box [pI p1c0]] [] :: [])) [] [(19, pB r23)] [] [] (an (TasksFa_crewSpec (p0.tasks.getD k1 (default : Task)) p1c0 r23 hr23) (an tv tv)) ?_)
   refine condM hm ?_ ?_
   ·intro h24 hm
    obtain ⟨r25, hr25, hm⟩ := bo hm
    obtain ⟨g26, hm⟩ := go1 hm
    refine RN hnt (nn 3 (o110 [] true r25 :: nn 3 [])) [(1, .fn 151 [rr 0]), (2, .p (.fn 148 [])), (7, ow 1200 (s1 ++ [r25]).length), (11, .p (slTask p0.tasks)), (c108e1 p0), (13, pI ((k1 : Nat) : Int))] [(0, bx [pI p1c0]), (1200, ob0 (roI (s1 ++ [r25])))] [(7, ow 1200 (s1.length + 1))] [(1200, .row 1 (s1.length + 1) (catF s1.length (elI s1) (cut 1 [vi r25])))] (an (ID_crewSpec (p0.tasks.getD k1 (default : Task)) r25 hr25) (an (by omega : (s1.length + 1) * 8 ≤ 140737488355328) tv)) (by kernel_rfl) (.cons rfl (MLe.ownLen (enc := encI) (d := 0) (f := (catF s1.length (elI s1) (cut 1 [vi r25]))) (RowIs.cat RowIs.elems (RowIs.lit (enc := encI) (d := 0) (n := 1) (f := (cut 1 [vi r25])) [r25] rfl (fun | 0, _ => rfl | n + 1, h => absurd h (by omega))))) .nil) (.cons rfl (BLe.typed (RowIs.cat RowIs.elems (RowIs.lit (enc := encI) (d := 0) (n := 1) (f := (cut 1 [vi r25])) [r25] rfl (fun | 0, _ => rfl | n + 1, h => absurd h (by omega))))) .nil) ?_
    exact bD (s1 ++ [r25]) hm .refl
   ·intro h24 hm
    refine Sk ?_
    exact bD s1 hm Conv.t0
 ·intro h22
  have hge1 : ¬ k1 < p0.tasks.length := by have := of_decide_eq_false h22; omega
  have hm := he1 hge1
  unfold Those_crewQTasksFa_crewQID_crewD1 at hm
  refine DW.exit ?_
  refine joinQ_exit ?_
  refine KQ_exit ?_
  refine blockQ_exit ?_
  show DW _ _ _ _ _
  obtain ⟨r27, hr27, hm⟩ := bo hm
  obtain ⟨g28, hm⟩ := go1 hm
  refine Sq (RN hnt (.no :: o111 [1200] true r27 :: []) [(7, ow 1200 r27.length)] [(0, bx [pI p1c0]), (1200, ob0 (roI r27))] [(7, ow 1200 s1.length)] [] (an (Sort_slices_intSpec s1 r27 hr27) (an (⟨rfl, g28⟩ : Body.same (roI s1) (roI r27)) tv)) (by kernel_rfl) (.cons rfl (MLe.of_eq (congrArg (MV.own 1200 0 0) g28)) .nil) .nil ?_)
  obtain ⟨r29, hr29, hm⟩ := bo hm
  obtain ⟨g30, g31, hm⟩ := go2 hm
  refine Sq (RD hnt (.no :: o131 [1200] true r29 :: .no :: []) [7] [(6, ow 1200 r29.1)] [] [(1200, ob0 (roI r29.2))] (an (Compact_slices_intSpec r27 r29 hr29) (an (⟨rfl, g30⟩ : Body.same (roI r27) (roI r29.2)) tv)) ?_)
  refine DW.conv (τ := mkSt [(6, .p (slI (r29.2.take r29.1)))] [(0, bx [pI p1c0])]) (Conv.trans (τ := mkSt [(6, .p (.sl .unk 1 r29.1 (elI r29.2)))] [(0, bx [pI p1c0])]) (Conv.frz [1200]) (Conv.tp [(6, .p (.sl .unk 1 r29.1 (elI r29.2)))] [] (by kernel_rfl) (.cons rfl (MLe.typed (RowIs.take RowIs.elems (by first | omega | (simp only [subN_eq, addN_eq] at *; omega)))) .nil) .nil)) ?_
  obtain rfl := sj hm
  exact DW.ret (retK [.box [pI p1c0]] [] (.p (slI (r29.2.take r29.1))))

theorem Tasks_crewSpec (p0 : Hierarchy) (p1 : Int) (RES : List Int) (hm : Tasks_crew p0 p1 = some RES) : Spec Tryz.prog 103 [.p (.agg (encHierarchy p0)), pI p1] [] (.p (slI RES)) [] [] := by
 unfold Tasks_crew at hm
 refine SO Tryz.func103 rfl rfl [(0, .p (.agg (encHierarchy p0))), (1, pI p1)] [] ?_
 intro cx hnt
 refine Sq (RK hnt (nn 3 []) [(2, rr 1016), (3, rr 1024)] [(1016, bx (pm (encHierarchy p0))), (1024, bx [pI p1])] tv ?_)
 obtain ⟨r1, hr1, hm⟩ := bo hm
 refine Sq (RK hnt (nn 2 (.call 112 [1024] true (.p (slI r1)) [.box [pI p1]] [] :: .no :: [])) [(4, .p (slI r1))] [] (an (Those_crewQTasksFa_crewQID_crewSpec p0 p1 r1 hr1) (an tv tv)) ?_)
 obtain rfl := sj hm
 exact DW.ret (retK [] [] (.p (slI r1)))
abbrev o107 (ks : List Nat) (b : Bool) (RES : List Int) : Orc := .call 103 ks b (.p (slI RES)) [] []

abbrev c105e1 (p0 : Hierarchy) (k1 : Nat) := (p0.tree.nodes.getD k1 (default : Node))
theorem Sound_controlSpec (p0 : Hierarchy) (RES : Bool) (hm : Sound_control p0 = some RES) : Spec Tryz.prog 170 [.p (.agg (encHierarchy p0))] [] (pB RES) [] [] := by
 unfold Sound_control at hm
 refine SO Tryz.func170 rfl rfl [(0, .p (.agg (encHierarchy p0)))] [] ?_
 intro cx hnt
 refine Sq (RK hnt (nn 2 []) [(1, rr 1008)] [(1008, bx (pm (encHierarchy p0)))] tv ?_)
 obtain ⟨r1, hr1, hm⟩ := bo hm
 refine Sq (Sq (RD hnt (.no :: o33 [] true r1 :: .no :: []) [] [(7, pB (!r1))] [] [] (an (Check_memberSpec p0 r1 hr1) tv) ?_))
 refine condM hm ?_ ?_
 ·intro h2 hm
  refine Sq (RK hnt (.no :: []) [(2, pB false)] [] tv ?_)
  obtain rfl := sj hm
  exact DW.ret (retK [] [] (pB false))
 ·intro h2 hm
  refine Sk ?_
  refine Sq (Sq (RD hnt (nn 5 []) [7] [(10, .p (slNode p0.tree.nodes)), (11, pI ((p0.tree.nodes.length : Nat) : Int)), (12, pI 0)] [] [] tv ?_))
  refine Bk ?_
  obtain ⟨hc1, hm⟩ := go1 hm
  refine DW.rangeO (fun (k1 : Nat) (s1 : Unit) => mkSt [(1, rr 1008), (10, .p (slNode p0.tree.nodes)), (11, pI ((p0.tree.nodes.length : Nat) : Int)), (12, pI ((k1 : Nat) : Int))] [(1008, bx (pm (encHierarchy p0)))]) dNode hm Conv.eqK ?_
  intro k1 s1 n1 hk1 hs1 he1
  refine Sq (RD hnt (.no :: []) [] [(13, pB (decide (((k1 : Nat) : Int) < ((p0.tree.nodes.length : Nat) : Int))))] [] [] tv ?_)
  refine Sq (condK (decide (((k1 : Nat) : Int) < ((p0.tree.nodes.length : Nat) : Int))) ?_ ?_)
  ·intro h19
   have hlt1 : k1 < p0.tree.nodes.length := by have := of_decide_eq_true h19; omega
   have hm := hs1 hlt1
   unfold Sound_controlL1 at hm
   refine Sk ?_
   refine Sq (Bk ?_)
   refine Sq (RD hnt (nn 4 []) [13] [(4, rr 1032)] [] [(1032, bx (pm (encNode (c105e1 p0 k1))))] (an (nn0 k1) (an (ltc hlt1) tv)) ?_)
   obtain ⟨r20, hr20, hm⟩ := bo hm
   refine Sq (Sq (RD hnt (nn 5 (o106 [] true r20 :: nn 2 [])) [] [(23, pB ((kandNot .i64 (c105e1 p0 k1).control r20) != 0))] [] [] (an (from_controlSpec p0.tree (c105e1 p0 k1) r20 hr20) tv) ?_))
   refine condM hm ?_ ?_
   ·intro h21 hm
    refine Sq (RK hnt (.no :: []) [(2, pB false)] [] tv ?_)
    obtain rfl := sj hm
    exact DW.ret (retK [] [] (pB false))
   ·intro h21 hm
    refine Sk ?_
    refine Sq ?_
    refine Jn (ι := Bool) (fun (y3 : Bool) => mkSt [(1, rr 1008), (10, .p (slNode p0.tree.nodes)), (11, pI ((p0.tree.nodes.length : Nat) : Int)), (12, pI ((k1 : Nat) : Int)), (40, pB y3)] [(1008, bx (pm (encHierarchy p0)))]) (fun y3 => (Sound_controlJ3 n1) y3 = some RES) ?_ ?_
    ·intro y3 hm
     unfold Sound_controlJ3 at hm
     refine condM hm ?_ ?_
     ·intro h25 hm
      refine Sq (RK hnt (.no :: []) [(2, pB false)] [] tv ?_)
      obtain rfl := sj hm
      exact DW.ret (retK [] [] (pB false))
     ·intro h25 hm
      refine Sk ?_
      refine DW.done ?_
      show DW _ _ _ _ _
      refine RD hnt (nn 2 []) [40] [(12, pI (w64 (((k1 : Nat) : Int) + 1)))] [] [] tv ?_
      exact jD () ⟨hlt1, hm⟩ (Conv.tp [(12, pI (w64 (((k1 : Nat) : Int) + 1)))] [] (by kernel_rfl) (.cons rfl (.of_eq (congrArg pI (w64_succ hlt1 hc1))) .nil) .nil)
    ·rcases bt ((c105e1 p0 k1).id != 1) with h22 | h22
     ·replace hm := if_t h22 hm
      rcases bt ((kand .i64 (c105e1 p0 k1).control 6) != 0) with h23 | h23
      ·replace hm := if_t h23 hm
       obtain ⟨r24, hr24, hm⟩ := bo hm
       refine RD hnt (nn 8 (pT :: nn 4 (o107 [] true r24 :: nn 2 (pT :: [])))) [4, 23] [(40, pB (decide (((r24.length : Nat) : Int) > 0)))] [1032] [] (an5 h22 (an4 h23 (an (Tasks_crewSpec p0 (c105e1 p0 k1).id r24 hr24) (an3 h23 tv)))) ?_
       exact jD (decide (((r24.length : Nat) : Int) > 0)) hm Conv.eqK
      ·replace hm := if_f h23 hm
       refine RD hnt (nn 8 (pT :: .no :: sk 6 (pF :: []))) [4, 23] [(40, pB false)] [1032] [] (an5 h22 (an h23 (an6 h23 tv))) ?_
       exact jD false hm Conv.eqK
     ·replace hm := if_f h22 hm
      refine RD hnt (nn 4 (sk 4 (pF :: .no :: sk 6 (pF :: [])))) [4, 23] [(40, pB false)] [1032] [] (an5 h22 (an ff (an6 ff tv))) ?_
      exact jD false hm Conv.eqK
  ·intro h19
   have hge1 : ¬ k1 < p0.tree.nodes.length := by have := of_decide_eq_false h19; omega
   have hm := he1 hge1
   unfold Sound_controlD1 at hm
   refine DW.exit ?_
   refine joinQ_exit ?_
   refine KQ_exit ?_
   refine blockQ_exit ?_
   show DW _ _ _ _ _
   refine Sq (RK hnt (.no :: []) [(2, pB true)] [] tv ?_)
   obtain rfl := sj hm
   exact DW.ret (retK [] [] (pB true))
abbrev o105 (ks : List Nat) (b : Bool) (RES : Bool) : Orc := .call 170 ks b (pB RES) [] []

theorem domain_threadedSpec (p0 : Tree) (p1 : Int) (RES : Int) (hm : domain_threaded p0 p1 = some RES) : Spec Tryz.prog 171 [.p (.agg (encTree p0)), pI p1] [] (pI RES) [] [] := by
 unfold domain_threaded at hm
 refine SO Tryz.func171 rfl rfl [(0, .p (.agg (encTree p0))), (1, pI p1)] [] ?_
 intro cx hnt
 refine Sq (RK hnt (nn 2 []) [(1, pI p1), (2, rr 1016)] [(1016, bx (pm (encTree p0)))] tv ?_)
 obtain ⟨r1, hr1, hm⟩ := bo hm
 refine Sq (Sq (RD hnt (nn 2 (o69 [] true r1 :: nn 2 [])) [1] [(11, ow 1088 r1.length), (12, pI ((r1.length : Nat) : Int)), (13, pI 0)] [] [(1088, ob0 (roI r1))] (an (Ancestors_forestSpec p0 p1 r1 hr1) tv) ?_))
 refine Bk ?_
 obtain ⟨hc1, hm⟩ := go1 hm
 refine DW.rangeO (fun (k1 : Nat) (s1 : Unit) => mkSt [(2, rr 1016), (11, ow 1088 r1.length), (12, pI ((r1.length : Nat) : Int)), (13, pI ((k1 : Nat) : Int))] [(1016, bx (pm (encTree p0))), (1088, ob0 (roI r1))]) 0 hm Conv.eqK ?_
 intro k1 s1 n1 hk1 hs1 he1
 refine Sq (RD hnt (.no :: []) [] [(14, pB (decide (((k1 : Nat) : Int) < ((r1.length : Nat) : Int))))] [] [] tv ?_)
 refine Sq (condK (decide (((k1 : Nat) : Int) < ((r1.length : Nat) : Int))) ?_ ?_)
 ·intro h12
  have hlt1 : k1 < r1.length := by have := of_decide_eq_true h12; omega
  have hm := hs1 hlt1
  unfold domain_threadedL1 at hm
  refine Sk ?_
  refine Sq (Bk ?_)
  refine Sq (RD hnt (nn 3 []) [14] [(6, pI (r1.getD k1 0))] [] [] (an (nn0 k1) (an (ltc hlt1) (an (by omega : k1 < r1.length) tv))) ?_)
  obtain ⟨r13, hr13, hm⟩ := bo hm
  refine Sq (RD hnt (nn 2 (o70 [] true r13 :: nn 6 [])) [] [(7, rr 1056)] [] [(1056, bx (pm (encNode r13.1)))] (an (Find_forestSpec p0 (r1.getD k1 0) r13 hr13) tv) ?_)
  refine Sq (RD hnt (nn 3 []) [7] [(25, pB (r13.1.kind != 1))] [1056] [] tv ?_)
  refine condM hm ?_ ?_
  ·intro h14 hm
   refine Sq (RK hnt (nn 2 []) [(4, pI (r1.getD k1 0))] [] tv ?_)
   obtain rfl := sj hm
   exact DW.ret (retK [] [] (pI (r1.getD k1 0)))
  ·intro h14 hm
   refine Sk ?_
   refine DW.done ?_
   show DW _ _ _ _ _
   refine RD hnt (nn 2 []) [6, 25] [(13, pI (w64 (((k1 : Nat) : Int) + 1)))] [] [] tv ?_
   exact jD () ⟨hlt1, hm⟩ (Conv.tp [(13, pI (w64 (((k1 : Nat) : Int) + 1)))] [] (by kernel_rfl) (.cons rfl (.of_eq (congrArg pI (w64_succ hlt1 hc1))) .nil) .nil)
 ·intro h12
  have hge1 : ¬ k1 < r1.length := by have := of_decide_eq_false h12; omega
  have hm := he1 hge1
  unfold domain_threadedD1 at hm
  refine DW.exit ?_
  refine joinQ_exit ?_
  refine KQ_exit ?_
  refine blockQ_exit ?_
  show DW _ _ _ _ _
  refine Sq (RK hnt (.no :: []) [(4, pI 0)] [] tv ?_)
  obtain rfl := sj hm
  exact DW.ret (retK [] [] (pI 0))
abbrev o132 (ks : List Nat) (b : Bool) (RES : Int) : Orc := .call 171 ks b (pI RES) [] []

theorem invalid_threadedSpec (p0 : Tree) (p1 : Int) (RES : Bool) (hm : invalid_threaded p0 p1 = some RES) : Spec Tryz.prog 173 [.p (.agg (encTree p0)), pI p1] [] (pB RES) [] [] := by
 unfold invalid_threaded at hm
 refine SO Tryz.func173 rfl rfl [(0, .p (.agg (encTree p0))), (1, pI p1)] [] ?_
 intro cx hnt
 refine Sq (RK hnt (nn 2 []) [(1, pI p1), (2, rr 1016)] [(1016, bx (pm (encTree p0)))] tv ?_)
 obtain ⟨r1, hr1, hm⟩ := bo hm
 refine Sq (Sq (RD hnt (nn 2 (o69 [] true r1 :: nn 2 [])) [] [(11, ow 1088 r1.length), (12, pI ((r1.length : Nat) : Int)), (13, pI 0)] [] [(1088, ob0 (roI r1))] (an (Ancestors_forestSpec p0 p1 r1 hr1) tv) ?_))
 refine Bk ?_
 obtain ⟨hc1, hm⟩ := go1 hm
 refine DW.rangeO (fun (k1 : Nat) (s1 : Unit) => mkSt [(1, pI p1), (2, rr 1016), (11, ow 1088 r1.length), (12, pI ((r1.length : Nat) : Int)), (13, pI ((k1 : Nat) : Int))] [(1016, bx (pm (encTree p0))), (1088, ob0 (roI r1))]) 0 hm Conv.eqK ?_
 intro k1 s1 n1 hk1 hs1 he1
 refine Sq (RD hnt (.no :: []) [] [(14, pB (decide (((k1 : Nat) : Int) < ((r1.length : Nat) : Int))))] [] [] tv ?_)
 refine Sq (condK (decide (((k1 : Nat) : Int) < ((r1.length : Nat) : Int))) ?_ ?_)
 ·intro h12
  have hlt1 : k1 < r1.length := by have := of_decide_eq_true h12; omega
  have hm := hs1 hlt1
  unfold invalid_threadedL1 at hm
  refine Sk ?_
  refine Sq (Bk ?_)
  refine Sq (RD hnt (nn 3 []) [14] [(6, pI (r1.getD k1 0))] [] [] (an (nn0 k1) (an (ltc hlt1) (an (by omega : k1 < r1.length) tv))) ?_)
  obtain ⟨r13, hr13, hm⟩ := bo hm
  refine Sq (RD hnt (nn 2 (o70 [] true r13 :: nn 6 [])) [] [(7, rr 1056)] [] [(1056, bx (pm (encNode r13.1)))] (an (Find_forestSpec p0 (r1.getD k1 0) r13 hr13) tv) ?_)
  refine Sq (RD hnt (nn 3 []) [7] [(25, pB (r13.1.kind == 1))] [1056] [] tv ?_)
  refine condM hm ?_ ?_
  ·intro h14 hm
   refine Sq (RK hnt (nn 4 []) [(4, pB ((r1.getD k1 0) != p1))] [] tv ?_)
   obtain rfl := sj hm
   exact DW.ret (retK [] [] (pB ((r1.getD k1 0) != p1)))
  ·intro h14 hm
   refine Sk ?_
   refine DW.done ?_
   show DW _ _ _ _ _
   refine RD hnt (nn 2 []) [6, 25] [(13, pI (w64 (((k1 : Nat) : Int) + 1)))] [] [] tv ?_
   exact jD () ⟨hlt1, hm⟩ (Conv.tp [(13, pI (w64 (((k1 : Nat) : Int) + 1)))] [] (by kernel_rfl) (.cons rfl (.of_eq (congrArg pI (w64_succ hlt1 hc1))) .nil) .nil)
 ·intro h12
  have hge1 : ¬ k1 < r1.length := by have := of_decide_eq_false h12; omega
  have hm := he1 hge1
  unfold invalid_threadedD1 at hm
  refine DW.exit ?_
  refine joinQ_exit ?_
  refine KQ_exit ?_
  refine blockQ_exit ?_
  show DW _ _ _ _ _
  refine Sq (RK hnt (.no :: []) [(4, pB false)] [] tv ?_)
  obtain rfl := sj hm
  exact DW.ret (retK [] [] (pB false))
abbrev o134 (ks : List Nat) (b : Bool) (RES : Bool) : Orc := .call 173 ks b (pB RES) [] []

theorem fits_threadedSpec (p0 : Hierarchy) (p1 : Node) (RES : Bool) (hm : fits_threaded p0 p1 = some RES) : Spec Tryz.prog 172 [.p (.agg (encHierarchy p0)), .p (.agg (encNode p1))] [] (pB RES) [] [] := by
 unfold fits_threaded at hm
 refine SO Tryz.func172 rfl rfl [(0, .p (.agg (encHierarchy p0))), (1, .p (.agg (encNode p1)))] [] ?_
 intro cx hnt
 refine Sq (RK hnt (nn 3 []) [(2, rr 1016), (3, rr 1024)] [(1016, bx (pm (encHierarchy p0))), (1024, bx (pm (encNode p1)))] tv ?_)
 refine Sq (Sq (RD hnt (nn 3 []) [] [(9, pB (p1.kind != 1))] [] [] tv ?_))
 refine condM hm ?_ ?_
 ·intro h1 hm
  obtain ⟨r2, hr2, hm⟩ := bo hm
  refine Sq ?_
  refine Jn (ι := Bool) (fun (y1 : Bool) => mkSt [(4, pB y1)] []) (fun y1 => fits_threadedJ1 y1 = some RES) ?_ ?_
  ·intro y1 hm
   unfold fits_threadedJ1 at hm
   obtain rfl := sj hm
   exact DW.ret (retK [] [] (pB y1))
  ·rcases bt (!r2) with h3 | h3
   ·replace hm := if_t h3 hm
    refine RK hnt (nn 4 (o134 [] true r2 :: nn 2 (sk 11 (pT :: .no :: [])))) [(4, pB true)] [] (an (invalid_threadedSpec p0.tree p1.id r2 hr2) (an6 h3 tv)) ?_
    exact jD true hm .refl
   ·replace hm := if_f h3 hm
    rcases bt (p1.control == 0) with h4 | h4
    ·replace hm := if_t h4 hm
     obtain ⟨r5, hr5, hm⟩ := bo hm
     refine RK hnt (nn 4 (o134 [] true r2 :: nn 9 (o107 [] true r5 :: nn 2 (pT :: pF :: .no :: [])))) [(4, pB (((r5.length : Nat) : Int) == 0))] [] (an (invalid_threadedSpec p0.tree p1.id r2 hr2) (an4 h3 (an4 h4 (an (Tasks_crewSpec p0 p1.id r5 hr5) (an2 h4 (an h3 (an h4 (an h3 tv)))))))) ?_
     exact jD (((r5.length : Nat) : Int) == 0) hm .refl
    ·replace hm := if_f h4 hm
     refine RK hnt (nn 4 (o134 [] true r2 :: nn 6 (sk 6 (pF :: pF :: .no :: [])))) [(4, pB false)] [] (an (invalid_threadedSpec p0.tree p1.id r2 hr2) (an4 h3 (an6 h4 (an h3 (an h4 (an h3 tv)))))) ?_
     exact jD false hm .refl
 ·intro h1 hm
  refine Sk ?_
  obtain ⟨r6, hr6, hm⟩ := bo hm
  refine Sq (RD hnt (nn 4 (o70 [] true r6 :: nn 6 [])) [9] [(5, rr 1040)] [] [(1040, bx (pm (encNode r6.1)))] (an (Find_forestSpec p0.tree p1.parent r6 hr6) tv) ?_)
  refine Sq (Sq ?_)
  refine Jn (ι := Bool) (fun (y2 : Bool) => mkSt [(3, rr 1024), (5, rr 1040), (46, pB y2)] [(1024, bx (pm (encNode p1))), (1040, bx (pm (encNode r6.1)))]) (fun y2 => (fits_threadedJ2 p1 r6) y2 = some RES) ?_ ?_
  ·intro y2 hm
   unfold fits_threadedJ2 at hm
   refine condM hm ?_ ?_
   ·intro h9 hm
    refine Sq (RK hnt (.no :: []) [(4, pB false)] [] tv ?_)
    obtain rfl := sj hm
    exact DW.ret (retK [] [] (pB false))
   ·intro h9 hm
    refine Sk ?_
    refine Sq (DW.regJ (sl2 := [(4, pB ((p1.parent == 1) || ((kand .i64 r6.1.control 6) == 0)))]) (ob2 := []) ?_ ?_)
    ·rcases bt (p1.parent == 1) with h10 | h10
     ·exact RT hnt (nn 4 (sk 4 (pT :: .no :: []))) [(4, pB true)] (an5 h10 tv) (by kernel_rfl) (.cons rfl (.of_eq (by rw [h10]; try rfl)) .nil)
     ·exact RT hnt (nn 8 (pF :: .no :: [])) [(4, pB ((kand .i64 r6.1.control 6) == 0))] (an5 h10 tv) (by kernel_rfl) (.cons rfl (.of_eq (by rw [h10]; try rfl)) .nil)
    ·refine DW.ret ?_
     obtain rfl := sj hm
     exact retK [] [] (pB ((p1.parent == 1) || ((kand .i64 r6.1.control 6) == 0)))
  ·rcases bt (r6.1.kind != 1) with h7 | h7
   ·replace hm := if_t h7 hm
    obtain ⟨r8, hr8, hm⟩ := bo hm
    refine RD hnt (nn 8 (o134 [] true r8 :: pT :: [])) [2] [(46, pB r8)] [1016] [] (an5 h7 (an (invalid_threadedSpec p0.tree p1.parent r8 hr8) (an h7 tv))) ?_
    exact jD r8 hm Conv.eqK
   ·replace hm := if_f h7 hm
    refine RD hnt (nn 4 (sk 5 (pF :: []))) [2] [(46, pB false)] [1016] [] (an6 h7 tv) ?_
    exact jD false hm Conv.eqK
abbrev o133 (ks : List Nat) (b : Bool) (RES : Bool) : Orc := .call 172 ks b (pB RES) [] []

abbrev c104e1 (p0 : Hierarchy) (k1 : Nat) := (p0.tasks.getD k1 (default : Task))
abbrev c104e2 (p0 : Hierarchy) : Nat × Obj := (1008, bx (pm (encHierarchy p0)))
abbrev c104e3 (p0 : Hierarchy) : Nat × MV := (16, pI ((p0.tasks.length : Nat) : Int))
theorem Fits_threadedSpec (p0 : Hierarchy) (RES : Bool) (hm : Fits_threaded p0 = some RES) : Spec Tryz.prog 160 [.p (.agg (encHierarchy p0))] [] (pB RES) [] [] := by
 unfold Fits_threaded at hm
 refine SO Tryz.func160 rfl rfl [(0, .p (.agg (encHierarchy p0)))] [] ?_
 intro cx hnt
 refine Sq (RK hnt (nn 2 []) [(1, rr 1008)] [(c104e2 p0)] tv ?_)
 obtain ⟨r1, hr1, hm⟩ := bo hm
 refine Sq (Sq (RD hnt (.no :: o105 [] true r1 :: .no :: []) [] [(12, pB (!r1))] [] [] (an (Sound_controlSpec p0 r1 hr1) tv) ?_))
 refine condM hm ?_ ?_
 ·intro h2 hm
  refine Sq (RK hnt (.no :: []) [(2, pB false)] [] tv ?_)
  obtain rfl := sj hm
  exact DW.ret (retK [] [] (pB false))
 ·intro h2 hm
  refine Sk ?_
  refine Sq (RD hnt (nn 2 []) [12] [(3, .mref 1104 0)] [] [(1104, ob0 (mapOf vi (vi 0) (IMap.empty 0)))] tv ?_)
  refine Sq (Sq (RD hnt (nn 4 []) [] [(15, .p (slTask p0.tasks)), (c104e3 p0), (17, pI 0)] [] [] tv ?_))
  refine Bk ?_
  obtain ⟨hc1, hm⟩ := go1 hm
  refine DW.rangeO (fun (k1 : Nat) (s1 : IMap Int) => mkSt [(1, rr 1008), (3, .mref 1104 0), (15, .p (slTask p0.tasks)), (c104e3 p0), (17, pI ((k1 : Nat) : Int))] [(c104e2 p0), (1104, ob0 (mapOf vi (vi 0) s1))]) dTask hm Conv.eqK ?_
  intro k1 s1 n1 hk1 hs1 he1
  refine Sq (RD hnt (.no :: []) [] [(18, pB (decide (((k1 : Nat) : Int) < ((p0.tasks.length : Nat) : Int))))] [] [] tv ?_)
  refine Sq (condK (decide (((k1 : Nat) : Int) < ((p0.tasks.length : Nat) : Int))) ?_ ?_)
  ·intro h66
   have hlt1 : k1 < p0.tasks.length := by have := of_decide_eq_true h66; omega
   have hm := hs1 hlt1
   unfold Fits_threadedL1 at hm
   refine Sk ?_
   refine Sq ?_
   refine Jn (ι := IMap Int) (fun (y3 : IMap Int) => mkSt [(1, rr 1008), (3, .mref 1104 0), (15, .p (slTask p0.tasks)), (c104e3 p0), (17, pI ((k1 : Nat) : Int))] [(c104e2 p0), (1104, ob0 (mapOf vi (vi 0) y3))]) (fun y3 => (Fits_threadedJ3 n1) y3 = some RES) ?_ ?_
   ·intro y3 hm
    unfold Fits_threadedJ3 at hm
    refine RD hnt (nn 2 []) [] [(17, pI (w64 (((k1 : Nat) : Int) + 1)))] [] [] tv ?_
    exact jD y3 ⟨hlt1, hm⟩ (Conv.tp [(17, pI (w64 (((k1 : Nat) : Int) + 1)))] [] (by kernel_rfl) (.cons rfl (.of_eq (congrArg pI (w64_succ hlt1 hc1))) .nil) .nil)
   ·refine Bk ?_
    refine Sq (RD hnt (nn 4 []) [18] [(5, rr 1040)] [] [(1040, bx (pm (encTask (c104e1 p0 k1))))] (an (nn0 k1) (an (ltc hlt1) tv)) ?_)
    refine Sq (RD hnt (nn 5 []) [] [(25, pB ((c104e1 p0 k1).id == (c104e1 p0 k1).process))] [] [] tv ?_)
    refine condM hm ?_ ?_
    ·intro h67 hm
     obtain ⟨r68, hr68, hm⟩ := bo hm
     refine RN hnt (nn 7 (o132 [] true r68 :: .no :: [])) [(1, rr 1008), (3, .mref 1104 0), (15, .p (slTask p0.tasks)), (c104e3 p0), (17, pI ((k1 : Nat) : Int))] [(c104e2 p0), (1104, ob0 (mapOf vi (vi 0) (s1.set (c104e1 p0 k1).id r68)))] [] [(1104, .mp (vi 0) (updI s1.has (c104e1 p0 k1).id true) (updI (fun j => vi (s1.get j)) (c104e1 p0 k1).id (vi r68)))] (an (domain_threadedSpec p0.tree (c104e1 p0 k1).group r68 hr68) tv) (by kernel_rfl) .nil (.cons rfl (map_set r68 rfl) .nil) ?_
     exact bD (s1.set (c104e1 p0 k1).id r68) hm .refl
    ·intro h67 hm
     refine Sk ?_
     exact bD s1 hm Conv.t0
  ·intro h66
   have hge1 : ¬ k1 < p0.tasks.length := by have := of_decide_eq_false h66; omega
   have hm := he1 hge1
   unfold Fits_threadedD1 at hm
   refine DW.exit ?_
   refine joinQ_exit ?_
   refine KQ_exit ?_
   refine blockQ_exit ?_
   show DW _ _ _ _ _
   refine Sq (Sq (RD hnt (nn 4 []) [15, 16, 17, 18] [(36, .p (slTask p0.tasks)), (37, pI ((p0.tasks.length : Nat) : Int)), (38, pI 0)] [] [] tv ?_))
   refine Bk ?_
   obtain ⟨hc8, hm⟩ := go1 hm
   refine DW.rangeO (fun (k8 : Nat) (s8 : Unit) => mkSt [(1, rr 1008), (3, .mref 1104 0), (36, .p (slTask p0.tasks)), (37, pI ((p0.tasks.length : Nat) : Int)), (38, pI ((k8 : Nat) : Int))] [(c104e2 p0), (1104, ob0 (mapOf vi (vi 0) s1))]) dTask hm Conv.eqK ?_
   intro k8 s8 n8 hk8 hs8 he8
   refine Sq (RD hnt (.no :: []) [] [(39, pB (decide (((k8 : Nat) : Int) < ((p0.tasks.length : Nat) : Int))))] [] [] tv ?_)
   refine Sq (condK (decide (((k8 : Nat) : Int) < ((p0.tasks.length : Nat) : Int))) ?_ ?_)
   ·intro h99
    have hlt8 : k8 < p0.tasks.length := by have := of_decide_eq_true h99; omega
    have hm := hs8 hlt8
    unfold Fits_threadedL8 at hm
    refine Sk ?_
    refine Sq (Bk ?_)
    refine Sq (RD hnt (nn 4 []) [39] [(7, rr 1056)] [] [(1056, bx (pm (encTask (p0.tasks.getD k8 (default : Task)))))] (an (nn0 k8) (an (ltc hlt8) tv)) ?_)
    obtain ⟨r100, hr100, hm⟩ := bo hm
    refine Sq (RD hnt (nn 4 (o132 [] true r100 :: nn 5 [])) [7] [(51, pB (r100 != (s1.get (p0.tasks.getD k8 (default : Task)).process)))] [1056] [] (an (domain_threadedSpec p0.tree (p0.tasks.getD k8 (default : Task)).group r100 hr100) (an (rfl : vi 0 = vi 0) tv)) ?_)
    refine condM hm ?_ ?_
    ·intro h101 hm
     refine Sq (RK hnt (.no :: []) [(2, pB false)] [] tv ?_)
     obtain rfl := sj hm
     exact DW.ret (retK [] [] (pB false))
    ·intro h101 hm
     refine Sk ?_
     refine DW.done ?_
     show DW _ _ _ _ _
     refine RD hnt (nn 2 []) [51] [(38, pI (w64 (((k8 : Nat) : Int) + 1)))] [] [] tv ?_
     exact jD () ⟨hlt8, hm⟩ (Conv.tp [(38, pI (w64 (((k8 : Nat) : Int) + 1)))] [] (by kernel_rfl) (.cons rfl (.of_eq (congrArg pI (w64_succ hlt8 hc8))) .nil) .nil)
   ·intro h99
    have hge8 : ¬ k8 < p0.tasks.length := by have := of_decide_eq_false h99; omega
    have hm := he8 hge8
    unfold Fits_threadedD8 at hm
    refine DW.exit ?_
    refine joinQ_exit ?_
    refine KQ_exit ?_
    refine blockQ_exit ?_
    show DW _ _ _ _ _
    refine Sq (Sq (RD hnt (nn 5 []) [3, 36, 37, 38, 39] [(55, .p (slNode p0.tree.nodes)), (56, pI ((p0.tree.nodes.length : Nat) : Int)), (57, pI 0)] [1104] [] tv ?_))
    refine Bk ?_
    obtain ⟨hc11, hm⟩ := go1 hm
    refine DW.rangeO (fun (k11 : Nat) (s11 : Unit) => mkSt [(1, rr 1008), (55, .p (slNode p0.tree.nodes)), (56, pI ((p0.tree.nodes.length : Nat) : Int)), (57, pI ((k11 : Nat) : Int))] [(c104e2 p0)]) dNode hm Conv.eqK ?_
    intro k11 s11 n11 hk11 hs11 he11
    refine Sq (RD hnt (.no :: []) [] [(58, pB (decide (((k11 : Nat) : Int) < ((p0.tree.nodes.length : Nat) : Int))))] [] [] tv ?_)
    refine Sq (condK (decide (((k11 : Nat) : Int) < ((p0.tree.nodes.length : Nat) : Int))) ?_ ?_)
    ·intro h110
     have hlt11 : k11 < p0.tree.nodes.length := by have := of_decide_eq_true h110; omega
     have hm := hs11 hlt11
     unfold Fits_threadedL11 at hm
     refine Sk ?_
     refine Sq (Bk ?_)
     refine Sq (RD hnt (nn 4 []) [58] [(9, rr 1072)] [] [(1072, bx (pm (encNode (p0.tree.nodes.getD k11 (default : Node)))))] (an (nn0 k11) (an (ltc hlt11) tv)) ?_)
     obtain ⟨r111, hr111, hm⟩ := bo hm
     refine Sq (RD hnt (nn 2 (o133 [] true r111 :: .no :: [])) [9] [(64, pB (!r111))] [1072] [] (an (fits_threadedSpec p0 (p0.tree.nodes.getD k11 (default : Node)) r111 hr111) tv) ?_)
     refine condM hm ?_ ?_
     ·intro h112 hm
      refine Sq (RK hnt (.no :: []) [(2, pB false)] [] tv ?_)
      obtain rfl := sj hm
      exact DW.ret (retK [] [] (pB false))
     ·intro h112 hm
      refine Sk ?_
      refine DW.done ?_
      show DW _ _ _ _ _
      refine RD hnt (nn 2 []) [64] [(57, pI (w64 (((k11 : Nat) : Int) + 1)))] [] [] tv ?_
      exact jD () ⟨hlt11, hm⟩ (Conv.tp [(57, pI (w64 (((k11 : Nat) : Int) + 1)))] [] (by kernel_rfl) (.cons rfl (.of_eq (congrArg pI (w64_succ hlt11 hc11))) .nil) .nil)
    ·intro h110
     have hge11 : ¬ k11 < p0.tree.nodes.length := by have := of_decide_eq_false h110; omega
     have hm := he11 hge11
     unfold Fits_threadedD11 at hm
     refine DW.exit ?_
     refine joinQ_exit ?_
     refine KQ_exit ?_
     refine blockQ_exit ?_
     show DW _ _ _ _ _
     refine Sq (RK hnt (.no :: []) [(2, pB true)] [] tv ?_)
     obtain rfl := sj hm
     exact DW.ret (retK [] [] (pB true))
abbrev o104 (ks : List Nat) (b : Bool) (RES : Bool) : Orc := .call 160 ks b (pB RES) [] []

theorem admits_threadedSpec (p0 : Hierarchy) (p1 : Int) (RES : Int) (hm : admits_threaded p0 p1 = some RES) : Spec Tryz.prog 161 [.p (.agg (encHierarchy p0)), pI p1] [] (pI RES) [] [] := by
 unfold admits_threaded at hm
 refine SO Tryz.func161 rfl rfl [(0, .p (.agg (encHierarchy p0))), (1, pI p1)] [] ?_
 intro cx hnt
 refine Sq (RK hnt (nn 2 []) [(1, pI p1), (2, rr 1016)] [(1016, bx (pm (encHierarchy p0)))] tv ?_)
 obtain ⟨r1, hr1, hm⟩ := bo hm
 refine Sq (RD hnt (nn 3 (o70 [] true r1 :: nn 6 [])) [] [(5, rr 1040), (6, pB r1.2)] [] [(1040, bx (pm (encNode r1.1)))] (an (Find_forestSpec p0.tree p1 r1 hr1) tv) ?_)
 refine Sq (Bk ?_)
 refine Sq (RD hnt (nn 3 []) [6] [(14, pB (!r1.2))] [] [] tv ?_)
 refine condM hm ?_ ?_
 ·intro h2 hm
  refine Sq (RK hnt (.no :: []) [(4, pI 4)] [] tv ?_)
  obtain rfl := sj hm
  exact DW.ret (retK [] [] (pI 4))
 ·intro h2 hm
  refine Sq ?_
  refine Jn (ι := Bool) (fun (y1 : Bool) => mkSt [(1, pI p1), (5, rr 1040), (17, pB y1)] [(1040, bx (pm (encNode r1.1)))]) (fun y1 => (admits_threadedJ1 p1 r1) y1 = some RES) ?_ ?_
  ·intro y1 hm
   unfold admits_threadedJ1 at hm
   refine condM hm ?_ ?_
   ·intro h5 hm
    refine Sq (RK hnt (.no :: []) [(4, pI 10)] [] tv ?_)
    obtain rfl := sj hm
    exact DW.ret (retK [] [] (pI 10))
   ·intro h5 hm
    refine Sq (DW.regJ (sl2 := [(27, pB ((p1 != 1) && ((kand .i64 r1.1.control 6) != 0)))]) (ob2 := []) ?_ ?_)
    ·rcases bt (p1 != 1) with h6 | h6
     ·exact RT hnt (nn 7 (pT :: .no :: [])) [(27, pB ((kand .i64 r1.1.control 6) != 0))] (an5 h6 tv) (by kernel_rfl) (.cons rfl (.of_eq (by rw [h6]; try rfl)) .nil)
     ·exact RT hnt (nn 3 (sk 4 (pF :: .no :: []))) [(27, pB false)] (an5 h6 tv) (by kernel_rfl) (.cons rfl (.of_eq (by rw [h6]; try rfl)) .nil)
    ·refine condM hm ?_ ?_
     ·intro h7 hm
      refine Sq (RK hnt (.no :: []) [(4, pI 6)] [] tv ?_)
      obtain rfl := sj hm
      exact DW.ret (retK [] [] (pI 6))
     ·intro h7 hm
      refine Sk ?_
      refine DW.done ?_
      show DW _ _ _ _ _
      refine Sq (RK hnt (.no :: []) [(4, pI 0)] [] tv ?_)
      obtain rfl := sj hm
      exact DW.ret (retK [] [] (pI 0))
  ·rcases bt (r1.1.kind != 1) with h3 | h3
   ·replace hm := if_t h3 hm
    obtain ⟨r4, hr4, hm⟩ := bo hm
    refine RD hnt (nn 7 (o134 [] true r4 :: pT :: .no :: [])) [2, 14] [(17, pB r4)] [1016] [] (an4 h3 (an (invalid_threadedSpec p0.tree p1 r4 hr4) (an h3 tv))) ?_
    exact jD r4 hm Conv.eqK
   ·replace hm := if_f h3 hm
    refine RD hnt (nn 4 (sk 4 (pF :: .no :: []))) [2, 14] [(17, pB false)] [1016] [] (an5 h3 tv) ?_
    exact jD false hm Conv.eqK
abbrev o135 (ks : List Nat) (b : Bool) (RES : Int) : Orc := .call 161 ks b (pI RES) [] []

theorem Admits_threadedSpec (p0 : Hierarchy) (p1 : Int) (RES : Int) (hm : Admits_threaded p0 p1 = some RES) : Spec Tryz.prog 126 [.p (.agg (encHierarchy p0)), pI p1] [] (pI RES) [] [] := by
 unfold Admits_threaded at hm
 refine SO Tryz.func126 rfl rfl [(0, .p (.agg (encHierarchy p0))), (1, pI p1)] [] ?_
 intro cx hnt
 refine Sq (RK hnt (nn 2 []) [(1, pI p1), (2, rr 1016)] [(1016, bx (pm (encHierarchy p0)))] tv ?_)
 obtain ⟨r1, hr1, hm⟩ := bo hm
 refine Sq (Sq (RD hnt (.no :: o104 [] true r1 :: .no :: []) [] [(7, pB (!r1))] [] [] (an (Fits_threadedSpec p0 r1 hr1) tv) ?_))
 refine condM hm ?_ ?_
 ·intro h2 hm
  refine Sq (RK hnt (.no :: []) [(4, pI 1)] [] tv ?_)
  obtain rfl := sj hm
  exact DW.ret (retK [] [] (pI 1))
 ·intro h2 hm
  refine Sk ?_
  obtain ⟨r3, hr3, hm⟩ := bo hm
  refine Sq (RK hnt (nn 2 (o135 [] true r3 :: .no :: [])) [(4, pI r3)] [] (an (admits_threadedSpec p0 p1 r3 hr3) tv) ?_)
  obtain rfl := sj hm
  exact DW.ret (retK [] [] (pI r3))
abbrev o103 (ks : List Nat) (b : Bool) (RES : Int) : Orc := .call 126 ks b (pI RES) [] []

abbrev c136e1 : Nat × Obj := (1048, bx [.p (.sl .nil 0 0 (fun _ => [])), pI 0, .p (.sl .nil 0 0 (fun _ => [])), pI 0])
theorem Spawn_memberSpec (p0 : Hierarchy) (p1 : Int) (p2 : Int) (RES : Hierarchy × Int × Int) (hm : Spawn_member p0 p1 p2 = some RES) : Spec Tryz.prog 45 [.p (.agg (encHierarchy p0)), pI p1, pI p2] [] (.tup [.agg [ow 0 RES.1.tree.nodes.length, pI RES.1.tree.next, ow 1 RES.1.tasks.length, pI RES.1.next], pI RES.2.1, pI RES.2.2]) [] [roNode RES.1.tree.nodes, roTask RES.1.tasks] := by
 unfold Spawn_member at hm
 refine SO Tryz.func45 rfl rfl [(0, .p (.agg (encHierarchy p0))), (1, pI p1), (2, pI p2)] [] ?_
 intro cx hnt
 refine Sq (RD hnt (nn 4 []) [0] [(3, rr 1024), (6, rr 1048)] [] [(1024, bx (pm (encHierarchy p0))), (c136e1)] tv ?_)
 obtain ⟨r1, hr1, hm⟩ := bo hm
 refine Sq (Sq ?_)
 refine Jn (ι := Bool) (fun (y1 : Bool) => mkSt [(1, pI p1), (2, pI p2), (3, rr 1024), (6, rr 1048), (19, pB y1)] [(1024, bx (pm (encHierarchy p0))), (c136e1)]) (fun y1 => (Spawn_memberJ1 p0 p1 p2) y1 = some RES) ?_ ?_
 ·intro y1 hm
  unfold Spawn_memberJ1 at hm
  refine condM hm ?_ ?_
  ·intro h4 hm
   refine Sq (RD hnt (nn 4 []) [1, 2, 3, 19] [(7, pI 0), (8, pI 1)] [1024] [] tv ?_)
   refine DW.cv [] [] [] [(1048, bx [ow 100000 0, pI 0, ow 100001 0, pI 0]), (100000, ob0 (roNode [])), (100001, ob0 (roTask []))] (Conv.ads [(.o 1048 0, 100000, 6, elems encNode dNode []), (.o 1048 2, 100001, 4, elems encTask dTask [])]) ?_
   obtain rfl := sj hm
   exact DW.ret (retK [roNode [], roTask []] [100000, 100001] (.tup [.agg [ow 0 0, pI 0, ow 1 0, pI 0], pI 0, pI 1]))
  ·intro h4 hm
   refine Sk ?_
   obtain ⟨r5, hr5, hm⟩ := bo hm
   refine Sq (Sq (RD hnt (nn 3 (o44 [] true r5 :: .no :: [])) [19] [(25, pB (decide (r5 < 0)))] [] [] (an (At_forestSpec p0.tree p1 r5 hr5) tv) ?_))
   refine condM hm ?_ ?_
   ·intro h6 hm
    refine Sq (RD hnt (nn 4 []) [1, 2, 3, 25] [(7, pI 0), (8, pI 4)] [1024] [] tv ?_)
    refine DW.cv [] [] [] [(1048, bx [ow 100000 0, pI 0, ow 100001 0, pI 0]), (100000, ob0 (roNode [])), (100001, ob0 (roTask []))] (Conv.ads [(.o 1048 0, 100000, 6, elems encNode dNode []), (.o 1048 2, 100001, 4, elems encTask dTask [])]) ?_
    obtain rfl := sj hm
    exact DW.ret (retK [roNode [], roTask []] [100000, 100001] (.tup [.agg [ow 0 0, pI 0, ow 1 0, pI 0], pI 0, pI 4]))
   ·intro h6 hm
    refine Sk ?_
    obtain ⟨r7, hr7, hm⟩ := bo hm
    refine Sq (RK hnt (nn 4 (o63 [] true r7 :: nn 6 [])) [(6, rr 1048), (7, pI r7.2.1), (8, pI r7.2.2)] [(1048, bx [ow 1248 r7.1.tree.nodes.length, pI r7.1.tree.next, ow 1249 r7.1.tasks.length, pI r7.1.next]), (1248, ob0 (roNode r7.1.tree.nodes)), (1249, ob0 (roTask r7.1.tasks))] (an (add_memberSpec p0 ({ id := 0, process := 0, group := p1, user := p2 } : Task) r7 hr7) tv) ?_)
    obtain rfl := sj hm
    exact DW.ret (retK [roNode r7.1.tree.nodes, roTask r7.1.tasks] [1248, 1249] (.tup [.agg [ow 0 r7.1.tree.nodes.length, pI r7.1.tree.next, ow 1 r7.1.tasks.length, pI r7.1.next], pI r7.2.1, pI r7.2.2]))
 ·rcases bt (!r1) with h2 | h2
  ·replace hm := if_t h2 hm
   refine RD hnt (.no :: o33 [] true r1 :: nn 2 (sk 2 (pT :: .no :: sk 2 (pT :: [])))) [] [(19, pB true)] [] [] (an (Check_memberSpec p0 r1 hr1) (an3 h2 (an3 tt tv))) ?_
   exact jD true hm Conv.eqK
  ·replace hm := if_f h2 hm
   rcases bt (decide (p2 < 0)) with h3 | h3
   ·replace hm := if_t h3 hm
    refine RD hnt (.no :: o33 [] true r1 :: nn 4 (pF :: .no :: sk 2 (pT :: []))) [] [(19, pB true)] [] [] (an (Check_memberSpec p0 r1 hr1) (an3 h2 (an3 h3 tv))) ?_
    exact jD true hm Conv.eqK
   ·replace hm := if_f h3 hm
    refine RD hnt (.no :: o33 [] true r1 :: nn 4 (pF :: nn 3 (pF :: []))) [] [(19, pB (decide (p2 > 1048576)))] [] [] (an (Check_memberSpec p0 r1 hr1) (an3 h2 (an3 h3 tv))) ?_
    exact jD (decide (p2 > 1048576)) hm Conv.eqK
abbrev o136 (ks : List Nat) (b : Bool) (RES : Hierarchy × Int × Int) : Orc := .call 45 ks b (.tup [.agg [ow 0 RES.1.tree.nodes.length, pI RES.1.tree.next, ow 1 RES.1.tasks.length, pI RES.1.next], pI RES.2.1, pI RES.2.2]) [] [roNode RES.1.tree.nodes, roTask RES.1.tasks]

theorem Spawn_pidsSpec (p0 : Hierarchy) (p1 : List Count) (p2 : Int) (p3 : Int) (RES : Hierarchy × (List Count) × Int × Int) (hm : Spawn_pids p0 p1 p2 p3 = some RES) : Spec Tryz.prog 73 [.p (.agg (encHierarchy p0)), .p (slCount p1), pI p2, pI p3] [] (.tup [.p (.agg (encHierarchy RES.1)), ow 0 RES.2.1.length, pI RES.2.2.1, pI RES.2.2.2]) [] [roCount RES.2.1] := by
 unfold Spawn_pids at hm
 refine SO Tryz.func73 rfl rfl [(0, .p (.agg (encHierarchy p0))), (1, .p (slCount p1)), (2, pI p2), (3, pI p3)] [] ?_
 intro cx hnt
 refine Sq (RD hnt (nn 5 []) [0] [(4, rr 1032), (8, rr 1064)] [] [(1032, bx (pm (encHierarchy p0))), (1064, bx [.p (.sl .nil 0 0 (fun _ => [])), pI 0, .p (.sl .nil 0 0 (fun _ => [])), pI 0])] tv ?_)
 obtain ⟨r1, hr1, hm⟩ := bo hm
 refine Sq (Sq (RD hnt (nn 2 (o57 [] true r1 :: .no :: [])) [] [(19, pB (!r1))] [] [] (an (Check_pidsSpec p0 p1 r1 hr1) tv) ?_))
 refine condM hm ?_ ?_
 ·intro h2 hm
  obtain ⟨r3, hr3, hm⟩ := bo hm
  refine Sq (RK hnt (o61 [] true r3 :: nn 8 []) [(8, rr 1064), (9, ow 1162 r3.2.1.length), (10, pI r3.2.2.1), (11, pI r3.2.2.2)] [(1064, bx [ow 1160 r3.1.tree.nodes.length, pI r3.1.tree.next, ow 1161 r3.1.tasks.length, pI r3.1.next]), (1160, ob0 (roNode r3.1.tree.nodes)), (1161, ob0 (roTask r3.1.tasks)), (1162, ob0 (roCount r3.2.1))] (an (refuse_pidsSpec 1 r3 hr3) tv) ?_)
  obtain rfl := sj hm
  exact DW.ret (retK [roCount r3.2.1] [1162] (.tup [.p (.agg (encHierarchy r3.1)), ow 0 r3.2.1.length, pI r3.2.2.1, pI r3.2.2.2]))
 ·intro h2 hm
  refine Sk ?_
  obtain ⟨r4, hr4, hm⟩ := bo hm
  refine Sq (Sq (RD hnt (nn 2 (o103 [] true r4 :: .no :: [])) [19] [(12, pI r4)] [] [] (an (Admits_threadedSpec p0 p2 r4 hr4) tv) ?_))
  refine Sq (RD hnt (nn 2 []) [] [(29, pB (r4 != 0))] [] [] tv ?_)
  refine condM hm ?_ ?_
  ·intro h5 hm
   obtain ⟨r6, hr6, hm⟩ := bo hm
   refine Sq (RK hnt (.no :: o61 [] true r6 :: nn 8 []) [(8, rr 1064), (9, ow 1250 r6.2.1.length), (10, pI r6.2.2.1), (11, pI r6.2.2.2)] [(1064, bx [ow 1248 r6.1.tree.nodes.length, pI r6.1.tree.next, ow 1249 r6.1.tasks.length, pI r6.1.next]), (1248, ob0 (roNode r6.1.tree.nodes)), (1249, ob0 (roTask r6.1.tasks)), (1250, ob0 (roCount r6.2.1))] (an (refuse_pidsSpec r4 r6 hr6) tv) ?_)
   obtain rfl := sj hm
   exact DW.ret (retK [roCount r6.2.1] [1250] (.tup [.p (.agg (encHierarchy r6.1)), ow 0 r6.2.1.length, pI r6.2.2.1, pI r6.2.2.2]))
  ·intro h5 hm
   refine Sk ?_
   obtain ⟨r7, hr7, hm⟩ := bo hm
   refine Sq (RD hnt (nn 3 (o136 [] true r7 :: nn 8 [])) [3, 12, 29] [(13, rr 1104), (14, pI r7.2.1), (15, pI r7.2.2)] [] [(1104, bx [ow 1320 r7.1.tree.nodes.length, pI r7.1.tree.next, ow 1321 r7.1.tasks.length, pI r7.1.next]), (1320, ob0 (roNode r7.1.tree.nodes)), (1321, ob0 (roTask r7.1.tasks))] (an (Spawn_memberSpec p0 p2 p3 r7 hr7) tv) ?_)
   refine Sq (DW.cv [] [] [1320] [(1104, bx [.p (slNode r7.1.tree.nodes), pI r7.1.tree.next, ow 1321 r7.1.tasks.length, pI r7.1.next])] (Conv.frz [1320]) ?_)
   refine DW.cv [] [] [1321] [(1104, bx (pm (encHierarchy r7.1)))] (Conv.frz [1321]) ?_
   obtain ⟨r10, hr10, hm⟩ := bo hm
   refine RK hnt (nn 6 (o67 [] true r10 :: nn 8 [])) [(8, rr 1064), (9, ow 1400 r10.2.1.length), (10, pI r10.2.2.1), (11, pI r10.2.2.2)] [(1064, bx (pm (encHierarchy r10.1))), (1400, ob0 (roCount r10.2.1))] (an (grown_pidsSpec p0 r7.1 p1 p2 r7.2.1 r7.2.2 r10 hr10) tv) ?_
   obtain rfl := sj hm
   exact DW.ret (retK [roCount r10.2.1] [1400] (.tup [.p (.agg (encHierarchy r10.1)), ow 0 r10.2.1.length, pI r10.2.2.1, pI r10.2.2.2]))
abbrev o102 (ks : List Nat) (b : Bool) (RES : Hierarchy × (List Count) × Int × Int) : Orc := .call 73 ks b (.tup [.p (.agg (encHierarchy RES.1)), ow 0 RES.2.1.length, pI RES.2.2.1, pI RES.2.2.2]) [] [roCount RES.2.1]

abbrev c138e1 (p0 : Hierarchy) (k1 : Nat) := (p0.tasks.getD k1 (default : Task))
theorem Threads_ref6Spec (p0 : Hierarchy) (p1 : Int) (RES : List Int) (hm : Threads_ref6 p0 p1 = some RES) : Spec Tryz.prog 57 [.p (.agg (encHierarchy p0)), pI p1] [] (ow 0 RES.length) [] [roI RES] := by
 unfold Threads_ref6 at hm
 refine SO Tryz.func57 rfl rfl [(0, .p (.agg (encHierarchy p0))), (1, pI p1)] [] ?_
 intro cx hnt
 refine Sq (RK hnt (nn 2 []) [(1, pI p1), (2, rr 1016)] [(1016, bx (pm (encHierarchy p0)))] tv ?_)
 obtain ⟨r1, hr1, hm⟩ := bo hm
 refine Sq (Sq (RD hnt (.no :: o9 [] true r1 :: .no :: []) [] [(9, pB (!r1))] [] [] (an (Check_ref6Spec p0 r1 hr1) tv) ?_))
 refine condM hm ?_ ?_
 ·intro h2 hm
  refine Sq (RK hnt (.no :: []) [(4, .p (.sl .nil 0 0 (fun _ => [])))] [] tv ?_)
  refine DW.cv [] [(4, ow 100000 0)] [] [(100000, ob0 (roI []))] (Conv.ads [(.s 4, 100000, 1, elems encI 0 [])]) ?_
  obtain rfl := sj hm
  exact DW.ret (retK [roI []] [100000] (ow 0 0))
 ·intro h2 hm
  refine Sk ?_
  refine Sq (RD hnt (.no :: []) [9] [(5, .p (.sl .nil 0 0 (fun _ => [])))] [] [] tv ?_)
  refine Sq (Sq (RD hnt (.no :: []) [] [(6, pI 0)] [] [] tv ?_))
  refine Bk ?_
  obtain ⟨hc1, hm⟩ := go1 hm
  refine DW.rangeO (fun (k1 : Nat) (s1 : List Int) => mkSt [(1, pI p1), (2, rr 1016), (5, ow 1264 s1.length), (6, pI ((k1 : Nat) : Int))] [(1016, bx (pm (encHierarchy p0))), (1264, ob0 (roI s1))]) dTask hm (Conv.ads [(.s 5, 1264, 1, elems encI 0 [])]) ?_
  intro k1 s1 n1 hk1 hs1 he1
  refine Sq (Sq (RD hnt (nn 5 []) [] [(14, pB (decide (((k1 : Nat) : Int) < ((p0.tasks.length : Nat) : Int))))] [] [] tv ?_))
  refine condK (decide (((k1 : Nat) : Int) < ((p0.tasks.length : Nat) : Int))) ?_ ?_
  ·intro h12
   have hlt1 : k1 < p0.tasks.length := by have := of_decide_eq_true h12; omega
   have hm := hs1 hlt1
   unfold Threads_ref6L1 at hm
   refine Sk ?_
   refine Sq ?_
   refine Jn (ι := List Int) (fun (y3 : List Int) => mkSt [(1, pI p1), (2, rr 1016), (5, ow 1264 y3.length), (6, pI ((k1 : Nat) : Int))] [(1016, bx (pm (encHierarchy p0))), (1264, ob0 (roI y3))]) (fun y3 => (Threads_ref6J3 n1) y3 = some RES) ?_ ?_
   ·intro y3 hm
    unfold Threads_ref6J3 at hm
    refine RD hnt (nn 3 []) [] [(6, pI (w64 (((k1 : Nat) : Int) + 1)))] [] [] tv ?_
    exact jD y3 ⟨hlt1, hm⟩ (Conv.tp [(6, pI (w64 (((k1 : Nat) : Int) + 1)))] [] (by kernel_rfl) (.cons rfl (.of_eq (congrArg pI (w64_succ hlt1 hc1))) .nil) .nil)
   ·refine Bk ?_
    refine Sq (RD hnt (nn 8 []) [14] [(24, pB ((c138e1 p0 k1).process == p1))] [] [] (an (nn0 k1) (an (ltc hlt1) tv)) ?_)
    refine condM hm ?_ ?_
    ·intro h13 hm
     obtain ⟨g14, hm⟩ := go1 hm
     refine RN hnt (nn 10 []) [(1, pI p1), (2, rr 1016), (5, ow 1264 (s1 ++ [(c138e1 p0 k1).id]).length), (6, pI ((k1 : Nat) : Int))] [(1016, bx (pm (encHierarchy p0))), (1264, ob0 (roI (s1 ++ [(c138e1 p0 k1).id])))] [(5, ow 1264 (s1.length + 1))] [(1264, .row 1 (s1.length + 1) (catF s1.length (elI s1) (cut 1 [vi (c138e1 p0 k1).id])))] (an (nn0 k1) (an (ltc hlt1) (an (by omega : (s1.length + 1) * 8 ≤ 140737488355328) tv))) (by kernel_rfl) (.cons rfl (MLe.ownLen (enc := encI) (d := 0) (f := (catF s1.length (elI s1) (cut 1 [vi (c138e1 p0 k1).id]))) (RowIs.cat RowIs.elems (RowIs.lit (enc := encI) (d := 0) (n := 1) (f := (cut 1 [vi (c138e1 p0 k1).id])) [(c138e1 p0 k1).id] rfl (fun | 0, _ => rfl | n + 1, h => absurd h (by omega))))) .nil) (.cons rfl (BLe.typed (RowIs.cat RowIs.elems (RowIs.lit (enc := encI) (d := 0) (n := 1) (f := (cut 1 [vi (c138e1 p0 k1).id])) [(c138e1 p0 k1).id] rfl (fun | 0, _ => rfl | n + 1, h => absurd h (by omega))))) .nil) ?_
     exact bD (s1 ++ [(c138e1 p0 k1).id]) hm .refl
    ·intro h13 hm
     refine Sk ?_
     exact bD s1 hm Conv.t0
  ·intro h12
   have hge1 : ¬ k1 < p0.tasks.length := by have := of_decide_eq_false h12; omega
   have hm := he1 hge1
   unfold Threads_ref6D1 at hm
   refine DW.exit ?_
   refine joinQ_exit ?_
   refine KQ_exit ?_
   refine blockQ_exit ?_
   show DW _ _ _ _ _
   refine Sq (RK hnt (nn 2 []) [(4, ow 1264 s1.length)] [(1264, ob0 (roI s1))] tv ?_)
   obtain rfl := sj hm
   exact DW.ret (retK [roI s1] [1264] (ow 0 s1.length))
abbrev o138 (ks : List Nat) (b : Bool) (RES : List Int) : Orc := .call 57 ks b (ow 0 RES.length) [] [roI RES]

abbrev c137e1 : Nat × Body := (1048, .box [.p (.sl .nil 0 0 (fun _ => [])), pI 0, .p (.sl .nil 0 0 (fun _ => [])), pI 0])
abbrev c137e2 : Nat × Obj := (1048, bx [.p (.sl .nil 0 0 (fun _ => [])), pI 0, .p (.sl .nil 0 0 (fun _ => [])), pI 0])
abbrev c137e3 : Nat × Obj := (1048, bx [.p (slNode []), pI 0, .p (slTask []), pI 0])
theorem Attach_ref8Spec (p0 : Hierarchy) (p1 : Int) (p2 : Int) (RES : Hierarchy × Int) (hm : Attach_ref8 p0 p1 p2 = some RES) : Spec Tryz.prog 78 [.p (.agg (encHierarchy p0)), pI p1, pI p2] [] (.p (.tup [.agg (encHierarchy RES.1), vi RES.2])) [] [] := by
 unfold Attach_ref8 at hm
 refine SO Tryz.func78 rfl rfl [(0, .p (.agg (encHierarchy p0))), (1, pI p1), (2, pI p2)] [] ?_
 intro cx hnt
 refine Sq (RD hnt (nn 3 []) [0] [(3, rr 1024), (6, rr 1048)] [] [(1024, bx (pm (encHierarchy p0))), (c137e2)] tv ?_)
 obtain ⟨r1, hr1, hm⟩ := bo hm
 refine Sq (Sq (RD hnt (.no :: o7 [] true r1 :: .no :: []) [] [(16, pB (!r1))] [] [] (an (Fits_ref8Spec p0 r1 hr1) tv) ?_))
 refine condM hm ?_ ?_
 ·intro h2 hm
  refine Sq (RD hnt (nn 3 []) [1, 2, 3, 16] [(7, pI 1)] [1024] [] tv ?_)
  refine DW.conv (τ := mkSt [(6, rr 1048), (7, pI 1)] [(c137e3)]) (Conv.tp [] [(c137e1)] (by kernel_rfl) .nil (.cons rfl (.box (.cons MLe.nilL (.cons .rfl (.cons MLe.nilL (.cons .rfl .nil))))) .nil)) ?_
  obtain rfl := sj hm
  exact DW.ret (retK [] [] (.p (.tup [.agg [slNode [], vi 0, slTask [], vi 0], vi 1])))
 ·intro h2 hm
  refine Sk ?_
  obtain ⟨r3, hr3, hm⟩ := bo hm
  refine Sq (Sq (RD hnt (nn 2 (o20 [] true r3 :: nn 6 [])) [16] [(8, rr 1064), (9, pB r3.2)] [] [(1064, bx (pm (encTask r3.1)))] (an (Find_ref6Spec p0 p1 r3 hr3) tv) ?_))
  refine Sq ?_
  refine Jn (ι := Bool) (fun (y1 : Bool) => mkSt [(1, pI p1), (2, pI p2), (3, rr 1024), (6, rr 1048), (38, pB y1)] [(1024, bx (pm (encHierarchy p0))), (c137e2)]) (fun y1 => (Attach_ref8J1 p0 p1 p2) y1 = some RES) ?_ ?_
  ·intro y1 hm
   unfold Attach_ref8J1 at hm
   refine condM hm ?_ ?_
   ·intro h7 hm
    refine Sq (RD hnt (nn 3 []) [1, 2, 3, 38] [(7, pI 4)] [1024] [] tv ?_)
    refine DW.conv (τ := mkSt [(6, rr 1048), (7, pI 4)] [(c137e3)]) (Conv.tp [] [(c137e1)] (by kernel_rfl) .nil (.cons rfl (.box (.cons MLe.nilL (.cons .rfl (.cons MLe.nilL (.cons .rfl .nil))))) .nil)) ?_
    obtain rfl := sj hm
    exact DW.ret (retK [] [] (.p (.tup [.agg [slNode [], vi 0, slTask [], vi 0], vi 4])))
   ·intro h7 hm
    refine Sk ?_
    obtain ⟨r8, hr8, hm⟩ := bo hm
    refine Sq (Sq (RD hnt (nn 3 (o23 [] true r8 :: .no :: [])) [38] [(44, pB (r8 == 2))] [] [] (an (Type_ref8Spec p0.tree p2 r8 hr8) tv) ?_))
    refine condM hm ?_ ?_
    ·intro h9 hm
     refine Sq (RD hnt (nn 3 []) [1, 2, 3, 44] [(7, pI 10)] [1024] [] tv ?_)
     refine DW.conv (τ := mkSt [(6, rr 1048), (7, pI 10)] [(c137e3)]) (Conv.tp [] [(c137e1)] (by kernel_rfl) .nil (.cons rfl (.box (.cons MLe.nilL (.cons .rfl (.cons MLe.nilL (.cons .rfl .nil))))) .nil)) ?_
     obtain rfl := sj hm
     exact DW.ret (retK [] [] (.p (.tup [.agg [slNode [], vi 0, slTask [], vi 0], vi 10])))
    ·intro h9 hm
     refine Sk ?_
     obtain ⟨r10, hr10, hm⟩ := bo hm
     refine Sq (Sq (RD hnt (nn 2 (o89 [] true r10 :: .no :: [])) [44] [(10, pI r10)] [] [] (an (Admits_ref8Spec p0 p2 r10 hr10) tv) ?_))
     refine Sq (RD hnt (nn 2 []) [] [(50, pB (r10 != 0))] [] [] tv ?_)
     refine condM hm ?_ ?_
     ·intro h11 hm
      refine Sq (RD hnt (nn 4 []) [1, 2, 3, 10, 50] [(7, pI r10)] [1024] [] tv ?_)
      refine DW.conv (τ := mkSt [(6, rr 1048), (7, pI r10)] [(c137e3)]) (Conv.tp [] [(c137e1)] (by kernel_rfl) .nil (.cons rfl (.box (.cons MLe.nilL (.cons .rfl (.cons MLe.nilL (.cons .rfl .nil))))) .nil)) ?_
      obtain rfl := sj hm
      exact DW.ret (retK [] [] (.p (.tup [.agg [slNode [], vi 0, slTask [], vi 0], vi r10])))
     ·intro h11 hm
      refine Sk ?_
      refine Sq (RD hnt (nn 3 []) [10, 50] [(11, rr 1088)] [] [(1088, bx (pm (encHierarchy p0)))] tv ?_)
      obtain ⟨r12, hr12, hm⟩ := bo hm
      refine Sq (RD hnt (nn 2 (o138 [] true r12 :: .no :: [])) [1, 3] [(12, ow 1448 r12.length)] [1024] [(1448, ob0 (roI r12))] (an (Threads_ref6Spec p0 p1 r12 hr12) tv) ?_)
      refine Sq (Sq (RD hnt (.no :: []) [] [(13, pI 0)] [] [] tv ?_))
      refine Bk ?_
      obtain ⟨hc1, hm⟩ := go1 hm
      refine DW.rangeO (fun (k1 : Nat) (s1 : Hierarchy) => mkSt [(2, pI p2), (6, rr 1048), (11, rr 1088), (12, ow 1448 r12.length), (13, pI ((k1 : Nat) : Int))] [(c137e2), (1088, bx (pm (encHierarchy s1))), (1448, ob0 (roI r12))]) 0 hm Conv.eqK ?_
      intro k1 s1 n1 hk1 hs1 he1
      refine Sq (Sq (RD hnt (nn 4 []) [] [(60, pB (decide (((k1 : Nat) : Int) < ((r12.length : Nat) : Int))))] [] [] tv ?_))
      refine condK (decide (((k1 : Nat) : Int) < ((r12.length : Nat) : Int))) ?_ ?_
      ·intro h21
       have hlt1 : k1 < r12.length := by have := of_decide_eq_true h21; omega
       have hm := hs1 hlt1
       unfold Attach_ref8L1 at hm
       refine Sk ?_
       refine Sq (Bk ?_)
       obtain ⟨r22, hr22, hm⟩ := bo hm
       refine RD hnt (nn 6 (o93 [] true r22 :: nn 4 [])) [60] [] [] [(1088, bx [ow 1560 r22.1.tree.nodes.length, pI r22.1.tree.next, ow 1561 r22.1.tasks.length, pI r22.1.next]), (1560, ob0 (roNode r22.1.tree.nodes)), (1561, ob0 (roTask r22.1.tasks))] (an (nn0 k1) (an (ltc hlt1) (an (by omega : k1 < r12.length) (an (Place_ref6Spec s1 (r12.getD k1 0) p2 r22 hr22) tv)))) ?_
       refine DW.done ?_
       show DW _ _ _ _ _
       refine RD hnt (nn 3 []) [] [(13, pI (w64 (((k1 : Nat) : Int) + 1)))] [] [] tv ?_
       exact jD r22.1 ⟨hlt1, hm⟩ (Conv.trans (τ := mkSt [(2, pI p2), (6, rr 1048), (11, rr 1088), (12, ow 1448 r12.length), (13, pI (w64 (((k1 : Nat) : Int) + 1)))] [(c137e2), (1088, bx (pm (encHierarchy r22.1))), (1448, ob0 (roI r12))]) (Conv.frz [1560, 1561]) (Conv.tp [(13, pI (w64 (((k1 : Nat) : Int) + 1)))] [] (by kernel_rfl) (.cons rfl (.of_eq (congrArg pI (w64_succ hlt1 hc1))) .nil) .nil))
      ·intro h21
       have hge1 : ¬ k1 < r12.length := by have := of_decide_eq_false h21; omega
       have hm := he1 hge1
       unfold Attach_ref8D1 at hm
       refine DW.exit ?_
       refine joinQ_exit ?_
       refine KQ_exit ?_
       refine blockQ_exit ?_
       show DW _ _ _ _ _
       refine Sq (RK hnt (nn 3 []) [(6, rr 1048), (7, pI 0)] [(1048, bx (pm (encHierarchy s1)))] tv ?_)
       obtain rfl := sj hm
       exact DW.ret (retK [] [] (.p (.tup [.agg (encHierarchy s1), vi 0])))
  ·rcases bt (!r3.2) with h4 | h4
   ·replace hm := if_t h4 hm
    refine RD hnt (nn 3 (sk 4 (pT :: .no :: sk 5 (pT :: [])))) [8, 9] [(38, pB true)] [1064] [] (an5 h4 (an6 tt tv)) ?_
    exact jD true hm Conv.eqK
   ·replace hm := if_f h4 hm
    rcases bt (r3.1.process != p1) with h5 | h5
    ·replace hm := if_t h5 hm
     refine RD hnt (nn 7 (pF :: .no :: sk 5 (pT :: []))) [8, 9] [(38, pB true)] [1064] [] (an5 h4 (an6 h5 tv)) ?_
     exact jD true hm Conv.eqK
    ·replace hm := if_f h5 hm
     obtain ⟨r6, hr6, hm⟩ := bo hm
     refine RD hnt (nn 7 (pF :: nn 4 (o15 [] true r6 :: .no :: pF :: []))) [8, 9] [(38, pB (!r6))] [1064] [] (an5 h4 (an4 h5 (an (Has_ref5Spec p0.tree p2 r6 hr6) (an2 h5 tv)))) ?_
     exact jD (!r6) hm Conv.eqK
abbrev o137 (ks : List Nat) (b : Bool) (RES : Hierarchy × Int) : Orc := .call 78 ks b (.p (.tup [.agg (encHierarchy RES.1), vi RES.2])) [] []

theorem limit_ref10Spec (p0 : Int) (RES : Bool) (hm : limit_ref10 p0 = some RES) : Spec Tryz.prog 94 [pI p0] [] (pB RES) [] [] := by
 unfold limit_ref10 at hm
 refine SO Tryz.func94 rfl rfl [(0, pI p0)] [] ?_
 intro cx hnt
 refine Sq (RK hnt (.no :: []) [(0, pI p0)] [] tv ?_)
 refine Sq (DW.regJ (sl2 := [(2, pB ((p0 == 4611686018427387904) || ((decide (p0 ≥ 0)) && (decide (p0 ≤ 1099511627776)))))]) (ob2 := []) ?_ ?_)
 ·rcases bt (p0 == 4611686018427387904) with h1 | h1
  ·exact RT hnt (nn 3 (sk 6 (pT :: .no :: []))) [(2, pB true)] (an5 h1 tv) (by kernel_rfl) (.cons rfl (.of_eq (by rw [h1]; try rfl)) .nil)
  ·rcases bt (decide (p0 ≥ 0)) with h2 | h2
   ·exact RT hnt (nn 8 (pT :: pF :: .no :: [])) [(2, pB (decide (p0 ≤ 1099511627776)))] (an3 h1 (an2 h2 (an h1 (an h2 (an h1 tv))))) (by kernel_rfl) (.cons rfl (.of_eq (by rw [h1, h2]; try rfl)) .nil)
   ·exact RT hnt (nn 6 (sk 2 (pF :: pF :: .no :: []))) [(2, pB false)] (an3 h1 (an2 h2 (an h1 (an h2 (an h1 tv))))) (by kernel_rfl) (.cons rfl (.of_eq (by rw [h1, h2]; try rfl)) .nil)
 ·refine DW.ret ?_
  obtain rfl := sj hm
  exact retK [] [] (pB ((p0 == 4611686018427387904) || ((decide (p0 ≥ 0)) && (decide (p0 ≤ 1099511627776)))))
abbrev o140 (ks : List Nat) (b : Bool) (RES : Bool) : Orc := .call 94 ks b (pB RES) [] []

abbrev c139e1 (p1 : List Count) (k1 : Nat) := (p1.getD k1 (default : Count))
theorem Check_ref10Spec (p0 : Hierarchy) (p1 : List Count) (RES : Bool) (hm : Check_ref10 p0 p1 = some RES) : Spec Tryz.prog 32 [.p (.agg (encHierarchy p0)), .p (slCount p1)] [] (pB RES) [] [] := by
 unfold Check_ref10 at hm
 refine SO Tryz.func32 rfl rfl [(0, .p (.agg (encHierarchy p0))), (1, .p (slCount p1))] [] ?_
 intro cx hnt
 refine Sq (RD hnt (nn 2 []) [0] [(2, rr 1016)] [] [(1016, bx (pm (encHierarchy p0)))] tv ?_)
 obtain ⟨r1, hr1, hm⟩ := bo hm
 refine Sq (Sq ?_)
 refine Jn (ι := Bool) (fun (y1 : Bool) => mkSt [(1, .p (slCount p1)), (2, rr 1016), (18, pB y1)] [(1016, bx (pm (encHierarchy p0)))]) (fun y1 => (Check_ref10J1 p0 p1) y1 = some RES) ?_ ?_
 ·intro y1 hm
  unfold Check_ref10J1 at hm
  refine condM hm ?_ ?_
  ·intro h3 hm
   refine Sq (RK hnt (.no :: []) [(4, pB false)] [] tv ?_)
   obtain rfl := sj hm
   exact DW.ret (retK [] [] (pB false))
  ·intro h3 hm
   refine Sk ?_
   refine Sq (Sq (RD hnt (.no :: []) [18] [(5, pI 0)] [] [] tv ?_))
   refine Bk ?_
   obtain ⟨hc1, hm⟩ := go1 hm
   refine DW.rangeO (fun (k1 : Nat) (s1 : Unit) => mkSt [(1, .p (slCount p1)), (2, rr 1016), (5, pI ((k1 : Nat) : Int))] [(1016, bx (pm (encHierarchy p0)))]) dCount hm Conv.eqK ?_
   intro k1 s1 n1 hk1 hs1 he1
   refine Sq (Sq (RD hnt (nn 4 []) [] [(22, pB (decide (((k1 : Nat) : Int) < ((p1.length : Nat) : Int))))] [] [] tv ?_))
   refine condK (decide (((k1 : Nat) : Int) < ((p1.length : Nat) : Int))) ?_ ?_
   ·intro h28
    have hlt1 : k1 < p1.length := by have := of_decide_eq_true h28; omega
    have hm := hs1 hlt1
    unfold Check_ref10L1 at hm
    refine Sk ?_
    refine Sq (Bk ?_)
    refine Sq (RD hnt (nn 6 []) [22] [(6, rr 1048)] [] [(1048, bx (pm (encCount (c139e1 p1 k1))))] (an (nn0 k1) (an (ltc hlt1) tv)) ?_)
    obtain ⟨g29, hm⟩ := go1 hm
    refine Sq ?_
    refine Jn (ι := Bool) (fun (y4 : Bool) => mkSt [(1, .p (slCount p1)), (2, rr 1016), (5, pI ((k1 : Nat) : Int)), (75, pB y4)] [(1016, bx (pm (encHierarchy p0)))]) (fun y4 => (Check_ref10J4 n1) y4 = some RES) ?_ ?_
    ·intro y4 hm
     unfold Check_ref10J4 at hm
     refine condM hm ?_ ?_
     ·intro h38 hm
      refine Sq (RK hnt (.no :: []) [(4, pB false)] [] tv ?_)
      obtain rfl := sj hm
      exact DW.ret (retK [] [] (pB false))
     ·intro h38 hm
      refine Sk ?_
      refine DW.done ?_
      show DW _ _ _ _ _
      refine RD hnt (nn 3 []) [75] [(5, pI (w64 (((k1 : Nat) : Int) + 1)))] [] [] tv ?_
      exact jD () ⟨hlt1, hm⟩ (Conv.tp [(5, pI (w64 (((k1 : Nat) : Int) + 1)))] [] (by kernel_rfl) (.cons rfl (.of_eq (congrArg pI (w64_succ hlt1 hc1))) .nil) .nil)
    ·rcases bt ((c139e1 p1 k1).group != (p0.tree.nodes.getD k1 dNode).id) with h30 | h30
     ·replace hm := if_t h30 hm
      refine RD hnt (nn 11 (sk 7 (pT :: .no :: sk 4 (pT :: .no :: sk 5 (pT :: .no :: sk 3 (pT :: .no :: sk 3 (pT :: .no :: sk 3 (pT :: [])))))))) [6] [(75, pB true)] [1048] [] (an (nn0 k1) (an (ltc g29) (an2 h30 (an6 h30 (an5 tt (an6 tt (an6 tt (an6 tt tv)))))))) ?_
      exact jD true hm Conv.eqK
     ·replace hm := if_f h30 hm
      obtain ⟨r31, hr31, hm⟩ := bo hm
      rcases bt ((c139e1 p1 k1).now != r31) with h32 | h32
      ·replace hm := if_t h32 hm
       refine RD hnt (nn 16 (o99 [] true r31 :: .no :: pF :: .no :: sk 4 (pT :: .no :: sk 5 (pT :: .no :: sk 3 (pT :: .no :: sk 3 (pT :: .no :: sk 3 (pT :: []))))))) [6] [(75, pB true)] [1048] [] (an (nn0 k1) (an (ltc g29) (an6 h30 (an (Count_ref6Spec p0 (c139e1 p1 k1).group r31 hr31) (an2 h30 (an5 h32 (an6 tt (an6 tt (an6 tt tv))))))))) ?_
       exact jD true hm Conv.eqK
      ·replace hm := if_f h32 hm
       obtain ⟨r33, hr33, hm⟩ := bo hm
       rcases bt (!r33) with h34 | h34
       ·replace hm := if_t h34 hm
        refine RD hnt (nn 16 (o99 [] true r31 :: .no :: pF :: nn 3 (o140 [] true r33 :: .no :: pF :: .no :: sk 5 (pT :: .no :: sk 3 (pT :: .no :: sk 3 (pT :: .no :: sk 3 (pT :: []))))))) [6] [(75, pB true)] [1048] [] (an (nn0 k1) (an (ltc g29) (an6 h30 (an (Count_ref6Spec p0 (c139e1 p1 k1).group r31 hr31) (an2 h30 (an3 h32 (an (limit_ref10Spec (c139e1 p1 k1).limit r33 hr33) (an2 h32 (an6 h34 (an6 tt (an6 tt tv))))))))))) ?_
        exact jD true hm Conv.eqK
       ·replace hm := if_f h34 hm
        rcases bt (decide ((c139e1 p1 k1).peak < (c139e1 p1 k1).now)) with h35 | h35
        ·replace hm := if_t h35 hm
         refine RD hnt (nn 16 (o99 [] true r31 :: .no :: pF :: nn 3 (o140 [] true r33 :: .no :: pF :: nn 6 (pF :: .no :: sk 3 (pT :: .no :: sk 3 (pT :: .no :: sk 3 (pT :: []))))))) [6] [(75, pB true)] [1048] [] (an (nn0 k1) (an (ltc g29) (an6 h30 (an (Count_ref6Spec p0 (c139e1 p1 k1).group r31 hr31) (an2 h30 (an3 h32 (an (limit_ref10Spec (c139e1 p1 k1).limit r33 hr33) (an2 h32 (an6 h34 (an4 h35 (an2 tt (an6 tt tv)))))))))))) ?_
         exact jD true hm Conv.eqK
        ·replace hm := if_f h35 hm
         rcases bt (decide ((c139e1 p1 k1).peak > 128)) with h36 | h36
         ·replace hm := if_t h36 hm
          refine RD hnt (nn 16 (o99 [] true r31 :: .no :: pF :: nn 3 (o140 [] true r33 :: .no :: pF :: nn 6 (pF :: nn 4 (pF :: .no :: sk 3 (pT :: .no :: sk 3 (pT :: []))))))) [6] [(75, pB true)] [1048] [] (an (nn0 k1) (an (ltc g29) (an6 h30 (an (Count_ref6Spec p0 (c139e1 p1 k1).group r31 hr31) (an2 h30 (an3 h32 (an (limit_ref10Spec (c139e1 p1 k1).limit r33 hr33) (an2 h32 (an6 h34 (an4 h35 (an4 h36 (an4 tt tv)))))))))))) ?_
          exact jD true hm Conv.eqK
         ·replace hm := if_f h36 hm
          rcases bt (decide ((c139e1 p1 k1).events < 0)) with h37 | h37
          ·replace hm := if_t h37 hm
           refine RD hnt (nn 16 (o99 [] true r31 :: .no :: pF :: nn 3 (o140 [] true r33 :: .no :: pF :: nn 6 (pF :: nn 4 (pF :: nn 4 (pF :: .no :: sk 3 (pT :: []))))))) [6] [(75, pB true)] [1048] [] (an (nn0 k1) (an (ltc g29) (an6 h30 (an (Count_ref6Spec p0 (c139e1 p1 k1).group r31 hr31) (an2 h30 (an3 h32 (an (limit_ref10Spec (c139e1 p1 k1).limit r33 hr33) (an2 h32 (an6 h34 (an4 h35 (an4 h36 (an4 h37 tv)))))))))))) ?_
           exact jD true hm Conv.eqK
          ·replace hm := if_f h37 hm
           refine RD hnt (nn 16 (o99 [] true r31 :: .no :: pF :: nn 3 (o140 [] true r33 :: .no :: pF :: nn 6 (pF :: nn 4 (pF :: nn 4 (pF :: nn 4 (pF :: []))))))) [6] [(75, pB (decide ((c139e1 p1 k1).events > 1099511627776)))] [1048] [] (an (nn0 k1) (an (ltc g29) (an6 h30 (an (Count_ref6Spec p0 (c139e1 p1 k1).group r31 hr31) (an2 h30 (an3 h32 (an (limit_ref10Spec (c139e1 p1 k1).limit r33 hr33) (an2 h32 (an6 h34 (an4 h35 (an4 h36 (an4 h37 tv)))))))))))) ?_
           exact jD (decide ((c139e1 p1 k1).events > 1099511627776)) hm Conv.eqK
   ·intro h28
    have hge1 : ¬ k1 < p1.length := by have := of_decide_eq_false h28; omega
    have hm := he1 hge1
    unfold Check_ref10D1 at hm
    refine DW.exit ?_
    refine joinQ_exit ?_
    refine KQ_exit ?_
    refine blockQ_exit ?_
    show DW _ _ _ _ _
    refine Sq (RK hnt (.no :: []) [(4, pB true)] [] tv ?_)
    obtain rfl := sj hm
    exact DW.ret (retK [] [] (pB true))
 ·rcases bt (!r1) with h2 | h2
  ·replace hm := if_t h2 hm
   refine RD hnt (.no :: o9 [] true r1 :: nn 2 (sk 7 (pT :: []))) [] [(18, pB true)] [] [] (an (Check_ref6Spec p0 r1 hr1) (an2 h2 (an6 h2 tv))) ?_
   exact jD true hm Conv.eqK
  ·replace hm := if_f h2 hm
   refine RD hnt (.no :: o9 [] true r1 :: nn 9 (pF :: [])) [] [(18, pB (((p1.length : Nat) : Int) != ((p0.tree.nodes.length : Nat) : Int)))] [] [] (an (Check_ref6Spec p0 r1 hr1) (an2 h2 (an6 h2 tv))) ?_
   exact jD (((p1.length : Nat) : Int) != ((p0.tree.nodes.length : Nat) : Int)) hm Conv.eqK
abbrev o139 (ks : List Nat) (b : Bool) (RES : Bool) : Orc := .call 32 ks b (pB RES) [] []

abbrev c1e1 (s1 : Hierarchy × Dice × (List Count)) : Nat × Obj := (1032, bx (pm (encHierarchy s1.1)))
abbrev c1e2 (y26 : Hierarchy × Dice × Int × Int × (List Count)) (k6 : Nat) := (y26.2.2.2.2.getD k6 (default : Count))
abbrev c1e3 (y26 : Hierarchy × Dice × Int × Int × (List Count)) : Nat × Obj := (1192, bx (pm (encDice y26.2.1)))
theorem PidsLimits_law10Spec (p0 : List Int) (RES : Bool) (hm : PidsLimits_law10 p0 = some RES) : Spec Tryz.prog 13 [.p (slI p0)] [] (pB RES) [] [] := by
 unfold PidsLimits_law10 at hm
 refine SO Tryz.func13 rfl rfl [(0, .p (slI p0))] [] ?_
 intro cx hnt
 refine Sq (RK hnt (.no :: []) [(0, .p (slI p0))] [] tv ?_)
 obtain ⟨r1, hr1, hm⟩ := bo hm
 refine Sq (Sq (RD hnt (.no :: o2 [] true r1 :: .no :: []) [] [(21, pB (!r1))] [] [] (an (Light_madeSpec p0 r1 hr1) tv) ?_))
 refine condM hm ?_ ?_
 ·intro h2 hm
  obtain ⟨r3, hr3, hm⟩ := bo hm
  refine Sq (RK hnt (o3 [] true r3 :: .no :: []) [(2, pB r3)] [] (an (sane_law10Spec r3 hr3) tv) ?_)
  obtain rfl := sj hm
  exact DW.ret (retK [] [] (pB r3))
 ·intro h2 hm
  refine Sk ?_
  obtain ⟨r4, hr4, hm⟩ := bo hm
  refine Sq (RK hnt (.no :: o74 [] true r4 :: .no :: []) [(3, rr 1192)] [(1192, bx (pm (encDice r4)))] (an (Roll_madeSpec p0 r4 hr4) tv) ?_)
  obtain ⟨r5, hr5, hm⟩ := bo hm
  refine Sq (RK hnt (.no :: o75 [1192] true r5 :: nn 2 []) [(3, rr 1192), (4, rr 1032)] [(1032, bx (pm (encHierarchy r5.1))), (1192, bx (pm (encDice r5.2)))] (an (Hierarchy_Dice_madeSpec r4 6 6 r5 hr5) (an tv tv)) ?_)
  obtain ⟨r6, hr6, hm⟩ := bo hm
  refine Sq (RD hnt (nn 2 (o95 [1192] true r6 :: .no :: [])) [] [(5, ow 1232 r6.1.length)] [] [(1192, bx (pm (encDice r6.2))), (1232, ob0 (roCount r6.1))] (an (counts_law10Spec r5.2 r5.1 r6 hr6) (an tv tv)) ?_)
  refine Sq (Sq (RD hnt (.no :: []) [] [(6, pI 0)] [] [] tv ?_))
  refine Bk ?_
  refine DW.forO (fun (k1 : Int) (s1 : Hierarchy × Dice × (List Count)) => mkSt [(3, rr 1192), (4, rr 1032), (5, .p (slCount s1.2.2)), (6, pI k1)] [(c1e1 s1), (1192, bx (pm (encDice s1.2.1)))]) (lo := 0) (hi := 10) hm (Conv.frz [1232]) ?_
  intro k1 s1 n1 hk1 hs1 he1
  refine Sq (Sq (RD hnt (nn 2 []) [] [(31, pB (decide (k1 < 10)))] [] [] tv ?_))
  refine condK (decide (k1 < 10)) ?_ ?_
  ·intro h165
   have hlt1 : k1 < 10 := by have := of_decide_eq_true h165; omega
   have hm := hs1 hlt1
   unfold PidsLimits_law10L1 at hm
   refine Sk ?_
   refine Sq ?_
   refine Jn (ι := Hierarchy × Dice × (List Count)) (fun (y23 : Hierarchy × Dice × (List Count)) => mkSt [(3, rr 1192), (4, rr 1032), (5, .p (slCount y23.2.2)), (6, pI k1)] [(1032, bx (pm (encHierarchy y23.1))), (1192, bx (pm (encDice y23.2.1)))]) (fun y23 => (PidsLimits_law10J23 n1) y23 = some RES) ?_ ?_
   ·intro y23 hm
    unfold PidsLimits_law10J23 at hm
    refine RD hnt (nn 3 []) [] [(6, pI (w64 (k1 + 1)))] [] [] tv ?_
    exact jD (y23.1, y23.2.1, y23.2.2) ⟨hlt1, hm⟩ (Conv.tp [(6, pI (w64 (k1 + 1)))] [] (by kernel_rfl) (.cons rfl (.of_eq (congrArg pI (w64_for (lo := 0) (hi := 10) (by omega) hk1 hlt1 (by omega)))) .nil) .nil)
   ·refine Bk ?_
    refine Sq (RD hnt (nn 2 []) [31] [(7, .p (slCount s1.2.2))] [] [] tv ?_)
    obtain ⟨r166, hr166, hm⟩ := bo hm
    refine Sq (Sq (RD hnt (.no :: o77 [1192] true r166 :: []) [] [(36, pI r166.1)] [] [(1192, bx (pm (encDice r166.2)))] (an (Next_Dice_madeSpec s1.2.1 4 r166 hr166) (an tv tv)) ?_))
    refine Jn (ι := Hierarchy × Dice × (List Count)) (fun (y24 : Hierarchy × Dice × (List Count)) => mkSt [(3, rr 1192), (4, rr 1032), (5, .p (slCount y24.2.2)), (6, pI k1)] [(1032, bx (pm (encHierarchy y24.1))), (1192, bx (pm (encDice y24.2.1)))]) (fun y24 => (PidsLimits_law10J24 n1) y24 = some RES) ?_ ?_
    ·intro y24 hm
     unfold PidsLimits_law10J24 at hm
     obtain ⟨r239, hr239, hm⟩ := bo hm
     refine Sq (RD hnt (nn 2 (o139 [] true r239 :: .no :: [])) [] [(200, pB (!r239))] [] [] (an (Check_ref10Spec y24.1 y24.2.2 r239 hr239) tv) ?_)
     refine condM hm ?_ ?_
     ·intro h240 hm
      refine Sq (RK hnt (.no :: []) [(2, pB false)] [] tv ?_)
      obtain rfl := sj hm
      exact DW.ret (retK [] [] (pB false))
     ·intro h240 hm
      refine Sk ?_
      exact bD (y24.1, y24.2.1, y24.2.2) hm Conv.t0
    ·refine Bk ?_
     refine Sq (Sq (RD hnt (nn 2 []) [] [(37, pB (r166.1 == 0))] [] [] tv ?_))
     refine Jn (ι := Bool) (fun (y25 : Bool) => mkSt [(3, rr 1192), (4, rr 1032), (5, .p (slCount s1.2.2)), (6, pI k1), (7, .p (slCount s1.2.2)), (36, pI r166.1), (37, pB y25)] [(c1e1 s1), (1192, bx (pm (encDice r166.2)))]) (fun y25 => (PidsLimits_law10J25 s1 n1 r166) y25 = some RES) ?_ ?_
     ·intro y25 hm
      unfold PidsLimits_law10J25 at hm
      refine condM hm ?_ ?_
      ·intro h168 hm
       obtain ⟨r169, hr169, hm⟩ := bo hm
       obtain ⟨r170, hr170, hm⟩ := bo hm
       refine Sq (RD hnt (nn 5 (o82 [1192] true r169 :: o102 [] true r170 :: nn 10 [])) [36, 37] [(8, rr 1064), (9, ow 1376 r170.2.1.length), (10, pI r170.2.2.1), (11, pI r170.2.2.2)] [] [(1064, bx (pm (encHierarchy r170.1))), (1192, bx (pm (encDice r169.2))), (1376, ob0 (roCount r170.2.1))] (an (Group_Dice_madeSpec r166.2 s1.1.tree r169 hr169) (an tv (an (Spawn_pidsSpec s1.1 s1.2.2 r169.1 1 r170 hr170) tv))) ?_)
       obtain ⟨r171, hr171, hm⟩ := bo hm
       refine Sq (Sq (RD hnt (.no :: o79 [1192] true r171 :: []) [] [(53, pB r171.1)] [] [(1192, bx (pm (encDice r171.2)))] (an (Bool_Dice_madeSpec r169.2 2 r171 hr171) (an tv tv)) ?_))
       refine Jn (ι := Hierarchy × Dice × Int × Int × (List Count)) (fun (y26 : Hierarchy × Dice × Int × Int × (List Count)) => mkSt [(3, rr 1192), (4, rr 1032), (5, .p (slCount s1.2.2)), (6, pI k1), (7, .p (slCount s1.2.2)), (8, rr 1064), (9, .p (slCount y26.2.2.2.2)), (10, pI y26.2.2.1), (11, pI y26.2.2.2.1)] [(c1e1 s1), (1064, bx (pm (encHierarchy y26.1))), (c1e3 y26)]) (fun y26 => (PidsLimits_law10J26 s1 n1) y26 = some RES) ?_ ?_
       ·intro y26 hm
        unfold PidsLimits_law10J26 at hm
        refine Sq (Sq (RD hnt (nn 2 []) [] [(66, pB (y26.2.2.2.1 == 11))] [] [] tv ?_))
        refine Jn (ι := List Count) (fun (y27 : List Count) => mkSt [(3, rr 1192), (4, rr 1032), (5, .p (slCount y27)), (6, pI k1), (7, .p (slCount s1.2.2)), (8, rr 1064), (9, .p (slCount y26.2.2.2.2)), (11, pI y26.2.2.2.1)] [(c1e1 s1), (1064, bx (pm (encHierarchy y26.1))), (c1e3 y26)]) (fun y27 => (PidsLimits_law10J27 s1 n1 y26) y27 = some RES) ?_ ?_
        ·intro y27 hm
         unfold PidsLimits_law10J27 at hm
         refine Sq (Sq (RD hnt (nn 2 []) [11] [(123, pB (y26.2.2.2.1 != 0))] [] [] tv ?_))
         refine condM hm ?_ ?_
         ·intro h205 hm
          refine DW.exit ?_
          refine blockQ_other (by decide) ?_
          refine joinQ_exit (KQ_exit ?_)
          exact blockQ_exit (joinKQ (s1.1, y26.2.1, y27) hm Conv.t0)
         ·intro h205 hm
          refine Sk ?_
          refine Sq (RD hnt (nn 4 []) [8, 9, 123] [(5, .p (slCount y26.2.2.2.2))] [1064] [(1032, bx (pm (encHierarchy y26.1)))] tv ?_)
          refine Sq (Sq (RD hnt (nn 5 []) [] [(130, pB (((y26.2.2.2.2.length : Nat) : Int) != ((s1.2.2.length : Nat) : Int)))] [] [] tv ?_))
          refine condM hm ?_ ?_
          ·intro h206 hm
           refine Sq (RK hnt (.no :: []) [(2, pB false)] [] tv ?_)
           obtain rfl := sj hm
           exact DW.ret (retK [] [] (pB false))
          ·intro h206 hm
           refine Sk ?_
           refine Sq (RD hnt (nn 3 []) [130] [(132, pI ((y26.2.2.2.2.length : Nat) : Int)), (133, pI 0)] [] [] tv ?_)
           refine Bk ?_
           obtain ⟨hc7, hm⟩ := go1 hm
           refine DW.rangeO (fun (k7 : Nat) (s7 : Unit) => mkSt [(3, rr 1192), (4, rr 1032), (5, .p (slCount y26.2.2.2.2)), (6, pI k1), (7, .p (slCount s1.2.2)), (132, pI ((y26.2.2.2.2.length : Nat) : Int)), (133, pI ((k7 : Nat) : Int))] [(1032, bx (pm (encHierarchy y26.1))), (c1e3 y26)]) dCount hm Conv.eqK ?_
           intro k7 s7 n7 hk7 hs7 he7
           refine Sq (RD hnt (.no :: []) [] [(134, pB (decide (((k7 : Nat) : Int) < ((y26.2.2.2.2.length : Nat) : Int))))] [] [] tv ?_)
           refine Sq (condK (decide (((k7 : Nat) : Int) < ((y26.2.2.2.2.length : Nat) : Int))) ?_ ?_)
           ·intro h221
            have hlt7 : k7 < y26.2.2.2.2.length := by have := of_decide_eq_true h221; omega
            have hm := hs7 hlt7
            unfold PidsLimits_law10L7 at hm
            refine Sk ?_
            refine Sq (Bk ?_)
            refine Sq (RD hnt (nn 2 []) [134] [(14, pI ((k7 : Nat) : Int))] [] [] tv ?_)
            obtain ⟨g222, hm⟩ := go1 hm
            refine Sq ?_
            refine Jn (ι := Bool) (fun (y33 : Bool) => mkSt [(3, rr 1192), (4, rr 1032), (5, .p (slCount y26.2.2.2.2)), (6, pI k1), (7, .p (slCount s1.2.2)), (132, pI ((y26.2.2.2.2.length : Nat) : Int)), (133, pI ((k7 : Nat) : Int)), (159, pB y33)] [(1032, bx (pm (encHierarchy y26.1))), (c1e3 y26)]) (fun y33 => (PidsLimits_law10J33 n7) y33 = some RES) ?_ ?_
            ·intro y33 hm
             unfold PidsLimits_law10J33 at hm
             refine condM hm ?_ ?_
             ·intro h225 hm
              refine Sq (RK hnt (.no :: []) [(2, pB false)] [] tv ?_)
              obtain rfl := sj hm
              exact DW.ret (retK [] [] (pB false))
             ·intro h225 hm
              refine Sk ?_
              refine DW.done ?_
              show DW _ _ _ _ _
              refine RD hnt (nn 2 []) [159] [(133, pI (w64 (((k7 : Nat) : Int) + 1)))] [] [] tv ?_
              exact jD () ⟨hlt7, hm⟩ (Conv.tp [(133, pI (w64 (((k7 : Nat) : Int) + 1)))] [] (by kernel_rfl) (.cons rfl (.of_eq (congrArg pI (w64_succ hlt7 hc7))) .nil) .nil)
            ·rcases bt (decide ((y26.2.2.2.2.getD k7 (default : Count)).now > (s1.2.2.getD k7 dCount).now)) with h223 | h223
             ·replace hm := if_t h223 hm
              refine RD hnt (nn 23 (pT :: [])) [14] [(159, pB (decide ((y26.2.2.2.2.getD k7 (default : Count)).now > (y26.2.2.2.2.getD k7 (default : Count)).limit)))] [] [] (an (nn0 k7) (an (ltc hlt7) (an (nn0 k7) (an (ltc g222) (an3 h223 (an (nn0 k7) (an (ltc hlt7) (an5 h223 (an (nn0 k7) (an (ltc hlt7) (an4 h223 tv))))))))))) ?_
              exact jD (decide ((y26.2.2.2.2.getD k7 (default : Count)).now > (y26.2.2.2.2.getD k7 (default : Count)).limit)) hm Conv.eqK
             ·replace hm := if_f h223 hm
              refine RD hnt (nn 12 (sk 11 (pF :: []))) [14] [(159, pB false)] [] [] (an (nn0 k7) (an (ltc hlt7) (an (nn0 k7) (an (ltc g222) (an6 h223 (an6 h223 tv)))))) ?_
              exact jD false hm Conv.eqK
           ·intro h221
            have hge7 : ¬ k7 < y26.2.2.2.2.length := by have := of_decide_eq_false h221; omega
            have hm := he7 hge7
            unfold PidsLimits_law10D7 at hm
            refine DW.exit ?_
            refine joinQ_exit ?_
            refine KQ_exit ?_
            refine blockQ_exit ?_
            show DW _ _ _ _ _
            exact bD (y26.1, y26.2.1, y26.2.2.2.2) hm Conv.t0
        ·refine condM hm ?_ ?_
         ·intro h175 hm
          refine Sq (RD hnt (.no :: []) [66] [(12, pI 0)] [] [] tv ?_)
          refine Sq (Sq (DW.regJ (sl2 := [(3, rr 1192), (4, rr 1032), (5, .p (slCount s1.2.2)), (6, pI k1), (7, .p (slCount s1.2.2)), (8, rr 1064), (9, .p (slCount y26.2.2.2.2)), (11, pI y26.2.2.2.1), (12, pI 0), (75, pB ((((y26.2.2.2.2.length : Nat) : Int) != ((s1.2.2.length : Nat) : Int)) || (y26.2.2.1 != 0)))]) (ob2 := [(c1e1 s1), (1064, bx (pm (encHierarchy y26.1))), (c1e3 y26)]) ?_ ?_))
          ·rcases bt (((y26.2.2.2.2.length : Nat) : Int) != ((s1.2.2.length : Nat) : Int)) with h176 | h176
           ·exact RT hnt (nn 6 (sk 2 (pT :: []))) [(75, pB true)] (an3 h176 tv) (by kernel_rfl) (.cons rfl (.of_eq (by rw [h176]; try rfl)) .nil)
           ·exact RT hnt (nn 8 (pF :: [])) [(75, pB (y26.2.2.1 != 0))] (an3 h176 tv) (by kernel_rfl) (.cons rfl (.of_eq (by rw [h176]; try rfl)) .nil)
          ·refine condM hm ?_ ?_
           ·intro h177 hm
            refine Sq (RK hnt (.no :: []) [(2, pB false)] [] tv ?_)
            obtain rfl := sj hm
            exact DW.ret (retK [] [] (pB false))
           ·intro h177 hm
            refine Sk ?_
            refine Sq (Sq (RD hnt (nn 3 []) [75] [(77, pI ((y26.2.2.2.2.length : Nat) : Int)), (78, pI 0)] [] [] tv ?_))
            refine Bk ?_
            obtain ⟨hc6, hm⟩ := go1 hm
            refine DW.rangeO (fun (k6 : Nat) (s6 : Int) => mkSt [(3, rr 1192), (4, rr 1032), (5, .p (slCount s1.2.2)), (6, pI k1), (7, .p (slCount s1.2.2)), (8, rr 1064), (9, .p (slCount y26.2.2.2.2)), (11, pI y26.2.2.2.1), (12, pI s6), (77, pI ((y26.2.2.2.2.length : Nat) : Int)), (78, pI ((k6 : Nat) : Int))] [(c1e1 s1), (1064, bx (pm (encHierarchy y26.1))), (c1e3 y26)]) dCount hm Conv.eqK ?_
            intro k6 s6 n6 hk6 hs6 he6
            refine Sq (RD hnt (.no :: []) [] [(79, pB (decide (((k6 : Nat) : Int) < ((y26.2.2.2.2.length : Nat) : Int))))] [] [] tv ?_)
            refine Sq (condK (decide (((k6 : Nat) : Int) < ((y26.2.2.2.2.length : Nat) : Int))) ?_ ?_)
            ·intro h198
             have hlt6 : k6 < y26.2.2.2.2.length := by have := of_decide_eq_true h198; omega
             have hm := hs6 hlt6
             unfold PidsLimits_law10L6 at hm
             refine Sk ?_
             refine Sq (Bk ?_)
             refine Sq (RD hnt (nn 2 []) [79] [(13, pI ((k6 : Nat) : Int))] [] [] tv ?_)
             obtain ⟨g199, hm⟩ := go1 hm
             refine Sq (RD hnt (nn 14 []) [] [(12, pI (w64 (s6 + (w64 ((c1e2 y26 k6).events - (s1.2.2.getD k6 dCount).events)))))] [] [] (an (nn0 k6) (an (ltc hlt6) (an (nn0 k6) (an (ltc g199) tv)))) ?_)
             obtain ⟨g200, hm⟩ := go1 hm
             refine Sq ?_
             refine Jn (ι := Bool) (fun (y30 : Bool) => mkSt [(3, rr 1192), (4, rr 1032), (5, .p (slCount s1.2.2)), (6, pI k1), (7, .p (slCount s1.2.2)), (8, rr 1064), (9, .p (slCount y26.2.2.2.2)), (11, pI y26.2.2.2.1), (12, pI (w64 (s6 + (w64 ((c1e2 y26 k6).events - (s1.2.2.getD k6 dCount).events))))), (77, pI ((y26.2.2.2.2.length : Nat) : Int)), (78, pI ((k6 : Nat) : Int)), (117, pB y30)] [(c1e1 s1), (1064, bx (pm (encHierarchy y26.1))), (c1e3 y26)]) (fun y30 => (PidsLimits_law10J30 s1 k6 (c1e2 y26 k6) s6 n6) y30 = some RES) ?_ ?_
             ·intro y30 hm
              unfold PidsLimits_law10J30 at hm
              refine condM hm ?_ ?_
              ·intro h203 hm
               refine Sq (RK hnt (.no :: []) [(2, pB false)] [] tv ?_)
               obtain rfl := sj hm
               exact DW.ret (retK [] [] (pB false))
              ·intro h203 hm
               refine Sk ?_
               refine DW.done ?_
               show DW _ _ _ _ _
               refine RD hnt (nn 2 []) [117] [(78, pI (w64 (((k6 : Nat) : Int) + 1)))] [] [] tv ?_
               exact jD (w64 (s6 + (w64 ((c1e2 y26 k6).events - (s1.2.2.getD k6 dCount).events)))) ⟨hlt6, hm⟩ (Conv.tp [(78, pI (w64 (((k6 : Nat) : Int) + 1)))] [] (by kernel_rfl) (.cons rfl (.of_eq (congrArg pI (w64_succ hlt6 hc6))) .nil) .nil)
             ·rcases bt ((c1e2 y26 k6).now != (s1.2.2.getD k6 dCount).now) with h201 | h201
              ·replace hm := if_t h201 hm
               refine RD hnt (nn 12 (sk 11 (pT :: []))) [13] [(117, pB true)] [] [] (an (nn0 k6) (an (ltc hlt6) (an (nn0 k6) (an (ltc g200) (an6 h201 (an6 h201 tv)))))) ?_
               exact jD true hm Conv.eqK
              ·replace hm := if_f h201 hm
               obtain ⟨g202, hm⟩ := go1 hm
               refine RD hnt (nn 23 (pF :: [])) [13] [(117, pB ((c1e2 y26 k6).limit != (s1.2.2.getD k6 dCount).limit))] [] [] (an (nn0 k6) (an (ltc hlt6) (an (nn0 k6) (an (ltc g200) (an3 h201 (an (nn0 k6) (an (ltc hlt6) (an5 h201 (an (nn0 k6) (an (ltc g202) (an4 h201 tv))))))))))) ?_
               exact jD ((c1e2 y26 k6).limit != (s1.2.2.getD k6 dCount).limit) hm Conv.eqK
            ·intro h198
             have hge6 : ¬ k6 < y26.2.2.2.2.length := by have := of_decide_eq_false h198; omega
             have hm := he6 hge6
             unfold PidsLimits_law10D6 at hm
             refine DW.exit ?_
             refine joinQ_exit ?_
             refine KQ_exit ?_
             refine blockQ_exit ?_
             show DW _ _ _ _ _
             refine Sq (Sq (RD hnt (nn 2 []) [5, 12, 77, 78, 79] [(120, pB (s6 != 1))] [] [] tv ?_))
             refine condM hm ?_ ?_
             ·intro h204 hm
              refine Sq (RK hnt (.no :: []) [(2, pB false)] [] tv ?_)
              obtain rfl := sj hm
              exact DW.ret (retK [] [] (pB false))
             ·intro h204 hm
              refine Sk ?_
              refine RD hnt (nn 2 []) [120] [(5, .p (slCount y26.2.2.2.2))] [] [] tv ?_
              exact jD y26.2.2.2.2 hm Conv.eqK
         ·intro h175 hm
          refine Sk ?_
          exact jD s1.2.2 hm Conv.t0
       ·refine condM hm ?_ ?_
        ·intro h172 hm
         obtain ⟨r173, hr173, hm⟩ := bo hm
         obtain ⟨r174, hr174, hm⟩ := bo hm
         refine RD hnt (nn 4 (o90 [1192] true r173 :: o60 [] true r174 :: nn 9 [])) [53] [(9, ow 1480 r174.2.1.length), (10, pI r174.2.2.1), (11, pI r174.2.2.2)] [1376] [(1064, bx (pm (encHierarchy r174.1))), (1192, bx (pm (encDice r173.2))), (1480, ob0 (roCount r174.2.1))] (an (Task_Dice_madeSpec r171.2 s1.1 r173 hr173) (an tv (an (Clone_pidsSpec s1.1 s1.2.2 r173.1 r174 hr174) tv))) ?_
         exact jD (r174.1, r173.2, r174.2.2.1, r174.2.2.2, r174.2.1) hm (Conv.frz [1480])
        ·intro h172 hm
         refine Sk ?_
         exact jD (r170.1, r171.2, r170.2.2.1, r170.2.2.2, r170.2.1) hm (Conv.trans (τ := mkSt [(3, rr 1192), (4, rr 1032), (5, .p (slCount s1.2.2)), (6, pI k1), (7, .p (slCount s1.2.2)), (8, rr 1064), (9, .p (slCount r170.2.1)), (10, pI r170.2.2.1), (11, pI r170.2.2.2), (53, pB r171.1)] [(c1e1 s1), (1064, bx (pm (encHierarchy r170.1))), (1192, bx (pm (encDice r171.2)))]) (Conv.frz [1376]) Conv.t0)
      ·intro h168 hm
       refine Sq (RD hnt (nn 2 []) [7, 37] [(161, pB (r166.1 == 2))] [] [] tv ?_)
       refine condM hm ?_ ?_
       ·intro h226 hm
        obtain ⟨r227, hr227, hm⟩ := bo hm
        obtain ⟨r228, hr228, hm⟩ := bo hm
        refine Sq (RD hnt (nn 3 (o90 [1192] true r227 :: o94 [] true r228 :: nn 6 [])) [36, 161] [(15, rr 1120), (16, pI r228.2)] [] [(1120, bx [ow 2344 r228.1.tree.nodes.length, pI r228.1.tree.next, ow 2345 r228.1.tasks.length, pI r228.1.next]), (1192, bx (pm (encDice r227.2))), (2344, ob0 (roNode r228.1.tree.nodes)), (2345, ob0 (roTask r228.1.tasks))] (an (Task_Dice_madeSpec r166.2 s1.1 r227 hr227) (an tv (an (Exit_ref6Spec s1.1 r227.1 r228 hr228) tv))) ?_)
        refine Sq (RD hnt (nn 2 []) [16] [(172, pB (r228.2 == 0))] [] [] tv ?_)
        refine condM hm ?_ ?_
        ·intro h229 hm
         refine Sq (RD hnt (nn 2 []) [15, 172] [] [1120] [(1032, bx [ow 2344 r228.1.tree.nodes.length, pI r228.1.tree.next, ow 2345 r228.1.tasks.length, pI r228.1.next])] tv ?_)
         refine DW.cv [] [] [2344] [(1032, bx [.p (slNode r228.1.tree.nodes), pI r228.1.tree.next, ow 2345 r228.1.tasks.length, pI r228.1.next])] (Conv.frz [2344]) ?_
         refine DW.cv [] [] [2345] [(1032, bx (pm (encHierarchy r228.1)))] (Conv.frz [2345]) ?_
         obtain ⟨r232, hr232, hm⟩ := bo hm
         refine RD hnt (nn 2 (o32 [] true r232 :: .no :: [])) [] [(5, ow 2408 r232.length)] [] [(2408, ob0 (roCount r232))] (an (Adjust_pidsSpec r228.1 s1.2.2 r232 hr232) tv) ?_
         exact bD (r228.1, r227.2, r232) hm (Conv.frz [2408])
        ·intro h229 hm
         refine Sk ?_
         exact bD (s1.1, r227.2, s1.2.2) hm Conv.t0
       ·intro h226 hm
        refine Sq (RD hnt (nn 2 []) [36, 161] [(177, pB (r166.1 == 3))] [] [] tv ?_)
        refine condM hm ?_ ?_
        ·intro h233 hm
         obtain ⟨r234, hr234, hm⟩ := bo hm
         obtain ⟨r235, hr235, hm⟩ := bo hm
         obtain ⟨r236, hr236, hm⟩ := bo hm
         refine Sq (RD hnt (nn 3 (o90 [1192] true r234 :: nn 3 (o82 [1192] true r235 :: o137 [] true r236 :: nn 6 []))) [177] [(17, rr 1136), (18, pI r236.2)] [] [(1136, bx (pm (encHierarchy r236.1))), (1192, bx (pm (encDice r235.2)))] (an (Task_Dice_madeSpec r166.2 s1.1 r234 hr234) (an tv (an (Group_Dice_madeSpec r234.2 s1.1.tree r235 hr235) (an tv (an (Attach_ref8Spec s1.1 r234.1 r235.1 r236 hr236) tv))))) ?_)
         refine Sq (RD hnt (nn 2 []) [18] [(192, pB (r236.2 == 0))] [] [] tv ?_)
         refine condM hm ?_ ?_
         ·intro h237 hm
          refine Sq (RD hnt (nn 2 []) [17, 192] [] [1136] [(1032, bx (pm (encHierarchy r236.1)))] tv ?_)
          obtain ⟨r238, hr238, hm⟩ := bo hm
          refine RD hnt (nn 2 (o32 [] true r238 :: .no :: [])) [] [(5, ow 2568 r238.length)] [] [(2568, ob0 (roCount r238))] (an (Adjust_pidsSpec r236.1 s1.2.2 r238 hr238) tv) ?_
          exact bD (r236.1, r235.2, r238) hm (Conv.frz [2568])
         ·intro h237 hm
          refine Sk ?_
          exact bD (s1.1, r235.2, s1.2.2) hm Conv.t0
        ·intro h233 hm
         refine Sk ?_
         exact bD (s1.1, r166.2, s1.2.2) hm Conv.t0
     ·refine condM hm ?_ ?_
      ·intro h167 hm
       refine Sk ?_
       exact jD (r166.1 == 0) hm Conv.eqK
      ·intro h167 hm
       refine RD hnt (nn 2 []) [] [(37, pB (r166.1 == 1))] [] [] tv ?_
       exact jD (r166.1 == 1) hm Conv.eqK
  ·intro h165
   have hge1 : ¬ k1 < 10 := by have := of_decide_eq_false h165; omega
   have hm := he1 hge1
   unfold PidsLimits_law10D1 at hm
   refine DW.exit ?_
   refine joinQ_exit ?_
   refine KQ_exit ?_
   refine blockQ_exit ?_
   show DW _ _ _ _ _
   obtain ⟨r241, hr241, hm⟩ := bo hm
   refine Sq (RK hnt (o3 [] true r241 :: .no :: []) [(2, pB r241)] [] (an (sane_law10Spec r241 hr241) tv) ?_)
   obtain rfl := sj hm
   exact DW.ret (retK [] [] (pB r241))
abbrev o1 (ks : List Nat) (b : Bool) (RES : Bool) : Orc := .call 13 ks b (pB RES) [] []
end Go.Dm

