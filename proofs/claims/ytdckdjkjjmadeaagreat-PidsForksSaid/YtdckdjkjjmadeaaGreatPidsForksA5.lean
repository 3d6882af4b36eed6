/- Texts of the proof of PidsForks: the data machine, the models of the Go functions, their contracts. -/
import Derived.Test.YtdckdjkjjmadeaaGreatPidsForksA4
set_option linter.unusedVariables false
set_option linter.unusedSimpArgs false
/- Go functions compute their models, printed by a program. -/
namespace Go.Dm
open Go.Proofs
set_option linter.unusedVariables false
abbrev c73e1 (s1 : List Count) (r24 : Int) (p3 : Int) := (s1.set (Int.toNat r24) ({ group := (s1.getD (Int.toNat r24) dCount).group, now := (w64 ((s1.getD (Int.toNat r24) dCount).now + p3)), limit := (s1.getD (Int.toNat r24) dCount).limit, peak := (s1.getD (Int.toNat r24) dCount).peak, events := (s1.getD (Int.toNat r24) dCount).events } : Count))
abbrev c73e2 (s1 : List Count) (r24 : Int) (p3 : Int) := ({ group := ((c73e1 s1 r24 p3).getD (Int.toNat r24) dCount).group, now := ((c73e1 s1 r24 p3).getD (Int.toNat r24) dCount).now, limit := ((c73e1 s1 r24 p3).getD (Int.toNat r24) dCount).limit, peak := (maxI ((c73e1 s1 r24 p3).getD (Int.toNat r24) dCount).peak ((c73e1 s1 r24 p3).getD (Int.toNat r24) dCount).now), events := ((c73e1 s1 r24 p3).getD (Int.toNat r24) dCount).events } : Count)
abbrev c73e3 (s1 : List Count) (r24 : Int) (p3 : Int) := (updF (elCount (c73e1 s1 r24 p3)) (Int.toNat r24) [vi ((c73e1 s1 r24 p3).getD (Int.toNat r24) dCount).group, vi ((c73e1 s1 r24 p3).getD (Int.toNat r24) dCount).now, vi ((c73e1 s1 r24 p3).getD (Int.toNat r24) dCount).limit, vi (maxI ((c73e1 s1 r24 p3).getD (Int.toNat r24) dCount).peak ((c73e1 s1 r24 p3).getD (Int.toNat r24) dCount).now), vi ((c73e1 s1 r24 p3).getD (Int.toNat r24) dCount).events])
abbrev c73e4 (s1 : List Count) (r24 : Int) := (s1.getD (Int.toNat r24) dCount)
abbrev c73e5 (s1 : List Count) (r24 : Int) (p3 : Int) := ({ group := (c73e4 s1 r24).group, now := (w64 ((c73e4 s1 r24).now + p3)), limit := (c73e4 s1 r24).limit, peak := (c73e4 s1 r24).peak, events := (c73e4 s1 r24).events } : Count)
abbrev c73e6 (s1 : List Count) (r24 : Int) (p3 : Int) := (updF (elCount s1) (Int.toNat r24) [vi (c73e4 s1 r24).group, vi (w64 ((c73e4 s1 r24).now + p3)), vi (c73e4 s1 r24).limit, vi (c73e4 s1 r24).peak, vi (c73e4 s1 r24).events])
theorem charged_pidsSpec (p0 : Hierarchy) (p1 : List Count) (p2 : Int) (p3 : Int) (RES : List Count) (hm : charged_pids p0 p1 p2 p3 = some RES) : Spec Tryz.prog 92 [.p (.agg (encHierarchy p0)), .p (slCount p1), pI p2, pI p3] [] (ow 0 RES.length) [] [roCount RES] := by
 unfold charged_pids at hm
 refine SO Tryz.func92 rfl rfl [(0, .p (.agg (encHierarchy p0))), (1, .p (slCount p1)), (2, pI p2), (3, pI p3)] [] ?_
 intro cx hnt
 refine Sq (RD hnt (nn 2 []) [0] [(4, rr 1032)] [] [(1032, bx (pm (encHierarchy p0)))] tv ?_)
 obtain ⟨r1, hr1, hm⟩ := bo hm
 refine Sq (RD hnt (.no :: o59 [] true r1 :: .no :: []) [1] [(9, ow 1112 r1.length)] [] [(1112, ob0 (roCount r1))] (an (Clone_slices_CountSpec p1 r1 hr1) tv) ?_)
 obtain ⟨r2, hr2, hm⟩ := bo hm
 refine Sq (Sq (RD hnt (nn 3 (o69 [] true r2 :: nn 2 [])) [2, 4] [(18, ow 1144 r2.length), (19, pI ((r2.length : Nat) : Int)), (20, pI 0)] [1032] [(1144, ob0 (roI r2))] (an (Ancestors_forestSpec p0.tree p2 r2 hr2) tv) ?_))
 refine Bk ?_
 obtain ⟨hc1, hm⟩ := go1 hm
 refine DW.rangeO (fun (k1 : Nat) (s1 : List Count) => mkSt [(3, pI p3), (9, ow 1112 s1.length), (18, ow 1144 r2.length), (19, pI ((r2.length : Nat) : Int)), (20, pI ((k1 : Nat) : Int))] [(1112, ob0 (roCount s1)), (1144, ob0 (roI r2))]) 0 hm Conv.eqK ?_
 intro k1 s1 n1 hk1 hs1 he1
 refine Sq (RD hnt (.no :: []) [] [(21, pB (decide (((k1 : Nat) : Int) < ((r2.length : Nat) : Int))))] [] [] tv ?_)
 refine Sq (condK (decide (((k1 : Nat) : Int) < ((r2.length : Nat) : Int))) ?_ ?_)
 ·intro h23
  have hlt1 : k1 < r2.length := by have := of_decide_eq_true h23; omega
  have hm := hs1 hlt1
  unfold charged_pidsL1 at hm
  refine Sk ?_
  refine Sq (Bk ?_)
  refine Sq (RD hnt (nn 3 []) [21] [(11, pI (r2.getD k1 0))] [] [] (an (nn0 k1) (an (ltc hlt1) (an (by omega : k1 < r2.length) tv))) ?_)
  obtain ⟨r24, hr24, hm⟩ := bo hm
  obtain ⟨g25, hm⟩ := go1 hm
  refine Sq (RD hnt (nn 3 (o48 [] true r24 :: nn 2 [])) [11] [(12, .eref 1112 0 (Int.toNat r24) 0)] [] [] (an (at_pidsSpec s1 (r2.getD k1 0) r24 hr24) (an g25.1 (an g25.2 tv))) ?_)
  obtain ⟨g26, g27, hm⟩ := go2 hm
  refine Sq (RN hnt (nn 9 []) [(3, pI p3), (9, ow 1112 (c73e1 s1 r24 p3).length), (12, .eref 1112 0 (Int.toNat r24) 0), (18, ow 1144 r2.length), (19, pI ((r2.length : Nat) : Int)), (20, pI ((k1 : Nat) : Int))] [(1112, ob0 (roCount (c73e1 s1 r24 p3))), (1144, ob0 (roI r2))] [(9, ow 1112 s1.length)] [(1112, .row 5 s1.length (c73e6 s1 r24 p3))] (an g26 (an g27 tv)) (by kernel_rfl) (.cons rfl (MLe.ownLen (enc := encCount) (d := dCount) (f := (c73e6 s1 r24 p3)) (RowIs.upd RowIs.elems (c73e5 s1 r24 p3) rfl)) .nil) (.cons rfl (BLe.typed (RowIs.upd RowIs.elems (c73e5 s1 r24 p3) rfl)) .nil) ?_)
  obtain ⟨g28, g29, g30, hm⟩ := go3 hm
  refine RN hnt (nn 13 []) [(3, pI p3), (9, ow 1112 ((c73e1 s1 r24 p3).set (Int.toNat r24) (c73e2 s1 r24 p3)).length), (18, ow 1144 r2.length), (19, pI ((r2.length : Nat) : Int)), (20, pI ((k1 : Nat) : Int))] [(1112, ob0 (roCount ((c73e1 s1 r24 p3).set (Int.toNat r24) (c73e2 s1 r24 p3)))), (1144, ob0 (roI r2))] [(9, ow 1112 (c73e1 s1 r24 p3).length)] [(1112, .row 5 (c73e1 s1 r24 p3).length (c73e3 s1 r24 p3))] (an g28 (an g29 (an g30 tv))) (by kernel_rfl) (.cons rfl (MLe.ownLen (enc := encCount) (d := dCount) (f := (c73e3 s1 r24 p3)) (RowIs.upd RowIs.elems (c73e2 s1 r24 p3) rfl)) .nil) (.cons rfl (BLe.typed (RowIs.upd RowIs.elems (c73e2 s1 r24 p3) rfl)) .nil) ?_
  refine DW.done ?_
  show DW _ _ _ _ _
  refine RD hnt (nn 2 []) [] [(20, pI (w64 (((k1 : Nat) : Int) + 1)))] [] [] tv ?_
  exact jD ((c73e1 s1 r24 p3).set (Int.toNat r24) (c73e2 s1 r24 p3)) ⟨hlt1, hm⟩ (Conv.tp [(20, pI (w64 (((k1 : Nat) : Int) + 1)))] [] (by kernel_rfl) (.cons rfl (.of_eq (congrArg pI (w64_succ hlt1 hc1))) .nil) .nil)
 ·intro h23
  have hge1 : ¬ k1 < r2.length := by have := of_decide_eq_false h23; omega
  have hm := he1 hge1
  unfold charged_pidsD1 at hm
  refine DW.exit ?_
  refine joinQ_exit ?_
  refine KQ_exit ?_
  refine blockQ_exit ?_
  show DW _ _ _ _ _
  refine Sq (RK hnt (nn 2 []) [(8, ow 1112 s1.length)] [(1112, ob0 (roCount s1))] tv ?_)
  obtain rfl := sj hm
  exact DW.ret (retK [roCount s1] [1112] (ow 0 s1.length))
abbrev o73 (ks : List Nat) (b : Bool) (RES : List Count) : Orc := .call 92 ks b (ow 0 RES.length) [] [roCount RES]

theorem grown_pidsSpec (p0 : Hierarchy) (p1 : Hierarchy) (p2 : List Count) (p3 : Int) (p4 : Int) (p5 : Int) (RES : Hierarchy × (List Count) × Int × Int) (hm : grown_pids p0 p1 p2 p3 p4 p5 = some RES) : Spec Tryz.prog 127 [.p (.agg (encHierarchy p0)), .p (.agg (encHierarchy p1)), .p (slCount p2), pI p3, pI p4, pI p5] [] (.tup [.p (.agg (encHierarchy RES.1)), ow 0 RES.2.1.length, pI RES.2.2.1, pI RES.2.2.2]) [] [roCount RES.2.1] := by
 unfold grown_pids at hm
 refine SO Tryz.func127 rfl rfl [(0, .p (.agg (encHierarchy p0))), (1, .p (.agg (encHierarchy p1))), (2, .p (slCount p2)), (3, pI p3), (4, pI p4), (5, pI p5)] [] ?_
 intro cx hnt
 refine Sq (RD hnt (nn 6 []) [0, 1] [(6, rr 1048), (7, rr 1056), (12, rr 1096)] [] [(1048, bx (pm (encHierarchy p0))), (1056, bx (pm (encHierarchy p1))), (1096, bx [.p (.sl .nil 0 0 (fun _ => [])), pI 0, .p (.sl .nil 0 0 (fun _ => [])), pI 0])] tv ?_)
 refine Sq (Sq (RD hnt (nn 2 []) [] [(19, pB (p5 != 0))] [] [] tv ?_))
 refine condM hm ?_ ?_
 ·intro h1 hm
  obtain ⟨r2, hr2, hm⟩ := bo hm
  refine Sq (RK hnt (.no :: o61 [] true r2 :: nn 8 []) [(12, rr 1096), (13, ow 1170 r2.2.1.length), (14, pI r2.2.2.1), (15, pI r2.2.2.2)] [(1096, bx [ow 1168 r2.1.tree.nodes.length, pI r2.1.tree.next, ow 1169 r2.1.tasks.length, pI r2.1.next]), (1168, ob0 (roNode r2.1.tree.nodes)), (1169, ob0 (roTask r2.1.tasks)), (1170, ob0 (roCount r2.2.1))] (an (refuse_pidsSpec p5 r2 hr2) tv) ?_)
  obtain rfl := sj hm
  exact DW.ret (retK [roCount r2.2.1] [1170] (.tup [.p (.agg (encHierarchy r2.1)), ow 0 r2.2.1.length, pI r2.2.2.1, pI r2.2.2.2]))
 ·intro h1 hm
  refine Sk ?_
  obtain ⟨r3, hr3, hm⟩ := bo hm
  refine Sq (Sq (RD hnt (nn 3 (o68 [] true r3 :: .no :: [])) [5, 19] [(30, pB (decide (r3 < 1)))] [] [] (an (least_pidsSpec p0 p2 p3 r3 hr3) tv) ?_))
  refine condM hm ?_ ?_
  ·intro h4 hm
   obtain ⟨r5, hr5, hm⟩ := bo hm
   refine Sq (RD hnt (nn 3 (o72 [] true r5 :: nn 5 [])) [2, 3, 4, 6, 7, 30] [(16, ow 1280 r5.1.length)] [1048, 1056] [(1280, ob0 (roCount r5.1))] (an (Refuse_pidsSpec p0 p2 p3 1 r5 hr5) tv) ?_)
   refine Sq (RD hnt (nn 6 []) [16] [(13, ow 1280 r5.1.length), (14, pI 0), (15, pI 11)] [] [] tv ?_)
   refine DW.conv (τ := mkSt [(12, rr 1096), (13, ow 1280 r5.1.length), (14, pI 0), (15, pI 11)] [(1096, bx [.p (slNode []), pI 0, .p (slTask []), pI 0]), (1280, ob0 (roCount r5.1))]) (Conv.tp [] [(1096, .box [.p (.sl .nil 0 0 (fun _ => [])), pI 0, .p (.sl .nil 0 0 (fun _ => [])), pI 0])] (by kernel_rfl) .nil (.cons rfl (.box (.cons MLe.nilL (.cons .rfl (.cons MLe.nilL (.cons .rfl .nil))))) .nil)) ?_
   obtain rfl := sj hm
   exact DW.ret (retK [roCount r5.1] [1280] (.tup [.p (.agg [slNode [], vi 0, slTask [], vi 0]), ow 0 r5.1.length, pI 0, pI 11]))
  ·intro h4 hm
   refine Sk ?_
   obtain ⟨r6, hr6, hm⟩ := bo hm
   refine Sq (RK hnt (nn 4 (o73 [] true r6 :: nn 5 [])) [(12, rr 1096), (13, ow 1352 r6.length), (14, pI p4), (15, pI 0)] [(1096, bx (pm (encHierarchy p1))), (1352, ob0 (roCount r6))] (an (charged_pidsSpec p0 p2 p3 1 r6 hr6) tv) ?_)
   obtain rfl := sj hm
   exact DW.ret (retK [roCount r6] [1352] (.tup [.p (.agg (encHierarchy p1)), ow 0 r6.length, pI p4, pI 0]))
abbrev o67 (ks : List Nat) (b : Bool) (RES : Hierarchy × (List Count) × Int × Int) : Orc := .call 127 ks b (.tup [.p (.agg (encHierarchy RES.1)), ow 0 RES.2.1.length, pI RES.2.2.1, pI RES.2.2.2]) [] [roCount RES.2.1]

theorem Clone_pidsSpec (p0 : Hierarchy) (p1 : List Count) (p2 : Int) (RES : Hierarchy × (List Count) × Int × Int) (hm : Clone_pids p0 p1 p2 = some RES) : Spec Tryz.prog 75 [.p (.agg (encHierarchy p0)), .p (slCount p1), pI p2] [] (.tup [.p (.agg (encHierarchy RES.1)), ow 0 RES.2.1.length, pI RES.2.2.1, pI RES.2.2.2]) [] [roCount RES.2.1] := by
 unfold Clone_pids at hm
 refine SO Tryz.func75 rfl rfl [(0, .p (.agg (encHierarchy p0))), (1, .p (slCount p1)), (2, pI p2)] [] ?_
 intro cx hnt
 refine Sq (RD hnt (nn 5 []) [0] [(3, rr 1024), (6, rr 1048)] [] [(1024, bx (pm (encHierarchy p0))), (1048, bx [.p (.sl .nil 0 0 (fun _ => [])), pI 0, .p (.sl .nil 0 0 (fun _ => [])), pI 0])] tv ?_)
 obtain ⟨r1, hr1, hm⟩ := bo hm
 refine Sq (Sq (RD hnt (nn 2 (o57 [] true r1 :: .no :: [])) [] [(18, pB (!r1))] [] [] (an (Check_pidsSpec p0 p1 r1 hr1) tv) ?_))
 refine condM hm ?_ ?_
 ·intro h2 hm
  obtain ⟨r3, hr3, hm⟩ := bo hm
  refine Sq (RK hnt (o61 [] true r3 :: nn 8 []) [(6, rr 1048), (7, ow 1154 r3.2.1.length), (8, pI r3.2.2.1), (9, pI r3.2.2.2)] [(1048, bx [ow 1152 r3.1.tree.nodes.length, pI r3.1.tree.next, ow 1153 r3.1.tasks.length, pI r3.1.next]), (1152, ob0 (roNode r3.1.tree.nodes)), (1153, ob0 (roTask r3.1.tasks)), (1154, ob0 (roCount r3.2.1))] (an (refuse_pidsSpec 1 r3 hr3) tv) ?_)
  obtain rfl := sj hm
  exact DW.ret (retK [roCount r3.2.1] [1154] (.tup [.p (.agg (encHierarchy r3.1)), ow 0 r3.2.1.length, pI r3.2.2.1, pI r3.2.2.2]))
 ·intro h2 hm
  refine Sk ?_
  obtain ⟨r4, hr4, hm⟩ := bo hm
  refine Sq (RD hnt (nn 2 (o40 [] true r4 :: nn 6 [])) [18] [(10, rr 1080)] [] [(1080, bx (pm (encTask r4.1)))] (an (Find_crewSpec p0 p2 r4 hr4) tv) ?_)
  obtain ⟨r5, hr5, hm⟩ := bo hm
  refine Sq (RD hnt (nn 2 (o62 [] true r5 :: nn 8 [])) [2] [(12, rr 1096), (13, pI r5.2.1), (14, pI r5.2.2)] [] [(1096, bx [ow 1264 r5.1.tree.nodes.length, pI r5.1.tree.next, ow 1265 r5.1.tasks.length, pI r5.1.next]), (1264, ob0 (roNode r5.1.tree.nodes)), (1265, ob0 (roTask r5.1.tasks))] (an (Clone_memberSpec p0 p2 r5 hr5) tv) ?_)
  refine Sq (DW.cv [] [] [1264] [(1096, bx [.p (slNode r5.1.tree.nodes), pI r5.1.tree.next, ow 1265 r5.1.tasks.length, pI r5.1.next])] (Conv.frz [1264]) ?_)
  refine DW.cv [] [] [1265] [(1096, bx (pm (encHierarchy r5.1)))] (Conv.frz [1265]) ?_
  obtain ⟨r8, hr8, hm⟩ := bo hm
  refine RK hnt (nn 7 (o67 [] true r8 :: nn 8 [])) [(6, rr 1048), (7, ow 1352 r8.2.1.length), (8, pI r8.2.2.1), (9, pI r8.2.2.2)] [(1048, bx (pm (encHierarchy r8.1))), (1352, ob0 (roCount r8.2.1))] (an (grown_pidsSpec p0 r5.1 p1 r4.1.group r5.2.1 r5.2.2 r8 hr8) tv) ?_
  obtain rfl := sj hm
  exact DW.ret (retK [roCount r8.2.1] [1352] (.tup [.p (.agg (encHierarchy r8.1)), ow 0 r8.2.1.length, pI r8.2.2.1, pI r8.2.2.2]))
abbrev o60 (ks : List Nat) (b : Bool) (RES : Hierarchy × (List Count) × Int × Int) : Orc := .call 75 ks b (.tup [.p (.agg (encHierarchy RES.1)), ow 0 RES.2.1.length, pI RES.2.2.1, pI RES.2.2.2]) [] [roCount RES.2.1]

theorem sane_law10Spec (RES : Bool) (hm : sane_law10 = some RES) : Spec Tryz.prog 15 [] [] (pB RES) [] [] := by
 unfold sane_law10 at hm
 refine SO Tryz.func15 rfl rfl [] [] ?_
 intro cx hnt
 refine Sq (RK hnt (.no :: []) [] [] tv ?_)
 obtain ⟨r1, hr1, hm⟩ := bo hm
 obtain ⟨r2, hr2, hm⟩ := bo hm
 refine Sq (RK hnt (o4 [] true r1 :: o6 [] false r2 :: nn 8 []) [(1, rr 1008), (2, pI r2.2.1)] [(1008, bx [ow 1136 r2.1.tree.nodes.length, pI r2.1.tree.next, ow 1137 r2.1.tasks.length, pI r2.1.next]), (1136, ob0 (roNode r2.1.tree.nodes)), (1137, ob0 (roTask r2.1.tasks))] (an (New_ref6Spec r1 hr1) (an (Create_ref8Spec r1 1 (bs [97]) r2 hr2) tv)) ?_)
 refine Sq (DW.cv [] [] [1136] [(1008, bx [.p (slNode r2.1.tree.nodes), pI r2.1.tree.next, ow 1137 r2.1.tasks.length, pI r2.1.next])] (Conv.frz [1136]) ?_)
 refine DW.cv [] [] [1137] [(1008, bx (pm (encHierarchy r2.1)))] (Conv.frz [1137]) ?_
 obtain ⟨r5, hr5, hm⟩ := bo hm
 refine RD hnt (nn 2 (o6 [] true r5 :: nn 7 [])) [] [(4, pI r5.2.1)] [] [(1008, bx [ow 1192 r5.1.tree.nodes.length, pI r5.1.tree.next, ow 1193 r5.1.tasks.length, pI r5.1.next]), (1192, ob0 (roNode r5.1.tree.nodes)), (1193, ob0 (roTask r5.1.tasks))] (an (Create_ref8Spec r2.1 r2.2.1 (bs [98]) r5 hr5) tv) ?_
 refine Sq (DW.cv [] [] [1192] [(1008, bx [.p (slNode r5.1.tree.nodes), pI r5.1.tree.next, ow 1193 r5.1.tasks.length, pI r5.1.next])] (Conv.frz [1192]) ?_)
 refine DW.cv [] [] [1193] [(1008, bx (pm (encHierarchy r5.1)))] (Conv.frz [1193]) ?_
 obtain ⟨r8, hr8, hm⟩ := bo hm
 refine RD hnt (nn 2 (o29 [] true r8 :: nn 7 [])) [4] [(6, pI r8.2.1)] [] [(1008, bx [ow 1248 r8.1.tree.nodes.length, pI r8.1.tree.next, ow 1249 r8.1.tasks.length, pI r8.1.next]), (1248, ob0 (roNode r8.1.tree.nodes)), (1249, ob0 (roTask r8.1.tasks))] (an (Spawn_ref6Spec r5.1 r5.2.1 0 r8 hr8) tv) ?_
 refine Sq (DW.cv [] [] [1248] [(1008, bx [.p (slNode r8.1.tree.nodes), pI r8.1.tree.next, ow 1249 r8.1.tasks.length, pI r8.1.next])] (Conv.frz [1248]) ?_)
 refine DW.cv [] [] [1249] [(1008, bx (pm (encHierarchy r8.1)))] (Conv.frz [1249]) ?_
 obtain ⟨r11, hr11, hm⟩ := bo hm
 obtain ⟨r12, hr12, hm⟩ := bo hm
 refine RK hnt (nn 2 (o31 [] true r11 :: .no :: o56 [] false r12 :: nn 5 [])) [(1, rr 1008), (2, pI r2.2.1), (6, pI r8.2.1), (8, ow 1320 r12.1.length), (9, pI r12.2)] [(1008, bx (pm (encHierarchy r8.1))), (1320, ob0 (roCount r12.1))] (an (New_pidsSpec r8.1 r11 hr11) (an (Limit_pidsSpec r8.1 r11 r2.2.1 1 r12 hr12) tv)) ?_
 refine Sq (DW.cv [] [(8, .p (slCount r12.1))] [1320] [] (Conv.frz [1320]) ?_)
 obtain ⟨r14, hr14, hm⟩ := bo hm
 refine RD hnt (nn 3 (o60 [] true r14 :: nn 10 [])) [1, 6] [(8, ow 1376 r14.2.1.length), (12, pI r14.2.2.2)] [1008] [(1376, ob0 (roCount r14.2.1))] (an (Clone_pidsSpec r8.1 r12.1 r8.2.1 r14 hr14) tv) ?_
 obtain ⟨r15, hr15, hm⟩ := bo hm
 refine Sq (RD hnt (nn 2 (o47 [] true r15 :: nn 6 [])) [2, 8] [(13, rr 1104), (14, pB r15.2)] [1376] [(1104, bx (pm (encCount r15.1)))] (an (Get_pidsSpec r14.2.1 r2.2.1 r15 hr15) tv) ?_)
 refine Sq (DW.regJ (sl2 := [(0, pB (((((r12.2 == 0) && (r14.2.2.2 == 11)) && r15.2) && (r15.1.events == 1)) && (r15.1.now == 1)))]) (ob2 := []) ?_ ?_)
 ·rcases bt (r12.2 == 0) with h16 | h16
  ·rcases bt (r14.2.2.2 == 11) with h17 | h17
   ·rcases bt r15.2 with h18 | h18
    ·rcases bt (r15.1.events == 1) with h19 | h19
     ·exact RT hnt (nn 5 (pT :: nn 2 (pT :: nn 4 (pT :: nn 4 (pT :: .no :: []))))) [(0, pB (r15.1.now == 1))] (an3 h16 (an2 h17 (an4 h18 (an4 h19 tv)))) (by kernel_rfl) (.cons rfl (.of_eq (by rw [h16, h17, h18, h19]; try rfl)) .nil)
     ·exact RT hnt (nn 5 (pT :: nn 2 (pT :: nn 4 (pT :: .no :: sk 3 (pF :: .no :: []))))) [(0, pB false)] (an3 h16 (an2 h17 (an4 h18 (an4 h19 tv)))) (by kernel_rfl) (.cons rfl (.of_eq (by rw [h16, h17, h18, h19]; try rfl)) .nil)
    ·exact RT hnt (nn 5 (pT :: nn 2 (pT :: .no :: sk 3 (pF :: .no :: sk 3 (pF :: .no :: []))))) [(0, pB false)] (an3 h16 (an2 h17 (an4 h18 (an4 ff tv)))) (by kernel_rfl) (.cons rfl (.of_eq (by rw [h16, h17, h18]; try rfl)) .nil)
   ·exact RT hnt (nn 5 (pT :: .no :: .skip :: pF :: .no :: sk 3 (pF :: .no :: sk 3 (pF :: .no :: [])))) [(0, pB false)] (an3 h16 (an2 h17 (an2 ff (an6 ff tv)))) (by kernel_rfl) (.cons rfl (.of_eq (by rw [h16, h17]; try rfl)) .nil)
  ·exact RT hnt (nn 3 (sk 2 (pF :: .no :: .skip :: pF :: .no :: sk 3 (pF :: .no :: sk 3 (pF :: .no :: []))))) [(0, pB false)] (an3 h16 (an4 ff (an6 ff tv))) (by kernel_rfl) (.cons rfl (.of_eq (by rw [h16]; try rfl)) .nil)
 ·refine DW.ret ?_
  obtain rfl := sj hm
  exact retK [] [] (pB (((((r12.2 == 0) && (r14.2.2.2 == 11)) && r15.2) && (r15.1.events == 1)) && (r15.1.now == 1)))
abbrev o3 (ks : List Nat) (b : Bool) (RES : Bool) : Orc := .call 15 ks b (pB RES) [] []

theorem Roll_madeSpec (p0 : List Int) (RES : Dice) (hm : Roll_made p0 = some RES) : Spec Tryz.prog 16 [.p (slI p0)] [] (rr 0) [] [.box (pm (encDice RES))] := by
 unfold Roll_made at hm
 refine SO Tryz.func16 rfl rfl [(0, .p (slI p0))] [] ?_
 intro cx hnt
 refine Sq (RK hnt (.no :: []) [(0, .p (slI p0))] [] tv ?_)
 refine Sq (RK hnt (nn 4 []) [(2, rr 1040)] [(1040, bx [.p (slI p0), pI 0])] tv ?_)
 obtain rfl := sj hm
 exact DW.ret (retK [.box [.p (slI p0), pI 0]] [1040] (rr 0))
abbrev o74 (ks : List Nat) (b : Bool) (RES : Dice) : Orc := .call 16 ks b (rr 0) [] [.box (pm (encDice RES))]

abbrev c77e1 (p0 : Dice) := (p0.l.getD (Int.toNat (w64 ((w64 (p0.atF + 1)) - 1))) 0)
theorem Next_Dice_madeSpec (p0 : Dice) (p1 : Int) (RES : Int × Dice) (hm : Next_Dice_made p0 p1 = some RES) : Spec Tryz.prog 19 [rr 0, pI p1] [.box (pm (encDice p0))] (pI RES.1) [.box (pm (encDice RES.2))] [] := by
 unfold Next_Dice_made at hm
 refine SO Tryz.func19 rfl rfl [(0, rr 0), (1, pI p1)] [(0, bx (pm (encDice p0)))] ?_
 intro cx hnt
 refine Sq (RD hnt (.no :: []) [] [] [] [] tv ?_)
 refine Sq (Sq (DW.regJ (sl2 := [(0, rr 0), (1, pI p1), (19, pB ((decide (p0.atF ≥ ((p0.l.length : Nat) : Int))) || (decide (p1 < 1))))]) (ob2 := [(0, bx (pm (encDice p0)))]) ?_ ?_))
 ·rcases bt (decide (p0.atF ≥ ((p0.l.length : Nat) : Int))) with h1 | h1
  ·exact RT hnt (nn 11 (sk 2 (pT :: []))) [(19, pB true)] (an3 h1 tv) (by kernel_rfl) (.cons rfl (.of_eq (by rw [h1]; try rfl)) .nil)
  ·exact RT hnt (nn 13 (pF :: [])) [(19, pB (decide (p1 < 1)))] (an3 h1 tv) (by kernel_rfl) (.cons rfl (.of_eq (by rw [h1]; try rfl)) .nil)
 ·refine condM hm ?_ ?_
  ·intro h2 hm
   refine Sq (RD hnt (.no :: []) [0, 1, 19] [(4, pI 0)] [] [] tv ?_)
   obtain rfl := sj hm
   exact DW.ret (retK [.box (pm (encDice p0))] [] (pI 0))
  ·intro h2 hm
   refine Sk ?_
   refine Sq (RD hnt (nn 8 []) [19] [] [] [(0, bx [.p (slI p0.l), pI (w64 (p0.atF + 1))])] tv ?_)
   obtain ⟨g3, g4, hm⟩ := go2 hm
   refine Sq (RD hnt (nn 14 []) [0] [(5, pI (Int.tmod (c77e1 p0) p1))] [] [] (an g3.1 (an g3.2 (an g4 tv))) ?_)
   refine Sq (Sq (RD hnt (nn 2 []) [] [(41, pB (decide ((Int.tmod (c77e1 p0) p1) < 0)))] [] [] tv ?_))
   refine Jn (ι := Int) (fun (y1 : Int) => mkSt [(5, pI y1)] [(0, bx [.p (slI p0.l), pI (w64 (p0.atF + 1))])]) (fun y1 => (Next_Dice_madeJ1 p0) y1 = some RES) ?_ ?_
   ·intro y1 hm
    unfold Next_Dice_madeJ1 at hm
    refine Sq (RD hnt (nn 2 []) [5] [(4, pI y1)] [] [] tv ?_)
    obtain rfl := sj hm
    exact DW.ret (retK [.box [.p (slI p0.l), pI (w64 (p0.atF + 1))]] [] (pI y1))
   ·refine condM hm ?_ ?_
    ·intro h5 hm
     refine RD hnt (nn 4 []) [1, 41] [(5, pI (w64 ((Int.tmod (c77e1 p0) p1) + p1)))] [] [] tv ?_
     exact jD (w64 ((Int.tmod (c77e1 p0) p1) + p1)) hm Conv.eqK
    ·intro h5 hm
     refine Sk ?_
     exact jD (Int.tmod (c77e1 p0) p1) hm Conv.t0
abbrev o77 (ks : List Nat) (b : Bool) (RES : Int × Dice) : Orc := .call 19 ks b (pI RES.1) [.box (pm (encDice RES.2))] []

theorem Name_Dice_madeSpec (p0 : Dice) (RES : ByteArray × Dice) (hm : Name_Dice_made p0 = some RES) : Spec Tryz.prog 132 [rr 0] [.box (pm (encDice p0))] (pS RES.1) [.box (pm (encDice RES.2))] [] := by
 unfold Name_Dice_made at hm
 refine SO Tryz.func132 rfl rfl [(0, rr 0)] [(0, bx (pm (encDice p0)))] ?_
 intro cx hnt
 refine Sq (RD hnt (.no :: []) [] [] [] [] tv ?_)
 obtain ⟨r3, hr3, hm⟩ := bo hm
 obtain ⟨g4, g5, hm⟩ := go2 hm
 refine Sq (RK hnt (.asR (ow 1024 [(bs [97]), (bs [98]), (bs [99]), (bs [119, 101, 98]), (bs [100, 98, 45, 49]), (bs [88, 95, 57])].length) [(bs [97]), (bs [98]), (bs [99]), (bs [119, 101, 98]), (bs [100, 98, 45, 49]), (bs [88, 95, 57])].length (elems encS ByteArray.empty [(bs [97]), (bs [98]), (bs [99]), (bs [119, 101, 98]), (bs [100, 98, 45, 49]), (bs [88, 95, 57])]) :: .no :: o77 [0] true r3 :: nn 3 []) [(2, pS ([(bs [97]), (bs [98]), (bs [99]), (bs [119, 101, 98]), (bs [100, 98, 45, 49]), (bs [88, 95, 57])].getD (Int.toNat r3.1) ByteArray.empty))] [(0, bx (pm (encDice r3.2)))] (an (congrArg (MV.own 1024 0 0) (RowIs.asP (enc := encS) (d := ByteArray.empty) (L := [(bs [97]), (bs [98]), (bs [99]), (bs [119, 101, 98]), (bs [100, 98, 45, 49]), (bs [88, 95, 57])]) (RowIs.lit (enc := encS) (d := ByteArray.empty) (n := 6) (f := (cut 1 [vs (bs [97]), vs (bs [98]), vs (bs [99]), vs (bs [119, 101, 98]), vs (bs [100, 98, 45, 49]), vs (bs [88, 95, 57])])) [(bs [97]), (bs [98]), (bs [99]), (bs [119, 101, 98]), (bs [100, 98, 45, 49]), (bs [88, 95, 57])] rfl (fun | 0, _ => rfl | 1, _ => rfl | 2, _ => rfl | 3, _ => rfl | 4, _ => rfl | 5, _ => rfl | n + 6, h => absurd h (by omega)))).1) (an (RowIs.asP (enc := encS) (d := ByteArray.empty) (L := [(bs [97]), (bs [98]), (bs [99]), (bs [119, 101, 98]), (bs [100, 98, 45, 49]), (bs [88, 95, 57])]) (RowIs.lit (enc := encS) (d := ByteArray.empty) (n := 6) (f := (cut 1 [vs (bs [97]), vs (bs [98]), vs (bs [99]), vs (bs [119, 101, 98]), vs (bs [100, 98, 45, 49]), vs (bs [88, 95, 57])])) [(bs [97]), (bs [98]), (bs [99]), (bs [119, 101, 98]), (bs [100, 98, 45, 49]), (bs [88, 95, 57])] rfl (fun | 0, _ => rfl | 1, _ => rfl | 2, _ => rfl | 3, _ => rfl | 4, _ => rfl | 5, _ => rfl | n + 6, h => absurd h (by omega)))) (an (Next_Dice_madeSpec p0 6 r3 hr3) (an tv (an g4.1 (an g4.2 (an g5 tv))))))) ?_)
 obtain rfl := sj hm
 exact DW.ret (retK [.box (pm (encDice r3.2))] [] (pS ([(bs [97]), (bs [98]), (bs [99]), (bs [119, 101, 98]), (bs [100, 98, 45, 49]), (bs [88, 95, 57])].getD (Int.toNat r3.1) ByteArray.empty)))
abbrev o78 (ks : List Nat) (b : Bool) (RES : ByteArray × Dice) : Orc := .call 132 ks b (pS RES.1) [.box (pm (encDice RES.2))] []

theorem Bool_Dice_madeSpec (p0 : Dice) (p1 : Int) (RES : Bool × Dice) (hm : Bool_Dice_made p0 p1 = some RES) : Spec Tryz.prog 77 [rr 0, pI p1] [.box (pm (encDice p0))] (pB RES.1) [.box (pm (encDice RES.2))] [] := by
 unfold Bool_Dice_made at hm
 refine SO Tryz.func77 rfl rfl [(0, rr 0), (1, pI p1)] [(0, bx (pm (encDice p0)))] ?_
 intro cx hnt
 refine Sq (RD hnt (.no :: []) [] [] [] [] tv ?_)
 obtain ⟨r1, hr1, hm⟩ := bo hm
 refine Sq (RK hnt (nn 2 (o77 [0] true r1 :: nn 4 [])) [(4, pB (r1.1 == (w64 (p1 - 1))))] [(0, bx (pm (encDice r1.2)))] (an (Next_Dice_madeSpec p0 p1 r1 hr1) (an tv tv)) ?_)
 obtain rfl := sj hm
 exact DW.ret (retK [.box (pm (encDice r1.2))] [] (pB (r1.1 == (w64 (p1 - 1)))))
abbrev o79 (ks : List Nat) (b : Bool) (RES : Bool × Dice) : Orc := .call 77 ks b (pB RES.1) [.box (pm (encDice RES.2))] []

abbrev c80e1 (p0 : Tree) (k1 : Nat) := (p0.nodes.getD k1 (default : Node))
abbrev c80e2 : Nat × Obj := (1032, bx [.p (.sl .nil 0 0 (fun _ => [])), pI 0])
abbrev c80e3 : Nat × Obj := (1032, bx [ow 100000 0, pI 0])
theorem Remove_ref5Spec (p0 : Tree) (p1 : Int) (RES : Tree × Int) (hm : Remove_ref5 p0 p1 = some RES) : Spec Tryz.prog 124 [.p (.agg (encTree p0)), pI p1] [] (.tup [.agg [ow 0 RES.1.nodes.length, pI RES.1.next], pI RES.2]) [] [roNode RES.1.nodes] := by
 unfold Remove_ref5 at hm
 refine SO Tryz.func124 rfl rfl [(0, .p (.agg (encTree p0))), (1, pI p1)] [] ?_
 intro cx hnt
 refine Sq (RK hnt (nn 3 []) [(1, pI p1), (2, rr 1016), (4, rr 1032)] [(1016, bx (pm (encTree p0))), (c80e2)] tv ?_)
 refine Sq (Bk ?_)
 obtain ⟨r1, hr1, hm⟩ := bo hm
 refine Sq (RD hnt (.no :: o10 [] true r1 :: nn 2 []) [] [(8, pB (!r1))] [] [] (an (Check_ref5Spec p0 r1 hr1) tv) ?_)
 refine condM hm ?_ ?_
 ·intro h2 hm
  refine Sq (RD hnt (nn 3 []) [1, 2, 8] [(5, pI 1)] [1016] [] tv ?_)
  refine DW.cv [] [] [] [(c80e3), (100000, ob0 (roNode []))] (Conv.ads [(.o 1032 0, 100000, 6, elems encNode dNode [])]) ?_
  obtain rfl := sj hm
  exact DW.ret (retK [roNode []] [100000] (.tup [.agg [ow 0 0, pI 0], pI 1]))
 ·intro h2 hm
  obtain ⟨r3, hr3, hm⟩ := bo hm
  refine Sq (RD hnt (nn 2 (o15 [] true r3 :: nn 2 [])) [8] [(13, pB (!r3))] [] [] (an (Has_ref5Spec p0 p1 r3 hr3) tv) ?_)
  refine condM hm ?_ ?_
  ·intro h4 hm
   refine Sq (RD hnt (nn 3 []) [1, 2, 13] [(5, pI 4)] [1016] [] tv ?_)
   refine DW.cv [] [] [] [(c80e3), (100000, ob0 (roNode []))] (Conv.ads [(.o 1032 0, 100000, 6, elems encNode dNode [])]) ?_
   obtain rfl := sj hm
   exact DW.ret (retK [roNode []] [100000] (.tup [.agg [ow 0 0, pI 0], pI 4]))
  ·intro h4 hm
   refine Sq (RD hnt (nn 3 []) [13] [(19, pB (p1 == 1))] [] [] tv ?_)
   refine condM hm ?_ ?_
   ·intro h5 hm
    refine Sq (RD hnt (nn 3 []) [1, 2, 19] [(5, pI 9)] [1016] [] tv ?_)
    refine DW.cv [] [] [] [(c80e3), (100000, ob0 (roNode []))] (Conv.ads [(.o 1032 0, 100000, 6, elems encNode dNode [])]) ?_
    obtain rfl := sj hm
    exact DW.ret (retK [roNode []] [100000] (.tup [.agg [ow 0 0, pI 0], pI 9]))
   ·intro h5 hm
    obtain ⟨r6, hr6, hm⟩ := bo hm
    refine Sq (RD hnt (nn 2 (o24 [] true r6 :: nn 3 [])) [19] [(23, pB (decide (((r6.length : Nat) : Int) > 0)))] [] [] (an (Children_ref5Spec p0 p1 r6 hr6) tv) ?_)
    refine condM hm ?_ ?_
    ·intro h7 hm
     refine Sq (RD hnt (nn 3 []) [1, 2, 23] [(5, pI 6)] [1016] [] tv ?_)
     refine DW.cv [] [] [] [(c80e3), (100000, ob0 (roNode []))] (Conv.ads [(.o 1032 0, 100000, 6, elems encNode dNode [])]) ?_
     obtain rfl := sj hm
     exact DW.ret (retK [roNode []] [100000] (.tup [.agg [ow 0 0, pI 0], pI 6]))
    ·intro h7 hm
     refine Sk ?_
     refine DW.done ?_
     show DW _ _ _ _ _
     refine Sq (RD hnt (nn 5 []) [23] [(6, rr 1048)] [] [(1048, bx [.p (.sl .nil 0 0 (fun _ => [])), pI p0.next])] tv ?_)
     refine Sq (Sq (RD hnt (.no :: []) [] [(7, pI 0)] [] [] tv ?_))
     refine Bk ?_
     obtain ⟨hc1, hm⟩ := go1 hm
     refine DW.rangeO (fun (k1 : Nat) (s1 : List Node) => mkSt [(1, pI p1), (2, rr 1016), (4, rr 1032), (6, rr 1048), (7, pI ((k1 : Nat) : Int))] [(1016, bx (pm (encTree p0))), (c80e2), (1048, bx [ow 1448 s1.length, pI p0.next]), (1448, ob0 (roNode s1))]) dNode hm (Conv.ads [(.o 1048 0, 1448, 6, elems encNode dNode [])]) ?_
     intro k1 s1 n1 hk1 hs1 he1
     refine Sq (Sq (RD hnt (nn 5 []) [] [(37, pB (decide (((k1 : Nat) : Int) < ((p0.nodes.length : Nat) : Int))))] [] [] tv ?_))
     refine condK (decide (((k1 : Nat) : Int) < ((p0.nodes.length : Nat) : Int))) ?_ ?_
     ·intro h17
      have hlt1 : k1 < p0.nodes.length := by have := of_decide_eq_true h17; omega
      have hm := hs1 hlt1
      unfold Remove_ref5L1 at hm
      refine Sk ?_
      refine Sq ?_
      refine Jn (ι := List Node) (fun (y3 : List Node) => mkSt [(1, pI p1), (2, rr 1016), (4, rr 1032), (6, rr 1048), (7, pI ((k1 : Nat) : Int))] [(1016, bx (pm (encTree p0))), (c80e2), (1048, bx [ow 1448 y3.length, pI p0.next]), (1448, ob0 (roNode y3))]) (fun y3 => (Remove_ref5J3 n1) y3 = some RES) ?_ ?_
      ·intro y3 hm
       unfold Remove_ref5J3 at hm
       refine RD hnt (nn 3 []) [] [(7, pI (w64 (((k1 : Nat) : Int) + 1)))] [] [] tv ?_
       exact jD y3 ⟨hlt1, hm⟩ (Conv.tp [(7, pI (w64 (((k1 : Nat) : Int) + 1)))] [] (by kernel_rfl) (.cons rfl (.of_eq (congrArg pI (w64_succ hlt1 hc1))) .nil) .nil)
      ·refine Bk ?_
       refine Sq (RD hnt (nn 8 []) [37] [(47, pB ((c80e1 p0 k1).id != p1))] [] [] (an (nn0 k1) (an (ltc hlt1) tv)) ?_)
       refine condM hm ?_ ?_
       ·intro h18 hm
        obtain ⟨g19, hm⟩ := go1 hm
        refine RN hnt (nn 11 []) [(1, pI p1), (2, rr 1016), (4, rr 1032), (6, rr 1048), (7, pI ((k1 : Nat) : Int))] [(1016, bx (pm (encTree p0))), (c80e2), (1048, bx [ow 1448 (s1 ++ [(c80e1 p0 k1)]).length, pI p0.next]), (1448, ob0 (roNode (s1 ++ [(c80e1 p0 k1)])))] [] [(1048, .box [ow 1448 (s1.length + 1), pI p0.next]), (1448, .row 6 (s1.length + 1) (catF s1.length (elNode s1) (cut 6 [vi (c80e1 p0 k1).id, vi (c80e1 p0 k1).parent, vs (c80e1 p0 k1).name, vi (c80e1 p0 k1).control, vi (c80e1 p0 k1).kind, vi (c80e1 p0 k1).owner])))] (an (nn0 k1) (an (ltc hlt1) (an (by omega : (s1.length + 1) * 56 ≤ 140737488355328) tv))) (by kernel_rfl) .nil (.cons rfl (.box (.cons (MLe.ownLen (enc := encNode) (d := dNode) (f := (catF s1.length (elNode s1) (cut 6 [vi (c80e1 p0 k1).id, vi (c80e1 p0 k1).parent, vs (c80e1 p0 k1).name, vi (c80e1 p0 k1).control, vi (c80e1 p0 k1).kind, vi (c80e1 p0 k1).owner]))) (RowIs.cat RowIs.elems (RowIs.lit (enc := encNode) (d := dNode) (n := 1) (f := (cut 6 [vi (c80e1 p0 k1).id, vi (c80e1 p0 k1).parent, vs (c80e1 p0 k1).name, vi (c80e1 p0 k1).control, vi (c80e1 p0 k1).kind, vi (c80e1 p0 k1).owner])) [(c80e1 p0 k1)] rfl (fun | 0, _ => rfl | n + 1, h => absurd h (by omega))))) (.cons .rfl .nil))) (.cons rfl (BLe.typed (RowIs.cat RowIs.elems (RowIs.lit (enc := encNode) (d := dNode) (n := 1) (f := (cut 6 [vi (c80e1 p0 k1).id, vi (c80e1 p0 k1).parent, vs (c80e1 p0 k1).name, vi (c80e1 p0 k1).control, vi (c80e1 p0 k1).kind, vi (c80e1 p0 k1).owner])) [(c80e1 p0 k1)] rfl (fun | 0, _ => rfl | n + 1, h => absurd h (by omega))))) .nil)) ?_
        exact bD (s1 ++ [(c80e1 p0 k1)]) hm .refl
       ·intro h18 hm
        refine Sk ?_
        exact bD s1 hm Conv.t0
     ·intro h17
      have hge1 : ¬ k1 < p0.nodes.length := by have := of_decide_eq_false h17; omega
      have hm := he1 hge1
      unfold Remove_ref5D1 at hm
      refine DW.exit ?_
      refine joinQ_exit ?_
      refine KQ_exit ?_
      refine blockQ_exit ?_
      show DW _ _ _ _ _
      refine Sq (RK hnt (nn 3 []) [(4, rr 1032), (5, pI 0)] [(1032, bx [ow 1448 s1.length, pI p0.next]), (1448, ob0 (roNode s1))] tv ?_)
      obtain rfl := sj hm
      exact DW.ret (retK [roNode s1] [1448] (.tup [.agg [ow 0 s1.length, pI p0.next], pI 0]))
abbrev o80 (ks : List Nat) (b : Bool) (RES : Tree × Int) : Orc := .call 124 ks b (.tup [.agg [ow 0 RES.1.nodes.length, pI RES.1.next], pI RES.2]) [] [roNode RES.1.nodes]

abbrev c76e1 : Nat × Obj := (1032, bx [.p (.sl .nil 0 0 (fun _ => [])), pI 0])
theorem Tree_Dice_madeSpec (p0 : Dice) (p1 : Int) (RES : Tree × Dice) (hm : Tree_Dice_made p0 p1 = some RES) : Spec Tryz.prog 80 [rr 0, pI p1] [.box (pm (encDice p0))] (.p (.agg (encTree RES.1))) [.box (pm (encDice RES.2))] [] := by
 unfold Tree_Dice_made at hm
 refine SO Tryz.func80 rfl rfl [(0, rr 0), (1, pI p1)] [(0, bx (pm (encDice p0)))] ?_
 intro cx hnt
 refine Sq (RD hnt (.no :: []) [] [(4, rr 1032)] [] [(c76e1)] tv ?_)
 obtain ⟨r1, hr1, hm⟩ := bo hm
 refine Sq (RD hnt (o5 [] true r1 :: nn 2 []) [] [(5, rr 1040)] [] [(1040, bx [ow 1104 r1.nodes.length, pI r1.next]), (1104, ob0 (roNode r1.nodes))] (an (New_ref5Spec r1 hr1) tv) ?_)
 obtain ⟨r2, hr2, hm⟩ := bo hm
 refine Sq (Sq (RD hnt (nn 3 (o77 [0] true r2 :: .no :: [])) [1] [(6, pI r2.1)] [] [(0, bx (pm (encDice r2.2)))] (an (Next_Dice_madeSpec p0 (w64 (p1 + 1)) r2 hr2) (an tv tv)) ?_))
 refine Bk ?_
 refine DW.whileO (fun (s1 : Dice × Tree × Int) => mkSt [(0, rr 0), (4, rr 1032), (5, rr 1040), (6, pI s1.2.2)] [(0, bx (pm (encDice s1.1))), (c76e1), (1040, bx (pm (encTree s1.2.1)))]) hm (Conv.frz [1104]) ?_
 intro s1 n1 hm
 unfold Tree_Dice_madeL1 at hm
 refine Sq (Sq (RD hnt (nn 2 []) [] [(19, pB (decide (s1.2.2 > 0)))] [] [] tv ?_))
 refine condM hm ?_ ?_
 ·intro h18 hm
  refine Sk ?_
  refine Sq ?_
  refine Jn (ι := Dice × Tree) (fun (y3 : Dice × Tree) => mkSt [(0, rr 0), (4, rr 1032), (5, rr 1040), (6, pI s1.2.2)] [(0, bx (pm (encDice y3.1))), (c76e1), (1040, bx (pm (encTree y3.2)))]) (fun y3 => (Tree_Dice_madeJ3 s1 n1) y3 = some RES) ?_ ?_
  ·intro y3 hm
   unfold Tree_Dice_madeJ3 at hm
   refine RD hnt (nn 3 []) [] [(6, pI (w64 (s1.2.2 - 1)))] [] [] tv ?_
   exact jD (y3.1, y3.2, (w64 (s1.2.2 - 1))) hm Conv.eqK
  ·refine Bk ?_
   obtain ⟨r19, hr19, hm⟩ := bo hm
   obtain ⟨g20, hm⟩ := go1 hm
   refine Sq (RD hnt (nn 6 (o77 [0] true r19 :: nn 4 [])) [19] [(7, pI (s1.2.1.nodes.getD (Int.toNat r19.1) dNode).id)] [] [(0, bx (pm (encDice r19.2)))] (an (Next_Dice_madeSpec s1.1 ((s1.2.1.nodes.length : Nat) : Int) r19 hr19) (an tv (an g20.1 (an g20.2 tv)))) ?_)
   obtain ⟨r21, hr21, hm⟩ := bo hm
   obtain ⟨r22, hr22, hm⟩ := bo hm
   refine Sq (Sq (RD hnt (nn 3 (o78 [0] true r21 :: o25 [] true r22 :: nn 8 [])) [7] [(8, rr 1064), (10, pI r22.2.2)] [] [(0, bx (pm (encDice r21.2))), (1064, bx [ow 1296 r22.1.nodes.length, pI r22.1.next]), (1296, ob0 (roNode r22.1.nodes))] (an (Name_Dice_madeSpec r19.2 r21 hr21) (an tv (an (Add_ref5Spec s1.2.1 (s1.2.1.nodes.getD (Int.toNat r19.1) dNode).id r21.1 r22 hr22) tv))) ?_))
   refine Sq (RD hnt (nn 2 []) [10] [(42, pB (r22.2.2 == 0))] [] [] tv ?_)
   refine Jn (ι := Tree) (fun (y4 : Tree) => mkSt [(0, rr 0), (4, rr 1032), (5, rr 1040), (6, pI s1.2.2)] [(0, bx (pm (encDice r21.2))), (c76e1), (1040, bx (pm (encTree y4)))]) (fun y4 => (Tree_Dice_madeJ4 s1 n1 r21) y4 = some RES) ?_ ?_
   ·intro y4 hm
    unfold Tree_Dice_madeJ4 at hm
    obtain ⟨r24, hr24, hm⟩ := bo hm
    refine Sq (RD hnt (.no :: o79 [0] true r24 :: []) [] [(45, pB r24.1)] [] [(0, bx (pm (encDice r24.2)))] (an (Bool_Dice_madeSpec r21.2 6 r24 hr24) (an tv tv)) ?_)
    refine condM hm ?_ ?_
    ·intro h25 hm
     obtain ⟨r26, hr26, hm⟩ := bo hm
     obtain ⟨g27, hm⟩ := go1 hm
     obtain ⟨r28, hr28, hm⟩ := bo hm
     refine Sq (RD hnt (nn 7 (o77 [0] true r26 :: nn 3 (o80 [] true r28 :: nn 6 []))) [45] [(11, rr 1088), (12, pI r28.2)] [] [(0, bx (pm (encDice r26.2))), (1088, bx [ow 1464 r28.1.nodes.length, pI r28.1.next]), (1464, ob0 (roNode r28.1.nodes))] (an (Next_Dice_madeSpec r24.2 ((y4.nodes.length : Nat) : Int) r26 hr26) (an tv (an g27.1 (an g27.2 (an (Remove_ref5Spec y4 (y4.nodes.getD (Int.toNat r26.1) dNode).id r28 hr28) tv))))) ?_)
     refine Sq (RD hnt (nn 2 []) [12] [(62, pB (r28.2 == 0))] [] [] tv ?_)
     refine condM hm ?_ ?_
     ·intro h29 hm
      refine RD hnt (nn 2 []) [11, 62] [] [1088] [(1040, bx [ow 1464 r28.1.nodes.length, pI r28.1.next])] tv ?_
      exact bD (r26.2, r28.1) hm (Conv.frz [1464])
     ·intro h29 hm
      refine Sk ?_
      exact bD (r26.2, y4) hm Conv.t0
    ·intro h25 hm
     refine Sk ?_
     exact bD (r24.2, y4) hm Conv.t0
   ·refine condM hm ?_ ?_
    ·intro h23 hm
     refine RD hnt (nn 2 []) [8, 42] [] [1064] [(1040, bx [ow 1296 r22.1.nodes.length, pI r22.1.next])] tv ?_
     exact jD r22.1 hm (Conv.frz [1296])
    ·intro h23 hm
     refine Sk ?_
     exact jD s1.2.1 hm Conv.t0
 ·intro h18 hm
  refine DW.exit ?_
  refine joinQ_exit ?_
  refine KQ_exit ?_
  refine blockQ_exit ?_
  show DW _ _ _ _ _
  refine Sq (RD hnt (nn 2 []) [0, 5, 6, 19] [] [1040] [(1032, bx (pm (encTree s1.2.1)))] tv ?_)
  obtain rfl := sj hm
  exact DW.ret (retK [.box (pm (encDice s1.1))] [] (.p (.agg (encTree s1.2.1))))
abbrev o76 (ks : List Nat) (b : Bool) (RES : Tree × Dice) : Orc := .call 80 ks b (.p (.agg (encTree RES.1))) [.box (pm (encDice RES.2))] []

theorem Group_Dice_madeSpec (p0 : Dice) (p1 : Tree) (RES : Int × Dice) (hm : Group_Dice_made p0 p1 = some RES) : Spec Tryz.prog 33 [rr 0, .p (.agg (encTree p1))] [.box (pm (encDice p0))] (pI RES.1) [.box (pm (encDice RES.2))] [] := by
 unfold Group_Dice_made at hm
 refine SO Tryz.func33 rfl rfl [(0, rr 0), (1, .p (.agg (encTree p1)))] [(0, bx (pm (encDice p0)))] ?_
 intro cx hnt
 refine Sq (RD hnt (nn 2 []) [1] [(3, rr 1024)] [] [(1024, bx (pm (encTree p1)))] tv ?_)
 obtain ⟨r1, hr1, hm⟩ := bo hm
 refine Sq (Sq ?_)
 refine Jn (ι := Bool) (fun (y1 : Bool) => mkSt [(0, rr 0), (3, rr 1024), (12, pB y1)] [(0, bx (pm (encDice r1.2))), (1024, bx (pm (encTree p1)))]) (fun y1 => (Group_Dice_madeJ1 p1 r1) y1 = some RES) ?_ ?_
 ·intro y1 hm
  unfold Group_Dice_madeJ1 at hm
  refine condM hm ?_ ?_
  ·intro h3 hm
   obtain ⟨r4, hr4, hm⟩ := bo hm
   refine Sq (RK hnt (.no :: o77 [0] true r4 :: nn 2 []) [(4, pI (w64 (r4.1 - 1)))] [(0, bx (pm (encDice r4.2)))] (an (Next_Dice_madeSpec r1.2 9 r4 hr4) (an tv tv)) ?_)
   obtain rfl := sj hm
   exact DW.ret (retK [.box (pm (encDice r4.2))] [] (pI (w64 (r4.1 - 1))))
  ·intro h3 hm
   refine Sk ?_
   obtain ⟨r5, hr5, hm⟩ := bo hm
   obtain ⟨g6, hm⟩ := go1 hm
   refine Sq (RK hnt (nn 6 (o77 [0] true r5 :: nn 4 [])) [(4, pI (p1.nodes.getD (Int.toNat r5.1) dNode).id)] [(0, bx (pm (encDice r5.2)))] (an (Next_Dice_madeSpec r1.2 ((p1.nodes.length : Nat) : Int) r5 hr5) (an tv (an g6.1 (an g6.2 tv)))) ?_)
   obtain rfl := sj hm
   exact DW.ret (retK [.box (pm (encDice r5.2))] [] (pI (p1.nodes.getD (Int.toNat r5.1) dNode).id))
 ·rcases bt r1.1 with h2 | h2
  ·replace hm := if_t h2 hm
   refine RD hnt (.no :: o79 [0] true r1 :: .no :: sk 4 (pT :: [])) [] [(12, pB true)] [] [(0, bx (pm (encDice r1.2)))] (an (Bool_Dice_madeSpec p0 15 r1 hr1) (an tv (an5 h2 tv))) ?_
   exact jD true hm Conv.eqK
  ·replace hm := if_f h2 hm
   refine RD hnt (.no :: o79 [0] true r1 :: nn 5 (pF :: [])) [] [(12, pB (((p1.nodes.length : Nat) : Int) == 0))] [] [(0, bx (pm (encDice r1.2)))] (an (Bool_Dice_madeSpec p0 15 r1 hr1) (an tv (an5 h2 tv))) ?_
   exact jD (((p1.nodes.length : Nat) : Int) == 0) hm Conv.eqK
abbrev o82 (ks : List Nat) (b : Bool) (RES : Int × Dice) : Orc := .call 33 ks b (pI RES.1) [.box (pm (encDice RES.2))] []

theorem Controllers_Dice_madeSpec (p0 : Dice) (RES : Int × Dice) (hm : Controllers_Dice_made p0 = some RES) : Spec Tryz.prog 107 [rr 0] [.box (pm (encDice p0))] (pI RES.1) [.box (pm (encDice RES.2))] [] := by
 unfold Controllers_Dice_made at hm
 refine SO Tryz.func107 rfl rfl [(0, rr 0)] [(0, bx (pm (encDice p0)))] ?_
 intro cx hnt
 refine Sq (RD hnt (.no :: []) [] [] [] [] tv ?_)
 obtain ⟨r3, hr3, hm⟩ := bo hm
 obtain ⟨g4, g5, hm⟩ := go2 hm
 refine Sq (RK hnt (.asR (ow 1024 [1, 9, 31, 2, 25, 4, 0, 32, (-1)].length) [1, 9, 31, 2, 25, 4, 0, 32, (-1)].length (elems encI 0 [1, 9, 31, 2, 25, 4, 0, 32, (-1)]) :: .no :: o77 [0] true r3 :: nn 3 []) [(2, pI ([1, 9, 31, 2, 25, 4, 0, 32, (-1)].getD (Int.toNat r3.1) 0))] [(0, bx (pm (encDice r3.2)))] (an (congrArg (MV.own 1024 0 0) (RowIs.asP (enc := encI) (d := 0) (L := [1, 9, 31, 2, 25, 4, 0, 32, (-1)]) (RowIs.lit (enc := encI) (d := 0) (n := 9) (f := (cut 1 [vi 1, vi 9, vi 31, vi 2, vi 25, vi 4, vi 0, vi 32, vi (-1)])) [1, 9, 31, 2, 25, 4, 0, 32, (-1)] rfl (fun | 0, _ => rfl | 1, _ => rfl | 2, _ => rfl | 3, _ => rfl | 4, _ => rfl | 5, _ => rfl | 6, _ => rfl | 7, _ => rfl | 8, _ => rfl | n + 9, h => absurd h (by omega)))).1) (an (RowIs.asP (enc := encI) (d := 0) (L := [1, 9, 31, 2, 25, 4, 0, 32, (-1)]) (RowIs.lit (enc := encI) (d := 0) (n := 9) (f := (cut 1 [vi 1, vi 9, vi 31, vi 2, vi 25, vi 4, vi 0, vi 32, vi (-1)])) [1, 9, 31, 2, 25, 4, 0, 32, (-1)] rfl (fun | 0, _ => rfl | 1, _ => rfl | 2, _ => rfl | 3, _ => rfl | 4, _ => rfl | 5, _ => rfl | 6, _ => rfl | 7, _ => rfl | 8, _ => rfl | n + 9, h => absurd h (by omega)))) (an (Next_Dice_madeSpec p0 9 r3 hr3) (an tv (an g4.1 (an g4.2 (an g5 tv))))))) ?_)
 obtain rfl := sj hm
 exact DW.ret (retK [.box (pm (encDice r3.2))] [] (pI ([1, 9, 31, 2, 25, 4, 0, 32, (-1)].getD (Int.toNat r3.1) 0)))
abbrev o83 (ks : List Nat) (b : Bool) (RES : Int × Dice) : Orc := .call 107 ks b (pI RES.1) [.box (pm (encDice RES.2))] []

theorem Set_ref7Spec (p0 : Int) (RES : Bool) (hm : Set_ref7 p0 = some RES) : Spec Tryz.prog 175 [pI p0] [] (pB RES) [] [] := by
 unfold Set_ref7 at hm
 refine SO Tryz.func175 rfl rfl [(0, pI p0)] [] ?_
 intro cx hnt
 refine Sq (RK hnt (.no :: []) [(0, pI p0)] [] tv ?_)
 refine Sq (DW.regJ (sl2 := [(2, pB ((decide (p0 ≥ 0)) && (decide (p0 ≤ 31))))]) (ob2 := []) ?_ ?_)
 ·rcases bt (decide (p0 ≥ 0)) with h1 | h1
  ·exact RT hnt (nn 5 (pT :: .no :: [])) [(2, pB (decide (p0 ≤ 31)))] (an3 h1 tv) (by kernel_rfl) (.cons rfl (.of_eq (by rw [h1]; try rfl)) .nil)
  ·exact RT hnt (nn 3 (sk 2 (pF :: .no :: []))) [(2, pB false)] (an3 h1 tv) (by kernel_rfl) (.cons rfl (.of_eq (by rw [h1]; try rfl)) .nil)
 ·refine DW.ret ?_
  obtain rfl := sj hm
  exact retK [] [] (pB ((decide (p0 ≥ 0)) && (decide (p0 ≤ 31))))
abbrev o86 (ks : List Nat) (b : Bool) (RES : Bool) : Orc := .call 175 ks b (pB RES) [] []

abbrev c87e1 : Nat × Obj := (1032, bx [.p (.sl .nil 0 0 (fun _ => [])), pI 0])
abbrev c87e2 (s1 : (List Node) × Int) (p1 : Node) := (updF (elNode s1.1) (Int.toNat s1.2) [vi p1.id, vi p1.parent, vs p1.name, vi p1.control, vi p1.kind, vi p1.owner])
theorem Set_ref5Spec (p0 : Tree) (p1 : Node) (RES : Tree) (hm : Set_ref5 p0 p1 = some RES) : Spec Tryz.prog 136 [.p (.agg (encTree p0)), .p (.agg (encNode p1))] [] (.agg [ow 0 RES.nodes.length, pI RES.next]) [] [roNode RES.nodes] := by
 unfold Set_ref5 at hm
 refine SO Tryz.func136 rfl rfl [(0, .p (.agg (encTree p0))), (1, .p (.agg (encNode p1)))] [] ?_
 intro cx hnt
 refine Sq (RK hnt (nn 3 []) [(2, rr 1016), (3, rr 1024), (4, rr 1032)] [(1016, bx (pm (encTree p0))), (1024, bx (pm (encNode p1))), (c87e1)] tv ?_)
 obtain ⟨r1, hr1, hm⟩ := bo hm
 refine Sq (RD hnt (.no :: o27 [] true r1 :: nn 2 []) [2] [(5, rr 1040)] [1016] [(1040, bx [ow 1064 r1.nodes.length, pI r1.next]), (1064, ob0 (roNode r1.nodes))] (an (Copy_ref5Spec p0 r1 hr1) tv) ?_)
 refine Sq (Sq (RD hnt (.no :: []) [] [(6, pI 0)] [] [] tv ?_))
 refine Bk ?_
 refine DW.whileO (fun (s1 : (List Node) × Int) => mkSt [(3, rr 1024), (4, rr 1032), (5, rr 1040), (6, pI s1.2)] [(1024, bx (pm (encNode p1))), (c87e1), (1040, bx [ow 1064 s1.1.length, pI r1.next]), (1064, ob0 (roNode s1.1))]) hm Conv.eqK ?_
 intro s1 n1 hm
 unfold Set_ref5L1 at hm
 refine Sq (Sq (RD hnt (nn 5 []) [] [(13, pB (decide (s1.2 < ((s1.1.length : Nat) : Int))))] [] [] tv ?_))
 refine condM hm ?_ ?_
 ·intro h8 hm
  refine Sk ?_
  refine Sq ?_
  refine Jn (ι := List Node) (fun (y2 : List Node) => mkSt [(3, rr 1024), (4, rr 1032), (5, rr 1040), (6, pI s1.2)] [(1024, bx (pm (encNode p1))), (c87e1), (1040, bx [ow 1064 y2.length, pI r1.next]), (1064, ob0 (roNode y2))]) (fun y2 => (Set_ref5J2 s1 n1) y2 = some RES) ?_ ?_
  ·intro y2 hm
   unfold Set_ref5J2 at hm
   refine RD hnt (nn 3 []) [] [(6, pI (w64 (s1.2 + 1)))] [] [] tv ?_
   exact jD (y2, (w64 (s1.2 + 1))) hm Conv.eqK
  ·refine Bk ?_
   obtain ⟨g9, g10, hm⟩ := go2 hm
   refine Sq (RD hnt (nn 9 []) [13] [(24, pB ((s1.1.getD (Int.toNat s1.2) dNode).id == p1.id))] [] [] (an g9.1 (an g9.2 (an g10 tv))) ?_)
   refine condM hm ?_ ?_
   ·intro h11 hm
    obtain ⟨g12, g13, hm⟩ := go2 hm
    refine RN hnt (nn 6 []) [(3, rr 1024), (4, rr 1032), (5, rr 1040), (6, pI s1.2)] [(1024, bx (pm (encNode p1))), (c87e1), (1040, bx [ow 1064 (s1.1.set (Int.toNat s1.2) p1).length, pI r1.next]), (1064, ob0 (roNode (s1.1.set (Int.toNat s1.2) p1)))] [] [(1040, .box [ow 1064 s1.1.length, pI r1.next]), (1064, .row 6 s1.1.length (c87e2 s1 p1))] (an g12.1 (an g12.2 (an g13 tv))) (by kernel_rfl) .nil (.cons rfl (.box (.cons (MLe.ownLen (enc := encNode) (d := dNode) (f := (c87e2 s1 p1)) (RowIs.upd RowIs.elems p1 rfl)) (.cons .rfl .nil))) (.cons rfl (BLe.typed (RowIs.upd RowIs.elems p1 rfl)) .nil)) ?_
    exact bD (s1.1.set (Int.toNat s1.2) p1) hm .refl
   ·intro h11 hm
    refine Sk ?_
    exact bD s1.1 hm Conv.t0
 ·intro h8 hm
  refine DW.exit ?_
  refine joinQ_exit ?_
  refine KQ_exit ?_
  refine blockQ_exit ?_
  show DW _ _ _ _ _
  refine Sq (RD hnt (nn 2 []) [3, 5, 6, 13] [] [1024, 1040] [(1032, bx [ow 1064 s1.1.length, pI r1.next])] tv ?_)
  obtain rfl := sj hm
  exact DW.ret (retK [roNode s1.1] [1064] (.agg [ow 0 s1.1.length, pI r1.next]))
abbrev o87 (ks : List Nat) (b : Bool) (RES : Tree) : Orc := .call 136 ks b (.agg [ow 0 RES.nodes.length, pI RES.next]) [] [roNode RES.nodes]

abbrev c85e1 : Nat × Obj := (1064, bx [.p (.sl .nil 0 0 (fun _ => [])), pI 0, .p (.sl .nil 0 0 (fun _ => [])), pI 0])
abbrev c85e2 : Nat × Obj := (1064, bx [ow 100000 0, pI 0, ow 100001 0, pI 0])
abbrev c85e3 (r8 : Node × Bool) (p3 : Int) (p2 : Int) : Nat × Obj := (1080, bx [pI r8.1.id, pI r8.1.parent, pS r8.1.name, pI (kor .i64 (kandNot .i64 r8.1.control p3) p2), pI r8.1.kind, pI r8.1.owner])
theorem Write_ref7Spec (p0 : Hierarchy) (p1 : Int) (p2 : Int) (p3 : Int) (RES : Hierarchy × Int) (hm : Write_ref7 p0 p1 p2 p3 = some RES) : Spec Tryz.prog 165 [.p (.agg (encHierarchy p0)), pI p1, pI p2, pI p3] [] (.tup [.agg [ow 0 RES.1.tree.nodes.length, pI RES.1.tree.next, ow 1 RES.1.tasks.length, pI RES.1.next], pI RES.2]) [] [roNode RES.1.tree.nodes, roTask RES.1.tasks] := by
 unfold Write_ref7 at hm
 refine SO Tryz.func165 rfl rfl [(0, .p (.agg (encHierarchy p0))), (1, pI p1), (2, pI p2), (3, pI p3)] [] ?_
 intro cx hnt
 refine Sq (RD hnt (nn 3 []) [0] [(4, rr 1032), (8, rr 1064)] [] [(1032, bx (pm (encHierarchy p0))), (c85e1)] tv ?_)
 obtain ⟨r1, hr1, hm⟩ := bo hm
 refine Sq (Sq ?_)
 refine Jn (ι := Bool) (fun (y1 : Bool) => mkSt [(1, pI p1), (2, pI p2), (3, pI p3), (4, rr 1032), (8, rr 1064), (37, pB y1)] [(1032, bx (pm (encHierarchy p0))), (c85e1)]) (fun y1 => (Write_ref7J1 p0 p1 p2 p3) y1 = some RES) ?_ ?_
 ·intro y1 hm
  unfold Write_ref7J1 at hm
  refine condM hm ?_ ?_
  ·intro h7 hm
   refine Sq (RD hnt (nn 3 []) [1, 2, 3, 4, 37] [(9, pI 1)] [1032] [] tv ?_)
   refine DW.cv [] [] [] [(c85e2), (100000, ob0 (roNode [])), (100001, ob0 (roTask []))] (Conv.ads [(.o 1064 0, 100000, 6, elems encNode dNode []), (.o 1064 2, 100001, 4, elems encTask dTask [])]) ?_
   obtain rfl := sj hm
   exact DW.ret (retK [roNode [], roTask []] [100000, 100001] (.tup [.agg [ow 0 0, pI 0, ow 1 0, pI 0], pI 1]))
  ·intro h7 hm
   refine Sk ?_
   obtain ⟨r8, hr8, hm⟩ := bo hm
   refine Sq (RD hnt (nn 3 (o16 [] true r8 :: nn 6 [])) [37] [(10, rr 1080), (11, pB r8.2)] [] [(1080, bx (pm (encNode r8.1)))] (an (Find_ref5Spec p0.tree p1 r8 hr8) tv) ?_)
   refine Sq (Sq (RD hnt (nn 2 []) [11] [(47, pB (!r8.2))] [] [] tv ?_))
   refine condM hm ?_ ?_
   ·intro h9 hm
    refine Sq (RD hnt (nn 3 []) [1, 2, 3, 4, 10, 47] [(9, pI 4)] [1032, 1080] [] tv ?_)
    refine DW.cv [] [] [] [(c85e2), (100000, ob0 (roNode [])), (100001, ob0 (roTask []))] (Conv.ads [(.o 1064 0, 100000, 6, elems encNode dNode []), (.o 1064 2, 100001, 4, elems encTask dTask [])]) ?_
    obtain rfl := sj hm
    exact DW.ret (retK [roNode [], roTask []] [100000, 100001] (.tup [.agg [ow 0 0, pI 0, ow 1 0, pI 0], pI 4]))
   ·intro h9 hm
    refine Sk ?_
    obtain ⟨r10, hr10, hm⟩ := bo hm
    refine Sq (Sq (RD hnt (nn 4 (o17 [] true r10 :: nn 2 [])) [47] [(55, pB ((kandNot .i64 p2 r10) != 0))] [] [] (an (Available_ref7Spec p0.tree p1 r10 hr10) tv) ?_))
    refine condM hm ?_ ?_
    ·intro h11 hm
     refine Sq (RD hnt (nn 3 []) [1, 2, 3, 4, 10, 55] [(9, pI 9)] [1032, 1080] [] tv ?_)
     refine DW.cv [] [] [] [(c85e2), (100000, ob0 (roNode [])), (100001, ob0 (roTask []))] (Conv.ads [(.o 1064 0, 100000, 6, elems encNode dNode []), (.o 1064 2, 100001, 4, elems encTask dTask [])]) ?_
     obtain rfl := sj hm
     exact DW.ret (retK [roNode [], roTask []] [100000, 100001] (.tup [.agg [ow 0 0, pI 0, ow 1 0, pI 0], pI 9]))
    ·intro h11 hm
     refine Sk ?_
     obtain ⟨r12, hr12, hm⟩ := bo hm
     refine Sq (RD hnt (nn 3 (o24 [] true r12 :: .no :: [])) [55] [(12, ow 1480 r12.length)] [] [(1480, ob0 (roI r12))] (an (Children_ref5Spec p0.tree p1 r12 hr12) tv) ?_)
     refine Sq (Sq (RD hnt (.no :: []) [] [(13, pI 0)] [] [] tv ?_))
     refine Bk ?_
     obtain ⟨hc1, hm⟩ := go1 hm
     refine DW.rangeO (fun (k1 : Nat) (s1 : Unit) => mkSt [(1, pI p1), (2, pI p2), (3, pI p3), (4, rr 1032), (8, rr 1064), (10, rr 1080), (12, ow 1480 r12.length), (13, pI ((k1 : Nat) : Int))] [(1032, bx (pm (encHierarchy p0))), (c85e1), (1080, bx (pm (encNode r8.1))), (1480, ob0 (roI r12))]) 0 hm Conv.eqK ?_
     intro k1 s1 n1 hk1 hs1 he1
     refine Sq (Sq (RD hnt (nn 4 []) [] [(64, pB (decide (((k1 : Nat) : Int) < ((r12.length : Nat) : Int))))] [] [] tv ?_))
     refine condK (decide (((k1 : Nat) : Int) < ((r12.length : Nat) : Int))) ?_ ?_
     ·intro h35
      have hlt1 : k1 < r12.length := by have := of_decide_eq_true h35; omega
      have hm := hs1 hlt1
      unfold Write_ref7L1 at hm
      refine Sk ?_
      refine Sq (Bk ?_)
      obtain ⟨r36, hr36, hm⟩ := bo hm
      refine Sq (RD hnt (nn 6 (o16 [] true r36 :: nn 6 [])) [64] [(14, rr 1112)] [] [(1112, bx (pm (encNode r36.1)))] (an (nn0 k1) (an (ltc hlt1) (an (by omega : k1 < r12.length) (an (Find_ref5Spec p0.tree (r12.getD k1 0) r36 hr36) tv)))) ?_)
      refine Sq (RD hnt (nn 5 []) [14] [(81, pB ((kand .i64 r36.1.control p3) != 0))] [1112] [] tv ?_)
      refine condM hm ?_ ?_
      ·intro h37 hm
       refine Sq (RD hnt (nn 3 []) [1, 2, 3, 4, 10, 12, 13, 81] [(9, pI 9)] [1032, 1080, 1480] [] tv ?_)
       refine DW.cv [] [] [] [(c85e2), (100000, ob0 (roNode [])), (100001, ob0 (roTask []))] (Conv.ads [(.o 1064 0, 100000, 6, elems encNode dNode []), (.o 1064 2, 100001, 4, elems encTask dTask [])]) ?_
       obtain rfl := sj hm
       exact DW.ret (retK [roNode [], roTask []] [100000, 100001] (.tup [.agg [ow 0 0, pI 0, ow 1 0, pI 0], pI 9]))
      ·intro h37 hm
       refine Sk ?_
       refine DW.done ?_
       show DW _ _ _ _ _
       refine RD hnt (nn 3 []) [81] [(13, pI (w64 (((k1 : Nat) : Int) + 1)))] [] [] tv ?_
       exact jD () ⟨hlt1, hm⟩ (Conv.tp [(13, pI (w64 (((k1 : Nat) : Int) + 1)))] [] (by kernel_rfl) (.cons rfl (.of_eq (congrArg pI (w64_succ hlt1 hc1))) .nil) .nil)
     ·intro h35
      have hge1 : ¬ k1 < r12.length := by have := of_decide_eq_false h35; omega
      have hm := he1 hge1
      unfold Write_ref7D1 at hm
      refine DW.exit ?_
      refine joinQ_exit ?_
      refine KQ_exit ?_
      refine blockQ_exit ?_
      show DW _ _ _ _ _
      refine Sq (RD hnt (nn 3 []) [12, 13, 64] [(16, pI r8.1.control)] [1480] [] tv ?_)
      refine Sq (RD hnt (nn 7 []) [2, 3] [] [] [(c85e3 r8 p3 p2)] tv ?_)
      refine Sq (Sq (RD hnt (nn 4 []) [] [(17, pI (kand .i64 (kor .i64 (kandNot .i64 r8.1.control p3) p2) 6))] [] [] tv ?_))
      refine Sq ?_
      refine Jn (ι := Bool) (fun (y4 : Bool) => mkSt [(4, rr 1032), (8, rr 1064), (10, rr 1080), (108, pB y4)] [(1032, bx (pm (encHierarchy p0))), (c85e1), (c85e3 r8 p3 p2)]) (fun y4 => (Write_ref7J4 p0 p2 p3 r8) y4 = some RES) ?_ ?_
      ·intro y4 hm
       unfold Write_ref7J4 at hm
       refine condM hm ?_ ?_
       ·intro h41 hm
        refine Sq (RD hnt (nn 3 []) [4, 10, 108] [(9, pI 6)] [1032, 1080] [] tv ?_)
        refine DW.cv [] [] [] [(c85e2), (100000, ob0 (roNode [])), (100001, ob0 (roTask []))] (Conv.ads [(.o 1064 0, 100000, 6, elems encNode dNode []), (.o 1064 2, 100001, 4, elems encTask dTask [])]) ?_
        obtain rfl := sj hm
        exact DW.ret (retK [roNode [], roTask []] [100000, 100001] (.tup [.agg [ow 0 0, pI 0, ow 1 0, pI 0], pI 6]))
       ·intro h41 hm
        refine Sk ?_
        obtain ⟨r42, hr42, hm⟩ := bo hm
        refine Sq (RD hnt (.no :: o28 [] true r42 :: nn 2 []) [108] [(18, rr 1144)] [] [(1144, bx [ow 1888 r42.tree.nodes.length, pI r42.tree.next, ow 1889 r42.tasks.length, pI r42.next]), (1888, ob0 (roNode r42.tree.nodes)), (1889, ob0 (roTask r42.tasks))] (an (Copy_ref6Spec p0 r42 hr42) tv) ?_)
        obtain ⟨r43, hr43, hm⟩ := bo hm
        refine Sq (RD hnt (nn 3 (o87 [] true r43 :: nn 2 [])) [4, 10] [] [1032, 1080, 1888] [(1144, bx [ow 1920 r43.nodes.length, pI r43.next, ow 1889 r42.tasks.length, pI r42.next]), (1920, ob0 (roNode r43.nodes))] (an (Set_ref5Spec p0.tree ({ id := r8.1.id, parent := r8.1.parent, name := r8.1.name, control := (kor .i64 (kandNot .i64 r8.1.control p3) p2), kind := r8.1.kind, owner := r8.1.owner } : Node) r43 hr43) tv) ?_)
        refine Sq (RD hnt (nn 3 []) [18] [(9, pI 0)] [1144] [(1064, bx [ow 1920 r43.nodes.length, pI r43.next, ow 1889 r42.tasks.length, pI r42.next])] tv ?_)
        obtain rfl := sj hm
        exact DW.ret (retK [roNode r43.nodes, roTask r42.tasks] [1920, 1889] (.tup [.agg [ow 0 r43.nodes.length, pI r43.next, ow 1 r42.tasks.length, pI r42.next], pI 0]))
      ·rcases bt ((kandNot .i64 (kand .i64 (kor .i64 (kandNot .i64 r8.1.control p3) p2) 6) r8.1.control) != 0) with h38 | h38
       ·replace hm := if_t h38 hm
        rcases bt (p1 != 1) with h39 | h39
        ·replace hm := if_t h39 hm
         obtain ⟨r40, hr40, hm⟩ := bo hm
         refine RD hnt (nn 7 (pT :: nn 3 (o19 [] true r40 :: nn 2 (pT :: [])))) [1, 16, 17] [(108, pB (decide (((r40.length : Nat) : Int) > 0)))] [] [] (an3 h38 (an3 h39 (an (Tasks_ref6Spec p0 p1 r40 hr40) (an3 h39 tv)))) ?_
         exact jD (decide (((r40.length : Nat) : Int) > 0)) hm Conv.eqK
        ·replace hm := if_f h39 hm
         refine RD hnt (nn 7 (pT :: .no :: sk 5 (pF :: []))) [1, 16, 17] [(108, pB false)] [] [] (an3 h38 (an6 h39 tv)) ?_
         exact jD false hm Conv.eqK
       ·replace hm := if_f h38 hm
        refine RD hnt (nn 5 (sk 2 (pF :: .no :: sk 5 (pF :: [])))) [1, 16, 17] [(108, pB false)] [] [] (an3 h38 (an6 ff tv)) ?_
        exact jD false hm Conv.eqK
 ·rcases bt (!r1) with h2 | h2
  ·replace hm := if_t h2 hm
   refine RD hnt (.no :: o8 [] true r1 :: nn 2 (sk 3 (pT :: .no :: sk 3 (pT :: .no :: sk 4 (pT :: []))))) [] [(37, pB true)] [] [] (an (Sound_ref7Spec p0 r1 hr1) (an4 h2 (an3 tt (an6 tt tv)))) ?_
   exact jD true hm Conv.eqK
  ·replace hm := if_f h2 hm
   obtain ⟨r3, hr3, hm⟩ := bo hm
   rcases bt (!r3) with h4 | h4
   ·replace hm := if_t h4 hm
    refine RD hnt (.no :: o8 [] true r1 :: nn 3 (o86 [] true r3 :: .no :: pF :: .no :: sk 3 (pT :: .no :: sk 4 (pT :: [])))) [] [(37, pB true)] [] [] (an (Sound_ref7Spec p0 r1 hr1) (an2 h2 (an (Set_ref7Spec p2 r3 hr3) (an2 h2 (an4 h4 (an5 tt tv)))))) ?_
    exact jD true hm Conv.eqK
   ·replace hm := if_f h4 hm
    obtain ⟨r5, hr5, hm⟩ := bo hm
    rcases bt (!r5) with h6 | h6
    ·replace hm := if_t h6 hm
     refine RD hnt (.no :: o8 [] true r1 :: nn 3 (o86 [] true r3 :: .no :: pF :: nn 2 (o86 [] true r5 :: .no :: pF :: .no :: sk 4 (pT :: [])))) [] [(37, pB true)] [] [] (an (Sound_ref7Spec p0 r1 hr1) (an2 h2 (an (Set_ref7Spec p2 r3 hr3) (an2 h2 (an2 h4 (an (Set_ref7Spec p3 r5 hr5) (an2 h4 (an5 h6 tv)))))))) ?_
     exact jD true hm Conv.eqK
    ·replace hm := if_f h6 hm
     refine RD hnt (.no :: o8 [] true r1 :: nn 3 (o86 [] true r3 :: .no :: pF :: nn 2 (o86 [] true r5 :: .no :: pF :: nn 5 (pF :: [])))) [] [(37, pB ((kand .i64 p2 p3) != 0))] [] [] (an (Sound_ref7Spec p0 r1 hr1) (an2 h2 (an (Set_ref7Spec p2 r3 hr3) (an2 h2 (an2 h4 (an (Set_ref7Spec p3 r5 hr5) (an2 h4 (an5 h6 tv)))))))) ?_
     exact jD ((kand .i64 p2 p3) != 0) hm Conv.eqK
abbrev o85 (ks : List Nat) (b : Bool) (RES : Hierarchy × Int) : Orc := .call 165 ks b (.tup [.agg [ow 0 RES.1.tree.nodes.length, pI RES.1.tree.next, ow 1 RES.1.tasks.length, pI RES.1.next], pI RES.2]) [] [roNode RES.1.tree.nodes, roTask RES.1.tasks]

abbrev c84e1 : Nat × Obj := (1064, bx [ow 100000 0, pI 0, ow 100001 0, pI 0])
theorem Enable_ref8Spec (p0 : Hierarchy) (p1 : Int) (p2 : Int) (p3 : Int) (RES : Hierarchy × Int) (hm : Enable_ref8 p0 p1 p2 p3 = some RES) : Spec Tryz.prog 133 [.p (.agg (encHierarchy p0)), pI p1, pI p2, pI p3] [] (.tup [.agg [ow 0 RES.1.tree.nodes.length, pI RES.1.tree.next, ow 1 RES.1.tasks.length, pI RES.1.next], pI RES.2]) [] [roNode RES.1.tree.nodes, roTask RES.1.tasks] := by
 unfold Enable_ref8 at hm
 refine SO Tryz.func133 rfl rfl [(0, .p (.agg (encHierarchy p0))), (1, pI p1), (2, pI p2), (3, pI p3)] [] ?_
 intro cx hnt
 refine Sq (RD hnt (nn 3 []) [0] [(4, rr 1032), (8, rr 1064)] [] [(1032, bx (pm (encHierarchy p0))), (1064, bx [.p (.sl .nil 0 0 (fun _ => [])), pI 0, .p (.sl .nil 0 0 (fun _ => [])), pI 0])] tv ?_)
 obtain ⟨r1, hr1, hm⟩ := bo hm
 refine Sq (Sq (RD hnt (.no :: o7 [] true r1 :: .no :: []) [] [(14, pB (!r1))] [] [] (an (Fits_ref8Spec p0 r1 hr1) tv) ?_))
 refine condM hm ?_ ?_
 ·intro h2 hm
  refine Sq (RD hnt (nn 3 []) [1, 2, 3, 4, 14] [(9, pI 1)] [1032] [] tv ?_)
  refine DW.cv [] [] [] [(c84e1), (100000, ob0 (roNode [])), (100001, ob0 (roTask []))] (Conv.ads [(.o 1064 0, 100000, 6, elems encNode dNode []), (.o 1064 2, 100001, 4, elems encTask dTask [])]) ?_
  obtain rfl := sj hm
  exact DW.ret (retK [roNode [], roTask []] [100000, 100001] (.tup [.agg [ow 0 0, pI 0, ow 1 0, pI 0], pI 1]))
 ·intro h2 hm
  refine Sk ?_
  obtain ⟨r3, hr3, hm⟩ := bo hm
  refine Sq (RD hnt (nn 4 (o85 [] true r3 :: nn 6 [])) [1, 2, 3, 4, 14] [(10, rr 1080), (11, pI r3.2)] [1032] [(1080, bx [ow 1168 r3.1.tree.nodes.length, pI r3.1.tree.next, ow 1169 r3.1.tasks.length, pI r3.1.next]), (1168, ob0 (roNode r3.1.tree.nodes)), (1169, ob0 (roTask r3.1.tasks))] (an (Write_ref7Spec p0 p1 p2 p3 r3 hr3) tv) ?_)
  refine Sq (Sq (RD hnt (nn 2 []) [] [(25, pB (r3.2 != 0))] [] [] tv ?_))
  refine condM hm ?_ ?_
  ·intro h4 hm
   refine Sq (RD hnt (nn 4 []) [10, 11, 25] [(9, pI r3.2)] [1080, 1168, 1169] [] tv ?_)
   refine DW.cv [] [] [] [(c84e1), (100000, ob0 (roNode [])), (100001, ob0 (roTask []))] (Conv.ads [(.o 1064 0, 100000, 6, elems encNode dNode []), (.o 1064 2, 100001, 4, elems encTask dTask [])]) ?_
   obtain rfl := sj hm
   exact DW.ret (retK [roNode [], roTask []] [100000, 100001] (.tup [.agg [ow 0 0, pI 0, ow 1 0, pI 0], pI r3.2]))
  ·intro h4 hm
   refine Sk ?_
   obtain ⟨r5, hr5, hm⟩ := bo hm
   refine Sq (Sq (RD hnt (.no :: o7 [] true r5 :: .no :: []) [11, 25] [(30, pB (!r5))] [] [] (an (Fits_ref8Spec r3.1 r5 hr5) tv) ?_))
   refine condM hm ?_ ?_
   ·intro h6 hm
    refine Sq (RD hnt (nn 3 []) [10, 30] [(9, pI 10)] [1080, 1168, 1169] [] tv ?_)
    refine DW.cv [] [] [] [(c84e1), (100000, ob0 (roNode [])), (100001, ob0 (roTask []))] (Conv.ads [(.o 1064 0, 100000, 6, elems encNode dNode []), (.o 1064 2, 100001, 4, elems encTask dTask [])]) ?_
    obtain rfl := sj hm
    exact DW.ret (retK [roNode [], roTask []] [100000, 100001] (.tup [.agg [ow 0 0, pI 0, ow 1 0, pI 0], pI 10]))
   ·intro h6 hm
    refine Sk ?_
    refine Sq (RD hnt (nn 3 []) [10, 30] [(9, pI 0)] [1080] [(1064, bx [ow 1168 r3.1.tree.nodes.length, pI r3.1.tree.next, ow 1169 r3.1.tasks.length, pI r3.1.next])] tv ?_)
    obtain rfl := sj hm
    exact DW.ret (retK [roNode r3.1.tree.nodes, roTask r3.1.tasks] [1168, 1169] (.tup [.agg [ow 0 r3.1.tree.nodes.length, pI r3.1.tree.next, ow 1 r3.1.tasks.length, pI r3.1.next], pI 0]))
abbrev o84 (ks : List Nat) (b : Bool) (RES : Hierarchy × Int) : Orc := .call 133 ks b (.tup [.agg [ow 0 RES.1.tree.nodes.length, pI RES.1.tree.next, ow 1 RES.1.tasks.length, pI RES.1.next], pI RES.2]) [] [roNode RES.1.tree.nodes, roTask RES.1.tasks]

abbrev c88e1 : Nat × Obj := (1032, bx [.p (.sl .nil 0 0 (fun _ => [])), pI 0, .p (.sl .nil 0 0 (fun _ => [])), pI 0])
abbrev c88e2 : Nat × Obj := (1032, bx [ow 100000 0, pI 0, ow 100001 0, pI 0])
theorem Convert_ref8Spec (p0 : Hierarchy) (p1 : Int) (RES : Hierarchy × Int) (hm : Convert_ref8 p0 p1 = some RES) : Spec Tryz.prog 134 [.p (.agg (encHierarchy p0)), pI p1] [] (.tup [.agg [ow 0 RES.1.tree.nodes.length, pI RES.1.tree.next, ow 1 RES.1.tasks.length, pI RES.1.next], pI RES.2]) [] [roNode RES.1.tree.nodes, roTask RES.1.tasks] := by
 unfold Convert_ref8 at hm
 refine SO Tryz.func134 rfl rfl [(0, .p (.agg (encHierarchy p0))), (1, pI p1)] [] ?_
 intro cx hnt
 refine Sq (RK hnt (nn 3 []) [(1, pI p1), (2, rr 1016), (4, rr 1032)] [(1016, bx (pm (encHierarchy p0))), (c88e1)] tv ?_)
 obtain ⟨r1, hr1, hm⟩ := bo hm
 refine Sq (Sq (RD hnt (.no :: o7 [] true r1 :: .no :: []) [] [(13, pB (!r1))] [] [] (an (Fits_ref8Spec p0 r1 hr1) tv) ?_))
 refine condM hm ?_ ?_
 ·intro h2 hm
  refine Sq (RD hnt (nn 3 []) [1, 2, 13] [(5, pI 1)] [1016] [] tv ?_)
  refine DW.cv [] [] [] [(c88e2), (100000, ob0 (roNode [])), (100001, ob0 (roTask []))] (Conv.ads [(.o 1032 0, 100000, 6, elems encNode dNode []), (.o 1032 2, 100001, 4, elems encTask dTask [])]) ?_
  obtain rfl := sj hm
  exact DW.ret (retK [roNode [], roTask []] [100000, 100001] (.tup [.agg [ow 0 0, pI 0, ow 1 0, pI 0], pI 1]))
 ·intro h2 hm
  refine Sk ?_
  obtain ⟨r3, hr3, hm⟩ := bo hm
  refine Sq (RD hnt (nn 3 (o16 [] true r3 :: nn 6 [])) [13] [(6, rr 1048), (7, pB r3.2)] [] [(1048, bx (pm (encNode r3.1)))] (an (Find_ref5Spec p0.tree p1 r3 hr3) tv) ?_)
  refine Sq (Sq (RD hnt (nn 2 []) [7] [(23, pB (!r3.2))] [] [] tv ?_))
  refine condM hm ?_ ?_
  ·intro h4 hm
   refine Sq (RD hnt (nn 3 []) [1, 2, 6, 23] [(5, pI 4)] [1016, 1048] [] tv ?_)
   refine DW.cv [] [] [] [(c88e2), (100000, ob0 (roNode [])), (100001, ob0 (roTask []))] (Conv.ads [(.o 1032 0, 100000, 6, elems encNode dNode []), (.o 1032 2, 100001, 4, elems encTask dTask [])]) ?_
   obtain rfl := sj hm
   exact DW.ret (retK [roNode [], roTask []] [100000, 100001] (.tup [.agg [ow 0 0, pI 0, ow 1 0, pI 0], pI 4]))
  ·intro h4 hm
   refine Sk ?_
   refine Sq (Sq (DW.regJ (sl2 := [(1, pI p1), (2, rr 1016), (4, rr 1032), (6, rr 1048), (31, pB ((p1 == 1) || (r3.1.kind == 1)))]) (ob2 := [(1016, bx (pm (encHierarchy p0))), (c88e1), (1048, bx (pm (encNode r3.1)))]) ?_ ?_))
   ·rcases bt (p1 == 1) with h5 | h5
    ·exact RT hnt (nn 3 (sk 3 (pT :: []))) [(31, pB true)] (an4 h5 tv) (by kernel_rfl) (.cons rfl (.of_eq (by rw [h5]; try rfl)) .nil)
    ·exact RT hnt (nn 6 (pF :: [])) [(31, pB (r3.1.kind == 1))] (an4 h5 tv) (by kernel_rfl) (.cons rfl (.of_eq (by rw [h5]; try rfl)) .nil)
   ·refine condM hm ?_ ?_
    ·intro h6 hm
     refine Sq (RD hnt (nn 3 []) [1, 2, 6, 31] [(5, pI 9)] [1016, 1048] [] tv ?_)
     refine DW.cv [] [] [] [(c88e2), (100000, ob0 (roNode [])), (100001, ob0 (roTask []))] (Conv.ads [(.o 1032 0, 100000, 6, elems encNode dNode []), (.o 1032 2, 100001, 4, elems encTask dTask [])]) ?_
     obtain rfl := sj hm
     exact DW.ret (retK [roNode [], roTask []] [100000, 100001] (.tup [.agg [ow 0 0, pI 0, ow 1 0, pI 0], pI 9]))
    ·intro h6 hm
     refine Sk ?_
     obtain ⟨r7, hr7, hm⟩ := bo hm
     refine Sq (RD hnt (nn 4 (o16 [] true r7 :: nn 6 [])) [31] [(8, rr 1064)] [] [(1064, bx (pm (encNode r7.1)))] (an (Find_ref5Spec p0.tree r3.1.parent r7 hr7) tv) ?_)
     obtain ⟨r8, hr8, hm⟩ := bo hm
     refine Sq (Sq ?_)
     refine Jn (ι := Bool) (fun (y1 : Bool) => mkSt [(1, pI p1), (2, rr 1016), (4, rr 1032), (6, rr 1048), (57, pB y1)] [(1016, bx (pm (encHierarchy p0))), (c88e1), (1048, bx (pm (encNode r3.1)))]) (fun y1 => (Convert_ref8J1 p0 p1 r3) y1 = some RES) ?_ ?_
     ·intro y1 hm
      unfold Convert_ref8J1 at hm
      refine condM hm ?_ ?_
      ·intro h11 hm
       refine Sq (RD hnt (nn 3 []) [1, 2, 6, 57] [(5, pI 10)] [1016, 1048] [] tv ?_)
       refine DW.cv [] [] [] [(c88e2), (100000, ob0 (roNode [])), (100001, ob0 (roTask []))] (Conv.ads [(.o 1032 0, 100000, 6, elems encNode dNode []), (.o 1032 2, 100001, 4, elems encTask dTask [])]) ?_
       obtain rfl := sj hm
       exact DW.ret (retK [roNode [], roTask []] [100000, 100001] (.tup [.agg [ow 0 0, pI 0, ow 1 0, pI 0], pI 10]))
      ·intro h11 hm
       refine Sk ?_
       refine Sq (Sq (RD hnt (nn 4 []) [57] [(62, pB ((kand .i64 r3.1.control 6) != 0))] [] [] tv ?_))
       refine condM hm ?_ ?_
       ·intro h12 hm
        refine Sq (RD hnt (nn 3 []) [1, 2, 6, 62] [(5, pI 9)] [1016, 1048] [] tv ?_)
        refine DW.cv [] [] [] [(c88e2), (100000, ob0 (roNode [])), (100001, ob0 (roTask []))] (Conv.ads [(.o 1032 0, 100000, 6, elems encNode dNode []), (.o 1032 2, 100001, 4, elems encTask dTask [])]) ?_
        obtain rfl := sj hm
        exact DW.ret (retK [roNode [], roTask []] [100000, 100001] (.tup [.agg [ow 0 0, pI 0, ow 1 0, pI 0], pI 9]))
       ·intro h12 hm
        refine Sk ?_
        refine Sq (RD hnt (nn 2 []) [62] [] [] [(1048, bx [pI r3.1.id, pI r3.1.parent, pS r3.1.name, pI r3.1.control, pI 1, pI r3.1.owner])] tv ?_)
        obtain ⟨r13, hr13, hm⟩ := bo hm
        refine Sq (RD hnt (.no :: o28 [] true r13 :: nn 2 []) [] [(10, rr 1080)] [] [(1080, bx [ow 1528 r13.tree.nodes.length, pI r13.tree.next, ow 1529 r13.tasks.length, pI r13.next]), (1528, ob0 (roNode r13.tree.nodes)), (1529, ob0 (roTask r13.tasks))] (an (Copy_ref6Spec p0 r13 hr13) tv) ?_)
        obtain ⟨r14, hr14, hm⟩ := bo hm
        refine Sq (RD hnt (nn 3 (o87 [] true r14 :: nn 2 [])) [6] [] [1048, 1528] [(1080, bx [ow 1560 r14.nodes.length, pI r14.next, ow 1529 r13.tasks.length, pI r13.next]), (1560, ob0 (roNode r14.nodes))] (an (Set_ref5Spec p0.tree ({ id := r3.1.id, parent := r3.1.parent, name := r3.1.name, control := r3.1.control, kind := 1, owner := r3.1.owner } : Node) r14 hr14) tv) ?_)
        obtain ⟨r15, hr15, hm⟩ := bo hm
        refine Sq (Sq ?_)
        refine Jn (ι := Bool) (fun (y2 : Bool) => mkSt [(4, rr 1032), (10, rr 1080), (81, pB y2)] [(c88e1), (1080, bx [ow 1560 r14.nodes.length, pI r14.next, ow 1529 r13.tasks.length, pI r13.next]), (1529, ob0 (roTask r13.tasks)), (1560, ob0 (roNode r14.nodes))]) (fun y2 => (Convert_ref8J2 r13 r14) y2 = some RES) ?_ ?_
        ·intro y2 hm
         unfold Convert_ref8J2 at hm
         refine condM hm ?_ ?_
         ·intro h18 hm
          refine Sq (RD hnt (nn 3 []) [10, 81] [(5, pI 6)] [1080, 1529, 1560] [] tv ?_)
          refine DW.cv [] [] [] [(c88e2), (100000, ob0 (roNode [])), (100001, ob0 (roTask []))] (Conv.ads [(.o 1032 0, 100000, 6, elems encNode dNode []), (.o 1032 2, 100001, 4, elems encTask dTask [])]) ?_
          obtain rfl := sj hm
          exact DW.ret (retK [roNode [], roTask []] [100000, 100001] (.tup [.agg [ow 0 0, pI 0, ow 1 0, pI 0], pI 6]))
         ·intro h18 hm
          refine Sk ?_
          refine Sq (RD hnt (nn 3 []) [10, 81] [(5, pI 0)] [1080] [(1032, bx [ow 1560 r14.nodes.length, pI r14.next, ow 1529 r13.tasks.length, pI r13.next])] tv ?_)
          obtain rfl := sj hm
          exact DW.ret (retK [roNode r14.nodes, roTask r13.tasks] [1560, 1529] (.tup [.agg [ow 0 r14.nodes.length, pI r14.next, ow 1 r13.tasks.length, pI r13.next], pI 0]))
        ·rcases bt (decide (((r15.length : Nat) : Int) > 0)) with h16 | h16
         ·replace hm := if_t h16 hm
          refine RD hnt (nn 2 (o19 [] true r15 :: nn 3 (sk 3 (pT :: [])))) [1, 2] [(81, pB true)] [1016] [] (an (Tasks_ref6Spec p0 p1 r15 hr15) (an4 h16 tv)) ?_
          exact jD true hm Conv.eqK
         ·replace hm := if_f h16 hm
          obtain ⟨r17, hr17, hm⟩ := bo hm
          refine RD hnt (nn 2 (o19 [] true r15 :: nn 4 (o7 [] true r17 :: .no :: pF :: []))) [1, 2] [(81, pB (!r17))] [1016] [] (an (Tasks_ref6Spec p0 p1 r15 hr15) (an2 h16 (an (Fits_ref8Spec ({ tree := r14, tasks := r13.tasks, next := r13.next } : Hierarchy) r17 hr17) (an2 h16 tv)))) ?_
          exact jD (!r17) hm Conv.eqK
     ·rcases bt (r8 == 3) with h9 | h9
      ·replace hm := if_t h9 hm
       refine RD hnt (nn 4 (o23 [] true r8 :: nn 2 (sk 9 (pT :: [])))) [8] [(57, pB true)] [1064] [] (an (Type_ref8Spec p0.tree r7.1.id r8 hr8) (an6 h9 tv)) ?_
       exact jD true hm Conv.eqK
      ·replace hm := if_f h9 hm
       rcases bt (r7.1.id != 1) with h10 | h10
       ·replace hm := if_t h10 hm
        refine RD hnt (nn 4 (o23 [] true r8 :: nn 10 (pT :: pF :: []))) [8] [(57, pB ((kand .i64 r7.1.control 6) != 0))] [1064] [] (an (Type_ref8Spec p0.tree r7.1.id r8 hr8) (an4 h9 (an4 h10 (an h9 (an h10 (an h9 tv)))))) ?_
        exact jD ((kand .i64 r7.1.control 6) != 0) hm Conv.eqK
       ·replace hm := if_f h10 hm
        refine RD hnt (nn 4 (o23 [] true r8 :: nn 6 (sk 4 (pF :: pF :: [])))) [8] [(57, pB false)] [1064] [] (an (Type_ref8Spec p0.tree r7.1.id r8 hr8) (an4 h9 (an4 h10 (an h9 (an h10 (an h9 tv)))))) ?_
        exact jD false hm Conv.eqK
abbrev o88 (ks : List Nat) (b : Bool) (RES : Hierarchy × Int) : Orc := .call 134 ks b (.tup [.agg [ow 0 RES.1.tree.nodes.length, pI RES.1.tree.next, ow 1 RES.1.tasks.length, pI RES.1.next], pI RES.2]) [] [roNode RES.1.tree.nodes, roTask RES.1.tasks]

abbrev c81e1 : Nat × Obj := (1032, bx [.p (.sl .nil 0 0 (fun _ => [])), pI 0, .p (.sl .nil 0 0 (fun _ => [])), pI 0])
theorem step_Dice_madeSpec (p0 : Dice) (p1 : Hierarchy) (RES : Hierarchy × Dice) (hm : step_Dice_made p0 p1 = some RES) : Spec Tryz.prog 81 [rr 0, .p (.agg (encHierarchy p1))] [.box (pm (encDice p0))] (.p (.agg (encHierarchy RES.1))) [.box (pm (encDice RES.2))] [] := by
 unfold step_Dice_made at hm
 refine SO Tryz.func81 rfl rfl [(0, rr 0), (1, .p (.agg (encHierarchy p1)))] [(0, bx (pm (encDice p0)))] ?_
 intro cx hnt
 refine Sq (RD hnt (nn 2 []) [1] [(3, rr 1024), (4, rr 1032)] [] [(1024, bx (pm (encHierarchy p1))), (c81e1)] tv ?_)
 obtain ⟨r1, hr1, hm⟩ := bo hm
 refine Sq (RD hnt (nn 3 (o82 [0] true r1 :: .no :: [])) [] [(5, pI r1.1)] [] [(0, bx (pm (encDice r1.2)))] (an (Group_Dice_madeSpec p0 p1.tree r1 hr1) (an tv tv)) ?_)
 obtain ⟨r2, hr2, hm⟩ := bo hm
 refine Sq (Sq (RD hnt (.no :: o77 [0] true r2 :: []) [] [(17, pI r2.1)] [] [(0, bx (pm (encDice r2.2)))] (an (Next_Dice_madeSpec r1.2 5 r2 hr2) (an tv tv)) ?_))
 refine Jn (ι := Dice × Hierarchy) (fun (y1 : Dice × Hierarchy) => mkSt [(3, rr 1024), (4, rr 1032)] [(0, bx (pm (encDice y1.1))), (1024, bx (pm (encHierarchy y1.2))), (c81e1)]) (fun y1 => step_Dice_madeJ1 y1 = some RES) ?_ ?_
 ·intro y1 hm
  unfold step_Dice_madeJ1 at hm
  refine Sq (RD hnt (nn 2 []) [3] [] [1024] [(1032, bx (pm (encHierarchy y1.2)))] tv ?_)
  obtain rfl := sj hm
  exact DW.ret (retK [.box (pm (encDice y1.1))] [] (.p (.agg (encHierarchy y1.2))))
 ·refine Bk ?_
  refine Sq (Sq (RD hnt (nn 2 []) [] [(18, pB (r2.1 == 0))] [] [] tv ?_))
  refine Jn (ι := Bool) (fun (y2 : Bool) => mkSt [(0, rr 0), (3, rr 1024), (4, rr 1032), (5, pI r1.1), (17, pI r2.1), (18, pB y2)] [(0, bx (pm (encDice r2.2))), (1024, bx (pm (encHierarchy p1))), (c81e1)]) (fun y2 => (step_Dice_madeJ2 p1 r1 r2) y2 = some RES) ?_ ?_
  ·intro y2 hm
   unfold step_Dice_madeJ2 at hm
   refine condM hm ?_ ?_
   ·intro h4 hm
    obtain ⟨r5, hr5, hm⟩ := bo hm
    obtain ⟨r6, hr6, hm⟩ := bo hm
    refine Sq (RD hnt (nn 3 (o83 [0] true r5 :: o84 [] true r6 :: nn 6 [])) [0, 5, 17, 18] [(6, rr 1048), (7, pI r6.2)] [] [(0, bx (pm (encDice r5.2))), (1048, bx [ow 1208 r6.1.tree.nodes.length, pI r6.1.tree.next, ow 1209 r6.1.tasks.length, pI r6.1.next]), (1208, ob0 (roNode r6.1.tree.nodes)), (1209, ob0 (roTask r6.1.tasks))] (an (Controllers_Dice_madeSpec r2.2 r5 hr5) (an tv (an (Enable_ref8Spec p1 r1.1 r5.1 0 r6 hr6) tv))) ?_)
    refine Sq (RD hnt (nn 2 []) [7] [(30, pB (r6.2 == 0))] [] [] tv ?_)
    refine condM hm ?_ ?_
    ·intro h7 hm
     refine Sq (RD hnt (nn 2 []) [3, 6, 30] [] [1024, 1048] [(1032, bx [ow 1208 r6.1.tree.nodes.length, pI r6.1.tree.next, ow 1209 r6.1.tasks.length, pI r6.1.next])] tv ?_)
     obtain rfl := sj hm
     exact DW.ret (retK [.box (pm (encDice r5.2))] [] (.p (.agg (encHierarchy r6.1))))
    ·intro h7 hm
     refine Sk ?_
     exact bD (r5.2, p1) hm Conv.t0
   ·intro h4 hm
    refine Sq (RD hnt (nn 2 []) [18] [(32, pB (r2.1 == 2))] [] [] tv ?_)
    refine condM hm ?_ ?_
    ·intro h8 hm
     obtain ⟨r9, hr9, hm⟩ := bo hm
     refine Sq (RD hnt (nn 2 (o88 [] true r9 :: nn 6 [])) [0, 5, 17, 32] [(8, rr 1064), (9, pI r9.2)] [] [(1064, bx [ow 1296 r9.1.tree.nodes.length, pI r9.1.tree.next, ow 1297 r9.1.tasks.length, pI r9.1.next]), (1296, ob0 (roNode r9.1.tree.nodes)), (1297, ob0 (roTask r9.1.tasks))] (an (Convert_ref8Spec p1 r1.1 r9 hr9) tv) ?_)
     refine Sq (RD hnt (nn 2 []) [9] [(41, pB (r9.2 == 0))] [] [] tv ?_)
     refine condM hm ?_ ?_
     ·intro h10 hm
      refine Sq (RD hnt (nn 2 []) [3, 8, 41] [] [1024, 1064] [(1032, bx [ow 1296 r9.1.tree.nodes.length, pI r9.1.tree.next, ow 1297 r9.1.tasks.length, pI r9.1.next])] tv ?_)
      obtain rfl := sj hm
      exact DW.ret (retK [.box (pm (encDice r2.2))] [] (.p (.agg (encHierarchy r9.1))))
     ·intro h10 hm
      refine Sk ?_
      exact bD (r2.2, p1) hm Conv.t0
    ·intro h8 hm
     refine Sq (RD hnt (nn 2 []) [17, 32] [(43, pB (r2.1 == 3))] [] [] tv ?_)
     refine condM hm ?_ ?_
     ·intro h11 hm
      obtain ⟨r12, hr12, hm⟩ := bo hm
      refine Sq (RD hnt (nn 3 (o16 [] true r12 :: nn 6 [])) [43] [(10, rr 1080), (11, pB r12.2)] [] [(1080, bx (pm (encNode r12.1)))] (an (Find_ref5Spec p1.tree r1.1 r12 hr12) tv) ?_)
      refine Sq (DW.regJ (sl2 := [(0, rr 0), (3, rr 1024), (4, rr 1032), (10, rr 1080), (56, pB (r12.2 && (r1.1 != 1)))]) (ob2 := [(0, bx (pm (encDice r2.2))), (1024, bx (pm (encHierarchy p1))), (c81e1), (1080, bx (pm (encNode r12.1)))]) ?_ ?_)
      ·rcases bt r12.2 with h13 | h13
       ·exact RT hnt (nn 4 (pT :: [])) [(56, pB (r1.1 != 1))] (an3 h13 tv) (by kernel_rfl) (.cons rfl (.of_eq (by rw [h13]; try rfl)) .nil)
       ·exact RT hnt (nn 2 (sk 2 (pF :: []))) [(56, pB false)] (an3 h13 tv) (by kernel_rfl) (.cons rfl (.of_eq (by rw [h13]; try rfl)) .nil)
      ·refine condM hm ?_ ?_
       ·intro h14 hm
        obtain ⟨r15, hr15, hm⟩ := bo hm
        refine Sq (RD hnt (.no :: o77 [0] true r15 :: nn 2 []) [0, 56] [] [] [(0, bx (pm (encDice r15.2))), (1080, bx [pI r12.1.id, pI r12.1.parent, pS r12.1.name, pI r12.1.control, pI r12.1.kind, pI r15.1])] (an (Next_Dice_madeSpec r2.2 3 r15 hr15) (an tv tv)) ?_)
        obtain ⟨r16, hr16, hm⟩ := bo hm
        refine RD hnt (nn 3 (o87 [] true r16 :: nn 2 [])) [10] [] [1080] [(1024, bx [ow 1504 r16.nodes.length, pI r16.next, .p (slTask p1.tasks), pI p1.next]), (1504, ob0 (roNode r16.nodes))] (an (Set_ref5Spec p1.tree ({ id := r12.1.id, parent := r12.1.parent, name := r12.1.name, control := r12.1.control, kind := r12.1.kind, owner := r15.1 } : Node) r16 hr16) tv) ?_
        exact bD (r15.2, ({ tree := r16, tasks := p1.tasks, next := p1.next } : Hierarchy)) hm (Conv.frz [1504])
       ·intro h14 hm
        refine Sk ?_
        exact bD (r2.2, p1) hm Conv.t0
     ·intro h11 hm
      refine Sk ?_
      exact bD (r2.2, p1) hm Conv.t0
  ·refine condM hm ?_ ?_
   ·intro h3 hm
    refine Sk ?_
    exact jD (r2.1 == 0) hm Conv.eqK
   ·intro h3 hm
    refine RD hnt (nn 2 []) [] [(18, pB (r2.1 == 1))] [] [] tv ?_
    exact jD (r2.1 == 1) hm Conv.eqK
abbrev o81 (ks : List Nat) (b : Bool) (RES : Hierarchy × Dice) : Orc := .call 81 ks b (.p (.agg (encHierarchy RES.1))) [.box (pm (encDice RES.2))] []

theorem Admits_ref8Spec (p0 : Hierarchy) (p1 : Int) (RES : Int) (hm : Admits_ref8 p0 p1 = some RES) : Spec Tryz.prog 82 [.p (.agg (encHierarchy p0)), pI p1] [] (pI RES) [] [] := by
 unfold Admits_ref8 at hm
 refine SO Tryz.func82 rfl rfl [(0, .p (.agg (encHierarchy p0))), (1, pI p1)] [] ?_
 intro cx hnt
 refine Sq (RK hnt (nn 2 []) [(1, pI p1), (2, rr 1016)] [(1016, bx (pm (encHierarchy p0)))] tv ?_)
 obtain ⟨r1, hr1, hm⟩ := bo hm
 refine Sq (Sq (RD hnt (.no :: o7 [] true r1 :: .no :: []) [] [(9, pB (!r1))] [] [] (an (Fits_ref8Spec p0 r1 hr1) tv) ?_))
 refine condM hm ?_ ?_
 ·intro h2 hm
  refine Sq (RK hnt (.no :: []) [(4, pI 1)] [] tv ?_)
  obtain rfl := sj hm
  exact DW.ret (retK [] [] (pI 1))
 ·intro h2 hm
  refine Sk ?_
  obtain ⟨r3, hr3, hm⟩ := bo hm
  refine Sq (RD hnt (nn 3 (o16 [] true r3 :: nn 6 [])) [9] [(5, rr 1040), (6, pB r3.2)] [] [(1040, bx (pm (encNode r3.1)))] (an (Find_ref5Spec p0.tree p1 r3 hr3) tv) ?_)
  refine Sq (Bk ?_)
  refine Sq (RD hnt (nn 3 []) [6] [(17, pB (!r3.2))] [] [] tv ?_)
  refine condM hm ?_ ?_
  ·intro h4 hm
   refine Sq (RK hnt (.no :: []) [(4, pI 4)] [] tv ?_)
   obtain rfl := sj hm
   exact DW.ret (retK [] [] (pI 4))
  ·intro h4 hm
   obtain ⟨r5, hr5, hm⟩ := bo hm
   refine Sq (RD hnt (nn 3 (o23 [] true r5 :: nn 2 [])) [2, 17] [(20, pB (r5 == 3))] [1016] [] (an (Type_ref8Spec p0.tree p1 r5 hr5) tv) ?_)
   refine condM hm ?_ ?_
   ·intro h6 hm
    refine Sq (RK hnt (.no :: []) [(4, pI 10)] [] tv ?_)
    obtain rfl := sj hm
    exact DW.ret (retK [] [] (pI 10))
   ·intro h6 hm
    refine Sq (DW.regJ (sl2 := [(26, pB ((p1 != 1) && ((kand .i64 r3.1.control 6) != 0)))]) (ob2 := []) ?_ ?_)
    ·rcases bt (p1 != 1) with h7 | h7
     ·exact RT hnt (nn 7 (pT :: .no :: [])) [(26, pB ((kand .i64 r3.1.control 6) != 0))] (an5 h7 tv) (by kernel_rfl) (.cons rfl (.of_eq (by rw [h7]; try rfl)) .nil)
     ·exact RT hnt (nn 3 (sk 4 (pF :: .no :: []))) [(26, pB false)] (an5 h7 tv) (by kernel_rfl) (.cons rfl (.of_eq (by rw [h7]; try rfl)) .nil)
    ·refine condM hm ?_ ?_
     ·intro h8 hm
      refine Sq (RK hnt (.no :: []) [(4, pI 6)] [] tv ?_)
      obtain rfl := sj hm
      exact DW.ret (retK [] [] (pI 6))
     ·intro h8 hm
      refine Sk ?_
      refine DW.done ?_
      show DW _ _ _ _ _
      refine Sq (RK hnt (.no :: []) [(4, pI 0)] [] tv ?_)
      obtain rfl := sj hm
      exact DW.ret (retK [] [] (pI 0))
abbrev o89 (ks : List Nat) (b : Bool) (RES : Int) : Orc := .call 82 ks b (pI RES) [] []

theorem Task_Dice_madeSpec (p0 : Dice) (p1 : Hierarchy) (RES : Int × Dice) (hm : Task_Dice_made p0 p1 = some RES) : Spec Tryz.prog 47 [rr 0, .p (.agg (encHierarchy p1))] [.box (pm (encDice p0))] (pI RES.1) [.box (pm (encDice RES.2))] [] := by
 unfold Task_Dice_made at hm
 refine SO Tryz.func47 rfl rfl [(0, rr 0), (1, .p (.agg (encHierarchy p1)))] [(0, bx (pm (encDice p0)))] ?_
 intro cx hnt
 refine Sq (RD hnt (nn 2 []) [1] [(3, rr 1024)] [] [(1024, bx (pm (encHierarchy p1)))] tv ?_)
 obtain ⟨r1, hr1, hm⟩ := bo hm
 refine Sq (Sq ?_)
 refine Jn (ι := Bool) (fun (y1 : Bool) => mkSt [(0, rr 0), (3, rr 1024), (12, pB y1)] [(0, bx (pm (encDice r1.2))), (1024, bx (pm (encHierarchy p1)))]) (fun y1 => (Task_Dice_madeJ1 p1 r1) y1 = some RES) ?_ ?_
 ·intro y1 hm
  unfold Task_Dice_madeJ1 at hm
  refine condM hm ?_ ?_
  ·intro h3 hm
   obtain ⟨r4, hr4, hm⟩ := bo hm
   refine Sq (RK hnt (.no :: o77 [0] true r4 :: nn 2 []) [(4, pI (w64 (r4.1 - 1)))] [(0, bx (pm (encDice r4.2)))] (an (Next_Dice_madeSpec r1.2 9 r4 hr4) (an tv tv)) ?_)
   obtain rfl := sj hm
   exact DW.ret (retK [.box (pm (encDice r4.2))] [] (pI (w64 (r4.1 - 1))))
  ·intro h3 hm
   refine Sk ?_
   obtain ⟨r5, hr5, hm⟩ := bo hm
   obtain ⟨g6, hm⟩ := go1 hm
   refine Sq (RK hnt (nn 6 (o77 [0] true r5 :: nn 4 [])) [(4, pI (p1.tasks.getD (Int.toNat r5.1) dTask).id)] [(0, bx (pm (encDice r5.2)))] (an (Next_Dice_madeSpec r1.2 ((p1.tasks.length : Nat) : Int) r5 hr5) (an tv (an g6.1 (an g6.2 tv)))) ?_)
   obtain rfl := sj hm
   exact DW.ret (retK [.box (pm (encDice r5.2))] [] (pI (p1.tasks.getD (Int.toNat r5.1) dTask).id))
 ·rcases bt r1.1 with h2 | h2
  ·replace hm := if_t h2 hm
   refine RD hnt (.no :: o79 [0] true r1 :: .no :: sk 4 (pT :: [])) [] [(12, pB true)] [] [(0, bx (pm (encDice r1.2)))] (an (Bool_Dice_madeSpec p0 15 r1 hr1) (an tv (an5 h2 tv))) ?_
   exact jD true hm Conv.eqK
  ·replace hm := if_f h2 hm
   refine RD hnt (.no :: o79 [0] true r1 :: nn 5 (pF :: [])) [] [(12, pB (((p1.tasks.length : Nat) : Int) == 0))] [] [(0, bx (pm (encDice r1.2)))] (an (Bool_Dice_madeSpec p0 15 r1 hr1) (an tv (an5 h2 tv))) ?_
   exact jD (((p1.tasks.length : Nat) : Int) == 0) hm Conv.eqK
abbrev o90 (ks : List Nat) (b : Bool) (RES : Int × Dice) : Orc := .call 47 ks b (pI RES.1) [.box (pm (encDice RES.2))] []

theorem Clone_ref6Spec (p0 : Hierarchy) (p1 : Int) (RES : Hierarchy × Int × Int) (hm : Clone_ref6 p0 p1 = some RES) : Spec Tryz.prog 67 [.p (.agg (encHierarchy p0)), pI p1] [] (.tup [.agg [ow 0 RES.1.tree.nodes.length, pI RES.1.tree.next, ow 1 RES.1.tasks.length, pI RES.1.next], pI RES.2.1, pI RES.2.2]) [] [roNode RES.1.tree.nodes, roTask RES.1.tasks] := by
 unfold Clone_ref6 at hm
 refine SO Tryz.func67 rfl rfl [(0, .p (.agg (encHierarchy p0))), (1, pI p1)] [] ?_
 intro cx hnt
 refine Sq (RK hnt (nn 4 []) [(1, pI p1), (2, rr 1016), (4, rr 1032)] [(1016, bx (pm (encHierarchy p0))), (1032, bx [.p (.sl .nil 0 0 (fun _ => [])), pI 0, .p (.sl .nil 0 0 (fun _ => [])), pI 0])] tv ?_)
 obtain ⟨r1, hr1, hm⟩ := bo hm
 refine Sq (Sq (RD hnt (.no :: o9 [] true r1 :: .no :: []) [] [(11, pB (!r1))] [] [] (an (Check_ref6Spec p0 r1 hr1) tv) ?_))
 refine condM hm ?_ ?_
 ·intro h2 hm
  refine Sq (RD hnt (nn 4 []) [1, 2, 11] [(5, pI 0), (6, pI 1)] [1016] [] tv ?_)
  refine DW.cv [] [] [] [(1032, bx [ow 100000 0, pI 0, ow 100001 0, pI 0]), (100000, ob0 (roNode [])), (100001, ob0 (roTask []))] (Conv.ads [(.o 1032 0, 100000, 6, elems encNode dNode []), (.o 1032 2, 100001, 4, elems encTask dTask [])]) ?_
  obtain rfl := sj hm
  exact DW.ret (retK [roNode [], roTask []] [100000, 100001] (.tup [.agg [ow 0 0, pI 0, ow 1 0, pI 0], pI 0, pI 1]))
 ·intro h2 hm
  refine Sk ?_
  obtain ⟨r3, hr3, hm⟩ := bo hm
  refine Sq (RD hnt (nn 2 (o20 [] true r3 :: nn 6 [])) [1, 11] [(7, rr 1056), (8, pB r3.2)] [] [(1056, bx (pm (encTask r3.1)))] (an (Find_ref6Spec p0 p1 r3 hr3) tv) ?_)
  refine Sq (Sq (RD hnt (nn 2 []) [8] [(20, pB (!r3.2))] [] [] tv ?_))
  refine condM hm ?_ ?_
  ·intro h4 hm
   refine Sq (RD hnt (nn 4 []) [2, 7, 20] [(5, pI 0), (6, pI 4)] [1016, 1056] [] tv ?_)
   refine DW.cv [] [] [] [(1032, bx [ow 100000 0, pI 0, ow 100001 0, pI 0]), (100000, ob0 (roNode [])), (100001, ob0 (roTask []))] (Conv.ads [(.o 1032 0, 100000, 6, elems encNode dNode []), (.o 1032 2, 100001, 4, elems encTask dTask [])]) ?_
   obtain rfl := sj hm
   exact DW.ret (retK [roNode [], roTask []] [100000, 100001] (.tup [.agg [ow 0 0, pI 0, ow 1 0, pI 0], pI 0, pI 4]))
  ·intro h4 hm
   refine Sk ?_
   obtain ⟨r5, hr5, hm⟩ := bo hm
   refine Sq (RK hnt (nn 2 (o30 [] true r5 :: nn 6 [])) [(4, rr 1032), (5, pI r5.2.1), (6, pI r5.2.2)] [(1032, bx [ow 1192 r5.1.tree.nodes.length, pI r5.1.tree.next, ow 1193 r5.1.tasks.length, pI r5.1.next]), (1192, ob0 (roNode r5.1.tree.nodes)), (1193, ob0 (roTask r5.1.tasks))] (an (add_ref6Spec p0 r3.1 r5 hr5) tv) ?_)
   obtain rfl := sj hm
   exact DW.ret (retK [roNode r5.1.tree.nodes, roTask r5.1.tasks] [1192, 1193] (.tup [.agg [ow 0 r5.1.tree.nodes.length, pI r5.1.tree.next, ow 1 r5.1.tasks.length, pI r5.1.next], pI r5.2.1, pI r5.2.2]))
abbrev o91 (ks : List Nat) (b : Bool) (RES : Hierarchy × Int × Int) : Orc := .call 67 ks b (.tup [.agg [ow 0 RES.1.tree.nodes.length, pI RES.1.tree.next, ow 1 RES.1.tasks.length, pI RES.1.next], pI RES.2.1, pI RES.2.2]) [] [roNode RES.1.tree.nodes, roTask RES.1.tasks]

abbrev c93e1 (s1 : (List Task) × Int) (p2 : Int) := ({ id := (s1.1.getD (Int.toNat s1.2) dTask).id, process := (s1.1.getD (Int.toNat s1.2) dTask).process, group := p2, user := (s1.1.getD (Int.toNat s1.2) dTask).user } : Task)
abbrev c93e2 : Nat × Obj := (1048, bx [.p (.sl .nil 0 0 (fun _ => [])), pI 0, .p (.sl .nil 0 0 (fun _ => [])), pI 0])
abbrev c93e3 (s1 : (List Task) × Int) (p2 : Int) := (updF (elTask s1.1) (Int.toNat s1.2) [vi (s1.1.getD (Int.toNat s1.2) dTask).id, vi (s1.1.getD (Int.toNat s1.2) dTask).process, vi p2, vi (s1.1.getD (Int.toNat s1.2) dTask).user])
theorem Place_ref6Spec (p0 : Hierarchy) (p1 : Int) (p2 : Int) (RES : Hierarchy × Int) (hm : Place_ref6 p0 p1 p2 = some RES) : Spec Tryz.prog 70 [.p (.agg (encHierarchy p0)), pI p1, pI p2] [] (.tup [.agg [ow 0 RES.1.tree.nodes.length, pI RES.1.tree.next, ow 1 RES.1.tasks.length, pI RES.1.next], pI RES.2]) [] [roNode RES.1.tree.nodes, roTask RES.1.tasks] := by
 unfold Place_ref6 at hm
 refine SO Tryz.func70 rfl rfl [(0, .p (.agg (encHierarchy p0))), (1, pI p1), (2, pI p2)] [] ?_
 intro cx hnt
 refine Sq (RD hnt (nn 3 []) [0] [(3, rr 1024), (6, rr 1048)] [] [(1024, bx (pm (encHierarchy p0))), (c93e2)] tv ?_)
 obtain ⟨r1, hr1, hm⟩ := bo hm
 refine Sq (Sq (RD hnt (.no :: o9 [] true r1 :: .no :: []) [] [(14, pB (!r1))] [] [] (an (Check_ref6Spec p0 r1 hr1) tv) ?_))
 refine condM hm ?_ ?_
 ·intro h2 hm
  refine Sq (RD hnt (nn 3 []) [1, 2, 3, 14] [(7, pI 1)] [1024] [] tv ?_)
  refine DW.cv [] [] [] [(1048, bx [ow 100000 0, pI 0, ow 100001 0, pI 0]), (100000, ob0 (roNode [])), (100001, ob0 (roTask []))] (Conv.ads [(.o 1048 0, 100000, 6, elems encNode dNode []), (.o 1048 2, 100001, 4, elems encTask dTask [])]) ?_
  obtain rfl := sj hm
  exact DW.ret (retK [roNode [], roTask []] [100000, 100001] (.tup [.agg [ow 0 0, pI 0, ow 1 0, pI 0], pI 1]))
 ·intro h2 hm
  refine Sk ?_
  obtain ⟨r3, hr3, hm⟩ := bo hm
  refine Sq (Sq (RD hnt (nn 2 (o20 [] true r3 :: nn 6 [])) [14] [(9, pB r3.2)] [] [] (an (Find_ref6Spec p0 p1 r3 hr3) tv) ?_))
  refine Sq ?_
  refine Jn (ι := Bool) (fun (y1 : Bool) => mkSt [(1, pI p1), (2, pI p2), (3, rr 1024), (6, rr 1048), (30, pB y1)] [(1024, bx (pm (encHierarchy p0))), (c93e2)]) (fun y1 => (Place_ref6J1 p0 p1 p2) y1 = some RES) ?_ ?_
  ·intro y1 hm
   unfold Place_ref6J1 at hm
   refine condM hm ?_ ?_
   ·intro h6 hm
    refine Sq (RD hnt (nn 3 []) [1, 2, 3, 30] [(7, pI 4)] [1024] [] tv ?_)
    refine DW.cv [] [] [] [(1048, bx [ow 100000 0, pI 0, ow 100001 0, pI 0]), (100000, ob0 (roNode [])), (100001, ob0 (roTask []))] (Conv.ads [(.o 1048 0, 100000, 6, elems encNode dNode []), (.o 1048 2, 100001, 4, elems encTask dTask [])]) ?_
    obtain rfl := sj hm
    exact DW.ret (retK [roNode [], roTask []] [100000, 100001] (.tup [.agg [ow 0 0, pI 0, ow 1 0, pI 0], pI 4]))
   ·intro h6 hm
    refine Sk ?_
    obtain ⟨r7, hr7, hm⟩ := bo hm
    refine Sq (RD hnt (.no :: o28 [] true r7 :: nn 2 []) [3, 30] [(10, rr 1080)] [1024] [(1080, bx [ow 1264 r7.tree.nodes.length, pI r7.tree.next, ow 1265 r7.tasks.length, pI r7.next]), (1264, ob0 (roNode r7.tree.nodes)), (1265, ob0 (roTask r7.tasks))] (an (Copy_ref6Spec p0 r7 hr7) tv) ?_)
    refine Sq (Sq (RD hnt (.no :: []) [] [(11, pI 0)] [] [] tv ?_))
    refine Bk ?_
    refine DW.whileO (fun (s1 : (List Task) × Int) => mkSt [(1, pI p1), (2, pI p2), (6, rr 1048), (10, rr 1080), (11, pI s1.2)] [(c93e2), (1080, bx [ow 1264 r7.tree.nodes.length, pI r7.tree.next, ow 1265 s1.1.length, pI r7.next]), (1264, ob0 (roNode r7.tree.nodes)), (1265, ob0 (roTask s1.1))]) hm Conv.eqK ?_
    intro s1 n1 hm
    unfold Place_ref6L1 at hm
    refine Sq (Sq (RD hnt (nn 5 []) [] [(38, pB (decide (s1.2 < ((s1.1.length : Nat) : Int))))] [] [] tv ?_))
    refine condM hm ?_ ?_
    ·intro h14 hm
     refine Sk ?_
     refine Sq ?_
     refine Jn (ι := List Task) (fun (y3 : List Task) => mkSt [(1, pI p1), (2, pI p2), (6, rr 1048), (10, rr 1080), (11, pI s1.2)] [(c93e2), (1080, bx [ow 1264 r7.tree.nodes.length, pI r7.tree.next, ow 1265 y3.length, pI r7.next]), (1264, ob0 (roNode r7.tree.nodes)), (1265, ob0 (roTask y3))]) (fun y3 => (Place_ref6J3 s1 n1) y3 = some RES) ?_ ?_
     ·intro y3 hm
      unfold Place_ref6J3 at hm
      refine RD hnt (nn 3 []) [] [(11, pI (w64 (s1.2 + 1)))] [] [] tv ?_
      exact jD (y3, (w64 (s1.2 + 1))) hm Conv.eqK
     ·refine Bk ?_
      obtain ⟨g15, g16, hm⟩ := go2 hm
      refine Sq (RD hnt (nn 8 []) [38] [(48, pB ((s1.1.getD (Int.toNat s1.2) dTask).id == p1))] [] [] (an g15.1 (an g15.2 (an g16 tv))) ?_)
      refine condM hm ?_ ?_
      ·intro h17 hm
       obtain ⟨g18, g19, hm⟩ := go2 hm
       refine RN hnt (nn 7 []) [(1, pI p1), (2, pI p2), (6, rr 1048), (10, rr 1080), (11, pI s1.2)] [(c93e2), (1080, bx [ow 1264 r7.tree.nodes.length, pI r7.tree.next, ow 1265 (s1.1.set (Int.toNat s1.2) (c93e1 s1 p2)).length, pI r7.next]), (1264, ob0 (roNode r7.tree.nodes)), (1265, ob0 (roTask (s1.1.set (Int.toNat s1.2) (c93e1 s1 p2))))] [] [(1080, .box [ow 1264 r7.tree.nodes.length, pI r7.tree.next, ow 1265 s1.1.length, pI r7.next]), (1265, .row 4 s1.1.length (c93e3 s1 p2))] (an g18.1 (an g18.2 (an g19 tv))) (by kernel_rfl) .nil (.cons rfl (.box (.cons .rfl (.cons .rfl (.cons (MLe.ownLen (enc := encTask) (d := dTask) (f := (c93e3 s1 p2)) (RowIs.upd RowIs.elems (c93e1 s1 p2) rfl)) (.cons .rfl .nil))))) (.cons rfl (BLe.typed (RowIs.upd RowIs.elems (c93e1 s1 p2) rfl)) .nil)) ?_
       exact bD (s1.1.set (Int.toNat s1.2) (c93e1 s1 p2)) hm .refl
      ·intro h17 hm
       refine Sk ?_
       exact bD s1.1 hm Conv.t0
    ·intro h14 hm
     refine DW.exit ?_
     refine joinQ_exit ?_
     refine KQ_exit ?_
     refine blockQ_exit ?_
     show DW _ _ _ _ _
     refine Sq (RD hnt (nn 3 []) [1, 2, 10, 11, 38] [(7, pI 0)] [1080] [(1048, bx [ow 1264 r7.tree.nodes.length, pI r7.tree.next, ow 1265 s1.1.length, pI r7.next])] tv ?_)
     obtain rfl := sj hm
     exact DW.ret (retK [roNode r7.tree.nodes, roTask s1.1] [1264, 1265] (.tup [.agg [ow 0 r7.tree.nodes.length, pI r7.tree.next, ow 1 s1.1.length, pI r7.next], pI 0]))
  ·rcases bt (!r3.2) with h4 | h4
   ·replace hm := if_t h4 hm
    refine RD hnt (nn 3 (sk 5 (pT :: []))) [9] [(30, pB true)] [] [] (an6 h4 tv) ?_
    exact jD true hm Conv.eqK
   ·replace hm := if_f h4 hm
    obtain ⟨r5, hr5, hm⟩ := bo hm
    refine RD hnt (nn 6 (o15 [] true r5 :: .no :: pF :: [])) [9] [(30, pB (!r5))] [] [] (an4 h4 (an (Has_ref5Spec p0.tree p2 r5 hr5) (an2 h4 tv))) ?_
    exact jD (!r5) hm Conv.eqK
abbrev o93 (ks : List Nat) (b : Bool) (RES : Hierarchy × Int) : Orc := .call 70 ks b (.tup [.agg [ow 0 RES.1.tree.nodes.length, pI RES.1.tree.next, ow 1 RES.1.tasks.length, pI RES.1.next], pI RES.2]) [] [roNode RES.1.tree.nodes, roTask RES.1.tasks]

abbrev c92e1 : Nat × Obj := (1048, bx [ow 100000 0, pI 0, ow 100001 0, pI 0])
abbrev c92e2 : Nat × Obj := (1048, bx [.p (.sl .nil 0 0 (fun _ => [])), pI 0, .p (.sl .nil 0 0 (fun _ => [])), pI 0])
theorem AttachThread_ref8Spec (p0 : Hierarchy) (p1 : Int) (p2 : Int) (RES : Hierarchy × Int) (hm : AttachThread_ref8 p0 p1 p2 = some RES) : Spec Tryz.prog 83 [.p (.agg (encHierarchy p0)), pI p1, pI p2] [] (.tup [.agg [ow 0 RES.1.tree.nodes.length, pI RES.1.tree.next, ow 1 RES.1.tasks.length, pI RES.1.next], pI RES.2]) [] [roNode RES.1.tree.nodes, roTask RES.1.tasks] := by
 unfold AttachThread_ref8 at hm
 refine SO Tryz.func83 rfl rfl [(0, .p (.agg (encHierarchy p0))), (1, pI p1), (2, pI p2)] [] ?_
 intro cx hnt
 refine Sq (RD hnt (nn 3 []) [0] [(3, rr 1024), (6, rr 1048)] [] [(1024, bx (pm (encHierarchy p0))), (c92e2)] tv ?_)
 obtain ⟨r1, hr1, hm⟩ := bo hm
 refine Sq (Sq (RD hnt (.no :: o7 [] true r1 :: .no :: []) [] [(17, pB (!r1))] [] [] (an (Fits_ref8Spec p0 r1 hr1) tv) ?_))
 refine condM hm ?_ ?_
 ·intro h2 hm
  refine Sq (RD hnt (nn 3 []) [1, 2, 3, 17] [(7, pI 1)] [1024] [] tv ?_)
  refine DW.cv [] [] [] [(c92e1), (100000, ob0 (roNode [])), (100001, ob0 (roTask []))] (Conv.ads [(.o 1048 0, 100000, 6, elems encNode dNode []), (.o 1048 2, 100001, 4, elems encTask dTask [])]) ?_
  obtain rfl := sj hm
  exact DW.ret (retK [roNode [], roTask []] [100000, 100001] (.tup [.agg [ow 0 0, pI 0, ow 1 0, pI 0], pI 1]))
 ·intro h2 hm
  refine Sk ?_
  obtain ⟨r3, hr3, hm⟩ := bo hm
  refine Sq (RD hnt (nn 2 (o20 [] true r3 :: nn 6 [])) [17] [(8, rr 1064), (9, pB r3.2)] [] [(1064, bx (pm (encTask r3.1)))] (an (Find_ref6Spec p0 p1 r3 hr3) tv) ?_)
  refine Sq (Sq ?_)
  refine Jn (ι := Bool) (fun (y1 : Bool) => mkSt [(1, pI p1), (2, pI p2), (3, rr 1024), (6, rr 1048), (8, rr 1064), (33, pB y1)] [(1024, bx (pm (encHierarchy p0))), (c92e2), (1064, bx (pm (encTask r3.1)))]) (fun y1 => (AttachThread_ref8J1 p0 p1 p2 r3) y1 = some RES) ?_ ?_
  ·intro y1 hm
   unfold AttachThread_ref8J1 at hm
   refine condM hm ?_ ?_
   ·intro h6 hm
    refine Sq (RD hnt (nn 3 []) [1, 2, 3, 8, 33] [(7, pI 4)] [1024, 1064] [] tv ?_)
    refine DW.cv [] [] [] [(c92e1), (100000, ob0 (roNode [])), (100001, ob0 (roTask []))] (Conv.ads [(.o 1048 0, 100000, 6, elems encNode dNode []), (.o 1048 2, 100001, 4, elems encTask dTask [])]) ?_
    obtain rfl := sj hm
    exact DW.ret (retK [roNode [], roTask []] [100000, 100001] (.tup [.agg [ow 0 0, pI 0, ow 1 0, pI 0], pI 4]))
   ·intro h6 hm
    refine Sk ?_
    obtain ⟨r7, hr7, hm⟩ := bo hm
    refine Sq (Sq (RD hnt (nn 2 (o89 [] true r7 :: .no :: [])) [33] [(10, pI r7)] [] [] (an (Admits_ref8Spec p0 p2 r7 hr7) tv) ?_))
    refine Sq (RD hnt (nn 2 []) [] [(39, pB (r7 != 0))] [] [] tv ?_)
    refine condM hm ?_ ?_
    ·intro h8 hm
     refine Sq (RD hnt (nn 4 []) [1, 2, 3, 8, 10, 39] [(7, pI r7)] [1024, 1064] [] tv ?_)
     refine DW.cv [] [] [] [(c92e1), (100000, ob0 (roNode [])), (100001, ob0 (roTask []))] (Conv.ads [(.o 1048 0, 100000, 6, elems encNode dNode []), (.o 1048 2, 100001, 4, elems encTask dTask [])]) ?_
     obtain rfl := sj hm
     exact DW.ret (retK [roNode [], roTask []] [100000, 100001] (.tup [.agg [ow 0 0, pI 0, ow 1 0, pI 0], pI r7]))
    ·intro h8 hm
     refine Sk ?_
     obtain ⟨r9, hr9, hm⟩ := bo hm
     refine Sq (RD hnt (nn 3 (o21 [] true r9 :: nn 5 [])) [10, 39] [(11, pI r9.1)] [] [] (an (Domain_ref8Spec p0.tree p2 r9 hr9) tv) ?_)
     obtain ⟨r10, hr10, hm⟩ := bo hm
     refine Sq (Sq (RD hnt (nn 4 (o21 [] true r10 :: nn 5 [])) [8] [(13, pI r10.1)] [1064] [] (an (Domain_ref8Spec p0.tree r3.1.group r10 hr10) tv) ?_))
     refine Sq (RD hnt (nn 3 []) [11, 13] [(59, pB (r9.1 != r10.1))] [] [] tv ?_)
     refine condM hm ?_ ?_
     ·intro h11 hm
      refine Sq (RD hnt (nn 3 []) [1, 2, 3, 59] [(7, pI 9)] [1024] [] tv ?_)
      refine DW.cv [] [] [] [(c92e1), (100000, ob0 (roNode [])), (100001, ob0 (roTask []))] (Conv.ads [(.o 1048 0, 100000, 6, elems encNode dNode []), (.o 1048 2, 100001, 4, elems encTask dTask [])]) ?_
      obtain rfl := sj hm
      exact DW.ret (retK [roNode [], roTask []] [100000, 100001] (.tup [.agg [ow 0 0, pI 0, ow 1 0, pI 0], pI 9]))
     ·intro h11 hm
      refine Sk ?_
      obtain ⟨r12, hr12, hm⟩ := bo hm
      refine Sq (RK hnt (nn 3 (o93 [] true r12 :: nn 4 [])) [(6, rr 1048), (7, pI r12.2)] [(1048, bx [ow 1512 r12.1.tree.nodes.length, pI r12.1.tree.next, ow 1513 r12.1.tasks.length, pI r12.1.next]), (1512, ob0 (roNode r12.1.tree.nodes)), (1513, ob0 (roTask r12.1.tasks))] (an (Place_ref6Spec p0 p1 p2 r12 hr12) tv) ?_)
      obtain rfl := sj hm
      exact DW.ret (retK [roNode r12.1.tree.nodes, roTask r12.1.tasks] [1512, 1513] (.tup [.agg [ow 0 r12.1.tree.nodes.length, pI r12.1.tree.next, ow 1 r12.1.tasks.length, pI r12.1.next], pI r12.2]))
  ·rcases bt (!r3.2) with h4 | h4
   ·replace hm := if_t h4 hm
    refine RD hnt (nn 3 (sk 5 (pT :: []))) [9] [(33, pB true)] [] [] (an6 h4 tv) ?_
    exact jD true hm Conv.eqK
   ·replace hm := if_f h4 hm
    obtain ⟨r5, hr5, hm⟩ := bo hm
    refine RD hnt (nn 6 (o15 [] true r5 :: .no :: pF :: [])) [9] [(33, pB (!r5))] [] [] (an4 h4 (an (Has_ref5Spec p0.tree p2 r5 hr5) (an2 h4 tv))) ?_
    exact jD (!r5) hm Conv.eqK
abbrev o92 (ks : List Nat) (b : Bool) (RES : Hierarchy × Int) : Orc := .call 83 ks b (.tup [.agg [ow 0 RES.1.tree.nodes.length, pI RES.1.tree.next, ow 1 RES.1.tasks.length, pI RES.1.next], pI RES.2]) [] [roNode RES.1.tree.nodes, roTask RES.1.tasks]

abbrev c94e1 (p0 : Hierarchy) (k1 : Nat) := (p0.tasks.getD k1 (default : Task))
abbrev c94e2 : Nat × Obj := (1032, bx [.p (.sl .nil 0 0 (fun _ => [])), pI 0, .p (.sl .nil 0 0 (fun _ => [])), pI 0])
abbrev c94e3 (p0 : Hierarchy) : Nat × Obj := (1016, bx (pm (encHierarchy p0)))
abbrev c94e4 (r5 : Tree) : Nat × Obj := (1208, ob0 (roNode r5.nodes))
theorem Exit_ref6Spec (p0 : Hierarchy) (p1 : Int) (RES : Hierarchy × Int) (hm : Exit_ref6 p0 p1 = some RES) : Spec Tryz.prog 68 [.p (.agg (encHierarchy p0)), pI p1] [] (.tup [.agg [ow 0 RES.1.tree.nodes.length, pI RES.1.tree.next, ow 1 RES.1.tasks.length, pI RES.1.next], pI RES.2]) [] [roNode RES.1.tree.nodes, roTask RES.1.tasks] := by
 unfold Exit_ref6 at hm
 refine SO Tryz.func68 rfl rfl [(0, .p (.agg (encHierarchy p0))), (1, pI p1)] [] ?_
 intro cx hnt
 refine Sq (RK hnt (nn 3 []) [(1, pI p1), (2, rr 1016), (4, rr 1032)] [(c94e3 p0), (c94e2)] tv ?_)
 obtain ⟨r1, hr1, hm⟩ := bo hm
 refine Sq (Sq (RD hnt (.no :: o9 [] true r1 :: .no :: []) [] [(13, pB (!r1))] [] [] (an (Check_ref6Spec p0 r1 hr1) tv) ?_))
 refine condM hm ?_ ?_
 ·intro h2 hm
  refine Sq (RD hnt (nn 3 []) [1, 2, 13] [(5, pI 1)] [1016] [] tv ?_)
  refine DW.cv [] [] [] [(1032, bx [ow 100000 0, pI 0, ow 100001 0, pI 0]), (100000, ob0 (roNode [])), (100001, ob0 (roTask []))] (Conv.ads [(.o 1032 0, 100000, 6, elems encNode dNode []), (.o 1032 2, 100001, 4, elems encTask dTask [])]) ?_
  obtain rfl := sj hm
  exact DW.ret (retK [roNode [], roTask []] [100000, 100001] (.tup [.agg [ow 0 0, pI 0, ow 1 0, pI 0], pI 1]))
 ·intro h2 hm
  refine Sk ?_
  obtain ⟨r3, hr3, hm⟩ := bo hm
  refine Sq (Sq (RD hnt (nn 2 (o20 [] true r3 :: nn 6 [])) [13] [(7, pB r3.2)] [] [] (an (Find_ref6Spec p0 p1 r3 hr3) tv) ?_))
  refine Sq (RD hnt (nn 2 []) [7] [(22, pB (!r3.2))] [] [] tv ?_)
  refine condM hm ?_ ?_
  ·intro h4 hm
   refine Sq (RD hnt (nn 3 []) [1, 2, 22] [(5, pI 4)] [1016] [] tv ?_)
   refine DW.cv [] [] [] [(1032, bx [ow 100000 0, pI 0, ow 100001 0, pI 0]), (100000, ob0 (roNode [])), (100001, ob0 (roTask []))] (Conv.ads [(.o 1032 0, 100000, 6, elems encNode dNode []), (.o 1032 2, 100001, 4, elems encTask dTask [])]) ?_
   obtain rfl := sj hm
   exact DW.ret (retK [roNode [], roTask []] [100000, 100001] (.tup [.agg [ow 0 0, pI 0, ow 1 0, pI 0], pI 4]))
  ·intro h4 hm
   refine Sk ?_
   obtain ⟨r5, hr5, hm⟩ := bo hm
   refine Sq (RD hnt (nn 2 (o27 [] true r5 :: nn 5 [])) [22] [(8, rr 1064)] [] [(1064, bx [ow 1208 r5.nodes.length, pI r5.next, .p (.sl .nil 0 0 (fun _ => [])), pI p0.next]), (c94e4 r5)] (an (Copy_ref5Spec p0.tree r5 hr5) tv) ?_)
   refine Sq (Sq (RD hnt (.no :: []) [] [(9, pI 0)] [] [] tv ?_))
   refine Bk ?_
   obtain ⟨hc1, hm⟩ := go1 hm
   refine DW.rangeO (fun (k1 : Nat) (s1 : List Task) => mkSt [(1, pI p1), (2, rr 1016), (4, rr 1032), (8, rr 1064), (9, pI ((k1 : Nat) : Int))] [(c94e3 p0), (c94e2), (1064, bx [ow 1208 r5.nodes.length, pI r5.next, ow 1448 s1.length, pI p0.next]), (c94e4 r5), (1448, ob0 (roTask s1))]) dTask hm (Conv.ads [(.o 1064 2, 1448, 4, elems encTask dTask [])]) ?_
   intro k1 s1 n1 hk1 hs1 he1
   refine Sq (Sq (RD hnt (nn 5 []) [] [(34, pB (decide (((k1 : Nat) : Int) < ((p0.tasks.length : Nat) : Int))))] [] [] tv ?_))
   refine condK (decide (((k1 : Nat) : Int) < ((p0.tasks.length : Nat) : Int))) ?_ ?_
   ·intro h15
    have hlt1 : k1 < p0.tasks.length := by have := of_decide_eq_true h15; omega
    have hm := hs1 hlt1
    unfold Exit_ref6L1 at hm
    refine Sk ?_
    refine Sq ?_
    refine Jn (ι := List Task) (fun (y3 : List Task) => mkSt [(1, pI p1), (2, rr 1016), (4, rr 1032), (8, rr 1064), (9, pI ((k1 : Nat) : Int))] [(c94e3 p0), (c94e2), (1064, bx [ow 1208 r5.nodes.length, pI r5.next, ow 1448 y3.length, pI p0.next]), (c94e4 r5), (1448, ob0 (roTask y3))]) (fun y3 => (Exit_ref6J3 n1) y3 = some RES) ?_ ?_
    ·intro y3 hm
     unfold Exit_ref6J3 at hm
     refine RD hnt (nn 3 []) [] [(9, pI (w64 (((k1 : Nat) : Int) + 1)))] [] [] tv ?_
     exact jD y3 ⟨hlt1, hm⟩ (Conv.tp [(9, pI (w64 (((k1 : Nat) : Int) + 1)))] [] (by kernel_rfl) (.cons rfl (.of_eq (congrArg pI (w64_succ hlt1 hc1))) .nil) .nil)
    ·refine Bk ?_
     refine Sq (RD hnt (nn 7 []) [34] [(10, rr 1080)] [] [(1080, bx (pm (encTask (c94e1 p0 k1))))] (an (nn0 k1) (an (ltc hlt1) tv)) ?_)
     refine Sq (DW.regJ (sl2 := [(1, pI p1), (2, rr 1016), (4, rr 1032), (8, rr 1064), (9, pI ((k1 : Nat) : Int)), (10, rr 1080), (51, pB (((c94e1 p0 k1).id != p1) && ((c94e1 p0 k1).process != p1)))]) (ob2 := [(c94e3 p0), (c94e2), (1064, bx [ow 1208 r5.nodes.length, pI r5.next, ow 1448 s1.length, pI p0.next]), (1080, bx (pm (encTask (c94e1 p0 k1)))), (c94e4 r5), (1448, ob0 (roTask s1))]) ?_ ?_)
     ·rcases bt ((c94e1 p0 k1).id != p1) with h16 | h16
      ·exact RT hnt (nn 9 (pT :: [])) [(51, pB ((c94e1 p0 k1).process != p1))] (an5 h16 tv) (by kernel_rfl) (.cons rfl (.of_eq (by rw [h16]; try rfl)) .nil)
      ·exact RT hnt (nn 5 (sk 4 (pF :: []))) [(51, pB false)] (an5 h16 tv) (by kernel_rfl) (.cons rfl (.of_eq (by rw [h16]; try rfl)) .nil)
     ·refine condM hm ?_ ?_
      ·intro h17 hm
       obtain ⟨g18, hm⟩ := go1 hm
       refine RN hnt (nn 7 []) [(1, pI p1), (2, rr 1016), (4, rr 1032), (8, rr 1064), (9, pI ((k1 : Nat) : Int))] [(c94e3 p0), (c94e2), (1064, bx [ow 1208 r5.nodes.length, pI r5.next, ow 1448 (s1 ++ [(c94e1 p0 k1)]).length, pI p0.next]), (c94e4 r5), (1448, ob0 (roTask (s1 ++ [(c94e1 p0 k1)])))] [] [(1064, .box [ow 1208 r5.nodes.length, pI r5.next, ow 1448 (s1.length + 1), pI p0.next]), (1448, .row 4 (s1.length + 1) (catF s1.length (elTask s1) (cut 4 [vi (c94e1 p0 k1).id, vi (c94e1 p0 k1).process, vi (c94e1 p0 k1).group, vi (c94e1 p0 k1).user])))] (an (by omega : (s1.length + 1) * 32 ≤ 140737488355328) tv) (by kernel_rfl) .nil (.cons rfl (.box (.cons .rfl (.cons .rfl (.cons (MLe.ownLen (enc := encTask) (d := dTask) (f := (catF s1.length (elTask s1) (cut 4 [vi (c94e1 p0 k1).id, vi (c94e1 p0 k1).process, vi (c94e1 p0 k1).group, vi (c94e1 p0 k1).user]))) (RowIs.cat RowIs.elems (RowIs.lit (enc := encTask) (d := dTask) (n := 1) (f := (cut 4 [vi (c94e1 p0 k1).id, vi (c94e1 p0 k1).process, vi (c94e1 p0 k1).group, vi (c94e1 p0 k1).user])) [(c94e1 p0 k1)] rfl (fun | 0, _ => rfl | n + 1, h => absurd h (by omega))))) (.cons .rfl .nil))))) (.cons rfl (BLe.typed (RowIs.cat RowIs.elems (RowIs.lit (enc := encTask) (d := dTask) (n := 1) (f := (cut 4 [vi (c94e1 p0 k1).id, vi (c94e1 p0 k1).process, vi (c94e1 p0 k1).group, vi (c94e1 p0 k1).user])) [(c94e1 p0 k1)] rfl (fun | 0, _ => rfl | n + 1, h => absurd h (by omega))))) .nil)) ?_
       exact bD (s1 ++ [(c94e1 p0 k1)]) hm .refl
      ·intro h17 hm
       refine Sk ?_
       exact bD s1 hm Conv.t0
   ·intro h15
    have hge1 : ¬ k1 < p0.tasks.length := by have := of_decide_eq_false h15; omega
    have hm := he1 hge1
    unfold Exit_ref6D1 at hm
    refine DW.exit ?_
    refine joinQ_exit ?_
    refine KQ_exit ?_
    refine blockQ_exit ?_
    show DW _ _ _ _ _
    refine Sq (RD hnt (nn 3 []) [1, 2, 8, 9, 34] [(5, pI 0)] [1016, 1064] [(1032, bx [ow 1208 r5.nodes.length, pI r5.next, ow 1448 s1.length, pI p0.next])] tv ?_)
    obtain rfl := sj hm
    exact DW.ret (retK [roNode r5.nodes, roTask s1] [1208, 1448] (.tup [.agg [ow 0 r5.nodes.length, pI r5.next, ow 1 s1.length, pI p0.next], pI 0]))
abbrev o94 (ks : List Nat) (b : Bool) (RES : Hierarchy × Int) : Orc := .call 68 ks b (.tup [.agg [ow 0 RES.1.tree.nodes.length, pI RES.1.tree.next, ow 1 RES.1.tasks.length, pI RES.1.next], pI RES.2]) [] [roNode RES.1.tree.nodes, roTask RES.1.tasks]

abbrev c75e1 : Nat × Obj := (1048, bx [.p (.sl .nil 0 0 (fun _ => [])), pI 0, .p (.sl .nil 0 0 (fun _ => [])), pI 0])
theorem Hierarchy_Dice_madeSpec (p0 : Dice) (p1 : Int) (p2 : Int) (RES : Hierarchy × Dice) (hm : Hierarchy_Dice_made p0 p1 p2 = some RES) : Spec Tryz.prog 17 [rr 0, pI p1, pI p2] [.box (pm (encDice p0))] (.p (.agg (encHierarchy RES.1))) [.box (pm (encDice RES.2))] [] := by
 unfold Hierarchy_Dice_made at hm
 refine SO Tryz.func17 rfl rfl [(0, rr 0), (1, pI p1), (2, pI p2)] [(0, bx (pm (encDice p0)))] ?_
 intro cx hnt
 refine Sq (RD hnt (.no :: []) [] [(6, rr 1048)] [] [(c75e1)] tv ?_)
 obtain ⟨r1, hr1, hm⟩ := bo hm
 refine Sq (RD hnt (o4 [] true r1 :: nn 2 []) [] [(7, rr 1056)] [] [(1056, bx [ow 1168 r1.tree.nodes.length, pI r1.tree.next, ow 1169 r1.tasks.length, pI r1.next]), (1168, ob0 (roNode r1.tree.nodes)), (1169, ob0 (roTask r1.tasks))] (an (New_ref6Spec r1 hr1) tv) ?_)
 obtain ⟨r2, hr2, hm⟩ := bo hm
 refine Sq (RD hnt (nn 2 (o76 [0] true r2 :: nn 2 [])) [] [] [1168] [(0, bx (pm (encDice r2.2))), (1056, bx [.p (slNode r2.1.nodes), pI r2.1.next, ow 1169 r1.tasks.length, pI r1.next])] (an (Tree_Dice_madeSpec p0 p1 r2 hr2) (an tv tv)) ?_)
 obtain ⟨r3, hr3, hm⟩ := bo hm
 refine Sq (Sq (RD hnt (nn 3 (o77 [0] true r3 :: .no :: [])) [1] [(8, pI r3.1)] [] [(0, bx (pm (encDice r3.2)))] (an (Next_Dice_madeSpec r2.2 (w64 (p1 + 3)) r3 hr3) (an tv tv)) ?_))
 refine Bk ?_
 refine DW.whileO (fun (s1 : Dice × Hierarchy × Int) => mkSt [(0, rr 0), (2, pI p2), (6, rr 1048), (7, rr 1056), (8, pI s1.2.2)] [(0, bx (pm (encDice s1.1))), (c75e1), (1056, bx (pm (encHierarchy s1.2.1)))]) hm (Conv.frz [1169]) ?_
 intro s1 n1 hm
 unfold Hierarchy_Dice_madeL1 at hm
 refine Sq (Sq (RD hnt (nn 2 []) [] [(31, pB (decide (s1.2.2 > 0)))] [] [] tv ?_))
 refine condM hm ?_ ?_
 ·intro h56 hm
  refine Sk ?_
  refine Sq (Bk ?_)
  obtain ⟨r57, hr57, hm⟩ := bo hm
  refine RD hnt (nn 2 (o81 [0] true r57 :: .no :: [])) [31] [] [] [(0, bx (pm (encDice r57.2))), (1056, bx (pm (encHierarchy r57.1)))] (an (step_Dice_madeSpec s1.1 s1.2.1 r57 hr57) (an tv tv)) ?_
  refine DW.done ?_
  show DW _ _ _ _ _
  refine RD hnt (nn 3 []) [] [(8, pI (w64 (s1.2.2 - 1)))] [] [] tv ?_
  exact jD (r57.2, r57.1, (w64 (s1.2.2 - 1))) hm Conv.eqK
 ·intro h56 hm
  refine DW.exit ?_
  refine joinQ_exit ?_
  refine KQ_exit ?_
  refine blockQ_exit ?_
  show DW _ _ _ _ _
  obtain ⟨r58, hr58, hm⟩ := bo hm
  refine Sq (Sq (RD hnt (nn 3 (o77 [0] true r58 :: .no :: [])) [2, 8, 31] [(9, pI r58.1)] [] [(0, bx (pm (encDice r58.2)))] (an (Next_Dice_madeSpec s1.1 (w64 (p2 + 1)) r58 hr58) (an tv tv)) ?_))
  refine Bk ?_
  refine DW.whileO (fun (s3 : Dice × Hierarchy × Int) => mkSt [(0, rr 0), (6, rr 1048), (7, rr 1056), (9, pI s3.2.2)] [(0, bx (pm (encDice s3.1))), (c75e1), (1056, bx (pm (encHierarchy s3.2.1)))]) hm Conv.eqK ?_
  intro s3 n3 hm
  unfold Hierarchy_Dice_madeL3 at hm
  refine Sq (Sq (RD hnt (nn 2 []) [] [(42, pB (decide (s3.2.2 > 0)))] [] [] tv ?_))
  refine condM hm ?_ ?_
  ·intro h82 hm
   refine Sk ?_
   refine Sq ?_
   refine Jn (ι := Dice × Hierarchy) (fun (y13 : Dice × Hierarchy) => mkSt [(0, rr 0), (6, rr 1048), (7, rr 1056), (9, pI s3.2.2)] [(0, bx (pm (encDice y13.1))), (c75e1), (1056, bx (pm (encHierarchy y13.2)))]) (fun y13 => (Hierarchy_Dice_madeJ13 s3 n3) y13 = some RES) ?_ ?_
   ·intro y13 hm
    unfold Hierarchy_Dice_madeJ13 at hm
    refine RD hnt (nn 3 []) [] [(9, pI (w64 (s3.2.2 - 1)))] [] [] tv ?_
    exact jD (y13.1, y13.2, (w64 (s3.2.2 - 1))) hm Conv.eqK
   ·refine Bk ?_
    obtain ⟨r83, hr83, hm⟩ := bo hm
    refine Sq (RD hnt (nn 3 (o82 [0] true r83 :: .no :: [])) [42] [(10, pI r83.1)] [] [(0, bx (pm (encDice r83.2)))] (an (Group_Dice_madeSpec s3.1 s3.2.1.tree r83 hr83) (an tv tv)) ?_)
    obtain ⟨r84, hr84, hm⟩ := bo hm
    refine Sq (Sq (RD hnt (nn 2 (o89 [] true r84 :: .no :: [])) [] [(52, pB (r84 != 0))] [] [] (an (Admits_ref8Spec s3.2.1 r83.1 r84 hr84) tv) ?_))
    refine condM hm ?_ ?_
    ·intro h85 hm
     refine DW.exit ?_
     exact blockQ_exit (joinKQ (r83.2, s3.2.1) hm Conv.t0)
    ·intro h85 hm
     refine Sk ?_
     obtain ⟨r86, hr86, hm⟩ := bo hm
     obtain ⟨r87, hr87, hm⟩ := bo hm
     refine Sq (Sq (RD hnt (nn 3 (o77 [0] true r86 :: o29 [] true r87 :: nn 8 [])) [10, 52] [(11, rr 1088), (13, pI r87.2.2)] [] [(0, bx (pm (encDice r86.2))), (1088, bx [ow 1464 r87.1.tree.nodes.length, pI r87.1.tree.next, ow 1465 r87.1.tasks.length, pI r87.1.next]), (1464, ob0 (roNode r87.1.tree.nodes)), (1465, ob0 (roTask r87.1.tasks))] (an (Next_Dice_madeSpec r83.2 3 r86 hr86) (an tv (an (Spawn_ref6Spec s3.2.1 r83.1 r86.1 r87 hr87) tv))) ?_))
     refine Sq (RD hnt (nn 2 []) [13] [(63, pB (r87.2.2 == 0))] [] [] tv ?_)
     refine Jn (ι := Hierarchy) (fun (y14 : Hierarchy) => mkSt [(0, rr 0), (6, rr 1048), (7, rr 1056), (9, pI s3.2.2)] [(0, bx (pm (encDice r86.2))), (c75e1), (1056, bx (pm (encHierarchy y14)))]) (fun y14 => (Hierarchy_Dice_madeJ14 s3 n3 r86) y14 = some RES) ?_ ?_
     ·intro y14 hm
      unfold Hierarchy_Dice_madeJ14 at hm
      obtain ⟨r89, hr89, hm⟩ := bo hm
      refine Sq (Sq (RD hnt (.no :: o79 [0] true r89 :: []) [] [(66, pB r89.1)] [] [(0, bx (pm (encDice r89.2)))] (an (Bool_Dice_madeSpec r86.2 3 r89 hr89) (an tv tv)) ?_))
      refine Jn (ι := Dice × Hierarchy) (fun (y15 : Dice × Hierarchy) => mkSt [(0, rr 0), (6, rr 1048), (7, rr 1056), (9, pI s3.2.2)] [(0, bx (pm (encDice y15.1))), (c75e1), (1056, bx (pm (encHierarchy y15.2)))]) (fun y15 => (Hierarchy_Dice_madeJ15 s3 n3) y15 = some RES) ?_ ?_
      ·intro y15 hm
       unfold Hierarchy_Dice_madeJ15 at hm
       obtain ⟨r94, hr94, hm⟩ := bo hm
       refine Sq (Sq (RD hnt (.no :: o79 [0] true r94 :: []) [] [(80, pB r94.1)] [] [(0, bx (pm (encDice r94.2)))] (an (Bool_Dice_madeSpec y15.1 4 r94 hr94) (an tv tv)) ?_))
       refine Jn (ι := Dice × Hierarchy) (fun (y16 : Dice × Hierarchy) => mkSt [(0, rr 0), (6, rr 1048), (7, rr 1056), (9, pI s3.2.2)] [(0, bx (pm (encDice y16.1))), (c75e1), (1056, bx (pm (encHierarchy y16.2)))]) (fun y16 => (Hierarchy_Dice_madeJ16 s3 n3) y16 = some RES) ?_ ?_
       ·intro y16 hm
        unfold Hierarchy_Dice_madeJ16 at hm
        obtain ⟨r100, hr100, hm⟩ := bo hm
        refine Sq (RD hnt (.no :: o79 [0] true r100 :: []) [] [(97, pB r100.1)] [] [(0, bx (pm (encDice r100.2)))] (an (Bool_Dice_madeSpec y16.1 8 r100 hr100) (an tv tv)) ?_)
        refine condM hm ?_ ?_
        ·intro h101 hm
         obtain ⟨r102, hr102, hm⟩ := bo hm
         obtain ⟨r103, hr103, hm⟩ := bo hm
         refine Sq (RD hnt (nn 3 (o90 [0] true r102 :: o94 [] true r103 :: nn 6 [])) [97] [(19, rr 1152), (20, pI r103.2)] [] [(0, bx (pm (encDice r102.2))), (1152, bx [ow 1824 r103.1.tree.nodes.length, pI r103.1.tree.next, ow 1825 r103.1.tasks.length, pI r103.1.next]), (1824, ob0 (roNode r103.1.tree.nodes)), (1825, ob0 (roTask r103.1.tasks))] (an (Task_Dice_madeSpec r100.2 y16.2 r102 hr102) (an tv (an (Exit_ref6Spec y16.2 r102.1 r103 hr103) tv))) ?_)
         refine Sq (RD hnt (nn 2 []) [20] [(107, pB (r103.2 == 0))] [] [] tv ?_)
         refine condM hm ?_ ?_
         ·intro h104 hm
          refine RD hnt (nn 2 []) [19, 107] [] [1152] [(1056, bx [ow 1824 r103.1.tree.nodes.length, pI r103.1.tree.next, ow 1825 r103.1.tasks.length, pI r103.1.next])] tv ?_
          exact bD (r102.2, r103.1) hm (Conv.frz [1824, 1825])
         ·intro h104 hm
          refine Sk ?_
          exact bD (r102.2, y16.2) hm Conv.t0
        ·intro h101 hm
         refine Sk ?_
         exact bD (r100.2, y16.2) hm Conv.t0
       ·refine condM hm ?_ ?_
        ·intro h95 hm
         obtain ⟨r96, hr96, hm⟩ := bo hm
         obtain ⟨r97, hr97, hm⟩ := bo hm
         obtain ⟨r98, hr98, hm⟩ := bo hm
         refine Sq (RD hnt (nn 3 (o90 [0] true r96 :: nn 3 (o82 [0] true r97 :: o92 [] true r98 :: nn 6 []))) [80] [(17, rr 1136), (18, pI r98.2)] [] [(0, bx (pm (encDice r97.2))), (1136, bx [ow 1720 r98.1.tree.nodes.length, pI r98.1.tree.next, ow 1721 r98.1.tasks.length, pI r98.1.next]), (1720, ob0 (roNode r98.1.tree.nodes)), (1721, ob0 (roTask r98.1.tasks))] (an (Task_Dice_madeSpec r94.2 y15.2 r96 hr96) (an tv (an (Group_Dice_madeSpec r96.2 y15.2.tree r97 hr97) (an tv (an (AttachThread_ref8Spec y15.2 r96.1 r97.1 r98 hr98) tv))))) ?_)
         refine Sq (RD hnt (nn 2 []) [18] [(94, pB (r98.2 == 0))] [] [] tv ?_)
         refine condM hm ?_ ?_
         ·intro h99 hm
          refine RD hnt (nn 2 []) [17, 94] [] [1136] [(1056, bx [ow 1720 r98.1.tree.nodes.length, pI r98.1.tree.next, ow 1721 r98.1.tasks.length, pI r98.1.next])] tv ?_
          exact jD (r97.2, r98.1) hm (Conv.frz [1720, 1721])
         ·intro h99 hm
          refine Sk ?_
          exact jD (r97.2, y15.2) hm Conv.t0
        ·intro h95 hm
         refine Sk ?_
         exact jD (r94.2, y15.2) hm Conv.t0
      ·refine condM hm ?_ ?_
       ·intro h90 hm
        obtain ⟨r91, hr91, hm⟩ := bo hm
        obtain ⟨r92, hr92, hm⟩ := bo hm
        refine Sq (RD hnt (nn 3 (o90 [0] true r91 :: o91 [] true r92 :: nn 8 [])) [66] [(14, rr 1112), (16, pI r92.2.2)] [] [(0, bx (pm (encDice r91.2))), (1112, bx [ow 1576 r92.1.tree.nodes.length, pI r92.1.tree.next, ow 1577 r92.1.tasks.length, pI r92.1.next]), (1576, ob0 (roNode r92.1.tree.nodes)), (1577, ob0 (roTask r92.1.tasks))] (an (Task_Dice_madeSpec r89.2 y14 r91 hr91) (an tv (an (Clone_ref6Spec y14 r91.1 r92 hr92) tv))) ?_)
        refine Sq (RD hnt (nn 2 []) [16] [(77, pB (r92.2.2 == 0))] [] [] tv ?_)
        refine condM hm ?_ ?_
        ·intro h93 hm
         refine RD hnt (nn 2 []) [14, 77] [] [1112] [(1056, bx [ow 1576 r92.1.tree.nodes.length, pI r92.1.tree.next, ow 1577 r92.1.tasks.length, pI r92.1.next])] tv ?_
         exact jD (r91.2, r92.1) hm (Conv.frz [1576, 1577])
        ·intro h93 hm
         refine Sk ?_
         exact jD (r91.2, y14) hm Conv.t0
       ·intro h90 hm
        refine Sk ?_
        exact jD (r89.2, y14) hm Conv.t0
     ·refine condM hm ?_ ?_
      ·intro h88 hm
       refine RD hnt (nn 2 []) [11, 63] [] [1088] [(1056, bx [ow 1464 r87.1.tree.nodes.length, pI r87.1.tree.next, ow 1465 r87.1.tasks.length, pI r87.1.next])] tv ?_
       exact jD r87.1 hm (Conv.frz [1464, 1465])
      ·intro h88 hm
       refine Sk ?_
       exact jD s3.2.1 hm Conv.t0
  ·intro h82 hm
   refine DW.exit ?_
   refine joinQ_exit ?_
   refine KQ_exit ?_
   refine blockQ_exit ?_
   show DW _ _ _ _ _
   refine Sq (RD hnt (nn 2 []) [0, 7, 9, 42] [] [1056] [(1048, bx (pm (encHierarchy s3.2.1)))] tv ?_)
   obtain rfl := sj hm
   exact DW.ret (retK [.box (pm (encDice s3.1))] [] (.p (.agg (encHierarchy s3.2.1))))
abbrev o75 (ks : List Nat) (b : Bool) (RES : Hierarchy × Dice) : Orc := .call 17 ks b (.p (.agg (encHierarchy RES.1))) [.box (pm (encDice RES.2))] []

theorem Get_ref10Spec (p0 : List Count) (p1 : Int) (RES : Count × Bool) (hm : Get_ref10 p0 p1 = some RES) : Spec Tryz.prog 22 [.p (slCount p0), pI p1] [] (.p (.tup [.agg (encCount RES.1), vb RES.2])) [] [] := by
 unfold Get_ref10 at hm
 refine SO Tryz.func22 rfl rfl [(0, .p (slCount p0)), (1, pI p1)] [] ?_
 intro cx hnt
 refine Sq (RD hnt (nn 2 []) [] [(4, rr 1032)] [] [(1032, bx [pI 0, pI 0, pI 0, pI 0, pI 0])] tv ?_)
 refine Sq (Sq (RD hnt (.no :: []) [] [(6, pI 0)] [] [] tv ?_))
 refine Bk ?_
 obtain ⟨hc1, hm⟩ := go1 hm
 refine DW.rangeO (fun (k1 : Nat) (s1 : Unit) => mkSt [(0, .p (slCount p0)), (1, pI p1), (4, rr 1032), (6, pI ((k1 : Nat) : Int))] [(1032, bx [pI 0, pI 0, pI 0, pI 0, pI 0])]) dCount hm Conv.eqK ?_
 intro k1 s1 n1 hk1 hs1 he1
 refine Sq (Sq (RD hnt (nn 4 []) [] [(10, pB (decide (((k1 : Nat) : Int) < ((p0.length : Nat) : Int))))] [] [] tv ?_))
 refine condK (decide (((k1 : Nat) : Int) < ((p0.length : Nat) : Int))) ?_ ?_
 ·intro h9
  have hlt1 : k1 < p0.length := by have := of_decide_eq_true h9; omega
  have hm := hs1 hlt1
  unfold Get_ref10L1 at hm
  refine Sk ?_
  refine Sq (Bk ?_)
  refine Sq (RD hnt (nn 7 []) [10] [(19, pB ((p0.getD k1 (default : Count)).group == p1))] [] [] (an (nn0 k1) (an (ltc hlt1) tv)) ?_)
  refine condM hm ?_ ?_
  ·intro h10 hm
   refine Sq (RK hnt (nn 6 []) [(4, rr 1032), (5, pB true)] [(1032, bx (pm (encCount (p0.getD k1 (default : Count)))))] (an (nn0 k1) (an (ltc hlt1) tv)) ?_)
   obtain rfl := sj hm
   exact DW.ret (retK [] [] (.p (.tup [.agg (encCount (p0.getD k1 (default : Count))), vb true])))
  ·intro h10 hm
   refine Sk ?_
   refine DW.done ?_
   show DW _ _ _ _ _
   refine RD hnt (nn 3 []) [19] [(6, pI (w64 (((k1 : Nat) : Int) + 1)))] [] [] tv ?_
   exact jD () ⟨hlt1, hm⟩ (Conv.tp [(6, pI (w64 (((k1 : Nat) : Int) + 1)))] [] (by kernel_rfl) (.cons rfl (.of_eq (congrArg pI (w64_succ hlt1 hc1))) .nil) .nil)
 ·intro h9
  have hge1 : ¬ k1 < p0.length := by have := of_decide_eq_false h9; omega
  have hm := he1 hge1
  unfold Get_ref10D1 at hm
  refine DW.exit ?_
  refine joinQ_exit ?_
  refine KQ_exit ?_
  refine blockQ_exit ?_
  show DW _ _ _ _ _
  refine Sq (RD hnt (nn 3 []) [0, 1, 6, 10] [(5, pB false)] [] [] tv ?_)
  obtain rfl := sj hm
  exact DW.ret (retK [] [] (.p (.tup [.agg [vi 0, vi 0, vi 0, vi 0, vi 0], vb false])))
abbrev o98 (ks : List Nat) (b : Bool) (RES : Count × Bool) : Orc := .call 22 ks b (.p (.tup [.agg (encCount RES.1), vb RES.2])) [] []
end Go.Dm


/- Go functions compute their models, printed by a program. -/
namespace Go.Dm
open Go.Proofs
set_option linter.unusedVariables false
theorem Subtree_ref5BSpec (rec : Tree → Int → Option (List Int)) (ih : ∀ (p0 : Tree) (p1 : Int) (RES : List Int), rec p0 p1 = some RES → Spec Tryz.prog 116 [.p (.agg (encTree p0)), pI p1] [] (ow 0 RES.length) [] [roI RES]) (p0 : Tree) (p1 : Int) (RES : List Int) (hm : Subtree_ref5B rec p0 p1 = some RES) : Spec Tryz.prog 116 [.p (.agg (encTree p0)), pI p1] [] (ow 0 RES.length) [] [roI RES] := by
 unfold Subtree_ref5B at hm
 refine SO Tryz.func116 rfl rfl [(0, .p (.agg (encTree p0))), (1, pI p1)] [] ?_
 intro cx hnt
 refine Sq (RK hnt (nn 2 []) [(1, pI p1), (2, rr 1016)] [(1016, bx (pm (encTree p0)))] tv ?_)
 obtain ⟨r1, hr1, hm⟩ := bo hm
 refine Sq (Sq (RD hnt (nn 2 (o15 [] true r1 :: .no :: [])) [] [(11, pB (!r1))] [] [] (an (Has_ref5Spec p0 p1 r1 hr1) tv) ?_))
 refine condM hm ?_ ?_
 ·intro h2 hm
  refine Sq (RK hnt (.no :: []) [(4, .p (.sl .nil 0 0 (fun _ => [])))] [] tv ?_)
  refine DW.cv [] [(4, ow 100000 0)] [] [(100000, ob0 (roI []))] (Conv.ads [(.s 4, 100000, 1, elems encI 0 [])]) ?_
  obtain rfl := sj hm
  exact DW.ret (retK [roI []] [100000] (ow 0 0))
 ·intro h2 hm
  refine Sk ?_
  refine Sq (RN hnt (nn 3 []) [(1, pI p1), (2, rr 1016), (5, ow 1104 [p1].length)] [(1016, bx (pm (encTree p0))), (1104, ob0 (roI [p1]))] [(5, ow 1104 1)] [(1104, .row 1 1 (cut 1 [vi p1]))] tv (by kernel_rfl) (.cons rfl (MLe.ownLen (enc := encI) (d := 0) (f := (cut 1 [vi p1])) (RowIs.lit (enc := encI) (d := 0) (n := 1) (f := (cut 1 [vi p1])) [p1] rfl (fun | 0, _ => rfl | n + 1, h => absurd h (by omega)))) .nil) (.cons rfl (BLe.typed (RowIs.lit (enc := encI) (d := 0) (n := 1) (f := (cut 1 [vi p1])) [p1] rfl (fun | 0, _ => rfl | n + 1, h => absurd h (by omega)))) .nil) ?_)
  obtain ⟨r3, hr3, hm⟩ := bo hm
  refine Sq (RD hnt (nn 2 (o24 [] true r3 :: .no :: [])) [1] [(6, ow 1128 r3.length)] [] [(1128, ob0 (roI r3))] (an (Children_ref5Spec p0 p1 r3 hr3) tv) ?_)
  refine Sq (Sq (RD hnt (.no :: []) [] [(7, pI 0)] [] [] tv ?_))
  refine Bk ?_
  obtain ⟨hc1, hm⟩ := go1 hm
  refine DW.rangeO (fun (k1 : Nat) (s1 : List Int) => mkSt [(2, rr 1016), (5, ow 1104 s1.length), (6, ow 1128 r3.length), (7, pI ((k1 : Nat) : Int))] [(1016, bx (pm (encTree p0))), (1104, ob0 (roI s1)), (1128, ob0 (roI r3))]) 0 hm Conv.eqK ?_
  intro k1 s1 n1 hk1 hs1 he1
  refine Sq (Sq (RD hnt (nn 4 []) [] [(20, pB (decide (((k1 : Nat) : Int) < ((r3.length : Nat) : Int))))] [] [] tv ?_))
  refine condK (decide (((k1 : Nat) : Int) < ((r3.length : Nat) : Int))) ?_ ?_
  ·intro h14
   have hlt1 : k1 < r3.length := by have := of_decide_eq_true h14; omega
   have hm := hs1 hlt1
   unfold Subtree_ref5L1 at hm
   refine Sk ?_
   refine Sq (Bk ?_)
   obtain ⟨r15, hr15, hm⟩ := bo hm
   obtain ⟨g16, hm⟩ := go1 hm
   refine RN hnt (nn 6 (.call 116 [] true (ow 0 r15.length) [] [roI r15] :: nn 2 [])) [(2, rr 1016), (5, ow 1104 (s1 ++ r15).length), (6, ow 1128 r3.length), (7, pI ((k1 : Nat) : Int))] [(1016, bx (pm (encTree p0))), (1104, ob0 (roI (s1 ++ r15))), (1128, ob0 (roI r3))] [(5, ow 1104 (s1.length + r15.length))] [(1104, .row 1 (s1.length + r15.length) (catF s1.length (elI s1) (elI r15)))] (an (nn0 k1) (an (ltc hlt1) (an (by omega : k1 < r3.length) (an (ih p0 (r3.getD k1 0) r15 hr15) (an (by omega : (s1.length + r15.length) * 8 ≤ 140737488355328) tv))))) (by kernel_rfl) (.cons rfl (MLe.ownLen (enc := encI) (d := 0) (f := (catF s1.length (elI s1) (elI r15))) (RowIs.cat RowIs.elems RowIs.elems)) .nil) (.cons rfl (BLe.typed (RowIs.cat RowIs.elems RowIs.elems)) .nil) ?_
   refine DW.done ?_
   show DW _ _ _ _ _
   refine RD hnt (nn 3 []) [] [(7, pI (w64 (((k1 : Nat) : Int) + 1)))] [] [] tv ?_
   exact jD (s1 ++ r15) ⟨hlt1, hm⟩ (Conv.tp [(7, pI (w64 (((k1 : Nat) : Int) + 1)))] [] (by kernel_rfl) (.cons rfl (.of_eq (congrArg pI (w64_succ hlt1 hc1))) .nil) .nil)
  ·intro h14
   have hge1 : ¬ k1 < r3.length := by have := of_decide_eq_false h14; omega
   have hm := he1 hge1
   unfold Subtree_ref5D1 at hm
   refine DW.exit ?_
   refine joinQ_exit ?_
   refine KQ_exit ?_
   refine blockQ_exit ?_
   show DW _ _ _ _ _
   refine Sq (RK hnt (nn 2 []) [(4, ow 1104 s1.length)] [(1104, ob0 (roI s1))] tv ?_)
   obtain rfl := sj hm
   exact DW.ret (retK [roI s1] [1104] (ow 0 s1.length))
theorem Subtree_ref5FSpec : ∀ (n : Nat) (p0 : Tree) (p1 : Int) (RES : List Int), Subtree_ref5F n p0 p1 = some RES → Spec Tryz.prog 116 [.p (.agg (encTree p0)), pI p1] [] (ow 0 RES.length) [] [roI RES]
  | 0, p0, p1, RES, hm => by simp [Subtree_ref5F] at hm
  | n + 1, p0, p1, RES, hm => Subtree_ref5BSpec (Subtree_ref5F n) (Subtree_ref5FSpec n) p0 p1 RES hm
theorem Subtree_ref5Spec (p0 : Tree) (p1 : Int) (RES : List Int) (hm : Subtree_ref5 p0 p1 = some RES) : Spec Tryz.prog 116 [.p (.agg (encTree p0)), pI p1] [] (ow 0 RES.length) [] [roI RES] := Subtree_ref5FSpec FUEL p0 p1 RES hm
abbrev o100 (ks : List Nat) (b : Bool) (RES : List Int) : Orc := .call 116 ks b (ow 0 RES.length) [] [roI RES]

theorem Has_ref3Spec (p0 : List Int) (p1 : Int) (RES : Bool) (hm : Has_ref3 p0 p1 = some RES) : Spec Tryz.prog 117 [.p (slI p0), pI p1] [] (pB RES) [] [] := by
 unfold Has_ref3 at hm
 refine SO Tryz.func117 rfl rfl [(0, .p (slI p0)), (1, pI p1)] [] ?_
 intro cx hnt
 refine Sq (RD hnt (.no :: []) [] [] [] [] tv ?_)
 refine Sq (Sq (RD hnt (.no :: []) [] [(5, pI 0)] [] [] tv ?_))
 refine Bk ?_
 obtain ⟨hc1, hm⟩ := go1 hm
 refine DW.rangeO (fun (k1 : Nat) (s1 : Unit) => mkSt [(0, .p (slI p0)), (1, pI p1), (5, pI ((k1 : Nat) : Int))] []) 0 hm Conv.eqK ?_
 intro k1 s1 n1 hk1 hs1 he1
 refine Sq (Sq (RD hnt (nn 4 []) [] [(9, pB (decide (((k1 : Nat) : Int) < ((p0.length : Nat) : Int))))] [] [] tv ?_))
 refine condK (decide (((k1 : Nat) : Int) < ((p0.length : Nat) : Int))) ?_ ?_
 ·intro h7
  have hlt1 : k1 < p0.length := by have := of_decide_eq_true h7; omega
  have hm := hs1 hlt1
  unfold Has_ref3L1 at hm
  refine Sk ?_
  refine Sq (Bk ?_)
  refine Sq (RD hnt (nn 6 []) [9] [(17, pB ((p0.getD k1 0) == p1))] [] [] (an (nn0 k1) (an (ltc hlt1) tv)) ?_)
  refine condM hm ?_ ?_
  ·intro h8 hm
   refine Sq (RK hnt (.no :: []) [(4, pB true)] [] tv ?_)
   obtain rfl := sj hm
   exact DW.ret (retK [] [] (pB true))
  ·intro h8 hm
   refine Sk ?_
   refine DW.done ?_
   show DW _ _ _ _ _
   refine RD hnt (nn 3 []) [17] [(5, pI (w64 (((k1 : Nat) : Int) + 1)))] [] [] tv ?_
   exact jD () ⟨hlt1, hm⟩ (Conv.tp [(5, pI (w64 (((k1 : Nat) : Int) + 1)))] [] (by kernel_rfl) (.cons rfl (.of_eq (congrArg pI (w64_succ hlt1 hc1))) .nil) .nil)
 ·intro h7
  have hge1 : ¬ k1 < p0.length := by have := of_decide_eq_false h7; omega
  have hm := he1 hge1
  unfold Has_ref3D1 at hm
  refine DW.exit ?_
  refine joinQ_exit ?_
  refine KQ_exit ?_
  refine blockQ_exit ?_
  show DW _ _ _ _ _
  refine Sq (RK hnt (.no :: []) [(4, pB false)] [] tv ?_)
  obtain rfl := sj hm
  exact DW.ret (retK [] [] (pB false))
abbrev o101 (ks : List Nat) (b : Bool) (RES : Bool) : Orc := .call 117 ks b (pB RES) [] []

theorem Count_ref6Spec (p0 : Hierarchy) (p1 : Int) (RES : Int) (hm : Count_ref6 p0 p1 = some RES) : Spec Tryz.prog 59 [.p (.agg (encHierarchy p0)), pI p1] [] (pI RES) [] [] := by
 unfold Count_ref6 at hm
 refine SO Tryz.func59 rfl rfl [(0, .p (.agg (encHierarchy p0))), (1, pI p1)] [] ?_
 intro cx hnt
 refine Sq (RK hnt (nn 2 []) [(1, pI p1), (2, rr 1016)] [(1016, bx (pm (encHierarchy p0)))] tv ?_)
 obtain ⟨r1, hr1, hm⟩ := bo hm
 refine Sq (Sq (RD hnt (.no :: o9 [] true r1 :: .no :: []) [] [(10, pB (!r1))] [] [] (an (Check_ref6Spec p0 r1 hr1) tv) ?_))
 refine condM hm ?_ ?_
 ·intro h2 hm
  refine Sq (RK hnt (.no :: []) [(4, pI 0)] [] tv ?_)
  obtain rfl := sj hm
  exact DW.ret (retK [] [] (pI 0))
 ·intro h2 hm
  refine Sk ?_
  refine Sq (RD hnt (.no :: []) [10] [(5, pI 0)] [] [] tv ?_)
  obtain ⟨r3, hr3, hm⟩ := bo hm
  refine Sq (RD hnt (nn 3 (o100 [] true r3 :: .no :: [])) [1] [(6, ow 1112 r3.length)] [] [(1112, ob0 (roI r3))] (an (Subtree_ref5Spec p0.tree p1 r3 hr3) tv) ?_)
  refine Sq (Sq (RD hnt (.no :: []) [] [(7, pI 0)] [] [] tv ?_))
  refine Bk ?_
  obtain ⟨hc1, hm⟩ := go1 hm
  refine DW.rangeO (fun (k1 : Nat) (s1 : Int) => mkSt [(2, rr 1016), (5, pI s1), (6, ow 1112 r3.length), (7, pI ((k1 : Nat) : Int))] [(1016, bx (pm (encHierarchy p0))), (1112, ob0 (roI r3))]) dTask hm Conv.eqK ?_
  intro k1 s1 n1 hk1 hs1 he1
  refine Sq (Sq (RD hnt (nn 5 []) [] [(19, pB (decide (((k1 : Nat) : Int) < ((p0.tasks.length : Nat) : Int))))] [] [] tv ?_))
  refine condK (decide (((k1 : Nat) : Int) < ((p0.tasks.length : Nat) : Int))) ?_ ?_
  ·intro h12
   have hlt1 : k1 < p0.tasks.length := by have := of_decide_eq_true h12; omega
   have hm := hs1 hlt1
   unfold Count_ref6L1 at hm
   refine Sk ?_
   refine Sq ?_
   refine Jn (ι := Int) (fun (y3 : Int) => mkSt [(2, rr 1016), (5, pI y3), (6, ow 1112 r3.length), (7, pI ((k1 : Nat) : Int))] [(1016, bx (pm (encHierarchy p0))), (1112, ob0 (roI r3))]) (fun y3 => (Count_ref6J3 n1) y3 = some RES) ?_ ?_
   ·intro y3 hm
    unfold Count_ref6J3 at hm
    refine RD hnt (nn 3 []) [] [(7, pI (w64 (((k1 : Nat) : Int) + 1)))] [] [] tv ?_
    exact jD y3 ⟨hlt1, hm⟩ (Conv.tp [(7, pI (w64 (((k1 : Nat) : Int) + 1)))] [] (by kernel_rfl) (.cons rfl (.of_eq (congrArg pI (w64_succ hlt1 hc1))) .nil) .nil)
   ·refine Bk ?_
    obtain ⟨r13, hr13, hm⟩ := bo hm
    refine Sq (RD hnt (nn 7 (o101 [] true r13 :: [])) [19] [(29, pB r13)] [] [] (an (nn0 k1) (an (ltc hlt1) (an (Has_ref3Spec r3 (p0.tasks.getD k1 (default : Task)).group r13 hr13) tv))) ?_)
    refine condM hm ?_ ?_
    ·intro h14 hm
     refine RD hnt (nn 3 []) [29] [(5, pI (w64 (s1 + 1)))] [] [] tv ?_
     exact bD (w64 (s1 + 1)) hm Conv.eqK
    ·intro h14 hm
     refine Sk ?_
     exact bD s1 hm Conv.t0
  ·intro h12
   have hge1 : ¬ k1 < p0.tasks.length := by have := of_decide_eq_false h12; omega
   have hm := he1 hge1
   unfold Count_ref6D1 at hm
   refine DW.exit ?_
   refine joinQ_exit ?_
   refine KQ_exit ?_
   refine blockQ_exit ?_
   show DW _ _ _ _ _
   refine Sq (RK hnt (nn 2 []) [(4, pI s1)] [] tv ?_)
   obtain rfl := sj hm
   exact DW.ret (retK [] [] (pI s1))
abbrev o99 (ks : List Nat) (b : Bool) (RES : Int) : Orc := .call 59 ks b (pI RES) [] []

abbrev c97e1 (y3 : Count) (r17 : Int) := ({ group := y3.group, now := r17, limit := y3.limit, peak := (maxI y3.peak r17), events := y3.events } : Count)
abbrev c97e2 (p0 : Hierarchy) (k1 : Nat) := (p0.tree.nodes.getD k1 (default : Node))
theorem Adjust_ref10Spec (p0 : Hierarchy) (p1 : List Count) (RES : List Count) (hm : Adjust_ref10 p0 p1 = some RES) : Spec Tryz.prog 40 [.p (.agg (encHierarchy p0)), .p (slCount p1)] [] (ow 0 RES.length) [] [roCount RES] := by
 unfold Adjust_ref10 at hm
 refine SO Tryz.func40 rfl rfl [(0, .p (.agg (encHierarchy p0))), (1, .p (slCount p1))] [] ?_
 intro cx hnt
 refine Sq (RD hnt (nn 2 []) [0] [(2, rr 1016)] [] [(1016, bx (pm (encHierarchy p0)))] tv ?_)
 obtain ⟨r1, hr1, hm⟩ := bo hm
 refine Sq (Sq (RD hnt (.no :: o9 [] true r1 :: .no :: []) [] [(12, pB (!r1))] [] [] (an (Check_ref6Spec p0 r1 hr1) tv) ?_))
 refine condM hm ?_ ?_
 ·intro h2 hm
  refine Sq (RK hnt (.no :: []) [(4, .p (.sl .nil 0 0 (fun _ => [])))] [] tv ?_)
  refine DW.cv [] [(4, ow 100000 0)] [] [(100000, ob0 (roCount []))] (Conv.ads [(.s 4, 100000, 5, elems encCount dCount [])]) ?_
  obtain rfl := sj hm
  exact DW.ret (retK [roCount []] [100000] (ow 0 0))
 ·intro h2 hm
  refine Sk ?_
  refine Sq (RD hnt (.no :: []) [12] [(5, .p (.sl .nil 0 0 (fun _ => [])))] [] [] tv ?_)
  refine Sq (Sq (RD hnt (.no :: []) [] [(6, pI 0)] [] [] tv ?_))
  refine Bk ?_
  obtain ⟨hc1, hm⟩ := go1 hm
  refine DW.rangeO (fun (k1 : Nat) (s1 : List Count) => mkSt [(1, .p (slCount p1)), (2, rr 1016), (5, ow 1408 s1.length), (6, pI ((k1 : Nat) : Int))] [(1016, bx (pm (encHierarchy p0))), (1408, ob0 (roCount s1))]) dNode hm (Conv.ads [(.s 5, 1408, 5, elems encCount dCount [])]) ?_
  intro k1 s1 n1 hk1 hs1 he1
  refine Sq (Sq (RD hnt (nn 6 []) [] [(18, pB (decide (((k1 : Nat) : Int) < ((p0.tree.nodes.length : Nat) : Int))))] [] [] tv ?_))
  refine condK (decide (((k1 : Nat) : Int) < ((p0.tree.nodes.length : Nat) : Int))) ?_ ?_
  ·intro h14
   have hlt1 : k1 < p0.tree.nodes.length := by have := of_decide_eq_true h14; omega
   have hm := hs1 hlt1
   unfold Adjust_ref10L1 at hm
   refine Sk ?_
   refine Sq (Bk ?_)
   refine Sq (RD hnt (nn 8 []) [18] [(7, pI (c97e2 p0 k1).id)] [] [] (an (nn0 k1) (an (ltc hlt1) tv)) ?_)
   obtain ⟨r15, hr15, hm⟩ := bo hm
   refine Sq (RD hnt (nn 2 (o98 [] true r15 :: nn 6 [])) [] [(8, rr 1064), (9, pB r15.2)] [] [(1064, bx (pm (encCount r15.1)))] (an (Get_ref10Spec p1 (c97e2 p0 k1).id r15 hr15) tv) ?_)
   refine Sq (Sq (RD hnt (nn 2 []) [9] [(35, pB (!r15.2))] [] [] tv ?_))
   refine Jn (ι := Count) (fun (y3 : Count) => mkSt [(1, .p (slCount p1)), (2, rr 1016), (5, ow 1408 s1.length), (6, pI ((k1 : Nat) : Int)), (7, pI (c97e2 p0 k1).id), (8, rr 1064)] [(1016, bx (pm (encHierarchy p0))), (1064, bx (pm (encCount y3))), (1408, ob0 (roCount s1))]) (fun y3 => (Adjust_ref10J3 p0 (c97e2 p0 k1) s1 n1) y3 = some RES) ?_ ?_
   ·intro y3 hm
    unfold Adjust_ref10J3 at hm
    obtain ⟨r17, hr17, hm⟩ := bo hm
    refine Sq (RD hnt (nn 2 (o99 [] true r17 :: nn 2 [])) [7] [] [] [(1064, bx [pI y3.group, pI r17, pI y3.limit, pI y3.peak, pI y3.events])] (an (Count_ref6Spec p0 (c97e2 p0 k1).id r17 hr17) tv) ?_)
    refine Sq (RD hnt (nn 7 []) [] [] [] [(1064, bx [pI y3.group, pI r17, pI y3.limit, pI (maxI y3.peak r17), pI y3.events])] tv ?_)
    obtain ⟨g18, hm⟩ := go1 hm
    refine RN hnt (nn 5 []) [(1, .p (slCount p1)), (2, rr 1016), (5, ow 1408 (s1 ++ [(c97e1 y3 r17)]).length), (6, pI ((k1 : Nat) : Int))] [(1016, bx (pm (encHierarchy p0))), (1408, ob0 (roCount (s1 ++ [(c97e1 y3 r17)])))] [(5, ow 1408 (s1.length + 1))] [(1408, .row 5 (s1.length + 1) (catF s1.length (elCount s1) (cut 5 [vi y3.group, vi r17, vi y3.limit, vi (maxI y3.peak r17), vi y3.events])))] (an (by omega : (s1.length + 1) * 40 ≤ 140737488355328) tv) (by kernel_rfl) (.cons rfl (MLe.ownLen (enc := encCount) (d := dCount) (f := (catF s1.length (elCount s1) (cut 5 [vi y3.group, vi r17, vi y3.limit, vi (maxI y3.peak r17), vi y3.events]))) (RowIs.cat RowIs.elems (RowIs.lit (enc := encCount) (d := dCount) (n := 1) (f := (cut 5 [vi y3.group, vi r17, vi y3.limit, vi (maxI y3.peak r17), vi y3.events])) [(c97e1 y3 r17)] rfl (fun | 0, _ => rfl | n + 1, h => absurd h (by omega))))) .nil) (.cons rfl (BLe.typed (RowIs.cat RowIs.elems (RowIs.lit (enc := encCount) (d := dCount) (n := 1) (f := (cut 5 [vi y3.group, vi r17, vi y3.limit, vi (maxI y3.peak r17), vi y3.events])) [(c97e1 y3 r17)] rfl (fun | 0, _ => rfl | n + 1, h => absurd h (by omega))))) .nil) ?_
    refine DW.done ?_
    show DW _ _ _ _ _
    refine RD hnt (nn 3 []) [] [(6, pI (w64 (((k1 : Nat) : Int) + 1)))] [] [] tv ?_
    exact jD (s1 ++ [(c97e1 y3 r17)]) ⟨hlt1, hm⟩ (Conv.tp [(6, pI (w64 (((k1 : Nat) : Int) + 1)))] [] (by kernel_rfl) (.cons rfl (.of_eq (congrArg pI (w64_succ hlt1 hc1))) .nil) .nil)
   ·refine condM hm ?_ ?_
    ·intro h16 hm
     refine RD hnt (nn 3 []) [35] [] [] [(1064, bx [pI (c97e2 p0 k1).id, pI 0, pI 4611686018427387904, pI 0, pI 0])] tv ?_
     exact jD ({ group := (c97e2 p0 k1).id, now := 0, limit := 4611686018427387904, peak := 0, events := 0 } : Count) hm Conv.eqK
    ·intro h16 hm
     refine Sk ?_
     exact jD r15.1 hm Conv.t0
  ·intro h14
   have hge1 : ¬ k1 < p0.tree.nodes.length := by have := of_decide_eq_false h14; omega
   have hm := he1 hge1
   unfold Adjust_ref10D1 at hm
   refine DW.exit ?_
   refine joinQ_exit ?_
   refine KQ_exit ?_
   refine blockQ_exit ?_
   show DW _ _ _ _ _
   refine Sq (RK hnt (nn 2 []) [(4, ow 1408 s1.length)] [(1408, ob0 (roCount s1))] tv ?_)
   obtain rfl := sj hm
   exact DW.ret (retK [roCount s1] [1408] (ow 0 s1.length))
abbrev o97 (ks : List Nat) (b : Bool) (RES : List Count) : Orc := .call 40 ks b (ow 0 RES.length) [] [roCount RES]

theorem New_ref10Spec (p0 : Hierarchy) (RES : List Count) (hm : New_ref10 p0 = some RES) : Spec Tryz.prog 41 [.p (.agg (encHierarchy p0))] [] (ow 0 RES.length) [] [roCount RES] := by
 unfold New_ref10 at hm
 refine SO Tryz.func41 rfl rfl [(0, .p (.agg (encHierarchy p0)))] [] ?_
 intro cx hnt
 refine Sq (RK hnt (nn 2 []) [(1, rr 1008)] [(1008, bx (pm (encHierarchy p0)))] tv ?_)
 obtain ⟨r1, hr1, hm⟩ := bo hm
 refine Sq (RK hnt (.no :: o97 [] true r1 :: .no :: []) [(2, ow 1032 r1.length)] [(1032, ob0 (roCount r1))] (an (Spec.args (xs := [.p (.agg (encHierarchy p0)), .p (.sl .nil 0 0 (fun _ => []))]) (Adjust_ref10Spec p0 [] r1 hr1) (.cons .rfl (.cons (.p PLe.nilL) .nil))) tv) ?_)
 obtain rfl := sj hm
 exact DW.ret (retK [roCount r1] [1032] (ow 0 r1.length))
abbrev o96 (ks : List Nat) (b : Bool) (RES : List Count) : Orc := .call 41 ks b (ow 0 RES.length) [] [roCount RES]

abbrev c95e1 (y3 : Dice × (List Count)) (k1 : Int) (r38 : Int × Dice) := (y3.2.set (Int.toNat k1) ({ group := (y3.2.getD (Int.toNat k1) dCount).group, now := (y3.2.getD (Int.toNat k1) dCount).now, limit := (y3.2.getD (Int.toNat k1) dCount).limit, peak := (minI (w64 ((y3.2.getD (Int.toNat k1) dCount).peak + r38.1)) 128), events := (y3.2.getD (Int.toNat k1) dCount).events } : Count))
abbrev c95e2 (y3 : Dice × (List Count)) (k1 : Int) (r38 : Int × Dice) (r41 : Int × Dice) := ({ group := ((c95e1 y3 k1 r38).getD (Int.toNat k1) dCount).group, now := ((c95e1 y3 k1 r38).getD (Int.toNat k1) dCount).now, limit := ((c95e1 y3 k1 r38).getD (Int.toNat k1) dCount).limit, peak := ((c95e1 y3 k1 r38).getD (Int.toNat k1) dCount).peak, events := r41.1 } : Count)
abbrev c95e3 (s1 : Dice × (List Count)) (k1 : Int) (r33 : Int × Dice) := ({ group := (s1.2.getD (Int.toNat k1) dCount).group, now := (s1.2.getD (Int.toNat k1) dCount).now, limit := r33.1, peak := (s1.2.getD (Int.toNat k1) dCount).peak, events := (s1.2.getD (Int.toNat k1) dCount).events } : Count)
abbrev c95e4 (y3 : Dice × (List Count)) (k1 : Int) := (y3.2.getD (Int.toNat k1) dCount)
abbrev c95e5 (y3 : Dice × (List Count)) (k1 : Int) (r38 : Int × Dice) (r41 : Int × Dice) := (updF (elCount (c95e1 y3 k1 r38)) (Int.toNat k1) [vi ((c95e1 y3 k1 r38).getD (Int.toNat k1) dCount).group, vi ((c95e1 y3 k1 r38).getD (Int.toNat k1) dCount).now, vi ((c95e1 y3 k1 r38).getD (Int.toNat k1) dCount).limit, vi ((c95e1 y3 k1 r38).getD (Int.toNat k1) dCount).peak, vi r41.1])
abbrev c95e6 (s1 : Dice × (List Count)) (k1 : Int) (r33 : Int × Dice) := (updF (elCount s1.2) (Int.toNat k1) [vi (s1.2.getD (Int.toNat k1) dCount).group, vi (s1.2.getD (Int.toNat k1) dCount).now, vi r33.1, vi (s1.2.getD (Int.toNat k1) dCount).peak, vi (s1.2.getD (Int.toNat k1) dCount).events])
abbrev c95e7 (y3 : Dice × (List Count)) (k1 : Int) (r38 : Int × Dice) := ({ group := (c95e4 y3 k1).group, now := (c95e4 y3 k1).now, limit := (c95e4 y3 k1).limit, peak := (minI (w64 ((c95e4 y3 k1).peak + r38.1)) 128), events := (c95e4 y3 k1).events } : Count)
abbrev c95e8 (r1 : List Count) : Nat × MV := (10, pI ((r1.length : Nat) : Int))
abbrev c95e9 (y3 : Dice × (List Count)) (k1 : Int) (r38 : Int × Dice) := (updF (elCount y3.2) (Int.toNat k1) [vi (c95e4 y3 k1).group, vi (c95e4 y3 k1).now, vi (c95e4 y3 k1).limit, vi (minI (w64 ((c95e4 y3 k1).peak + r38.1)) 128), vi (c95e4 y3 k1).events])
theorem counts_law10Spec (p0 : Dice) (p1 : Hierarchy) (RES : (List Count) × Dice) (hm : counts_law10 p0 p1 = some RES) : Spec Tryz.prog 18 [rr 0, .p (.agg (encHierarchy p1))] [.box (pm (encDice p0))] (ow 1 RES.1.length) [.box (pm (encDice RES.2))] [roCount RES.1] := by
 unfold counts_law10 at hm
 refine SO Tryz.func18 rfl rfl [(0, rr 0), (1, .p (.agg (encHierarchy p1)))] [(0, bx (pm (encDice p0)))] ?_
 intro cx hnt
 refine Sq (RD hnt (nn 2 []) [1] [(3, rr 1024)] [] [(1024, bx (pm (encHierarchy p1)))] tv ?_)
 obtain ⟨r1, hr1, hm⟩ := bo hm
 refine Sq (RD hnt (.no :: o96 [] true r1 :: .no :: []) [3] [(5, ow 1064 r1.length)] [1024] [(1064, ob0 (roCount r1))] (an (New_ref10Spec p1 r1 hr1) tv) ?_)
 refine Sq (Sq (RD hnt (nn 3 []) [] [(c95e8 r1), (11, pI 0)] [] [] tv ?_))
 refine Bk ?_
 obtain ⟨hc1, hm⟩ := go1 hm
 refine DW.forO (fun (k1 : Int) (s1 : Dice × (List Count)) => mkSt [(0, rr 0), (5, ow 1064 s1.2.length), (c95e8 r1), (11, pI k1)] [(0, bx (pm (encDice s1.1))), (1064, ob0 (roCount s1.2))]) (lo := 0) (hi := ((r1.length : Nat) : Int)) hm Conv.eqK ?_
 intro k1 s1 n1 hk1 hs1 he1
 refine Sq (RD hnt (.no :: []) [] [(12, pB (decide (k1 < ((r1.length : Nat) : Int))))] [] [] tv ?_)
 refine Sq (condK (decide (k1 < ((r1.length : Nat) : Int))) ?_ ?_)
 ·intro h30
  have hlt1 : k1 < ((r1.length : Nat) : Int) := by have := of_decide_eq_true h30; omega
  have hm := hs1 hlt1
  unfold counts_law10L1 at hm
  refine Sk ?_
  refine Sq (Bk ?_)
  refine Sq (RD hnt (nn 2 []) [12] [(6, pI k1)] [] [] tv ?_)
  obtain ⟨r31, hr31, hm⟩ := bo hm
  refine Sq (Sq (RD hnt (.no :: o79 [0] true r31 :: []) [] [(15, pB r31.1)] [] [(0, bx (pm (encDice r31.2)))] (an (Bool_Dice_madeSpec s1.1 2 r31 hr31) (an tv tv)) ?_))
  refine Jn (ι := Dice × (List Count)) (fun (y3 : Dice × (List Count)) => mkSt [(0, rr 0), (5, ow 1064 y3.2.length), (6, pI k1), (c95e8 r1), (11, pI k1)] [(0, bx (pm (encDice y3.1))), (1064, ob0 (roCount y3.2))]) (fun y3 => (counts_law10J3 k1 n1) y3 = some RES) ?_ ?_
  ·intro y3 hm
   unfold counts_law10J3 at hm
   obtain ⟨g36, g37, hm⟩ := go2 hm
   obtain ⟨r38, hr38, hm⟩ := bo hm
   obtain ⟨g39, g40, hm⟩ := go2 hm
   refine Sq (RN hnt (nn 8 (o77 [0] true r38 :: nn 5 [])) [(0, rr 0), (5, ow 1064 (c95e1 y3 k1 r38).length), (6, pI k1), (c95e8 r1), (11, pI k1)] [(0, bx (pm (encDice r38.2))), (1064, ob0 (roCount (c95e1 y3 k1 r38)))] [(5, ow 1064 y3.2.length)] [(1064, .row 5 y3.2.length (c95e9 y3 k1 r38))] (an g36.1 (an g36.2 (an g37 (an (Next_Dice_madeSpec y3.1 3 r38 hr38) (an tv (an g39.1 (an g39.2 (an g40 tv)))))))) (by kernel_rfl) (.cons rfl (MLe.ownLen (enc := encCount) (d := dCount) (f := (c95e9 y3 k1 r38)) (RowIs.upd RowIs.elems (c95e7 y3 k1 r38) rfl)) .nil) (.cons rfl (BLe.typed (RowIs.upd RowIs.elems (c95e7 y3 k1 r38) rfl)) .nil) ?_)
   obtain ⟨r41, hr41, hm⟩ := bo hm
   obtain ⟨g42, g43, hm⟩ := go2 hm
   refine RN hnt (nn 3 (o77 [0] true r41 :: nn 3 [])) [(0, rr 0), (5, ow 1064 ((c95e1 y3 k1 r38).set (Int.toNat k1) (c95e2 y3 k1 r38 r41)).length), (c95e8 r1), (11, pI k1)] [(0, bx (pm (encDice r41.2))), (1064, ob0 (roCount ((c95e1 y3 k1 r38).set (Int.toNat k1) (c95e2 y3 k1 r38 r41))))] [(5, ow 1064 (c95e1 y3 k1 r38).length)] [(1064, .row 5 (c95e1 y3 k1 r38).length (c95e5 y3 k1 r38 r41))] (an (Next_Dice_madeSpec r38.2 3 r41 hr41) (an tv (an g42.1 (an g42.2 (an g43 tv))))) (by kernel_rfl) (.cons rfl (MLe.ownLen (enc := encCount) (d := dCount) (f := (c95e5 y3 k1 r38 r41)) (RowIs.upd RowIs.elems (c95e2 y3 k1 r38 r41) rfl)) .nil) (.cons rfl (BLe.typed (RowIs.upd RowIs.elems (c95e2 y3 k1 r38 r41) rfl)) .nil) ?_
   refine DW.done ?_
   show DW _ _ _ _ _
   refine RD hnt (nn 2 []) [] [(11, pI (w64 (k1 + 1)))] [] [] tv ?_
   exact jD (r41.2, ((c95e1 y3 k1 r38).set (Int.toNat k1) (c95e2 y3 k1 r38 r41))) ⟨hlt1, hm⟩ (Conv.tp [(11, pI (w64 (k1 + 1)))] [] (by kernel_rfl) (.cons rfl (.of_eq (congrArg pI (w64_for (lo := 0) (hi := ((r1.length : Nat) : Int)) (by omega) hk1 hlt1 (by omega)))) .nil) .nil)
  ·refine condM hm ?_ ?_
   ·intro h32 hm
    obtain ⟨r33, hr33, hm⟩ := bo hm
    obtain ⟨g34, g35, hm⟩ := go2 hm
    refine RN hnt (nn 3 (o77 [0] true r33 :: nn 3 [])) [(0, rr 0), (5, ow 1064 (s1.2.set (Int.toNat k1) (c95e3 s1 k1 r33)).length), (6, pI k1), (c95e8 r1), (11, pI k1)] [(0, bx (pm (encDice r33.2))), (1064, ob0 (roCount (s1.2.set (Int.toNat k1) (c95e3 s1 k1 r33))))] [(5, ow 1064 s1.2.length)] [(1064, .row 5 s1.2.length (c95e6 s1 k1 r33))] (an (Next_Dice_madeSpec r31.2 6 r33 hr33) (an tv (an g34.1 (an g34.2 (an g35 tv))))) (by kernel_rfl) (.cons rfl (MLe.ownLen (enc := encCount) (d := dCount) (f := (c95e6 s1 k1 r33)) (RowIs.upd RowIs.elems (c95e3 s1 k1 r33) rfl)) .nil) (.cons rfl (BLe.typed (RowIs.upd RowIs.elems (c95e3 s1 k1 r33) rfl)) .nil) ?_
    exact jD (r33.2, (s1.2.set (Int.toNat k1) (c95e3 s1 k1 r33))) hm .refl
   ·intro h32 hm
    refine Sk ?_
    exact jD (r31.2, s1.2) hm Conv.t0
 ·intro h30
  have hge1 : ¬ k1 < ((r1.length : Nat) : Int) := by have := of_decide_eq_false h30; omega
  have hm := he1 hge1
  unfold counts_law10D1 at hm
  refine DW.exit ?_
  refine joinQ_exit ?_
  refine KQ_exit ?_
  refine blockQ_exit ?_
  show DW _ _ _ _ _
  refine Sq (RD hnt (nn 2 []) [0, 5, 10, 11, 12] [(4, ow 1064 s1.2.length)] [] [] tv ?_)
  obtain rfl := sj hm
  exact DW.ret (retK [.box (pm (encDice s1.1)), roCount s1.2] [1064] (ow 1 s1.2.length))
abbrev o95 (ks : List Nat) (b : Bool) (RES : (List Count) × Dice) : Orc := .call 18 ks b (ow 1 RES.1.length) [.box (pm (encDice RES.2))] [roCount RES.1]

abbrev c102e1 (p1 : List Count) (r3 : Int × Dice) := (p1.getD (Int.toNat r3.1) dCount)
abbrev c102e2 (p1 : List Count) (r3 : Int × Dice) (r24 : Int × Dice) := ({ group := (c102e1 p1 r3).group, now := (c102e1 p1 r3).now, limit := (c102e1 p1 r3).limit, peak := ([(w64 ((c102e1 p1 r3).now - 1)), 128, 129].getD (Int.toNat r24.1) 0), events := (c102e1 p1 r3).events } : Count)
abbrev c102e3 (p1 : List Count) (r3 : Int × Dice) (r15 : Int × Dice) := ({ group := (c102e1 p1 r3).group, now := (c102e1 p1 r3).now, limit := ([(-1), 1099511627776, 1099511627777].getD (Int.toNat r15.1) 0), peak := (c102e1 p1 r3).peak, events := (c102e1 p1 r3).events } : Count)
abbrev c102e4 (p1 : List Count) (r3 : Int × Dice) (r31 : Int × Dice) := ({ group := (c102e1 p1 r3).group, now := (c102e1 p1 r3).now, limit := (c102e1 p1 r3).limit, peak := (c102e1 p1 r3).peak, events := ([(-1), 1099511627776, 1099511627777].getD (Int.toNat r31.1) 0) } : Count)
abbrev c102e5 (p1 : List Count) (r3 : Int × Dice) := ({ group := (w64 ((c102e1 p1 r3).group + 1)), now := (c102e1 p1 r3).now, limit := (c102e1 p1 r3).limit, peak := (c102e1 p1 r3).peak, events := (c102e1 p1 r3).events } : Count)
abbrev c102e6 (p1 : List Count) (r3 : Int × Dice) := ({ group := (c102e1 p1 r3).group, now := (w64 ((c102e1 p1 r3).now + 1)), limit := (c102e1 p1 r3).limit, peak := (c102e1 p1 r3).peak, events := (c102e1 p1 r3).events } : Count)
abbrev c102e7 (p1 : List Count) (r3 : Int × Dice) (r24 : Int × Dice) := (updF (elCount p1) (Int.toNat r3.1) [vi (c102e1 p1 r3).group, vi (c102e1 p1 r3).now, vi (c102e1 p1 r3).limit, vi ([(w64 ((c102e1 p1 r3).now - 1)), 128, 129].getD (Int.toNat r24.1) 0), vi (c102e1 p1 r3).events])
abbrev c102e8 (p1 : List Count) (r3 : Int × Dice) (r15 : Int × Dice) := (updF (elCount p1) (Int.toNat r3.1) [vi (c102e1 p1 r3).group, vi (c102e1 p1 r3).now, vi ([(-1), 1099511627776, 1099511627777].getD (Int.toNat r15.1) 0), vi (c102e1 p1 r3).peak, vi (c102e1 p1 r3).events])
abbrev c102e9 (p1 : List Count) (r3 : Int × Dice) (r31 : Int × Dice) := (updF (elCount p1) (Int.toNat r3.1) [vi (c102e1 p1 r3).group, vi (c102e1 p1 r3).now, vi (c102e1 p1 r3).limit, vi (c102e1 p1 r3).peak, vi ([(-1), 1099511627776, 1099511627777].getD (Int.toNat r31.1) 0)])
abbrev c102e10 (p1 : List Count) (r3 : Int × Dice) := (updF (elCount p1) (Int.toNat r3.1) [vi (w64 ((c102e1 p1 r3).group + 1)), vi (c102e1 p1 r3).now, vi (c102e1 p1 r3).limit, vi (c102e1 p1 r3).peak, vi (c102e1 p1 r3).events])
abbrev c102e11 (p1 : List Count) (r3 : Int × Dice) := (updF (elCount p1) (Int.toNat r3.1) [vi (c102e1 p1 r3).group, vi (w64 ((c102e1 p1 r3).now + 1)), vi (c102e1 p1 r3).limit, vi (c102e1 p1 r3).peak, vi (c102e1 p1 r3).events])
abbrev c102e12 (p1 : List Count) (r3 : Int × Dice) := (w64 ((c102e1 p1 r3).now - 1))
theorem odd_law10Spec (p0 : Dice) (p1 : List Count) (RES : (List Count) × Dice) (hm : odd_law10 p0 p1 = some RES) : Spec Tryz.prog 30 [rr 0, .p (slCount p1)] [.box (pm (encDice p0))] (.p (slCount RES.1)) [.box (pm (encDice RES.2))] [] := by
 unfold odd_law10 at hm
 refine SO Tryz.func30 rfl rfl [(0, rr 0), (1, .p (slCount p1))] [(0, bx (pm (encDice p0)))] ?_
 intro cx hnt
 refine Sq (RD hnt (.no :: []) [] [] [] [] tv ?_)
 obtain ⟨g1, hm⟩ := go1 hm
 refine Sq (RN hnt (nn 3 []) [(0, rr 0), (5, ow 1064 p1.length)] [(0, bx (pm (encDice p0))), (1064, ob0 (roCount p1))] [] [(1064, .row 5 p1.length (elCount p1))] (an (by omega : p1.length * 40 ≤ 140737488355328) tv) (by kernel_rfl) .nil (.cons rfl (BLe.typed RowIs.elems) .nil) ?_)
 refine Sq (Sq (RD hnt (nn 3 []) [] [(11, pB (((p1.length : Nat) : Int) == 0))] [] [] tv ?_))
 refine condM hm ?_ ?_
 ·intro h2 hm
  refine Sq (RD hnt (nn 2 []) [0, 5, 11] [(4, ow 1064 p1.length)] [] [] tv ?_)
  obtain rfl := sj hm
  exact DW.ret (retK [.box (pm (encDice p0))] [] (.p (slCount p1)))
 ·intro h2 hm
  refine Sk ?_
  obtain ⟨r3, hr3, hm⟩ := bo hm
  obtain ⟨g4, hm⟩ := go1 hm
  refine Sq (RD hnt (nn 4 (o77 [0] true r3 :: nn 2 [])) [11] [(6, .eref 1064 0 (Int.toNat r3.1) 0)] [] [(0, bx (pm (encDice r3.2)))] (an (Next_Dice_madeSpec p0 ((p1.length : Nat) : Int) r3 hr3) (an tv (an g4.1 (an g4.2 tv)))) ?_)
  obtain ⟨r5, hr5, hm⟩ := bo hm
  refine Sq (Sq (RD hnt (.no :: o77 [0] true r5 :: []) [] [(20, pI r5.1)] [] [(0, bx (pm (encDice r5.2)))] (an (Next_Dice_madeSpec r3.2 6 r5 hr5) (an tv tv)) ?_))
  refine Jn (ι := Dice × (List Count)) (fun (y1 : Dice × (List Count)) => mkSt [(5, .p (slCount y1.2))] [(0, bx (pm (encDice y1.1)))]) (fun y1 => odd_law10J1 y1 = some RES) ?_ ?_
  ·intro y1 hm
   unfold odd_law10J1 at hm
   refine Sq (RD hnt (nn 2 []) [5] [(4, .p (slCount y1.2))] [] [] tv ?_)
   obtain rfl := sj hm
   exact DW.ret (retK [.box (pm (encDice y1.1))] [] (.p (slCount y1.2)))
  ·refine Bk ?_
   refine Sq (RD hnt (nn 2 []) [] [(21, pB (r5.1 == 0))] [] [] tv ?_)
   refine condM hm ?_ ?_
   ·intro h6 hm
    obtain ⟨g7, g8, hm⟩ := go2 hm
    refine RN hnt (nn 8 []) [(5, ow 1064 (p1.set (Int.toNat r3.1) (c102e5 p1 r3)).length)] [(0, bx (pm (encDice r5.2))), (1064, ob0 (roCount (p1.set (Int.toNat r3.1) (c102e5 p1 r3))))] [(5, ow 1064 p1.length)] [(1064, .row 5 p1.length (c102e10 p1 r3))] (an g7 (an g8 tv)) (by kernel_rfl) (.cons rfl (MLe.ownLen (enc := encCount) (d := dCount) (f := (c102e10 p1 r3)) (RowIs.upd RowIs.elems (c102e5 p1 r3) rfl)) .nil) (.cons rfl (BLe.typed (RowIs.upd RowIs.elems (c102e5 p1 r3) rfl)) .nil) ?_
    exact bD (r5.2, (p1.set (Int.toNat r3.1) (c102e5 p1 r3))) hm (Conv.frz [1064])
   ·intro h6 hm
    refine Sq (RD hnt (nn 2 []) [21] [(30, pB (r5.1 == 1))] [] [] tv ?_)
    refine condM hm ?_ ?_
    ·intro h9 hm
     obtain ⟨g10, g11, hm⟩ := go2 hm
     refine RN hnt (nn 8 []) [(5, ow 1064 (p1.set (Int.toNat r3.1) (c102e6 p1 r3)).length)] [(0, bx (pm (encDice r5.2))), (1064, ob0 (roCount (p1.set (Int.toNat r3.1) (c102e6 p1 r3))))] [(5, ow 1064 p1.length)] [(1064, .row 5 p1.length (c102e11 p1 r3))] (an g10 (an g11 tv)) (by kernel_rfl) (.cons rfl (MLe.ownLen (enc := encCount) (d := dCount) (f := (c102e11 p1 r3)) (RowIs.upd RowIs.elems (c102e6 p1 r3) rfl)) .nil) (.cons rfl (BLe.typed (RowIs.upd RowIs.elems (c102e6 p1 r3) rfl)) .nil) ?_
     exact bD (r5.2, (p1.set (Int.toNat r3.1) (c102e6 p1 r3))) hm (Conv.frz [1064])
    ·intro h9 hm
     refine Sq (RD hnt (nn 2 []) [30] [(39, pB (r5.1 == 2))] [] [] tv ?_)
     refine condM hm ?_ ?_
     ·intro h12 hm
      obtain ⟨r15, hr15, hm⟩ := bo hm
      obtain ⟨g16, g17, g18, hm⟩ := go3 hm
      refine RN hnt (.no :: .asR (ow 1336 [(-1), 1099511627776, 1099511627777].length) [(-1), 1099511627776, 1099511627777].length (elems encI 0 [(-1), 1099511627776, 1099511627777]) :: .no :: o77 [0] true r15 :: nn 5 []) [(5, ow 1064 (p1.set (Int.toNat r3.1) (c102e3 p1 r3 r15)).length)] [(0, bx (pm (encDice r15.2))), (1064, ob0 (roCount (p1.set (Int.toNat r3.1) (c102e3 p1 r3 r15))))] [(5, ow 1064 p1.length)] [(1064, .row 5 p1.length (c102e8 p1 r3 r15))] (an (congrArg (MV.own 1336 0 0) (RowIs.asP (enc := encI) (d := 0) (L := [(-1), 1099511627776, 1099511627777]) (RowIs.lit (enc := encI) (d := 0) (n := 3) (f := (cut 1 [vi (-1), vi 1099511627776, vi 1099511627777])) [(-1), 1099511627776, 1099511627777] rfl (fun | 0, _ => rfl | 1, _ => rfl | 2, _ => rfl | n + 3, h => absurd h (by omega)))).1) (an (RowIs.asP (enc := encI) (d := 0) (L := [(-1), 1099511627776, 1099511627777]) (RowIs.lit (enc := encI) (d := 0) (n := 3) (f := (cut 1 [vi (-1), vi 1099511627776, vi 1099511627777])) [(-1), 1099511627776, 1099511627777] rfl (fun | 0, _ => rfl | 1, _ => rfl | 2, _ => rfl | n + 3, h => absurd h (by omega)))) (an (Next_Dice_madeSpec r5.2 3 r15 hr15) (an tv (an g16.1 (an g16.2 (an g17 (an g18 tv)))))))) (by kernel_rfl) (.cons rfl (MLe.ownLen (enc := encCount) (d := dCount) (f := (c102e8 p1 r3 r15)) (RowIs.upd RowIs.elems (c102e3 p1 r3 r15) rfl)) .nil) (.cons rfl (BLe.typed (RowIs.upd RowIs.elems (c102e3 p1 r3 r15) rfl)) .nil) ?_
      exact bD (r15.2, (p1.set (Int.toNat r3.1) (c102e3 p1 r3 r15))) hm (Conv.frz [1064])
     ·intro h12 hm
      refine Sq (RD hnt (nn 2 []) [39] [(49, pB (r5.1 == 3))] [] [] tv ?_)
      refine condM hm ?_ ?_
      ·intro h19 hm
       obtain ⟨g23, hm⟩ := go1 hm
       obtain ⟨r24, hr24, hm⟩ := bo hm
       obtain ⟨g25, g26, g27, hm⟩ := go3 hm
       refine RN hnt (nn 6 (.asR (ow 1456 [(c102e12 p1 r3), 128, 129].length) [(c102e12 p1 r3), 128, 129].length (elems encI 0 [(c102e12 p1 r3), 128, 129]) :: .no :: o77 [0] true r24 :: nn 5 [])) [(5, ow 1064 (p1.set (Int.toNat r3.1) (c102e2 p1 r3 r24)).length)] [(0, bx (pm (encDice r24.2))), (1064, ob0 (roCount (p1.set (Int.toNat r3.1) (c102e2 p1 r3 r24))))] [(5, ow 1064 p1.length)] [(1064, .row 5 p1.length (c102e7 p1 r3 r24))] (an g23 (an (congrArg (MV.own 1456 0 0) (RowIs.asP (enc := encI) (d := 0) (L := [(c102e12 p1 r3), 128, 129]) (RowIs.lit (enc := encI) (d := 0) (n := 3) (f := (cut 1 [vi (c102e12 p1 r3), vi 128, vi 129])) [(c102e12 p1 r3), 128, 129] rfl (fun | 0, _ => rfl | 1, _ => rfl | 2, _ => rfl | n + 3, h => absurd h (by omega)))).1) (an (RowIs.asP (enc := encI) (d := 0) (L := [(c102e12 p1 r3), 128, 129]) (RowIs.lit (enc := encI) (d := 0) (n := 3) (f := (cut 1 [vi (c102e12 p1 r3), vi 128, vi 129])) [(c102e12 p1 r3), 128, 129] rfl (fun | 0, _ => rfl | 1, _ => rfl | 2, _ => rfl | n + 3, h => absurd h (by omega)))) (an (Next_Dice_madeSpec r5.2 3 r24 hr24) (an tv (an g25.1 (an g25.2 (an g26 (an g27 tv))))))))) (by kernel_rfl) (.cons rfl (MLe.ownLen (enc := encCount) (d := dCount) (f := (c102e7 p1 r3 r24)) (RowIs.upd RowIs.elems (c102e2 p1 r3 r24) rfl)) .nil) (.cons rfl (BLe.typed (RowIs.upd RowIs.elems (c102e2 p1 r3 r24) rfl)) .nil) ?_
       exact bD (r24.2, (p1.set (Int.toNat r3.1) (c102e2 p1 r3 r24))) hm (Conv.frz [1064])
      ·intro h19 hm
       refine Sq (RD hnt (nn 2 []) [49] [(64, pB (r5.1 == 4))] [] [] tv ?_)
       refine condM hm ?_ ?_
       ·intro h28 hm
        obtain ⟨r31, hr31, hm⟩ := bo hm
        obtain ⟨g32, g33, g34, hm⟩ := go3 hm
        refine RN hnt (.no :: .asR (ow 1536 [(-1), 1099511627776, 1099511627777].length) [(-1), 1099511627776, 1099511627777].length (elems encI 0 [(-1), 1099511627776, 1099511627777]) :: .no :: o77 [0] true r31 :: nn 5 []) [(5, ow 1064 (p1.set (Int.toNat r3.1) (c102e4 p1 r3 r31)).length)] [(0, bx (pm (encDice r31.2))), (1064, ob0 (roCount (p1.set (Int.toNat r3.1) (c102e4 p1 r3 r31))))] [(5, ow 1064 p1.length)] [(1064, .row 5 p1.length (c102e9 p1 r3 r31))] (an (congrArg (MV.own 1536 0 0) (RowIs.asP (enc := encI) (d := 0) (L := [(-1), 1099511627776, 1099511627777]) (RowIs.lit (enc := encI) (d := 0) (n := 3) (f := (cut 1 [vi (-1), vi 1099511627776, vi 1099511627777])) [(-1), 1099511627776, 1099511627777] rfl (fun | 0, _ => rfl | 1, _ => rfl | 2, _ => rfl | n + 3, h => absurd h (by omega)))).1) (an (RowIs.asP (enc := encI) (d := 0) (L := [(-1), 1099511627776, 1099511627777]) (RowIs.lit (enc := encI) (d := 0) (n := 3) (f := (cut 1 [vi (-1), vi 1099511627776, vi 1099511627777])) [(-1), 1099511627776, 1099511627777] rfl (fun | 0, _ => rfl | 1, _ => rfl | 2, _ => rfl | n + 3, h => absurd h (by omega)))) (an (Next_Dice_madeSpec r5.2 3 r31 hr31) (an tv (an g32.1 (an g32.2 (an g33 (an g34 tv)))))))) (by kernel_rfl) (.cons rfl (MLe.ownLen (enc := encCount) (d := dCount) (f := (c102e9 p1 r3 r31)) (RowIs.upd RowIs.elems (c102e4 p1 r3 r31) rfl)) .nil) (.cons rfl (BLe.typed (RowIs.upd RowIs.elems (c102e4 p1 r3 r31) rfl)) .nil) ?_
        exact bD (r31.2, (p1.set (Int.toNat r3.1) (c102e4 p1 r3 r31))) hm (Conv.frz [1064])
       ·intro h28 hm
        refine Sq (RK hnt (nn 2 []) [(5, ow 1064 p1.length), (74, pB (r5.1 == 5))] [(0, bx (pm (encDice r5.2))), (1064, ob0 (roCount p1))] tv ?_)
        refine condM hm ?_ ?_
        ·intro h35 hm
         obtain ⟨g36, hm⟩ := go1 hm
         refine RD hnt (nn 3 []) [74] [(5, .own 1064 0 1 (subN p1.length 1))] [] [] (an (by omega : (0 : Int) ≤ 1) (an (by omega : 1 ≤ ((p1.length : Nat) : Int)) (an (by omega : ((p1.length : Nat) : Int) ≤ ((p1.length : Nat) : Int)) tv))) ?_
         exact bD (r5.2, ((p1.drop 1).take (subN p1.length 1))) hm (Conv.trans (τ := mkSt [(5, .p (.sl .unk 5 (subN p1.length 1) (shF 1 (elCount p1))))] [(0, bx (pm (encDice r5.2)))]) (Conv.frz [1064]) (Conv.tp [(5, .p (.sl .unk 5 (subN p1.length 1) (shF 1 (elCount p1))))] [] (by kernel_rfl) (.cons rfl (MLe.typed (RowIs.sub RowIs.elems (by first | omega | (simp only [subN_eq, addN_eq] at *; omega)))) .nil) .nil))
        ·intro h35 hm
         refine Sk ?_
         exact bD (r5.2, p1) hm (Conv.trans (τ := mkSt [(5, .p (slCount p1)), (74, pB (r5.1 == 5))] [(0, bx (pm (encDice r5.2)))]) (Conv.frz [1064]) Conv.t0)
abbrev o102 (ks : List Nat) (b : Bool) (RES : (List Count) × Dice) : Orc := .call 30 ks b (.p (slCount RES.1)) [.box (pm (encDice RES.2))] []

theorem from_controlSpec (p0 : Tree) (p1 : Node) (RES : Int) (hm : from_control p0 p1 = some RES) : Spec Tryz.prog 188 [.p (.agg (encTree p0)), .p (.agg (encNode p1))] [] (pI RES) [] [] := by
 unfold from_control at hm
 refine SO Tryz.func188 rfl rfl [(0, .p (.agg (encTree p0))), (1, .p (.agg (encNode p1)))] [] ?_
 intro cx hnt
 refine Sq (RK hnt (nn 3 []) [(2, rr 1016), (3, rr 1024)] [(1016, bx (pm (encTree p0))), (1024, bx (pm (encNode p1)))] tv ?_)
 refine Sq (RD hnt (.no :: []) [] [(5, pI 31)] [] [] tv ?_)
 refine Sq (Sq (RD hnt (nn 3 []) [] [(10, pB (p1.id != 1))] [] [] tv ?_))
 refine Jn (ι := Int) (fun (y1 : Int) => mkSt [(3, rr 1024), (5, pI y1)] [(1024, bx (pm (encNode p1)))]) (fun y1 => (from_controlJ1 p1) y1 = some RES) ?_ ?_
 ·intro y1 hm
  unfold from_controlJ1 at hm
  refine Sq (Sq (RK hnt (nn 3 []) [(5, pI y1), (22, pB (p1.kind == 1))] [] tv ?_))
  refine Jn (ι := Int) (fun (y2 : Int) => mkSt [(5, pI y2)] []) (fun y2 => from_controlJ2 y2 = some RES) ?_ ?_
  ·intro y2 hm
   unfold from_controlJ2 at hm
   refine Sq (RK hnt (nn 2 []) [(4, pI y2)] [] tv ?_)
   obtain rfl := sj hm
   exact DW.ret (retK [] [] (pI y2))
  ·refine condM hm ?_ ?_
   ·intro h3 hm
    refine RK hnt (nn 3 []) [(5, pI (kandNot .i64 y1 6))] [] tv ?_
    exact jD (kandNot .i64 y1 6) hm .refl
   ·intro h3 hm
    refine Sk ?_
    exact jD y1 hm Conv.t0
 ·refine condM hm ?_ ?_
  ·intro h1 hm
   obtain ⟨r2, hr2, hm⟩ := bo hm
   refine Sq (RD hnt (nn 3 (o70 [] true r2 :: nn 6 [])) [2, 5, 10] [(6, rr 1048)] [1016] [(1048, bx (pm (encNode r2.1)))] (an (Find_forestSpec p0 p1.parent r2 hr2) tv) ?_)
   refine RD hnt (nn 3 []) [6] [(5, pI r2.1.control)] [1048] [] tv ?_
   exact jD r2.1.control hm Conv.eqK
  ·intro h1 hm
   refine Sk ?_
   exact jD 31 hm Conv.t0
abbrev o107 (ks : List Nat) (b : Bool) (RES : Int) : Orc := .call 188 ks b (pI RES) [] []

theorem TasksFa_crewSpec (p0 : Task) (p1 : Int) (RES : Bool) (hm : TasksFa_crew p0 p1 = some RES) : Spec Tryz.prog 151 [.p (.agg (encTask p0)), rr 0] [.box [pI p1]] (pB RES) [.box [pI p1]] [] := by
 unfold TasksFa_crew at hm
 refine SO Tryz.func151 rfl rfl [(0, .p (.agg (encTask p0))), (1, rr 0)] [(0, bx [pI p1])] ?_
 intro cx hnt
 refine Sq (RD hnt (nn 2 []) [0] [(2, rr 1016)] [] [(1016, bx (pm (encTask p0)))] tv ?_)
 refine Sq (RK hnt (nn 5 []) [(3, pB (p0.group == p1))] [(0, bx [pI p1])] tv ?_)
 obtain rfl := sj hm
 exact DW.ret (retK [.box [pI p1]] [] (pB (p0.group == p1)))

theorem ID_crewSpec (p0 : Task) (RES : Int) (hm : ID_crew p0 = some RES) : Spec Tryz.prog 148 [.p (.agg (encTask p0))] [] (pI RES) [] [] := by
 unfold ID_crew at hm
 refine SO Tryz.func148 rfl rfl [(0, .p (.agg (encTask p0)))] [] ?_
 intro cx hnt
 refine Sq (RK hnt (nn 2 []) [(1, rr 1008)] [(1008, bx (pm (encTask p0)))] tv ?_)
 refine Sq (RK hnt (nn 3 []) [(2, pI p0.id)] [] tv ?_)
 obtain rfl := sj hm
 exact DW.ret (retK [] [] (pI p0.id))
abbrev o111 (ks : List Nat) (b : Bool) (RES : Int) : Orc := .call 148 ks b (pI RES) [] []

abbrev c114e1 (y3 : Int × Int) := (w64 (y3.2 + (w64 (((byteAt (bs [0, 1, 2, 2, 3, 3, 3, 3, 4, 4, 4, 4, 4, 4, 4, 4, 5, 5, 5, 5, 5, 5, 5, 5, 5, 5, 5, 5, 5, 5, 5, 5, 6, 6, 6, 6, 6, 6, 6, 6, 6, 6, 6, 6, 6, 6, 6, 6, 6, 6, 6, 6, 6, 6, 6, 6, 6, 6, 6, 6, 6, 6, 6, 6, 7, 7, 7, 7, 7, 7, 7, 7, 7, 7, 7, 7, 7, 7, 7, 7, 7, 7, 7, 7, 7, 7, 7, 7, 7, 7, 7, 7, 7, 7, 7, 7, 7, 7, 7, 7, 7, 7, 7, 7, 7, 7, 7, 7, 7, 7, 7, 7, 7, 7, 7, 7, 7, 7, 7, 7, 7, 7, 7, 7, 7, 7, 7, 7, 8, 8, 8, 8, 8, 8, 8, 8, 8, 8, 8, 8, 8, 8, 8, 8, 8, 8, 8, 8, 8, 8, 8, 8, 8, 8, 8, 8, 8, 8, 8, 8, 8, 8, 8, 8, 8, 8, 8, 8, 8, 8, 8, 8, 8, 8, 8, 8, 8, 8, 8, 8, 8, 8, 8, 8, 8, 8, 8, 8, 8, 8, 8, 8, 8, 8, 8, 8, 8, 8, 8, 8, 8, 8, 8, 8, 8, 8, 8, 8, 8, 8, 8, 8, 8, 8, 8, 8, 8, 8, 8, 8, 8, 8, 8, 8, 8, 8, 8, 8, 8, 8, 8, 8, 8, 8, 8, 8, 8, 8, 8, 8, 8, 8, 8, 8, 8, 8, 8, 8, 8, 8, 8, 8, 8, 8, 8, 8]) (Int.toNat (IntKind.u8.wrap y3.1))) : Nat) : Int))))
theorem Len64_bitsSpec (p0 : Int) (RES : Int) (hm : Len64_bits p0 = some RES) : Spec Tryz.prog 187 [.p (vk .u64 p0)] [] (pI RES) [] [] := by
 unfold Len64_bits at hm
 refine SO Tryz.func187 rfl rfl [(0, .p (vk .u64 p0))] [] ?_
 intro cx hnt
 refine Sq (RD hnt (.no :: []) [] [(2, pI 0)] [] [] tv ?_)
 refine Sq (Sq (RD hnt (nn 2 []) [] [(4, pB (decide (p0 ≥ 4294967296)))] [] [] tv ?_))
 refine Jn (ι := Int × Int) (fun (y1 : Int × Int) => mkSt [(0, .p (vk .u64 y1.1)), (2, pI y1.2)] []) (fun y1 => Len64_bitsJ1 y1 = some RES) ?_ ?_
 ·intro y1 hm
  unfold Len64_bitsJ1 at hm
  refine Sq (Sq (RD hnt (nn 2 []) [] [(8, pB (decide (y1.1 ≥ 65536)))] [] [] tv ?_))
  refine Jn (ι := Int × Int) (fun (y2 : Int × Int) => mkSt [(0, .p (vk .u64 y2.1)), (2, pI y2.2)] []) (fun y2 => Len64_bitsJ2 y2 = some RES) ?_ ?_
  ·intro y2 hm
   unfold Len64_bitsJ2 at hm
   refine Sq (Sq (RD hnt (nn 2 []) [] [(14, pB (decide (y2.1 ≥ 256)))] [] [] tv ?_))
   refine Jn (ι := Int × Int) (fun (y3 : Int × Int) => mkSt [(0, .p (vk .u64 y3.1)), (2, pI y3.2)] []) (fun y3 => Len64_bitsJ3 y3 = some RES) ?_ ?_
   ·intro y3 hm
    unfold Len64_bitsJ3 at hm
    obtain ⟨g4, hm⟩ := go1 hm
    refine Sq (RK hnt (nn 7 []) [(2, pI (c114e1 y3))] [] (an g4.1 (an g4.2 tv)) ?_)
    obtain rfl := sj hm
    exact DW.ret (retK [] [] (pI (c114e1 y3)))
   ·refine condM hm ?_ ?_
    ·intro h3 hm
     refine Sq (RK hnt (nn 3 []) [(0, .p (vk .u64 (kshr .u64 y2.1 8))), (2, pI y2.2)] [] (an (by decide : (0 : Int) ≤ 8) tv) ?_)
     refine RD hnt (nn 3 []) [] [(2, pI (w64 (y2.2 + 8)))] [] [] tv ?_
     exact jD ((kshr .u64 y2.1 8), (w64 (y2.2 + 8))) hm Conv.eqK
    ·intro h3 hm
     refine Sk ?_
     exact jD (y2.1, y2.2) hm Conv.t0
  ·refine condM hm ?_ ?_
   ·intro h2 hm
    refine Sq (RK hnt (nn 3 []) [(0, .p (vk .u64 (kshr .u64 y1.1 16))), (2, pI y1.2)] [] (an (by decide : (0 : Int) ≤ 16) tv) ?_)
    refine RD hnt (nn 3 []) [] [(2, pI (w64 (y1.2 + 16)))] [] [] tv ?_
    exact jD ((kshr .u64 y1.1 16), (w64 (y1.2 + 16))) hm Conv.eqK
   ·intro h2 hm
    refine Sk ?_
    exact jD (y1.1, y1.2) hm Conv.t0
 ·refine condM hm ?_ ?_
  ·intro h1 hm
   refine Sq (RK hnt (nn 3 []) [(0, .p (vk .u64 (kshr .u64 p0 32)))] [] (an (by decide : (0 : Int) ≤ 32) tv) ?_)
   refine RD hnt (.no :: []) [] [(2, pI 32)] [] [] tv ?_
   exact jD ((kshr .u64 p0 32), 32) hm Conv.eqK
  ·intro h1 hm
   refine Sk ?_
   exact jD (p0, 0) hm Conv.t0
abbrev o114 (ks : List Nat) (b : Bool) (RES : Int) : Orc := .call 187 ks b (pI RES) [] []

theorem Len_bitsSpec (p0 : Int) (RES : Int) (hm : Len_bits p0 = some RES) : Spec Tryz.prog 169 [.p (vk .u64 p0)] [] (pI RES) [] [] := by
 unfold Len_bits at hm
 refine SO Tryz.func169 rfl rfl [(0, .p (vk .u64 p0))] [] ?_
 intro cx hnt
 refine Sq (RD hnt (.no :: []) [] [] [] [] tv ?_)
 refine Sq (condF ff ?_)
 refine Sk ?_
 obtain ⟨r1, hr1, hm⟩ := bo hm
 refine Sq (RK hnt (.no :: o114 [] true r1 :: .no :: []) [(2, pI r1)] [] (an (Len64_bitsSpec p0 r1 hr1) tv) ?_)
 obtain rfl := sj hm
 exact DW.ret (retK [] [] (pI r1))
abbrev o113 (ks : List Nat) (b : Bool) (RES : Int) : Orc := .call 169 ks b (pI RES) [] []

theorem isNaN_cmp_intSpec (p0 : Int) (RES : Bool) (hm : isNaN_cmp_int p0 = some RES) : Spec Tryz.prog 195 [pI p0] [] (pB RES) [] [] := by
 unfold isNaN_cmp_int at hm
 refine SO Tryz.func195 rfl rfl [(0, pI p0)] [] ?_
 intro cx hnt
 refine Sq (RK hnt (.no :: []) [(0, pI p0)] [] tv ?_)
 refine Sq (RK hnt (nn 4 []) [(2, pB (p0 != p0))] [] tv ?_)
 obtain rfl := sj hm
 exact DW.ret (retK [] [] (pB (p0 != p0)))
abbrev o118 (ks : List Nat) (b : Bool) (RES : Bool) : Orc := .call 195 ks b (pB RES) [] []

theorem Less_cmp_intSpec (p0 : Int) (p1 : Int) (RES : Bool) (hm : Less_cmp_int p0 p1 = some RES) : Spec Tryz.prog 183 [pI p0, pI p1] [] (pB RES) [] [] := by
 unfold Less_cmp_int at hm
 refine SO Tryz.func183 rfl rfl [(0, pI p0), (1, pI p1)] [] ?_
 intro cx hnt
 refine Sq (RD hnt (.no :: []) [] [] [] [] tv ?_)
 obtain ⟨r1, hr1, hm⟩ := bo hm
 refine Sq ?_
 refine Jn (ι := Bool) (fun (y1 : Bool) => mkSt [(4, pB y1)] []) (fun y1 => Less_cmp_intJ1 y1 = some RES) ?_ ?_
 ·intro y1 hm
  unfold Less_cmp_intJ1 at hm
  obtain rfl := sj hm
  exact DW.ret (retK [] [] (pB y1))
 ·rcases bt r1 with h2 | h2
  ·replace hm := if_t h2 hm
   obtain ⟨r3, hr3, hm⟩ := bo hm
   rcases bt (!r3) with h4 | h4
   ·replace hm := if_t h4 hm
    refine RK hnt (.no :: o118 [] true r1 :: nn 2 (o118 [] true r3 :: .no :: pT :: .no :: sk 3 (pT :: .no :: []))) [(4, pB true)] [] (an (isNaN_cmp_intSpec p0 r1 hr1) (an2 h2 (an (isNaN_cmp_intSpec p1 r3 hr3) (an2 h2 (an4 h4 tv))))) ?_
    exact jD true hm .refl
   ·replace hm := if_f h4 hm
    refine RK hnt (.no :: o118 [] true r1 :: nn 2 (o118 [] true r3 :: .no :: pT :: nn 4 (pF :: .no :: []))) [(4, pB (decide (p0 < p1)))] [] (an (isNaN_cmp_intSpec p0 r1 hr1) (an2 h2 (an (isNaN_cmp_intSpec p1 r3 hr3) (an2 h2 (an4 h4 tv))))) ?_
    exact jD (decide (p0 < p1)) hm .refl
  ·replace hm := if_f h2 hm
   refine RK hnt (.no :: o118 [] true r1 :: .no :: sk 3 (pF :: nn 4 (pF :: .no :: []))) [(4, pB (decide (p0 < p1)))] [] (an (isNaN_cmp_intSpec p0 r1 hr1) (an4 h2 (an4 ff tv))) ?_
   exact jD (decide (p0 < p1)) hm .refl
abbrev o117 (ks : List Nat) (b : Bool) (RES : Bool) : Orc := .call 183 ks b (pB RES) [] []

abbrev c116e1 (s4 : (List Int) × Int) := (s4.1.getD (Int.toNat (w64 (s4.2 - 1))) 0)
abbrev c116e2 (s4 : (List Int) × Int) := (updF (updF (elI s4.1) (Int.toNat s4.2) [vi (c116e1 s4)]) (Int.toNat (w64 (s4.2 - 1))) (setRange ((updF (elI s4.1) (Int.toNat s4.2) [vi (c116e1 s4)]) (Int.toNat (w64 (s4.2 - 1)))) 0 [vi (s4.1.getD (Int.toNat s4.2) 0)]))
abbrev c116e3 (s4 : (List Int) × Int) := ((s4.1.set (Int.toNat s4.2) (c116e1 s4)).set (Int.toNat (w64 (s4.2 - 1))) (s4.1.getD (Int.toNat s4.2) 0))
theorem insertionSortOrdered_slices_intSpec (p0 : List Int) (p1 : Int) (p2 : Int) (RES : List Int) (hm : insertionSortOrdered_slices_int p0 p1 p2 = some RES) : Spec Tryz.prog 177 [ow 0 p0.length, pI p1, pI p2] [roI p0] (.p (.tup [])) [roI RES] [] := by
 unfold insertionSortOrdered_slices_int at hm
 refine SO Tryz.func177 rfl rfl [(0, ow 0 p0.length), (1, pI p1), (2, pI p2)] [(0, ob0 (roI p0))] ?_
 intro cx hnt
 refine Sq (RD hnt (nn 3 []) [] [(6, pI (w64 (p1 + 1)))] [] [] tv ?_)
 refine Bk ?_
 obtain ⟨hc1, hm⟩ := go1 hm
 refine DW.forO (fun (k1 : Int) (s1 : List Int) => mkSt [(0, ow 0 s1.length), (1, pI p1), (2, pI p2), (6, pI k1)] [(0, ob0 (roI s1))]) (lo := (w64 (p1 + 1))) (hi := p2) hm Conv.eqK ?_
 intro k1 s1 n1 hk1 hs1 he1
 refine Sq (Sq (RD hnt (nn 3 []) [] [(12, pB (decide (k1 < p2)))] [] [] tv ?_))
 refine condK (decide (k1 < p2)) ?_ ?_
 ·intro h75
  have hlt1 : k1 < p2 := by have := of_decide_eq_true h75; omega
  have hm := hs1 hlt1
  unfold insertionSortOrdered_slices_intL1 at hm
  refine Sk ?_
  refine Sq (Bk ?_)
  refine Sq (RD hnt (nn 2 []) [12] [(7, pI k1)] [] [] tv ?_)
  refine Bk ?_
  refine DW.whileO (fun (s4 : (List Int) × Int) => mkSt [(0, ow 0 s4.1.length), (1, pI p1), (2, pI p2), (6, pI k1), (7, pI s4.2)] [(0, ob0 (roI s4.1))]) hm Conv.eqK ?_
  intro s4 n4 hm
  unfold insertionSortOrdered_slices_intL4 at hm
  refine Sq (Sq ?_)
  refine Jn (ι := Bool) (fun (y6 : Bool) => mkSt [(0, ow 0 s4.1.length), (1, pI p1), (2, pI p2), (6, pI k1), (7, pI s4.2), (30, pB y6)] [(0, ob0 (roI s4.1))]) (fun y6 => (insertionSortOrdered_slices_intJ6 n1 s4 n4) y6 = some RES) ?_ ?_
  ·intro y6 hm
   unfold insertionSortOrdered_slices_intJ6 at hm
   refine condM hm ?_ ?_
   ·intro h97 hm
    refine Sk ?_
    refine Sq (Bk ?_)
    obtain ⟨g98, g99, g100, g101, hm⟩ := go4 hm
    obtain ⟨g102, g103, g104, g105, hm⟩ := go4 hm
    refine RN hnt (nn 18 []) [(0, ow 0 (c116e3 s4).length), (1, pI p1), (2, pI p2), (6, pI k1), (7, pI s4.2)] [(0, ob0 (roI (c116e3 s4)))] [(0, ow 0 s4.1.length)] [(0, .row 1 s4.1.length (c116e2 s4))] (an g98.1 (an g98.2 (an g99 (an g100.1 (an g100.2 (an g101 (an g102.1 (an g102.2 (an g103 (an g104.1 (an g104.2 (an g105 tv)))))))))))) (by kernel_rfl) (.cons rfl (MLe.ownLen (enc := encI) (d := 0) (f := (c116e2 s4)) (RowIs.updR (RowIs.upd RowIs.elems (c116e1 s4) rfl) (by omega) (s4.1.getD (Int.toNat s4.2) 0) rfl)) .nil) (.cons rfl (BLe.typed (RowIs.updR (RowIs.upd RowIs.elems (c116e1 s4) rfl) (by omega) (s4.1.getD (Int.toNat s4.2) 0) rfl)) .nil) ?_
    refine DW.done ?_
    show DW _ _ _ _ _
    refine RD hnt (nn 3 []) [] [(7, pI (w64 (s4.2 - 1)))] [] [] tv ?_
    exact jD ((c116e3 s4), (w64 (s4.2 - 1))) hm Conv.eqK
   ·intro h97 hm
    refine DW.exit ?_
    refine joinQ_exit ?_
    refine KQ_exit ?_
    refine blockQ_exit ?_
    show DW _ _ _ _ _
    refine DW.done ?_
    show DW _ _ _ _ _
    refine RD hnt (nn 3 []) [7, 30] [(6, pI (w64 (k1 + 1)))] [] [] tv ?_
    exact jD s4.1 ⟨hlt1, hm⟩ (Conv.tp [(6, pI (w64 (k1 + 1)))] [] (by kernel_rfl) (.cons rfl (.of_eq (congrArg pI (w64_for (lo := (w64 (p1 + 1))) (hi := p2) (by omega) hk1 hlt1 (by omega)))) .nil) .nil)
  ·rcases bt (decide (s4.2 > p1)) with h91 | h91
   ·replace hm := if_t h91 hm
    obtain ⟨g92, g93, g94, g95, hm⟩ := go4 hm
    obtain ⟨r96, hr96, hm⟩ := bo hm
    refine RD hnt (nn 13 (o117 [] true r96 :: pT :: [])) [] [(30, pB r96)] [] [] (an3 h91 (an g92.1 (an g92.2 (an h91 (an g93 (an4 h91 (an g94.1 (an g94.2 (an h91 (an g95 (an h91 (an (Less_cmp_intSpec (s4.1.getD (Int.toNat s4.2) 0) (c116e1 s4) r96 hr96) (an h91 tv))))))))))))) ?_
    exact jD r96 hm Conv.eqK
   ·replace hm := if_f h91 hm
    refine RD hnt (nn 4 (sk 10 (pF :: []))) [] [(30, pB false)] [] [] (an5 h91 (an6 h91 tv)) ?_
    exact jD false hm Conv.eqK
 ·intro h75
  have hge1 : ¬ k1 < p2 := by have := of_decide_eq_false h75; omega
  have hm := he1 hge1
  unfold insertionSortOrdered_slices_intD1 at hm
  refine DW.exit ?_
  refine joinQ_exit ?_
  refine KQ_exit ?_
  refine blockQ_exit ?_
  show DW _ _ _ _ _
  refine DW.done ?_
  obtain rfl := sj hm
  exact endK [roI s1] [] (.p (.tup []))
abbrev o116 (ks : List Nat) (b : Bool) (RES : List Int) : Orc := .call 177 ks b (.p (.tup [])) [roI RES] []

abbrev c120e1 (s1 : (List Int) × Int) (p3 : Int) (y4 : Int) := (updF (updF (elI s1.1) (Int.toNat (w64 (p3 + s1.2))) [vi (s1.1.getD (Int.toNat (w64 (p3 + y4))) 0)]) (Int.toNat (w64 (p3 + y4))) (setRange ((updF (elI s1.1) (Int.toNat (w64 (p3 + s1.2))) [vi (s1.1.getD (Int.toNat (w64 (p3 + y4))) 0)]) (Int.toNat (w64 (p3 + y4)))) 0 [vi (s1.1.getD (Int.toNat (w64 (p3 + s1.2))) 0)]))
abbrev c120e2 (s1 : (List Int) × Int) (p3 : Int) (y4 : Int) := ((s1.1.set (Int.toNat (w64 (p3 + s1.2))) (s1.1.getD (Int.toNat (w64 (p3 + y4))) 0)).set (Int.toNat (w64 (p3 + y4))) (s1.1.getD (Int.toNat (w64 (p3 + s1.2))) 0))
abbrev c120e3 (s1 : (List Int) × Int) := (w64 ((w64 (2 * s1.2)) + 1))
theorem siftDownOrdered_slices_intSpec (p0 : List Int) (p1 : Int) (p2 : Int) (p3 : Int) (RES : List Int) (hm : siftDownOrdered_slices_int p0 p1 p2 p3 = some RES) : Spec Tryz.prog 190 [ow 0 p0.length, pI p1, pI p2, pI p3] [roI p0] (.p (.tup [])) [roI RES] [] := by
 unfold siftDownOrdered_slices_int at hm
 refine SO Tryz.func190 rfl rfl [(0, ow 0 p0.length), (1, pI p1), (2, pI p2), (3, pI p3)] [(0, ob0 (roI p0))] ?_
 intro cx hnt
 refine Sq (RD hnt (nn 2 []) [1] [(8, pI p1)] [] [] tv ?_)
 refine Bk ?_
 refine DW.whileO (fun (s1 : (List Int) × Int) => mkSt [(0, ow 0 s1.1.length), (2, pI p2), (3, pI p3), (8, pI s1.2)] [(0, ob0 (roI s1.1))]) hm Conv.eqK ?_
 intro s1 n1 hm
 unfold siftDownOrdered_slices_intL1 at hm
 refine Bk ?_
 refine Sq (RD hnt (nn 4 []) [] [(9, pI (c120e3 s1))] [] [] tv ?_)
 refine Sq (Sq (RD hnt (nn 3 []) [] [(16, pB (decide ((c120e3 s1) ≥ p2)))] [] [] tv ?_))
 refine condM hm ?_ ?_
 ·intro h23 hm
  refine DW.exit ?_
  refine blockQ_other (by decide) ?_
  refine KQ_exit ?_
  refine joinQ_exit ?_
  refine KQ_exit ?_
  refine blockQ_exit ?_
  show DW _ _ _ _ _
  refine DW.done ?_
  obtain rfl := sj hm
  exact endK [roI s1.1] [] (.p (.tup []))
 ·intro h23 hm
  refine Sk ?_
  refine Sq (Sq ?_)
  refine Jn (ι := Bool) (fun (y3 : Bool) => mkSt [(0, ow 0 s1.1.length), (2, pI p2), (3, pI p3), (8, pI s1.2), (9, pI (c120e3 s1)), (36, pB y3)] [(0, ob0 (roI s1.1))]) (fun y3 => (siftDownOrdered_slices_intJ3 p3 s1 n1) y3 = some RES) ?_ ?_
  ·intro y3 hm
   unfold siftDownOrdered_slices_intJ3 at hm
   refine Jn (ι := Int) (fun (y4 : Int) => mkSt [(0, ow 0 s1.1.length), (2, pI p2), (3, pI p3), (8, pI s1.2), (9, pI y4)] [(0, ob0 (roI s1.1))]) (fun y4 => (siftDownOrdered_slices_intJ4 p3 s1 n1) y4 = some RES) ?_ ?_
   ·intro y4 hm
    unfold siftDownOrdered_slices_intJ4 at hm
    obtain ⟨g31, g32, g33, g34, hm⟩ := go4 hm
    obtain ⟨r35, hr35, hm⟩ := bo hm
    refine Sq (Sq (RD hnt (nn 12 (o117 [] true r35 :: .no :: [])) [] [(52, pB (!r35))] [] [] (an g31.1 (an g31.2 (an g32 (an g33.1 (an g33.2 (an g34 (an (Less_cmp_intSpec (s1.1.getD (Int.toNat (w64 (p3 + s1.2))) 0) (s1.1.getD (Int.toNat (w64 (p3 + y4))) 0) r35 hr35) tv))))))) ?_))
    refine condM hm ?_ ?_
    ·intro h36 hm
     obtain rfl := sj hm
     exact DW.ret (retK [roI s1.1] [] (.p (.tup [])))
    ·intro h36 hm
     refine Sk ?_
     obtain ⟨g37, g38, g39, g40, hm⟩ := go4 hm
     obtain ⟨g41, g42, g43, g44, hm⟩ := go4 hm
     refine Sq (RN hnt (nn 24 []) [(0, ow 0 (c120e2 s1 p3 y4).length), (2, pI p2), (3, pI p3), (9, pI y4)] [(0, ob0 (roI (c120e2 s1 p3 y4)))] [(0, ow 0 s1.1.length)] [(0, .row 1 s1.1.length (c120e1 s1 p3 y4))] (an g37.1 (an g37.2 (an g38 (an g39.1 (an g39.2 (an g40 (an g41.1 (an g41.2 (an g42 (an g43.1 (an g43.2 (an g44 tv)))))))))))) (by kernel_rfl) (.cons rfl (MLe.ownLen (enc := encI) (d := 0) (f := (c120e1 s1 p3 y4)) (RowIs.updR (RowIs.upd RowIs.elems (s1.1.getD (Int.toNat (w64 (p3 + y4))) 0) rfl) (by omega) (s1.1.getD (Int.toNat (w64 (p3 + s1.2))) 0) rfl)) .nil) (.cons rfl (BLe.typed (RowIs.updR (RowIs.upd RowIs.elems (s1.1.getD (Int.toNat (w64 (p3 + y4))) 0) rfl) (by omega) (s1.1.getD (Int.toNat (w64 (p3 + s1.2))) 0) rfl)) .nil) ?_)
     refine RD hnt (nn 2 []) [9] [(8, pI y4)] [] [] tv ?_
     refine DW.done ?_
     show DW _ _ _ _ _
     exact jD ((c120e2 s1 p3 y4), y4) hm Conv.eqK
   ·refine condM hm ?_ ?_
    ·intro h30 hm
     refine RD hnt (nn 3 []) [36] [(9, pI (w64 ((c120e3 s1) + 1)))] [] [] tv ?_
     exact jD (w64 ((c120e3 s1) + 1)) hm Conv.eqK
    ·intro h30 hm
     refine Sk ?_
     exact jD (c120e3 s1) hm Conv.t0
  ·rcases bt (decide ((w64 ((c120e3 s1) + 1)) < p2)) with h24 | h24
   ·replace hm := if_t h24 hm
    obtain ⟨g25, g26, g27, g28, hm⟩ := go4 hm
    obtain ⟨r29, hr29, hm⟩ := bo hm
    refine RD hnt (nn 18 (o117 [] true r29 :: pT :: [])) [16] [(36, pB r29)] [] [] (an5 h24 (an g25.1 (an g25.2 (an h24 (an g26 (an6 h24 (an g27.1 (an g27.2 (an h24 (an g28 (an h24 (an (Less_cmp_intSpec (s1.1.getD (Int.toNat (w64 (p3 + (c120e3 s1)))) 0) (s1.1.getD (Int.toNat (w64 ((w64 (p3 + (c120e3 s1))) + 1))) 0) r29 hr29) (an h24 tv))))))))))))) ?_
    exact jD r29 hm Conv.eqK
   ·replace hm := if_f h24 hm
    refine RD hnt (nn 5 (sk 14 (pF :: []))) [16] [(36, pB false)] [] [] (an3 h24 (an6 h24 (an6 h24 tv))) ?_
    exact jD false hm Conv.eqK
abbrev o120 (ks : List Nat) (b : Bool) (RES : List Int) : Orc := .call 190 ks b (.p (.tup [])) [roI RES] []

abbrev c119e1 (s3 : (List Int) × Int) (p1 : Int) := ((s3.1.set (Int.toNat p1) (s3.1.getD (Int.toNat (w64 (p1 + s3.2))) 0)).set (Int.toNat (w64 (p1 + s3.2))) (s3.1.getD (Int.toNat p1) 0))
abbrev c119e2 (s3 : (List Int) × Int) (p1 : Int) := (updF (updF (elI s3.1) (Int.toNat p1) [vi (s3.1.getD (Int.toNat (w64 (p1 + s3.2))) 0)]) (Int.toNat (w64 (p1 + s3.2))) (setRange ((updF (elI s3.1) (Int.toNat p1) [vi (s3.1.getD (Int.toNat (w64 (p1 + s3.2))) 0)]) (Int.toNat (w64 (p1 + s3.2)))) 0 [vi (s3.1.getD (Int.toNat p1) 0)]))
theorem heapSortOrdered_slices_intSpec (p0 : List Int) (p1 : Int) (p2 : Int) (RES : List Int) (hm : heapSortOrdered_slices_int p0 p1 p2 = some RES) : Spec Tryz.prog 178 [ow 0 p0.length, pI p1, pI p2] [roI p0] (.p (.tup [])) [roI RES] [] := by
 unfold heapSortOrdered_slices_int at hm
 refine SO Tryz.func178 rfl rfl [(0, ow 0 p0.length), (1, pI p1), (2, pI p2)] [(0, ob0 (roI p0))] ?_
 intro cx hnt
 refine Sq (RD hnt (nn 2 []) [] [(6, pI p1)] [] [] tv ?_)
 refine Sq (RD hnt (.no :: []) [] [(7, pI 0)] [] [] tv ?_)
 refine Sq (RD hnt (nn 4 []) [1, 2] [(8, pI (w64 (p2 - p1)))] [] [] tv ?_)
 refine Sq (Sq (RD hnt (nn 4 []) [] [(9, pI (w64 (Int.tdiv (w64 ((w64 (p2 - p1)) - 1)) 2)))] [] [] (an (by decide : (2 : Int) ≠ 0) tv) ?_))
 refine Bk ?_
 refine DW.whileO (fun (s1 : (List Int) × Int) => mkSt [(0, ow 0 s1.1.length), (6, pI p1), (7, pI 0), (8, pI (w64 (p2 - p1))), (9, pI s1.2)] [(0, ob0 (roI s1.1))]) hm Conv.eqK ?_
 intro s1 n1 hm
 unfold heapSortOrdered_slices_intL1 at hm
 refine Sq (Sq (RD hnt (nn 2 []) [] [(19, pB (decide (s1.2 ≥ 0)))] [] [] tv ?_))
 refine condM hm ?_ ?_
 ·intro h26 hm
  refine Sk ?_
  refine Sq (Bk ?_)
  obtain ⟨r27, hr27, hm⟩ := bo hm
  obtain ⟨g28, hm⟩ := go1 hm
  refine RN hnt (nn 4 (o120 [0] true r27 :: [])) [(0, ow 0 r27.length), (6, pI p1), (7, pI 0), (8, pI (w64 (p2 - p1))), (9, pI s1.2)] [(0, ob0 (roI r27))] [(0, ow 0 s1.1.length)] [] (an (siftDownOrdered_slices_intSpec s1.1 s1.2 (w64 (p2 - p1)) p1 r27 hr27) (an (⟨rfl, g28⟩ : Body.same (roI s1.1) (roI r27)) tv)) (by kernel_rfl) (.cons rfl (MLe.of_eq (congrArg (MV.own 0 0 0) g28)) .nil) .nil ?_
  refine DW.done ?_
  show DW _ _ _ _ _
  refine RD hnt (nn 3 []) [] [(9, pI (w64 (s1.2 - 1)))] [] [] tv ?_
  exact jD (r27, (w64 (s1.2 - 1))) hm Conv.eqK
 ·intro h26 hm
  refine DW.exit ?_
  refine joinQ_exit ?_
  refine KQ_exit ?_
  refine blockQ_exit ?_
  show DW _ _ _ _ _
  refine Sq (RD hnt (nn 3 []) [8, 9, 19] [(10, pI (w64 ((w64 (p2 - p1)) - 1)))] [] [] tv ?_)
  refine Bk ?_
  refine DW.whileO (fun (s3 : (List Int) × Int) => mkSt [(0, ow 0 s3.1.length), (6, pI p1), (7, pI 0), (10, pI s3.2)] [(0, ob0 (roI s3.1))]) hm Conv.eqK ?_
  intro s3 n3 hm
  unfold heapSortOrdered_slices_intL3 at hm
  refine Sq (Sq (RD hnt (nn 2 []) [] [(30, pB (decide (s3.2 ≥ 0)))] [] [] tv ?_))
  refine condM hm ?_ ?_
  ·intro h40 hm
   refine Sk ?_
   refine Sq (Bk ?_)
   obtain ⟨g41, g42, g43, g44, hm⟩ := go4 hm
   obtain ⟨g45, g46, g47, g48, hm⟩ := go4 hm
   refine Sq (RN hnt (nn 20 []) [(0, ow 0 (c119e1 s3 p1).length), (6, pI p1), (7, pI 0), (10, pI s3.2)] [(0, ob0 (roI (c119e1 s3 p1)))] [(0, ow 0 s3.1.length)] [(0, .row 1 s3.1.length (c119e2 s3 p1))] (an g41.1 (an g41.2 (an g42 (an g43.1 (an g43.2 (an g44 (an g45.1 (an g45.2 (an g46 (an g47.1 (an g47.2 (an g48 tv)))))))))))) (by kernel_rfl) (.cons rfl (MLe.ownLen (enc := encI) (d := 0) (f := (c119e2 s3 p1)) (RowIs.updR (RowIs.upd RowIs.elems (s3.1.getD (Int.toNat (w64 (p1 + s3.2))) 0) rfl) (by omega) (s3.1.getD (Int.toNat p1) 0) rfl)) .nil) (.cons rfl (BLe.typed (RowIs.updR (RowIs.upd RowIs.elems (s3.1.getD (Int.toNat (w64 (p1 + s3.2))) 0) rfl) (by omega) (s3.1.getD (Int.toNat p1) 0) rfl)) .nil) ?_)
   obtain ⟨r49, hr49, hm⟩ := bo hm
   obtain ⟨g50, hm⟩ := go1 hm
   refine RN hnt (nn 4 (o120 [0] true r49 :: [])) [(0, ow 0 r49.length), (6, pI p1), (7, pI 0), (10, pI s3.2)] [(0, ob0 (roI r49))] [(0, ow 0 (c119e1 s3 p1).length)] [] (an (siftDownOrdered_slices_intSpec (c119e1 s3 p1) 0 s3.2 p1 r49 hr49) (an (⟨rfl, g50⟩ : Body.same (roI (c119e1 s3 p1)) (roI r49)) tv)) (by kernel_rfl) (.cons rfl (MLe.of_eq (congrArg (MV.own 0 0 0) g50)) .nil) .nil ?_
   refine DW.done ?_
   show DW _ _ _ _ _
   refine RD hnt (nn 3 []) [] [(10, pI (w64 (s3.2 - 1)))] [] [] tv ?_
   exact jD (r49, (w64 (s3.2 - 1))) hm Conv.eqK
  ·intro h40 hm
   refine DW.exit ?_
   refine joinQ_exit ?_
   refine KQ_exit ?_
   refine blockQ_exit ?_
   show DW _ _ _ _ _
   refine DW.done ?_
   obtain rfl := sj hm
   exact endK [roI s3.1] [] (.p (.tup []))
abbrev o119 (ks : List Nat) (b : Bool) (RES : List Int) : Orc := .call 178 ks b (.p (.tup [])) [roI RES] []

theorem order2Ordered_slices_intSpec (p0 : List Int) (p1 : Int) (p2 : Int) (p3 : Int) (RES : Int × Int × Int) (hm : order2Ordered_slices_int p0 p1 p2 p3 = some RES) : Spec Tryz.prog 196 [.p (slI p0), pI p1, pI p2, rr 0] [.box [pI p3]] (.p (.tup [vi RES.1, vi RES.2.1])) [.box [pI RES.2.2]] [] := by
 unfold order2Ordered_slices_int at hm
 refine SO Tryz.func196 rfl rfl [(0, .p (slI p0)), (1, pI p1), (2, pI p2), (3, rr 0)] [(0, bx [pI p3])] ?_
 intro cx hnt
 refine Sq (RD hnt (nn 2 []) [] [] [] [] tv ?_)
 obtain ⟨g1, g2, hm⟩ := go2 hm
 obtain ⟨r3, hr3, hm⟩ := bo hm
 refine Sq (Sq (RD hnt (nn 8 (o117 [] true r3 :: [])) [0] [(18, pB r3)] [] [] (an g1.1 (an g1.2 (an g2.1 (an g2.2 (an (Less_cmp_intSpec (p0.getD (Int.toNat p2) 0) (p0.getD (Int.toNat p1) 0) r3 hr3) tv))))) ?_))
 refine condM hm ?_ ?_
 ·intro h4 hm
  refine Sq (RD hnt (nn 6 []) [3, 18] [] [] [(0, bx [pI (w64 (p3 + 1))])] tv ?_)
  refine Sq (RD hnt (nn 4 []) [1, 2] [(8, pI p2), (9, pI p1)] [] [] tv ?_)
  obtain rfl := sj hm
  exact DW.ret (retK [.box [pI (w64 (p3 + 1))]] [] (.p (.tup [vi p2, vi p1])))
 ·intro h4 hm
  refine Sk ?_
  refine Sq (RK hnt (nn 4 []) [(8, pI p1), (9, pI p2)] [(0, bx [pI p3])] tv ?_)
  obtain rfl := sj hm
  exact DW.ret (retK [.box [pI p3]] [] (.p (.tup [vi p1, vi p2])))
abbrev o124 (ks : List Nat) (b : Bool) (RES : Int × Int × Int) : Orc := .call 196 ks b (.p (.tup [vi RES.1, vi RES.2.1])) [.box [pI RES.2.2]] []

theorem medianOrdered_slices_intSpec (p0 : List Int) (p1 : Int) (p2 : Int) (p3 : Int) (p4 : Int) (RES : Int × Int) (hm : medianOrdered_slices_int p0 p1 p2 p3 p4 = some RES) : Spec Tryz.prog 194 [.p (slI p0), pI p1, pI p2, pI p3, rr 0] [.box [pI p4]] (pI RES.1) [.box [pI RES.2]] [] := by
 unfold medianOrdered_slices_int at hm
 refine SO Tryz.func194 rfl rfl [(0, .p (slI p0)), (1, pI p1), (2, pI p2), (3, pI p3), (4, rr 0)] [(0, bx [pI p4])] ?_
 intro cx hnt
 refine Sq (RD hnt (.no :: []) [] [] [] [] tv ?_)
 obtain ⟨r1, hr1, hm⟩ := bo hm
 refine Sq (RD hnt (nn 4 (o124 [0] true r1 :: nn 5 [])) [] [(1, pI r1.1), (2, pI r1.2.1)] [] [(0, bx [pI r1.2.2])] (an (order2Ordered_slices_intSpec p0 p1 p2 p4 r1 hr1) (an tv tv)) ?_)
 obtain ⟨r2, hr2, hm⟩ := bo hm
 refine Sq (RD hnt (nn 4 (o124 [0] true r2 :: nn 5 [])) [3] [(2, pI r2.1)] [] [(0, bx [pI r2.2.2])] (an (order2Ordered_slices_intSpec p0 r1.2.1 p3 r1.2.2 r2 hr2) (an tv tv)) ?_)
 obtain ⟨r3, hr3, hm⟩ := bo hm
 refine Sq (RK hnt (nn 4 (o124 [0] true r3 :: nn 5 [])) [(2, pI r3.2.1)] [(0, bx [pI r3.2.2])] (an (order2Ordered_slices_intSpec p0 r1.1 r2.1 r2.2.2 r3 hr3) (an tv tv)) ?_)
 refine Sq (RD hnt (nn 2 []) [2] [(10, pI r3.2.1)] [] [] tv ?_)
 obtain rfl := sj hm
 exact DW.ret (retK [.box [pI r3.2.2]] [] (pI r3.2.1))
abbrev o123 (ks : List Nat) (b : Bool) (RES : Int × Int) : Orc := .call 194 ks b (pI RES.1) [.box [pI RES.2]] []

theorem medianAdjacentOrdered_slices_intSpec (p0 : List Int) (p1 : Int) (p2 : Int) (RES : Int × Int) (hm : medianAdjacentOrdered_slices_int p0 p1 p2 = some RES) : Spec Tryz.prog 193 [.p (slI p0), pI p1, rr 0] [.box [pI p2]] (pI RES.1) [.box [pI RES.2]] [] := by
 unfold medianAdjacentOrdered_slices_int at hm
 refine SO Tryz.func193 rfl rfl [(0, .p (slI p0)), (1, pI p1), (2, rr 0)] [(0, bx [pI p2])] ?_
 intro cx hnt
 refine Sq (RD hnt (.no :: []) [] [] [] [] tv ?_)
 obtain ⟨r1, hr1, hm⟩ := bo hm
 refine Sq (RK hnt (nn 7 (o123 [0] true r1 :: .no :: [])) [(6, pI r1.1)] [(0, bx [pI r1.2])] (an (medianOrdered_slices_intSpec p0 (w64 (p1 - 1)) p1 (w64 (p1 + 1)) p2 r1 hr1) (an tv tv)) ?_)
 obtain rfl := sj hm
 exact DW.ret (retK [.box [pI r1.2]] [] (pI r1.1))
abbrev o122 (ks : List Nat) (b : Bool) (RES : Int × Int) : Orc := .call 193 ks b (pI RES.1) [.box [pI RES.2]] []

abbrev c121e1 (p2 : Int) (p1 : Int) := (w64 (Int.tdiv (w64 (p2 - p1)) 4))
abbrev c121e2 (p1 : Int) (p2 : Int) := (w64 (p1 + (w64 ((c121e1 p2 p1) * 2))))
theorem choosePivotOrdered_slices_intSpec (p0 : List Int) (p1 : Int) (p2 : Int) (RES : Int × Int) (hm : choosePivotOrdered_slices_int p0 p1 p2 = some RES) : Spec Tryz.prog 180 [.p (slI p0), pI p1, pI p2] [] (.p (.tup [vi RES.1, vi RES.2])) [] [] := by
 unfold choosePivotOrdered_slices_int at hm
 refine SO Tryz.func180 rfl rfl [(0, .p (slI p0)), (1, pI p1), (2, pI p2)] [] ?_
 intro cx hnt
 refine Sq (RD hnt (nn 2 []) [] [] [] [] tv ?_)
 refine Sq (RD hnt (nn 4 []) [2] [(8, pI (w64 (p2 - p1)))] [] [] tv ?_)
 refine Sq (RD hnt (.no :: []) [] [(9, rr 1072)] [] [(1072, bx [pI 0])] tv ?_)
 refine Sq (RD hnt (nn 6 []) [] [(10, pI (w64 (p1 + (w64 ((c121e1 p2 p1) * 1)))))] [] [] (an (by decide : (4 : Int) ≠ 0) tv) ?_)
 refine Sq (RD hnt (nn 6 []) [] [(11, pI (c121e2 p1 p2))] [] [] (an (by decide : (4 : Int) ≠ 0) tv) ?_)
 refine Sq (RD hnt (nn 6 []) [1] [(12, pI (w64 (p1 + (w64 ((c121e1 p2 p1) * 3)))))] [] [] (an (by decide : (4 : Int) ≠ 0) tv) ?_)
 refine Sq (Sq (RD hnt (nn 2 []) [] [(32, pB (decide ((w64 (p2 - p1)) ≥ 8)))] [] [] tv ?_))
 refine Jn (ι := Int × Int) (fun (y1 : Int × Int) => mkSt [(9, rr 1072), (11, pI y1.2)] [(1072, bx [pI y1.1])]) (fun y1 => choosePivotOrdered_slices_intJ1 y1 = some RES) ?_ ?_
 ·intro y1 hm
  unfold choosePivotOrdered_slices_intJ1 at hm
  refine Sq (RK hnt (.no :: []) [(11, pI y1.2), (49, pI y1.1)] [] tv ?_)
  refine Bk ?_
  refine Sq (RD hnt (nn 2 []) [] [(51, pB (y1.1 == 0))] [] [] tv ?_)
  refine condM hm ?_ ?_
  ·intro h7 hm
   refine Sq (RK hnt (nn 3 []) [(6, pI y1.2), (7, pI 1)] [] tv ?_)
   obtain rfl := sj hm
   exact DW.ret (retK [] [] (.p (.tup [vi y1.2, vi 1])))
  ·intro h7 hm
   refine Sq (RK hnt (nn 2 []) [(11, pI y1.2), (54, pB (y1.1 == 12))] [] tv ?_)
   refine condM hm ?_ ?_
   ·intro h8 hm
    refine Sq (RK hnt (nn 3 []) [(6, pI y1.2), (7, pI 2)] [] tv ?_)
    obtain rfl := sj hm
    exact DW.ret (retK [] [] (.p (.tup [vi y1.2, vi 2])))
   ·intro h8 hm
    refine Sq (RK hnt (nn 3 []) [(6, pI y1.2), (7, pI 0)] [] tv ?_)
    obtain rfl := sj hm
    exact DW.ret (retK [] [] (.p (.tup [vi y1.2, vi 0])))
 ·refine condM hm ?_ ?_
  ·intro h1 hm
   refine Sq (Sq (RD hnt (nn 2 []) [8, 32] [(34, pB (decide ((w64 (p2 - p1)) ≥ 50)))] [] [] tv ?_))
   refine Jn (ι := Int × Int × Int × Int) (fun (y2 : Int × Int × Int × Int) => mkSt [(0, .p (slI p0)), (9, rr 1072), (10, pI y2.2.1), (11, pI y2.2.2.1), (12, pI y2.2.2.2)] [(1072, bx [pI y2.1])]) (fun y2 => (choosePivotOrdered_slices_intJ2 p0) y2 = some RES) ?_ ?_
   ·intro y2 hm
    unfold choosePivotOrdered_slices_intJ2 at hm
    obtain ⟨r6, hr6, hm⟩ := bo hm
    refine RK hnt (nn 4 (o123 [1072] true r6 :: .no :: [])) [(9, rr 1072), (11, pI r6.1)] [(1072, bx [pI r6.2])] (an (medianOrdered_slices_intSpec p0 y2.2.1 y2.2.2.1 y2.2.2.2 y2.1 r6 hr6) (an tv tv)) ?_
    exact jD (r6.2, r6.1) hm .refl
   ·refine condM hm ?_ ?_
    ·intro h2 hm
     obtain ⟨r3, hr3, hm⟩ := bo hm
     refine Sq (RK hnt (nn 2 (o122 [1072] true r3 :: .no :: [])) [(0, .p (slI p0)), (9, rr 1072), (10, pI r3.1), (11, pI (c121e2 p1 p2)), (12, pI (w64 (p1 + (w64 ((c121e1 p2 p1) * 3)))))] [(1072, bx [pI r3.2])] (an (medianAdjacentOrdered_slices_intSpec p0 (w64 (p1 + (w64 ((c121e1 p2 p1) * 1)))) 0 r3 hr3) (an tv tv)) ?_)
     obtain ⟨r4, hr4, hm⟩ := bo hm
     refine Sq (RD hnt (nn 2 (o122 [1072] true r4 :: .no :: [])) [] [(11, pI r4.1)] [] [(1072, bx [pI r4.2])] (an (medianAdjacentOrdered_slices_intSpec p0 (c121e2 p1 p2) r3.2 r4 hr4) (an tv tv)) ?_)
     obtain ⟨r5, hr5, hm⟩ := bo hm
     refine RD hnt (nn 2 (o122 [1072] true r5 :: .no :: [])) [] [(12, pI r5.1)] [] [(1072, bx [pI r5.2])] (an (medianAdjacentOrdered_slices_intSpec p0 (w64 (p1 + (w64 ((c121e1 p2 p1) * 3)))) r4.2 r5 hr5) (an tv tv)) ?_
     exact jD (r5.2, r3.1, r4.1, r5.1) hm Conv.eqK
    ·intro h2 hm
     refine Sk ?_
     exact jD (0, (w64 (p1 + (w64 ((c121e1 p2 p1) * 1)))), (c121e2 p1 p2), (w64 (p1 + (w64 ((c121e1 p2 p1) * 3))))) hm Conv.t0
  ·intro h1 hm
   refine Sk ?_
   exact jD (0, (c121e2 p1 p2)) hm Conv.t0
abbrev o121 (ks : List Nat) (b : Bool) (RES : Int × Int) : Orc := .call 180 ks b (.p (.tup [vi RES.1, vi RES.2])) [] []

abbrev c125e1 (s1 : (List Int) × Int × Int) := (updF (updF (elI s1.1) (Int.toNat s1.2.1) [vi (s1.1.getD (Int.toNat s1.2.2) 0)]) (Int.toNat s1.2.2) (setRange ((updF (elI s1.1) (Int.toNat s1.2.1) [vi (s1.1.getD (Int.toNat s1.2.2) 0)]) (Int.toNat s1.2.2)) 0 [vi (s1.1.getD (Int.toNat s1.2.1) 0)]))
abbrev c125e2 (s1 : (List Int) × Int × Int) := ((s1.1.set (Int.toNat s1.2.1) (s1.1.getD (Int.toNat s1.2.2) 0)).set (Int.toNat s1.2.2) (s1.1.getD (Int.toNat s1.2.1) 0))
theorem reverseRangeOrdered_slices_intSpec (p0 : List Int) (p1 : Int) (p2 : Int) (RES : List Int) (hm : reverseRangeOrdered_slices_int p0 p1 p2 = some RES) : Spec Tryz.prog 181 [ow 0 p0.length, pI p1, pI p2] [roI p0] (.p (.tup [])) [roI RES] [] := by
 unfold reverseRangeOrdered_slices_int at hm
 refine SO Tryz.func181 rfl rfl [(0, ow 0 p0.length), (1, pI p1), (2, pI p2)] [(0, ob0 (roI p0))] ?_
 intro cx hnt
 refine Sq (RD hnt (nn 2 []) [1] [(6, pI p1)] [] [] tv ?_)
 refine Sq (RD hnt (nn 3 []) [2] [(7, pI (w64 (p2 - 1)))] [] [] tv ?_)
 refine Bk ?_
 refine DW.whileO (fun (s1 : (List Int) × Int × Int) => mkSt [(0, ow 0 s1.1.length), (6, pI s1.2.1), (7, pI s1.2.2)] [(0, ob0 (roI s1.1))]) hm Conv.eqK ?_
 intro s1 n1 hm
 unfold reverseRangeOrdered_slices_intL1 at hm
 refine Sq (Sq (RD hnt (nn 3 []) [] [(13, pB (decide (s1.2.1 < s1.2.2)))] [] [] tv ?_))
 refine condM hm ?_ ?_
 ·intro h10 hm
  refine Sk ?_
  refine Bk ?_
  obtain ⟨g11, g12, g13, g14, hm⟩ := go4 hm
  obtain ⟨g15, g16, g17, g18, hm⟩ := go4 hm
  refine Sq (RN hnt (nn 16 []) [(0, ow 0 (c125e2 s1).length), (6, pI s1.2.1), (7, pI s1.2.2)] [(0, ob0 (roI (c125e2 s1)))] [(0, ow 0 s1.1.length)] [(0, .row 1 s1.1.length (c125e1 s1))] (an g11.1 (an g11.2 (an g12 (an g13.1 (an g13.2 (an g14 (an g15.1 (an g15.2 (an g16 (an g17.1 (an g17.2 (an g18 tv)))))))))))) (by kernel_rfl) (.cons rfl (MLe.ownLen (enc := encI) (d := 0) (f := (c125e1 s1)) (RowIs.updR (RowIs.upd RowIs.elems (s1.1.getD (Int.toNat s1.2.2) 0) rfl) (by omega) (s1.1.getD (Int.toNat s1.2.1) 0) rfl)) .nil) (.cons rfl (BLe.typed (RowIs.updR (RowIs.upd RowIs.elems (s1.1.getD (Int.toNat s1.2.2) 0) rfl) (by omega) (s1.1.getD (Int.toNat s1.2.1) 0) rfl)) .nil) ?_)
  refine Sq (RD hnt (nn 3 []) [] [(6, pI (w64 (s1.2.1 + 1)))] [] [] tv ?_)
  refine RD hnt (nn 3 []) [] [(7, pI (w64 (s1.2.2 - 1)))] [] [] tv ?_
  refine DW.done ?_
  show DW _ _ _ _ _
  exact jD ((c125e2 s1), (w64 (s1.2.1 + 1)), (w64 (s1.2.2 - 1))) hm Conv.eqK
 ·intro h10 hm
  refine DW.exit ?_
  refine joinQ_exit ?_
  refine KQ_exit ?_
  refine blockQ_exit ?_
  show DW _ _ _ _ _
  refine DW.done ?_
  obtain rfl := sj hm
  exact endK [roI s1.1] [] (.p (.tup []))
abbrev o125 (ks : List Nat) (b : Bool) (RES : List Int) : Orc := .call 181 ks b (.p (.tup [])) [roI RES] []

abbrev c126e1 (s15 : (List Int) × Int) := (s15.1.getD (Int.toNat (w64 (s15.2 - 1))) 0)
abbrev c126e2 (s1 : (List Int) × Int) (s12 : Int) := (updF (updF (elI s1.1) (Int.toNat s12) [vi (s1.1.getD (Int.toNat (w64 (s12 - 1))) 0)]) (Int.toNat (w64 (s12 - 1))) (setRange ((updF (elI s1.1) (Int.toNat s12) [vi (s1.1.getD (Int.toNat (w64 (s12 - 1))) 0)]) (Int.toNat (w64 (s12 - 1)))) 0 [vi (s1.1.getD (Int.toNat s12) 0)]))
abbrev c126e3 (s16 : List Int) (k16 : Int) := (updF (updF (elI s16) (Int.toNat k16) [vi (s16.getD (Int.toNat (w64 (k16 - 1))) 0)]) (Int.toNat (w64 (k16 - 1))) (setRange ((updF (elI s16) (Int.toNat k16) [vi (s16.getD (Int.toNat (w64 (k16 - 1))) 0)]) (Int.toNat (w64 (k16 - 1)))) 0 [vi (s16.getD (Int.toNat k16) 0)]))
abbrev c126e4 (s1 : (List Int) × Int) (s12 : Int) := ((s1.1.set (Int.toNat s12) (s1.1.getD (Int.toNat (w64 (s12 - 1))) 0)).set (Int.toNat (w64 (s12 - 1))) (s1.1.getD (Int.toNat s12) 0))
abbrev c126e5 (s16 : List Int) (k16 : Int) := ((s16.set (Int.toNat k16) (s16.getD (Int.toNat (w64 (k16 - 1))) 0)).set (Int.toNat (w64 (k16 - 1))) (s16.getD (Int.toNat k16) 0))
abbrev c126e6 (s15 : (List Int) × Int) := (updF (updF (elI s15.1) (Int.toNat s15.2) [vi (c126e1 s15)]) (Int.toNat (w64 (s15.2 - 1))) (setRange ((updF (elI s15.1) (Int.toNat s15.2) [vi (c126e1 s15)]) (Int.toNat (w64 (s15.2 - 1)))) 0 [vi (s15.1.getD (Int.toNat s15.2) 0)]))
abbrev c126e7 (s15 : (List Int) × Int) := ((s15.1.set (Int.toNat s15.2) (c126e1 s15)).set (Int.toNat (w64 (s15.2 - 1))) (s15.1.getD (Int.toNat s15.2) 0))
theorem partialInsertionSortOrdered_slices_intSpec (p0 : List Int) (p1 : Int) (p2 : Int) (RES : Bool × (List Int)) (hm : partialInsertionSortOrdered_slices_int p0 p1 p2 = some RES) : Spec Tryz.prog 182 [ow 0 p0.length, pI p1, pI p2] [roI p0] (pB RES.1) [roI RES.2] [] := by
 unfold partialInsertionSortOrdered_slices_int at hm
 refine SO Tryz.func182 rfl rfl [(0, ow 0 p0.length), (1, pI p1), (2, pI p2)] [(0, ob0 (roI p0))] ?_
 intro cx hnt
 refine Sq (RD hnt (.no :: []) [] [] [] [] tv ?_)
 refine Sq (RD hnt (nn 3 []) [] [(7, pI (w64 (p1 + 1)))] [] [] tv ?_)
 refine Sq (Sq (RD hnt (.no :: []) [] [(8, pI 0)] [] [] tv ?_))
 refine Bk ?_
 refine DW.forO (fun (k1 : Int) (s1 : (List Int) × Int) => mkSt [(0, ow 0 s1.1.length), (1, pI p1), (2, pI p2), (7, pI s1.2), (8, pI k1)] [(0, ob0 (roI s1.1))]) (lo := 0) (hi := 5) hm Conv.eqK ?_
 intro k1 s1 n1 hk1 hs1 he1
 refine Sq (Sq (RD hnt (nn 2 []) [] [(14, pB (decide (k1 < 5)))] [] [] tv ?_))
 refine condK (decide (k1 < 5)) ?_ ?_
 ·intro h391
  have hlt1 : k1 < 5 := by have := of_decide_eq_true h391; omega
  have hm := hs1 hlt1
  unfold partialInsertionSortOrdered_slices_intL1 at hm
  refine Sk ?_
  refine Sq ?_
  refine Jn (ι := (List Int) × Int) (fun (y11 : (List Int) × Int) => mkSt [(0, ow 0 y11.1.length), (1, pI p1), (2, pI p2), (7, pI y11.2), (8, pI k1)] [(0, ob0 (roI y11.1))]) (fun y11 => (partialInsertionSortOrdered_slices_intJ11 n1) y11 = some RES) ?_ ?_
  ·intro y11 hm
   unfold partialInsertionSortOrdered_slices_intJ11 at hm
   refine RD hnt (nn 3 []) [] [(8, pI (w64 (k1 + 1)))] [] [] tv ?_
   exact jD (y11.1, y11.2) ⟨hlt1, hm⟩ (Conv.tp [(8, pI (w64 (k1 + 1)))] [] (by kernel_rfl) (.cons rfl (.of_eq (congrArg pI (w64_for (lo := 0) (hi := 5) (by omega) hk1 hlt1 (by omega)))) .nil) .nil)
  ·refine Bk ?_
   refine Sq (Bk ?_)
   refine DW.whileO (fun (s12 : Int) => mkSt [(0, ow 0 s1.1.length), (1, pI p1), (2, pI p2), (7, pI s12), (8, pI k1)] [(0, ob0 (roI s1.1))]) hm Conv.t0 ?_
   intro s12 n12 hm
   unfold partialInsertionSortOrdered_slices_intL12 at hm
   refine Sq (Sq ?_)
   refine Jn (ι := Bool) (fun (y14 : Bool) => mkSt [(0, ow 0 s1.1.length), (1, pI p1), (2, pI p2), (7, pI s12), (8, pI k1), (32, pB y14)] [(0, ob0 (roI s1.1))]) (fun y14 => (partialInsertionSortOrdered_slices_intJ14 p1 p2 s1 n1 s12 n12) y14 = some RES) ?_ ?_
   ·intro y14 hm
    unfold partialInsertionSortOrdered_slices_intJ14 at hm
    refine condM hm ?_ ?_
    ·intro h492 hm
     refine Sk ?_
     refine Bk ?_
     refine RD hnt (nn 3 []) [32] [(7, pI (w64 (s12 + 1)))] [] [] tv ?_
     refine DW.done ?_
     show DW _ _ _ _ _
     exact jD (w64 (s12 + 1)) hm Conv.eqK
    ·intro h492 hm
     refine DW.exit ?_
     refine joinQ_exit ?_
     refine KQ_exit ?_
     refine blockQ_exit ?_
     show DW _ _ _ _ _
     refine Sq (Sq (RD hnt (nn 3 []) [32] [(37, pB (s12 == p2))] [] [] tv ?_))
     refine condM hm ?_ ?_
     ·intro h493 hm
      refine Sq (RK hnt (.no :: []) [(6, pB true)] [(0, ob0 (roI s1.1))] tv ?_)
      obtain rfl := sj hm
      exact DW.ret (retK [roI s1.1] [] (pB true))
     ·intro h493 hm
      refine Sk ?_
      refine Sq (Sq (RD hnt (nn 4 []) [37] [(41, pB (decide ((w64 (p2 - p1)) < 50)))] [] [] tv ?_))
      refine condM hm ?_ ?_
      ·intro h494 hm
       refine Sq (RK hnt (.no :: []) [(6, pB false)] [(0, ob0 (roI s1.1))] tv ?_)
       obtain rfl := sj hm
       exact DW.ret (retK [roI s1.1] [] (pB false))
      ·intro h494 hm
       refine Sk ?_
       obtain ⟨g495, g496, g497, g498, hm⟩ := go4 hm
       obtain ⟨g499, g500, g501, g502, hm⟩ := go4 hm
       refine Sq (RN hnt (nn 18 []) [(0, ow 0 (c126e4 s1 s12).length), (1, pI p1), (2, pI p2), (7, pI s12), (8, pI k1)] [(0, ob0 (roI (c126e4 s1 s12)))] [(0, ow 0 s1.1.length)] [(0, .row 1 s1.1.length (c126e2 s1 s12))] (an g495.1 (an g495.2 (an g496 (an g497.1 (an g497.2 (an g498 (an g499.1 (an g499.2 (an g500 (an g501.1 (an g501.2 (an g502 tv)))))))))))) (by kernel_rfl) (.cons rfl (MLe.ownLen (enc := encI) (d := 0) (f := (c126e2 s1 s12)) (RowIs.updR (RowIs.upd RowIs.elems (s1.1.getD (Int.toNat (w64 (s12 - 1))) 0) rfl) (by omega) (s1.1.getD (Int.toNat s12) 0) rfl)) .nil) (.cons rfl (BLe.typed (RowIs.updR (RowIs.upd RowIs.elems (s1.1.getD (Int.toNat (w64 (s12 - 1))) 0) rfl) (by omega) (s1.1.getD (Int.toNat s12) 0) rfl)) .nil) ?_)
       refine Sq (Sq (RD hnt (nn 4 []) [] [(61, pB (decide ((w64 (s12 - p1)) ≥ 2)))] [] [] tv ?_))
       refine Jn (ι := List Int) (fun (y15 : List Int) => mkSt [(0, ow 0 y15.length), (1, pI p1), (2, pI p2), (7, pI s12), (8, pI k1)] [(0, ob0 (roI y15))]) (fun y15 => (partialInsertionSortOrdered_slices_intJ15 p2 n1 s12) y15 = some RES) ?_ ?_
       ·intro y15 hm
        unfold partialInsertionSortOrdered_slices_intJ15 at hm
        refine Sq (RD hnt (nn 4 []) [] [(98, pB (decide ((w64 (p2 - s12)) ≥ 2)))] [] [] tv ?_)
        refine condM hm ?_ ?_
        ·intro h534 hm
         refine Sq (RD hnt (nn 3 []) [98] [(10, pI (w64 (s12 + 1)))] [] [] tv ?_)
         refine Bk ?_
         obtain ⟨hc16, hm⟩ := go1 hm
         refine DW.forO (fun (k16 : Int) (s16 : List Int) => mkSt [(0, ow 0 s16.length), (1, pI p1), (2, pI p2), (7, pI s12), (8, pI k1), (10, pI k16)] [(0, ob0 (roI s16))]) (lo := (w64 (s12 + 1))) (hi := p2) hm Conv.eqK ?_
         intro k16 s16 n16 hk16 hs16 he16
         refine Sq (Sq (RD hnt (nn 3 []) [] [(103, pB (decide (k16 < p2)))] [] [] tv ?_))
         refine condK (decide (k16 < p2)) ?_ ?_
         ·intro h565
          have hlt16 : k16 < p2 := by have := of_decide_eq_true h565; omega
          have hm := hs16 hlt16
          unfold partialInsertionSortOrdered_slices_intL16 at hm
          refine Sk ?_
          refine Sq (Bk ?_)
          obtain ⟨g566, g567, g568, g569, hm⟩ := go4 hm
          obtain ⟨r570, hr570, hm⟩ := bo hm
          refine Sq (Sq (RD hnt (nn 9 (o117 [] true r570 :: .no :: [])) [103] [(116, pB (!r570))] [] [] (an g566.1 (an g566.2 (an g567 (an g568.1 (an g568.2 (an g569 (an (Less_cmp_intSpec (s16.getD (Int.toNat k16) 0) (s16.getD (Int.toNat (w64 (k16 - 1))) 0) r570 hr570) tv))))))) ?_))
          refine condM hm ?_ ?_
          ·intro h571 hm
           refine DW.exit ?_
           refine blockQ_other (by decide) ?_
           refine KQ_exit ?_
           refine joinQ_exit ?_
           refine KQ_exit ?_
           refine blockQ_exit ?_
           show DW _ _ _ _ _
           exact bD (s16, s12) hm Conv.t0
          ·intro h571 hm
           refine Sk ?_
           obtain ⟨g572, g573, g574, g575, hm⟩ := go4 hm
           obtain ⟨g576, g577, g578, g579, hm⟩ := go4 hm
           refine RN hnt (nn 18 []) [(0, ow 0 (c126e5 s16 k16).length), (1, pI p1), (2, pI p2), (7, pI s12), (8, pI k1), (10, pI k16)] [(0, ob0 (roI (c126e5 s16 k16)))] [(0, ow 0 s16.length)] [(0, .row 1 s16.length (c126e3 s16 k16))] (an g572.1 (an g572.2 (an g573 (an g574.1 (an g574.2 (an g575 (an g576.1 (an g576.2 (an g577 (an g578.1 (an g578.2 (an g579 tv)))))))))))) (by kernel_rfl) (.cons rfl (MLe.ownLen (enc := encI) (d := 0) (f := (c126e3 s16 k16)) (RowIs.updR (RowIs.upd RowIs.elems (s16.getD (Int.toNat (w64 (k16 - 1))) 0) rfl) (by omega) (s16.getD (Int.toNat k16) 0) rfl)) .nil) (.cons rfl (BLe.typed (RowIs.updR (RowIs.upd RowIs.elems (s16.getD (Int.toNat (w64 (k16 - 1))) 0) rfl) (by omega) (s16.getD (Int.toNat k16) 0) rfl)) .nil) ?_
           refine DW.done ?_
           show DW _ _ _ _ _
           refine RD hnt (nn 3 []) [] [(10, pI (w64 (k16 + 1)))] [] [] tv ?_
           exact jD (c126e5 s16 k16) ⟨hlt16, hm⟩ (Conv.tp [(10, pI (w64 (k16 + 1)))] [] (by kernel_rfl) (.cons rfl (.of_eq (congrArg pI (w64_for (lo := (w64 (s12 + 1))) (hi := p2) (by omega) hk16 hlt16 (by omega)))) .nil) .nil)
         ·intro h565
          have hge16 : ¬ k16 < p2 := by have := of_decide_eq_false h565; omega
          have hm := he16 hge16
          unfold partialInsertionSortOrdered_slices_intD16 at hm
          refine DW.exit ?_
          refine joinQ_exit ?_
          refine KQ_exit ?_
          refine blockQ_exit ?_
          show DW _ _ _ _ _
          exact bD (s16, s12) hm Conv.t0
        ·intro h534 hm
         refine Sk ?_
         exact bD (y15, s12) hm Conv.t0
       ·refine condM hm ?_ ?_
        ·intro h503 hm
         refine Sq (RD hnt (nn 3 []) [61] [(9, pI (w64 (s12 - 1)))] [] [] tv ?_)
         refine Bk ?_
         refine DW.whileO (fun (s15 : (List Int) × Int) => mkSt [(0, ow 0 s15.1.length), (1, pI p1), (2, pI p2), (7, pI s12), (8, pI k1), (9, pI s15.2)] [(0, ob0 (roI s15.1))]) hm Conv.eqK ?_
         intro s15 n15 hm
         unfold partialInsertionSortOrdered_slices_intL15 at hm
         refine Sq (Sq (RD hnt (nn 2 []) [] [(65, pB (decide (s15.2 ≥ 1)))] [] [] tv ?_))
         refine condM hm ?_ ?_
         ·intro h519 hm
          refine Sk ?_
          refine Sq (Bk ?_)
          obtain ⟨g520, g521, g522, g523, hm⟩ := go4 hm
          obtain ⟨r524, hr524, hm⟩ := bo hm
          refine Sq (Sq (RD hnt (nn 9 (o117 [] true r524 :: .no :: [])) [65] [(78, pB (!r524))] [] [] (an g520.1 (an g520.2 (an g521 (an g522.1 (an g522.2 (an g523 (an (Less_cmp_intSpec (s15.1.getD (Int.toNat s15.2) 0) (c126e1 s15) r524 hr524) tv))))))) ?_))
          refine condM hm ?_ ?_
          ·intro h525 hm
           refine DW.exit ?_
           refine blockQ_other (by decide) ?_
           refine KQ_exit ?_
           refine joinQ_exit ?_
           refine KQ_exit ?_
           refine blockQ_exit ?_
           show DW _ _ _ _ _
           exact jD s15.1 hm Conv.t0
          ·intro h525 hm
           refine Sk ?_
           obtain ⟨g526, g527, g528, g529, hm⟩ := go4 hm
           obtain ⟨g530, g531, g532, g533, hm⟩ := go4 hm
           refine RN hnt (nn 18 []) [(0, ow 0 (c126e7 s15).length), (1, pI p1), (2, pI p2), (7, pI s12), (8, pI k1), (9, pI s15.2)] [(0, ob0 (roI (c126e7 s15)))] [(0, ow 0 s15.1.length)] [(0, .row 1 s15.1.length (c126e6 s15))] (an g526.1 (an g526.2 (an g527 (an g528.1 (an g528.2 (an g529 (an g530.1 (an g530.2 (an g531 (an g532.1 (an g532.2 (an g533 tv)))))))))))) (by kernel_rfl) (.cons rfl (MLe.ownLen (enc := encI) (d := 0) (f := (c126e6 s15)) (RowIs.updR (RowIs.upd RowIs.elems (c126e1 s15) rfl) (by omega) (s15.1.getD (Int.toNat s15.2) 0) rfl)) .nil) (.cons rfl (BLe.typed (RowIs.updR (RowIs.upd RowIs.elems (c126e1 s15) rfl) (by omega) (s15.1.getD (Int.toNat s15.2) 0) rfl)) .nil) ?_
           refine DW.done ?_
           show DW _ _ _ _ _
           refine RD hnt (nn 3 []) [] [(9, pI (w64 (s15.2 - 1)))] [] [] tv ?_
           exact jD ((c126e7 s15), (w64 (s15.2 - 1))) hm Conv.eqK
         ·intro h519 hm
          refine DW.exit ?_
          refine joinQ_exit ?_
          refine KQ_exit ?_
          refine blockQ_exit ?_
          show DW _ _ _ _ _
          exact jD s15.1 hm Conv.t0
        ·intro h503 hm
         refine Sk ?_
         exact jD (c126e4 s1 s12) hm Conv.t0
   ·rcases bt (decide (s12 < p2)) with h486 | h486
    ·replace hm := if_t h486 hm
     obtain ⟨g487, g488, g489, g490, hm⟩ := go4 hm
     obtain ⟨r491, hr491, hm⟩ := bo hm
     refine RD hnt (nn 13 (o117 [] true r491 :: .no :: pT :: [])) [] [(32, pB (!r491))] [] [] (an3 h486 (an g487.1 (an g487.2 (an h486 (an g488 (an4 h486 (an g489.1 (an g489.2 (an h486 (an g490 (an h486 (an (Less_cmp_intSpec (s1.1.getD (Int.toNat s12) 0) (s1.1.getD (Int.toNat (w64 (s12 - 1))) 0) r491 hr491) (an2 h486 tv))))))))))))) ?_
     exact jD (!r491) hm Conv.eqK
    ·replace hm := if_f h486 hm
     refine RD hnt (nn 4 (sk 11 (pF :: []))) [] [(32, pB false)] [] [] (an6 h486 (an6 h486 tv)) ?_
     exact jD false hm Conv.eqK
 ·intro h391
  have hge1 : ¬ k1 < 5 := by have := of_decide_eq_false h391; omega
  have hm := he1 hge1
  unfold partialInsertionSortOrdered_slices_intD1 at hm
  refine DW.exit ?_
  refine joinQ_exit ?_
  refine KQ_exit ?_
  refine blockQ_exit ?_
  show DW _ _ _ _ _
  refine Sq (RK hnt (.no :: []) [(6, pB false)] [(0, ob0 (roI s1.1))] tv ?_)
  obtain rfl := sj hm
  exact DW.ret (retK [roI s1.1] [] (pB false))
abbrev o126 (ks : List Nat) (b : Bool) (RES : Bool × (List Int)) : Orc := .call 182 ks b (pB RES.1) [roI RES.2] []

abbrev c127e1 (p0 : List Int) (p1 : Int) (p3 : Int) := (updF (updF (elI p0) (Int.toNat p1) [vi (p0.getD (Int.toNat p3) 0)]) (Int.toNat p3) (setRange ((updF (elI p0) (Int.toNat p1) [vi (p0.getD (Int.toNat p3) 0)]) (Int.toNat p3)) 0 [vi (p0.getD (Int.toNat p1) 0)]))
abbrev c127e2 (s1 : (List Int) × Int × Int) (s5 : Int) (s7 : Int) := (updF (updF (elI s1.1) (Int.toNat s5) [vi (s1.1.getD (Int.toNat s7) 0)]) (Int.toNat s7) (setRange ((updF (elI s1.1) (Int.toNat s5) [vi (s1.1.getD (Int.toNat s7) 0)]) (Int.toNat s7)) 0 [vi (s1.1.getD (Int.toNat s5) 0)]))
abbrev c127e3 (s1 : (List Int) × Int × Int) (s5 : Int) (s7 : Int) := ((s1.1.set (Int.toNat s5) (s1.1.getD (Int.toNat s7) 0)).set (Int.toNat s7) (s1.1.getD (Int.toNat s5) 0))
theorem partitionEqualOrdered_slices_intSpec (p0 : List Int) (p1 : Int) (p2 : Int) (p3 : Int) (RES : Int × (List Int)) (hm : partitionEqualOrdered_slices_int p0 p1 p2 p3 = some RES) : Spec Tryz.prog 184 [ow 0 p0.length, pI p1, pI p2, pI p3] [roI p0] (pI RES.1) [roI RES.2] [] := by
 unfold partitionEqualOrdered_slices_int at hm
 refine SO Tryz.func184 rfl rfl [(0, ow 0 p0.length), (1, pI p1), (2, pI p2), (3, pI p3)] [(0, ob0 (roI p0))] ?_
 intro cx hnt
 refine Sq (RD hnt (.no :: []) [] [] [] [] tv ?_)
 obtain ⟨g1, g2, g3, g4, hm⟩ := go4 hm
 obtain ⟨g5, g6, g7, g8, hm⟩ := go4 hm
 refine Sq (RN hnt (nn 16 []) [(0, ow 0 ((p0.set (Int.toNat p1) (p0.getD (Int.toNat p3) 0)).set (Int.toNat p3) (p0.getD (Int.toNat p1) 0)).length), (1, pI p1), (2, pI p2)] [(0, ob0 (roI ((p0.set (Int.toNat p1) (p0.getD (Int.toNat p3) 0)).set (Int.toNat p3) (p0.getD (Int.toNat p1) 0))))] [(0, ow 0 p0.length)] [(0, .row 1 p0.length (c127e1 p0 p1 p3))] (an g1.1 (an g1.2 (an g2 (an g3.1 (an g3.2 (an g4 (an g5.1 (an g5.2 (an g6 (an g7.1 (an g7.2 (an g8 tv)))))))))))) (by kernel_rfl) (.cons rfl (MLe.ownLen (enc := encI) (d := 0) (f := (c127e1 p0 p1 p3)) (RowIs.updR (RowIs.upd RowIs.elems (p0.getD (Int.toNat p3) 0) rfl) (by omega) (p0.getD (Int.toNat p1) 0) rfl)) .nil) (.cons rfl (BLe.typed (RowIs.updR (RowIs.upd RowIs.elems (p0.getD (Int.toNat p3) 0) rfl) (by omega) (p0.getD (Int.toNat p1) 0) rfl)) .nil) ?_)
 refine Sq (RD hnt (nn 6 []) [2] [(9, pI (w64 (p1 + 1))), (10, pI (w64 (p2 - 1)))] [] [] tv ?_)
 refine Sq (Bk ?_)
 refine DW.whileO (fun (s1 : (List Int) × Int × Int) => mkSt [(0, ow 0 s1.1.length), (1, pI p1), (9, pI s1.2.2), (10, pI s1.2.1)] [(0, ob0 (roI s1.1))]) hm Conv.eqK ?_
 intro s1 n1 hm
 unfold partitionEqualOrdered_slices_intL1 at hm
 refine Bk ?_
 refine Sq (Bk ?_)
 refine DW.whileO (fun (s5 : Int) => mkSt [(0, ow 0 s1.1.length), (1, pI p1), (9, pI s5), (10, pI s1.2.1)] [(0, ob0 (roI s1.1))]) hm .refl ?_
 intro s5 n5 hm
 unfold partitionEqualOrdered_slices_intL5 at hm
 refine Sq (Sq ?_)
 refine Jn (ι := Bool) (fun (y10 : Bool) => mkSt [(0, ow 0 s1.1.length), (1, pI p1), (9, pI s5), (10, pI s1.2.1), (43, pB y10)] [(0, ob0 (roI s1.1))]) (fun y10 => (partitionEqualOrdered_slices_intJ10 p1 s1 n1 s5 n5) y10 = some RES) ?_ ?_
 ·intro y10 hm
  unfold partitionEqualOrdered_slices_intJ10 at hm
  refine condM hm ?_ ?_
  ·intro h156 hm
   refine Sk ?_
   refine Bk ?_
   refine RD hnt (nn 3 []) [43] [(9, pI (w64 (s5 + 1)))] [] [] tv ?_
   refine DW.done ?_
   show DW _ _ _ _ _
   exact jD (w64 (s5 + 1)) hm Conv.eqK
  ·intro h156 hm
   refine DW.exit ?_
   refine joinQ_exit ?_
   refine KQ_exit ?_
   refine blockQ_exit ?_
   show DW _ _ _ _ _
   refine Sq (Bk ?_)
   refine DW.whileO (fun (s7 : Int) => mkSt [(0, ow 0 s1.1.length), (1, pI p1), (9, pI s5), (10, pI s7)] [(0, ob0 (roI s1.1))]) hm Conv.t0 ?_
   intro s7 n7 hm
   unfold partitionEqualOrdered_slices_intL7 at hm
   refine Sq (Sq ?_)
   refine Jn (ι := Bool) (fun (y12 : Bool) => mkSt [(0, ow 0 s1.1.length), (1, pI p1), (9, pI s5), (10, pI s7), (59, pB y12)] [(0, ob0 (roI s1.1))]) (fun y12 => (partitionEqualOrdered_slices_intJ12 s1 n1 s5 s7 n7) y12 = some RES) ?_ ?_
   ·intro y12 hm
    unfold partitionEqualOrdered_slices_intJ12 at hm
    refine condM hm ?_ ?_
    ·intro h179 hm
     refine Sk ?_
     refine Bk ?_
     refine RD hnt (nn 3 []) [59] [(10, pI (w64 (s7 - 1)))] [] [] tv ?_
     refine DW.done ?_
     show DW _ _ _ _ _
     exact jD (w64 (s7 - 1)) hm Conv.eqK
    ·intro h179 hm
     refine DW.exit ?_
     refine joinQ_exit ?_
     refine KQ_exit ?_
     refine blockQ_exit ?_
     show DW _ _ _ _ _
     refine Sq (Sq (RD hnt (nn 3 []) [59] [(64, pB (decide (s5 > s7)))] [] [] tv ?_))
     refine condM hm ?_ ?_
     ·intro h180 hm
      refine DW.exit ?_
      refine blockQ_other (by decide) ?_
      refine KQ_exit ?_
      refine joinQ_exit ?_
      refine KQ_exit ?_
      refine blockQ_exit ?_
      show DW _ _ _ _ _
      refine Sq (RK hnt (nn 2 []) [(8, pI s5)] [(0, ob0 (roI s1.1))] tv ?_)
      obtain rfl := sj hm
      exact DW.ret (retK [roI s1.1] [] (pI s5))
     ·intro h180 hm
      refine Sk ?_
      obtain ⟨g181, g182, g183, g184, hm⟩ := go4 hm
      obtain ⟨g185, g186, g187, g188, hm⟩ := go4 hm
      refine Sq (RN hnt (nn 16 []) [(0, ow 0 (c127e3 s1 s5 s7).length), (1, pI p1), (9, pI s5), (10, pI s7)] [(0, ob0 (roI (c127e3 s1 s5 s7)))] [(0, ow 0 s1.1.length)] [(0, .row 1 s1.1.length (c127e2 s1 s5 s7))] (an g181.1 (an g181.2 (an g182 (an g183.1 (an g183.2 (an g184 (an g185.1 (an g185.2 (an g186 (an g187.1 (an g187.2 (an g188 tv)))))))))))) (by kernel_rfl) (.cons rfl (MLe.ownLen (enc := encI) (d := 0) (f := (c127e2 s1 s5 s7)) (RowIs.updR (RowIs.upd RowIs.elems (s1.1.getD (Int.toNat s7) 0) rfl) (by omega) (s1.1.getD (Int.toNat s5) 0) rfl)) .nil) (.cons rfl (BLe.typed (RowIs.updR (RowIs.upd RowIs.elems (s1.1.getD (Int.toNat s7) 0) rfl) (by omega) (s1.1.getD (Int.toNat s5) 0) rfl)) .nil) ?_)
      refine Sq (RD hnt (nn 3 []) [] [(9, pI (w64 (s5 + 1)))] [] [] tv ?_)
      refine RD hnt (nn 3 []) [] [(10, pI (w64 (s7 - 1)))] [] [] tv ?_
      refine DW.done ?_
      show DW _ _ _ _ _
      exact jD ((c127e3 s1 s5 s7), (w64 (s7 - 1)), (w64 (s5 + 1))) hm Conv.eqK
   ·rcases bt (decide (s5 ≤ s7)) with h173 | h173
    ·replace hm := if_t h173 hm
     obtain ⟨g174, g175, g176, g177, hm⟩ := go4 hm
     obtain ⟨r178, hr178, hm⟩ := bo hm
     refine RD hnt (nn 12 (o117 [] true r178 :: pT :: [])) [] [(59, pB r178)] [] [] (an3 h173 (an g174.1 (an g174.2 (an h173 (an g175 (an3 h173 (an g176.1 (an g176.2 (an h173 (an g177 (an h173 (an (Less_cmp_intSpec (s1.1.getD (Int.toNat p1) 0) (s1.1.getD (Int.toNat s7) 0) r178 hr178) (an h173 tv))))))))))))) ?_
     exact jD r178 hm Conv.eqK
    ·replace hm := if_f h173 hm
     refine RD hnt (nn 4 (sk 9 (pF :: []))) [] [(59, pB false)] [] [] (an4 h173 (an6 h173 tv)) ?_
     exact jD false hm Conv.eqK
 ·rcases bt (decide (s5 ≤ s1.2.1)) with h150 | h150
  ·replace hm := if_t h150 hm
   obtain ⟨g151, g152, g153, g154, hm⟩ := go4 hm
   obtain ⟨r155, hr155, hm⟩ := bo hm
   refine RD hnt (nn 12 (o117 [] true r155 :: .no :: pT :: [])) [] [(43, pB (!r155))] [] [] (an3 h150 (an g151.1 (an g151.2 (an h150 (an g152 (an3 h150 (an g153.1 (an g153.2 (an h150 (an g154 (an h150 (an (Less_cmp_intSpec (s1.1.getD (Int.toNat p1) 0) (s1.1.getD (Int.toNat s5) 0) r155 hr155) (an2 h150 tv))))))))))))) ?_
   exact jD (!r155) hm Conv.eqK
  ·replace hm := if_f h150 hm
   refine RD hnt (nn 4 (sk 10 (pF :: []))) [] [(43, pB false)] [] [] (an5 h150 (an6 h150 tv)) ?_
   exact jD false hm Conv.eqK
abbrev o127 (ks : List Nat) (b : Bool) (RES : Int × (List Int)) : Orc := .call 184 ks b (pI RES.1) [roI RES.2] []

abbrev c128e1 (p0 : List Int) (p1 : Int) (p3 : Int) := ((p0.set (Int.toNat p1) (p0.getD (Int.toNat p3) 0)).set (Int.toNat p3) (p0.getD (Int.toNat p1) 0))
abbrev c128e2 (p0 : List Int) (p1 : Int) (p3 : Int) (s1 : Int) (s17 : Int) := (updF (updF (elI (c128e1 p0 p1 p3)) (Int.toNat s1) [vi ((c128e1 p0 p1 p3).getD (Int.toNat s17) 0)]) (Int.toNat s17) (setRange ((updF (elI (c128e1 p0 p1 p3)) (Int.toNat s1) [vi ((c128e1 p0 p1 p3).getD (Int.toNat s17) 0)]) (Int.toNat s17)) 0 [vi ((c128e1 p0 p1 p3).getD (Int.toNat s1) 0)]))
abbrev c128e3 (p0 : List Int) (p1 : Int) (p3 : Int) := (updF (updF (elI p0) (Int.toNat p1) [vi (p0.getD (Int.toNat p3) 0)]) (Int.toNat p3) (setRange ((updF (elI p0) (Int.toNat p1) [vi (p0.getD (Int.toNat p3) 0)]) (Int.toNat p3)) 0 [vi (p0.getD (Int.toNat p1) 0)]))
abbrev c128e4 (s25 : (List Int) × Int × Int) (s29 : Int) (s31 : Int) := (updF (updF (elI s25.1) (Int.toNat s29) [vi (s25.1.getD (Int.toNat s31) 0)]) (Int.toNat s31) (setRange ((updF (elI s25.1) (Int.toNat s29) [vi (s25.1.getD (Int.toNat s31) 0)]) (Int.toNat s31)) 0 [vi (s25.1.getD (Int.toNat s29) 0)]))
abbrev c128e5 (s25 : (List Int) × Int × Int) (s29 : Int) (s31 : Int) := ((s25.1.set (Int.toNat s29) (s25.1.getD (Int.toNat s31) 0)).set (Int.toNat s31) (s25.1.getD (Int.toNat s29) 0))
theorem partitionOrdered_slices_intSpec (p0 : List Int) (p1 : Int) (p2 : Int) (p3 : Int) (RES : Int × Bool × (List Int)) (hm : partitionOrdered_slices_int p0 p1 p2 p3 = some RES) : Spec Tryz.prog 185 [ow 0 p0.length, pI p1, pI p2, pI p3] [roI p0] (.p (.tup [vi RES.1, vb RES.2.1])) [roI RES.2.2] [] := by
 unfold partitionOrdered_slices_int at hm
 refine SO Tryz.func185 rfl rfl [(0, ow 0 p0.length), (1, pI p1), (2, pI p2), (3, pI p3)] [(0, ob0 (roI p0))] ?_
 intro cx hnt
 refine Sq (RD hnt (nn 2 []) [] [] [] [] tv ?_)
 obtain ⟨g1, g2, g3, g4, hm⟩ := go4 hm
 obtain ⟨g5, g6, g7, g8, hm⟩ := go4 hm
 refine Sq (RN hnt (nn 16 []) [(0, ow 0 (c128e1 p0 p1 p3).length), (1, pI p1), (2, pI p2)] [(0, ob0 (roI (c128e1 p0 p1 p3)))] [(0, ow 0 p0.length)] [(0, .row 1 p0.length (c128e3 p0 p1 p3))] (an g1.1 (an g1.2 (an g2 (an g3.1 (an g3.2 (an g4 (an g5.1 (an g5.2 (an g6 (an g7.1 (an g7.2 (an g8 tv)))))))))))) (by kernel_rfl) (.cons rfl (MLe.ownLen (enc := encI) (d := 0) (f := (c128e3 p0 p1 p3)) (RowIs.updR (RowIs.upd RowIs.elems (p0.getD (Int.toNat p3) 0) rfl) (by omega) (p0.getD (Int.toNat p1) 0) rfl)) .nil) (.cons rfl (BLe.typed (RowIs.updR (RowIs.upd RowIs.elems (p0.getD (Int.toNat p3) 0) rfl) (by omega) (p0.getD (Int.toNat p1) 0) rfl)) .nil) ?_)
 refine Sq (RD hnt (nn 6 []) [2] [(10, pI (w64 (p1 + 1))), (11, pI (w64 (p2 - 1)))] [] [] tv ?_)
 refine Sq (Bk ?_)
 refine DW.whileO (fun (s1 : Int) => mkSt [(0, ow 0 (c128e1 p0 p1 p3).length), (1, pI p1), (10, pI s1), (11, pI (w64 (p2 - 1)))] [(0, ob0 (roI (c128e1 p0 p1 p3)))]) hm Conv.eqK ?_
 intro s1 n1 hm
 unfold partitionOrdered_slices_intL1 at hm
 refine Sq (Sq ?_)
 refine Jn (ι := Bool) (fun (y28 : Bool) => mkSt [(0, ow 0 (c128e1 p0 p1 p3).length), (1, pI p1), (10, pI s1), (11, pI (w64 (p2 - 1))), (43, pB y28)] [(0, ob0 (roI (c128e1 p0 p1 p3)))]) (fun y28 => (partitionOrdered_slices_intJ28 p0 p1 p2 p3 s1 n1) y28 = some RES) ?_ ?_
 ·intro y28 hm
  unfold partitionOrdered_slices_intJ28 at hm
  refine condM hm ?_ ?_
  ·intro h588 hm
   refine Sk ?_
   refine Bk ?_
   refine RD hnt (nn 3 []) [43] [(10, pI (w64 (s1 + 1)))] [] [] tv ?_
   refine DW.done ?_
   show DW _ _ _ _ _
   exact jD (w64 (s1 + 1)) hm Conv.eqK
  ·intro h588 hm
   refine DW.exit ?_
   refine joinQ_exit ?_
   refine KQ_exit ?_
   refine blockQ_exit ?_
   show DW _ _ _ _ _
   refine Sq (Bk ?_)
   refine DW.whileO (fun (s17 : Int) => mkSt [(0, ow 0 (c128e1 p0 p1 p3).length), (1, pI p1), (10, pI s1), (11, pI s17)] [(0, ob0 (roI (c128e1 p0 p1 p3)))]) hm Conv.t0 ?_
   intro s17 n17 hm
   unfold partitionOrdered_slices_intL17 at hm
   refine Sq (Sq ?_)
   refine Jn (ι := Bool) (fun (y42 : Bool) => mkSt [(0, ow 0 (c128e1 p0 p1 p3).length), (1, pI p1), (10, pI s1), (11, pI s17), (60, pB y42)] [(0, ob0 (roI (c128e1 p0 p1 p3)))]) (fun y42 => (partitionOrdered_slices_intJ42 p0 p1 p3 s1 s17 n17) y42 = some RES) ?_ ?_
   ·intro y42 hm
    unfold partitionOrdered_slices_intJ42 at hm
    refine condM hm ?_ ?_
    ·intro h875 hm
     refine Sk ?_
     refine Bk ?_
     refine RD hnt (nn 3 []) [60] [(11, pI (w64 (s17 - 1)))] [] [] tv ?_
     refine DW.done ?_
     show DW _ _ _ _ _
     exact jD (w64 (s17 - 1)) hm Conv.eqK
    ·intro h875 hm
     refine DW.exit ?_
     refine joinQ_exit ?_
     refine KQ_exit ?_
     refine blockQ_exit ?_
     show DW _ _ _ _ _
     refine Sq (Sq (RD hnt (nn 3 []) [60] [(65, pB (decide (s1 > s17)))] [] [] tv ?_))
     refine condM hm ?_ ?_
     ·intro h876 hm
      obtain ⟨g877, g878, g879, g880, hm⟩ := go4 hm
      obtain ⟨g881, g882, g883, g884, hm⟩ := go4 hm
      refine Sq (RN hnt (nn 16 []) [(11, pI s17)] [(0, ob0 (roI (((c128e1 p0 p1 p3).set (Int.toNat s17) ((c128e1 p0 p1 p3).getD (Int.toNat p1) 0)).set (Int.toNat p1) ((c128e1 p0 p1 p3).getD (Int.toNat s17) 0))))] [] [(0, .row 1 (c128e1 p0 p1 p3).length (updF (updF (elI (c128e1 p0 p1 p3)) (Int.toNat s17) [vi ((c128e1 p0 p1 p3).getD (Int.toNat p1) 0)]) (Int.toNat p1) (setRange ((updF (elI (c128e1 p0 p1 p3)) (Int.toNat s17) [vi ((c128e1 p0 p1 p3).getD (Int.toNat p1) 0)]) (Int.toNat p1)) 0 [vi ((c128e1 p0 p1 p3).getD (Int.toNat s17) 0)])))] (an g877.1 (an g877.2 (an g878 (an g879.1 (an g879.2 (an g880 (an g881.1 (an g881.2 (an g882 (an g883.1 (an g883.2 (an g884 tv)))))))))))) (by kernel_rfl) .nil (.cons rfl (BLe.typed (RowIs.updR (RowIs.upd RowIs.elems ((c128e1 p0 p1 p3).getD (Int.toNat p1) 0) rfl) (by omega) ((c128e1 p0 p1 p3).getD (Int.toNat s17) 0) rfl)) .nil) ?_)
      refine Sq (RD hnt (nn 3 []) [11] [(8, pI s17), (9, pB true)] [] [] tv ?_)
      obtain rfl := sj hm
      exact DW.ret (retK [roI (((c128e1 p0 p1 p3).set (Int.toNat s17) ((c128e1 p0 p1 p3).getD (Int.toNat p1) 0)).set (Int.toNat p1) ((c128e1 p0 p1 p3).getD (Int.toNat s17) 0))] [] (.p (.tup [vi s17, vb true])))
     ·intro h876 hm
      refine Sk ?_
      obtain ⟨g885, g886, g887, g888, hm⟩ := go4 hm
      obtain ⟨g889, g890, g891, g892, hm⟩ := go4 hm
      refine Sq (RN hnt (nn 16 []) [(0, ow 0 (((c128e1 p0 p1 p3).set (Int.toNat s1) ((c128e1 p0 p1 p3).getD (Int.toNat s17) 0)).set (Int.toNat s17) ((c128e1 p0 p1 p3).getD (Int.toNat s1) 0)).length), (1, pI p1), (10, pI s1), (11, pI s17)] [(0, ob0 (roI (((c128e1 p0 p1 p3).set (Int.toNat s1) ((c128e1 p0 p1 p3).getD (Int.toNat s17) 0)).set (Int.toNat s17) ((c128e1 p0 p1 p3).getD (Int.toNat s1) 0))))] [(0, ow 0 (c128e1 p0 p1 p3).length)] [(0, .row 1 (c128e1 p0 p1 p3).length (c128e2 p0 p1 p3 s1 s17))] (an g885.1 (an g885.2 (an g886 (an g887.1 (an g887.2 (an g888 (an g889.1 (an g889.2 (an g890 (an g891.1 (an g891.2 (an g892 tv)))))))))))) (by kernel_rfl) (.cons rfl (MLe.ownLen (enc := encI) (d := 0) (f := (c128e2 p0 p1 p3 s1 s17)) (RowIs.updR (RowIs.upd RowIs.elems ((c128e1 p0 p1 p3).getD (Int.toNat s17) 0) rfl) (by omega) ((c128e1 p0 p1 p3).getD (Int.toNat s1) 0) rfl)) .nil) (.cons rfl (BLe.typed (RowIs.updR (RowIs.upd RowIs.elems ((c128e1 p0 p1 p3).getD (Int.toNat s17) 0) rfl) (by omega) ((c128e1 p0 p1 p3).getD (Int.toNat s1) 0) rfl)) .nil) ?_)
      refine Sq (RD hnt (nn 3 []) [] [(10, pI (w64 (s1 + 1)))] [] [] tv ?_)
      refine Sq (RD hnt (nn 3 []) [] [(11, pI (w64 (s17 - 1)))] [] [] tv ?_)
      refine Sq (Bk ?_)
      refine DW.whileO (fun (s25 : (List Int) × Int × Int) => mkSt [(0, ow 0 s25.1.length), (1, pI p1), (10, pI s25.2.1), (11, pI s25.2.2)] [(0, ob0 (roI s25.1))]) hm Conv.eqK ?_
      intro s25 n25 hm
      unfold partitionOrdered_slices_intL25 at hm
      refine Bk ?_
      refine Sq (Bk ?_)
      refine DW.whileO (fun (s29 : Int) => mkSt [(0, ow 0 s25.1.length), (1, pI p1), (10, pI s29), (11, pI s25.2.2)] [(0, ob0 (roI s25.1))]) hm .refl ?_
      intro s29 n29 hm
      unfold partitionOrdered_slices_intL29 at hm
      refine Sq (Sq ?_)
      refine Jn (ι := Bool) (fun (y52 : Bool) => mkSt [(0, ow 0 s25.1.length), (1, pI p1), (10, pI s29), (11, pI s25.2.2), (112, pB y52)] [(0, ob0 (roI s25.1))]) (fun y52 => (partitionOrdered_slices_intJ52 p1 s25 n25 s29 n29) y52 = some RES) ?_ ?_
      ·intro y52 hm
       unfold partitionOrdered_slices_intJ52 at hm
       refine condM hm ?_ ?_
       ·intro h1088 hm
        refine Sk ?_
        refine Bk ?_
        refine RD hnt (nn 3 []) [112] [(10, pI (w64 (s29 + 1)))] [] [] tv ?_
        refine DW.done ?_
        show DW _ _ _ _ _
        exact jD (w64 (s29 + 1)) hm Conv.eqK
       ·intro h1088 hm
        refine DW.exit ?_
        refine joinQ_exit ?_
        refine KQ_exit ?_
        refine blockQ_exit ?_
        show DW _ _ _ _ _
        refine Sq (Bk ?_)
        refine DW.whileO (fun (s31 : Int) => mkSt [(0, ow 0 s25.1.length), (1, pI p1), (10, pI s29), (11, pI s31)] [(0, ob0 (roI s25.1))]) hm Conv.t0 ?_
        intro s31 n31 hm
        unfold partitionOrdered_slices_intL31 at hm
        refine Sq (Sq ?_)
        refine Jn (ι := Bool) (fun (y54 : Bool) => mkSt [(0, ow 0 s25.1.length), (1, pI p1), (10, pI s29), (11, pI s31), (129, pB y54)] [(0, ob0 (roI s25.1))]) (fun y54 => (partitionOrdered_slices_intJ54 p1 s25 n25 s29 s31 n31) y54 = some RES) ?_ ?_
        ·intro y54 hm
         unfold partitionOrdered_slices_intJ54 at hm
         refine condM hm ?_ ?_
         ·intro h1119 hm
          refine Sk ?_
          refine Bk ?_
          refine RD hnt (nn 3 []) [129] [(11, pI (w64 (s31 - 1)))] [] [] tv ?_
          refine DW.done ?_
          show DW _ _ _ _ _
          exact jD (w64 (s31 - 1)) hm Conv.eqK
         ·intro h1119 hm
          refine DW.exit ?_
          refine joinQ_exit ?_
          refine KQ_exit ?_
          refine blockQ_exit ?_
          show DW _ _ _ _ _
          refine Sq (Sq (RD hnt (nn 3 []) [129] [(134, pB (decide (s29 > s31)))] [] [] tv ?_))
          refine condM hm ?_ ?_
          ·intro h1120 hm
           refine DW.exit ?_
           refine blockQ_other (by decide) ?_
           refine KQ_exit ?_
           refine joinQ_exit ?_
           refine KQ_exit ?_
           refine blockQ_exit ?_
           show DW _ _ _ _ _
           obtain ⟨g1121, g1122, g1123, g1124, hm⟩ := go4 hm
           obtain ⟨g1125, g1126, g1127, g1128, hm⟩ := go4 hm
           refine Sq (RN hnt (nn 16 []) [(11, pI s31)] [(0, ob0 (roI ((s25.1.set (Int.toNat s31) (s25.1.getD (Int.toNat p1) 0)).set (Int.toNat p1) (s25.1.getD (Int.toNat s31) 0))))] [] [(0, .row 1 s25.1.length (updF (updF (elI s25.1) (Int.toNat s31) [vi (s25.1.getD (Int.toNat p1) 0)]) (Int.toNat p1) (setRange ((updF (elI s25.1) (Int.toNat s31) [vi (s25.1.getD (Int.toNat p1) 0)]) (Int.toNat p1)) 0 [vi (s25.1.getD (Int.toNat s31) 0)])))] (an g1121.1 (an g1121.2 (an g1122 (an g1123.1 (an g1123.2 (an g1124 (an g1125.1 (an g1125.2 (an g1126 (an g1127.1 (an g1127.2 (an g1128 tv)))))))))))) (by kernel_rfl) .nil (.cons rfl (BLe.typed (RowIs.updR (RowIs.upd RowIs.elems (s25.1.getD (Int.toNat p1) 0) rfl) (by omega) (s25.1.getD (Int.toNat s31) 0) rfl)) .nil) ?_)
           refine Sq (RD hnt (nn 3 []) [11] [(8, pI s31), (9, pB false)] [] [] tv ?_)
           obtain rfl := sj hm
           exact DW.ret (retK [roI ((s25.1.set (Int.toNat s31) (s25.1.getD (Int.toNat p1) 0)).set (Int.toNat p1) (s25.1.getD (Int.toNat s31) 0))] [] (.p (.tup [vi s31, vb false])))
          ·intro h1120 hm
           refine Sk ?_
           obtain ⟨g1129, g1130, g1131, g1132, hm⟩ := go4 hm
           obtain ⟨g1133, g1134, g1135, g1136, hm⟩ := go4 hm
           refine Sq (RN hnt (nn 16 []) [(0, ow 0 (c128e5 s25 s29 s31).length), (1, pI p1), (10, pI s29), (11, pI s31)] [(0, ob0 (roI (c128e5 s25 s29 s31)))] [(0, ow 0 s25.1.length)] [(0, .row 1 s25.1.length (c128e4 s25 s29 s31))] (an g1129.1 (an g1129.2 (an g1130 (an g1131.1 (an g1131.2 (an g1132 (an g1133.1 (an g1133.2 (an g1134 (an g1135.1 (an g1135.2 (an g1136 tv)))))))))))) (by kernel_rfl) (.cons rfl (MLe.ownLen (enc := encI) (d := 0) (f := (c128e4 s25 s29 s31)) (RowIs.updR (RowIs.upd RowIs.elems (s25.1.getD (Int.toNat s31) 0) rfl) (by omega) (s25.1.getD (Int.toNat s29) 0) rfl)) .nil) (.cons rfl (BLe.typed (RowIs.updR (RowIs.upd RowIs.elems (s25.1.getD (Int.toNat s31) 0) rfl) (by omega) (s25.1.getD (Int.toNat s29) 0) rfl)) .nil) ?_)
           refine Sq (RD hnt (nn 3 []) [] [(10, pI (w64 (s29 + 1)))] [] [] tv ?_)
           refine RD hnt (nn 3 []) [] [(11, pI (w64 (s31 - 1)))] [] [] tv ?_
           refine DW.done ?_
           show DW _ _ _ _ _
           exact jD ((c128e5 s25 s29 s31), (w64 (s29 + 1)), (w64 (s31 - 1))) hm Conv.eqK
        ·rcases bt (decide (s29 ≤ s31)) with h1113 | h1113
         ·replace hm := if_t h1113 hm
          obtain ⟨g1114, g1115, g1116, g1117, hm⟩ := go4 hm
          obtain ⟨r1118, hr1118, hm⟩ := bo hm
          refine RD hnt (nn 12 (o117 [] true r1118 :: .no :: pT :: [])) [] [(129, pB (!r1118))] [] [] (an3 h1113 (an g1114.1 (an g1114.2 (an h1113 (an g1115 (an3 h1113 (an g1116.1 (an g1116.2 (an h1113 (an g1117 (an h1113 (an (Less_cmp_intSpec (s25.1.getD (Int.toNat s31) 0) (s25.1.getD (Int.toNat p1) 0) r1118 hr1118) (an2 h1113 tv))))))))))))) ?_
          exact jD (!r1118) hm Conv.eqK
         ·replace hm := if_f h1113 hm
          refine RD hnt (nn 4 (sk 10 (pF :: []))) [] [(129, pB false)] [] [] (an5 h1113 (an6 h1113 tv)) ?_
          exact jD false hm Conv.eqK
      ·rcases bt (decide (s29 ≤ s25.2.2)) with h1082 | h1082
       ·replace hm := if_t h1082 hm
        obtain ⟨g1083, g1084, g1085, g1086, hm⟩ := go4 hm
        obtain ⟨r1087, hr1087, hm⟩ := bo hm
        refine RD hnt (nn 12 (o117 [] true r1087 :: pT :: [])) [] [(112, pB r1087)] [] [] (an3 h1082 (an g1083.1 (an g1083.2 (an h1082 (an g1084 (an3 h1082 (an g1085.1 (an g1085.2 (an h1082 (an g1086 (an h1082 (an (Less_cmp_intSpec (s25.1.getD (Int.toNat s29) 0) (s25.1.getD (Int.toNat p1) 0) r1087 hr1087) (an h1082 tv))))))))))))) ?_
        exact jD r1087 hm Conv.eqK
       ·replace hm := if_f h1082 hm
        refine RD hnt (nn 4 (sk 9 (pF :: []))) [] [(112, pB false)] [] [] (an4 h1082 (an6 h1082 tv)) ?_
        exact jD false hm Conv.eqK
   ·rcases bt (decide (s1 ≤ s17)) with h869 | h869
    ·replace hm := if_t h869 hm
     obtain ⟨g870, g871, g872, g873, hm⟩ := go4 hm
     obtain ⟨r874, hr874, hm⟩ := bo hm
     refine RD hnt (nn 12 (o117 [] true r874 :: .no :: pT :: [])) [] [(60, pB (!r874))] [] [] (an3 h869 (an g870.1 (an g870.2 (an h869 (an g871 (an3 h869 (an g872.1 (an g872.2 (an h869 (an g873 (an h869 (an (Less_cmp_intSpec ((c128e1 p0 p1 p3).getD (Int.toNat s17) 0) ((c128e1 p0 p1 p3).getD (Int.toNat p1) 0) r874 hr874) (an2 h869 tv))))))))))))) ?_
     exact jD (!r874) hm Conv.eqK
    ·replace hm := if_f h869 hm
     refine RD hnt (nn 4 (sk 10 (pF :: []))) [] [(60, pB false)] [] [] (an5 h869 (an6 h869 tv)) ?_
     exact jD false hm Conv.eqK
 ·rcases bt (decide (s1 ≤ (w64 (p2 - 1)))) with h582 | h582
  ·replace hm := if_t h582 hm
   obtain ⟨g583, g584, g585, g586, hm⟩ := go4 hm
   obtain ⟨r587, hr587, hm⟩ := bo hm
   refine RD hnt (nn 12 (o117 [] true r587 :: pT :: [])) [] [(43, pB r587)] [] [] (an3 h582 (an g583.1 (an g583.2 (an h582 (an g584 (an3 h582 (an g585.1 (an g585.2 (an h582 (an g586 (an h582 (an (Less_cmp_intSpec ((c128e1 p0 p1 p3).getD (Int.toNat s1) 0) ((c128e1 p0 p1 p3).getD (Int.toNat p1) 0) r587 hr587) (an h582 tv))))))))))))) ?_
   exact jD r587 hm Conv.eqK
  ·replace hm := if_f h582 hm
   refine RD hnt (nn 4 (sk 9 (pF :: []))) [] [(43, pB false)] [] [] (an4 h582 (an6 h582 tv)) ?_
   exact jD false hm Conv.eqK
abbrev o128 (ks : List Nat) (b : Bool) (RES : Int × Bool × (List Int)) : Orc := .call 185 ks b (.p (.tup [vi RES.1, vb RES.2.1])) [roI RES.2.2] []

theorem nextPowerOfTwo_slicesSpec (p0 : Int) (RES : Int) (hm : nextPowerOfTwo_slices p0 = some RES) : Spec Tryz.prog 191 [pI p0] [] (.p (vk .u64 RES)) [] [] := by
 unfold nextPowerOfTwo_slices at hm
 refine SO Tryz.func191 rfl rfl [(0, pI p0)] [] ?_
 intro cx hnt
 refine Sq (RK hnt (.no :: []) [(0, pI p0)] [] tv ?_)
 obtain ⟨r1, hr1, hm⟩ := bo hm
 obtain ⟨g2, hm⟩ := go1 hm
 refine Sq (RK hnt (nn 2 (o113 [] true r1 :: nn 2 [])) [(2, .p (vk .u64 (kshl .u64 1 r1)))] [] (an (Len_bitsSpec (IntKind.u64.wrap p0) r1 hr1) (an g2 tv)) ?_)
 obtain rfl := sj hm
 exact DW.ret (retK [] [] (.p (vk .u64 (kshl .u64 1 r1))))
abbrev o130 (ks : List Nat) (b : Bool) (RES : Int) : Orc := .call 191 ks b (.p (vk .u64 RES)) [] []

theorem Next_xorshift_slicesSpec (p0 : Int) (RES : Int × Int) (hm : Next_xorshift_slices p0 = some RES) : Spec Tryz.prog 192 [rr 0] [.box [.p (vk .u64 p0)]] (.p (vk .u64 RES.1)) [.box [.p (vk .u64 RES.2)]] [] := by
 unfold Next_xorshift_slices at hm
 refine SO Tryz.func192 rfl rfl [(0, rr 0)] [(0, bx [.p (vk .u64 p0)])] ?_
 intro cx hnt
 refine Sq (RD hnt (.no :: []) [] [] [] [] tv ?_)
 refine Sq (RK hnt (nn 10 []) [(0, rr 0)] [(0, bx [.p (vk .u64 (kxor .u64 p0 (kshl .u64 p0 13)))])] (an (by decide : (0 : Int) ≤ 13) tv) ?_)
 refine Sq (RK hnt (nn 10 []) [(0, rr 0)] [(0, bx [.p (vk .u64 (kxor .u64 (kxor .u64 p0 (kshl .u64 p0 13)) (kshr .u64 (kxor .u64 p0 (kshl .u64 p0 13)) 7)))])] (an (by decide : (0 : Int) ≤ 7) tv) ?_)
 refine Sq (RK hnt (nn 10 []) [(0, rr 0)] [(0, bx [.p (vk .u64 (kxor .u64 (kxor .u64 (kxor .u64 p0 (kshl .u64 p0 13)) (kshr .u64 (kxor .u64 p0 (kshl .u64 p0 13)) 7)) (kshl .u64 (kxor .u64 (kxor .u64 p0 (kshl .u64 p0 13)) (kshr .u64 (kxor .u64 p0 (kshl .u64 p0 13)) 7)) 17)))])] (an (by decide : (0 : Int) ≤ 17) tv) ?_)
 refine Sq (RD hnt (nn 4 []) [0] [(2, .p (vk .u64 (kxor .u64 (kxor .u64 (kxor .u64 p0 (kshl .u64 p0 13)) (kshr .u64 (kxor .u64 p0 (kshl .u64 p0 13)) 7)) (kshl .u64 (kxor .u64 (kxor .u64 p0 (kshl .u64 p0 13)) (kshr .u64 (kxor .u64 p0 (kshl .u64 p0 13)) 7)) 17))))] [] [] tv ?_)
 obtain rfl := sj hm
 exact DW.ret (retK [.box [.p (vk .u64 (kxor .u64 (kxor .u64 (kxor .u64 p0 (kshl .u64 p0 13)) (kshr .u64 (kxor .u64 p0 (kshl .u64 p0 13)) 7)) (kshl .u64 (kxor .u64 (kxor .u64 p0 (kshl .u64 p0 13)) (kshr .u64 (kxor .u64 p0 (kshl .u64 p0 13)) 7)) 17)))]] [] (.p (vk .u64 (kxor .u64 (kxor .u64 (kxor .u64 p0 (kshl .u64 p0 13)) (kshr .u64 (kxor .u64 p0 (kshl .u64 p0 13)) 7)) (kshl .u64 (kxor .u64 (kxor .u64 p0 (kshl .u64 p0 13)) (kshr .u64 (kxor .u64 p0 (kshl .u64 p0 13)) 7)) 17)))))
abbrev o131 (ks : List Nat) (b : Bool) (RES : Int × Int) : Orc := .call 192 ks b (.p (vk .u64 RES.1)) [.box [.p (vk .u64 RES.2)]] []

abbrev c129e1 (s1 : (List Int) × Int × Int) (p1 : Int) (y2 : Int) := (updF (updF (elI s1.1) (Int.toNat s1.2.2) [vi (s1.1.getD (Int.toNat (w64 (p1 + y2))) 0)]) (Int.toNat (w64 (p1 + y2))) (setRange ((updF (elI s1.1) (Int.toNat s1.2.2) [vi (s1.1.getD (Int.toNat (w64 (p1 + y2))) 0)]) (Int.toNat (w64 (p1 + y2)))) 0 [vi (s1.1.getD (Int.toNat s1.2.2) 0)]))
abbrev c129e2 (s1 : (List Int) × Int × Int) (p1 : Int) (y2 : Int) := ((s1.1.set (Int.toNat s1.2.2) (s1.1.getD (Int.toNat (w64 (p1 + y2))) 0)).set (Int.toNat (w64 (p1 + y2))) (s1.1.getD (Int.toNat s1.2.2) 0))
abbrev c129e3 (r15 : Int × Int) (r2 : Int) := (w64 (kand .u64 r15.1 (IntKind.u64.wrap (r2 - 1))))
theorem breakPatternsOrdered_slices_intSpec (p0 : List Int) (p1 : Int) (p2 : Int) (RES : List Int) (hm : breakPatternsOrdered_slices_int p0 p1 p2 = some RES) : Spec Tryz.prog 179 [ow 0 p0.length, pI p1, pI p2] [roI p0] (.p (.tup [])) [roI RES] [] := by
 unfold breakPatternsOrdered_slices_int at hm
 refine SO Tryz.func179 rfl rfl [(0, ow 0 p0.length), (1, pI p1), (2, pI p2)] [(0, ob0 (roI p0))] ?_
 intro cx hnt
 refine Sq (RD hnt (nn 4 []) [2] [(6, pI (w64 (p2 - p1)))] [] [] tv ?_)
 refine Sq (RD hnt (nn 2 []) [] [(15, pB (decide ((w64 (p2 - p1)) ≥ 8)))] [] [] tv ?_)
 refine condM hm ?_ ?_
 ·intro h1 hm
  refine Sq (RD hnt (nn 4 []) [15] [(7, rr 1056)] [] [(1056, bx [.p (vk .u64 (IntKind.u64.wrap (w64 (p2 - p1))))])] tv ?_)
  obtain ⟨r2, hr2, hm⟩ := bo hm
  refine Sq (RD hnt (.no :: o130 [] true r2 :: .no :: []) [] [(8, .p (vk .u64 r2))] [] [] (an (nextPowerOfTwo_slicesSpec (w64 (p2 - p1)) r2 hr2) tv) ?_)
  refine Sq (RD hnt (nn 7 []) [] [(9, pI (w64 ((w64 (p1 + (w64 ((w64 (Int.tdiv (w64 (p2 - p1)) 4)) * 2)))) - 1)))] [] [] (an (by decide : (4 : Int) ≠ 0) tv) ?_)
  refine Bk ?_
  refine DW.whileO (fun (s1 : (List Int) × Int × Int) => mkSt [(0, ow 0 s1.1.length), (1, pI p1), (6, pI (w64 (p2 - p1))), (7, rr 1056), (8, .p (vk .u64 r2)), (9, pI s1.2.2)] [(0, ob0 (roI s1.1)), (1056, bx [.p (vk .u64 s1.2.1)])]) hm Conv.eqK ?_
  intro s1 n1 hm
  unfold breakPatternsOrdered_slices_intL1 at hm
  refine Sq (Sq (RD hnt (nn 8 []) [] [(33, pB (decide (s1.2.2 ≤ (w64 ((w64 (p1 + (w64 ((w64 (Int.tdiv (w64 (p2 - p1)) 4)) * 2)))) + 1)))))] [] [] (an (by decide : (4 : Int) ≠ 0) tv) ?_))
  refine condM hm ?_ ?_
  ·intro h14 hm
   refine Sk ?_
   refine Sq (Bk ?_)
   obtain ⟨r15, hr15, hm⟩ := bo hm
   refine Sq (RD hnt (o131 [1056] true r15 :: nn 5 []) [33] [(10, pI (c129e3 r15 r2))] [] [(1056, bx [.p (vk .u64 r15.2)])] (an (Next_xorshift_slicesSpec s1.2.1 r15 hr15) (an tv tv)) ?_)
   refine Sq (Sq (RD hnt (nn 3 []) [] [(43, pB (decide ((c129e3 r15 r2) ≥ (w64 (p2 - p1)))))] [] [] tv ?_))
   refine Jn (ι := Int) (fun (y2 : Int) => mkSt [(0, ow 0 s1.1.length), (1, pI p1), (6, pI (w64 (p2 - p1))), (7, rr 1056), (8, .p (vk .u64 r2)), (9, pI s1.2.2), (10, pI y2)] [(0, ob0 (roI s1.1)), (1056, bx [.p (vk .u64 r15.2)])]) (fun y2 => (breakPatternsOrdered_slices_intJ2 p1 s1 n1 r15) y2 = some RES) ?_ ?_
   ·intro y2 hm
    unfold breakPatternsOrdered_slices_intJ2 at hm
    obtain ⟨g17, g18, g19, g20, hm⟩ := go4 hm
    obtain ⟨g21, g22, g23, g24, hm⟩ := go4 hm
    refine RN hnt (nn 20 []) [(0, ow 0 (c129e2 s1 p1 y2).length), (1, pI p1), (6, pI (w64 (p2 - p1))), (7, rr 1056), (8, .p (vk .u64 r2)), (9, pI s1.2.2)] [(0, ob0 (roI (c129e2 s1 p1 y2))), (1056, bx [.p (vk .u64 r15.2)])] [(0, ow 0 s1.1.length)] [(0, .row 1 s1.1.length (c129e1 s1 p1 y2))] (an g17.1 (an g17.2 (an g18 (an g19.1 (an g19.2 (an g20 (an g21.1 (an g21.2 (an g22 (an g23.1 (an g23.2 (an g24 tv)))))))))))) (by kernel_rfl) (.cons rfl (MLe.ownLen (enc := encI) (d := 0) (f := (c129e1 s1 p1 y2)) (RowIs.updR (RowIs.upd RowIs.elems (s1.1.getD (Int.toNat (w64 (p1 + y2))) 0) rfl) (by omega) (s1.1.getD (Int.toNat s1.2.2) 0) rfl)) .nil) (.cons rfl (BLe.typed (RowIs.updR (RowIs.upd RowIs.elems (s1.1.getD (Int.toNat (w64 (p1 + y2))) 0) rfl) (by omega) (s1.1.getD (Int.toNat s1.2.2) 0) rfl)) .nil) ?_
    refine DW.done ?_
    show DW _ _ _ _ _
    refine RD hnt (nn 3 []) [] [(9, pI (w64 (s1.2.2 + 1)))] [] [] tv ?_
    exact jD ((c129e2 s1 p1 y2), r15.2, (w64 (s1.2.2 + 1))) hm Conv.eqK
   ·refine condM hm ?_ ?_
    ·intro h16 hm
     refine RD hnt (nn 4 []) [43] [(10, pI (w64 ((c129e3 r15 r2) - (w64 (p2 - p1)))))] [] [] tv ?_
     exact jD (w64 ((c129e3 r15 r2) - (w64 (p2 - p1)))) hm Conv.eqK
    ·intro h16 hm
     refine Sk ?_
     exact jD (c129e3 r15 r2) hm Conv.t0
  ·intro h14 hm
   refine DW.exit ?_
   refine joinQ_exit ?_
   refine KQ_exit ?_
   refine blockQ_exit ?_
   show DW _ _ _ _ _
   refine DW.done ?_
   obtain rfl := sj hm
   exact endK [roI s1.1] [] (.p (.tup []))
 ·intro h1 hm
  refine Sk ?_
  refine DW.done ?_
  obtain rfl := sj hm
  exact endK [roI p0] [] (.p (.tup []))
abbrev o129 (ks : List Nat) (b : Bool) (RES : List Int) : Orc := .call 179 ks b (.p (.tup [])) [roI RES] []
end Go.Dm

