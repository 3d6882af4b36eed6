/- Go functions compute their models, printed by a program. -/
import Derived.Test.YtdckdjkjjmadeaaMemberMovesA4
set_option linter.unusedVariables false
set_option linter.unusedSimpArgs false
namespace Go.Dm
open Go.Proofs
set_option linter.unusedVariables false
theorem Hierarchy_Dice_madeSpec (p0 : Dice) (p1 : Int) (p2 : Int) (RES : Hierarchy × Dice) (hm : Hierarchy_Dice_made p0 p1 p2 = some RES) : Spec Try.prog 14 [rr 0, pI p1, pI p2] [.box (pm (encDice p0))] (.p (.agg (encHierarchy RES.1))) [.box (pm (encDice RES.2))] [] := by
 unfold Hierarchy_Dice_made at hm
 refine spec_of Tgood (T := Tt) Try.func14 (by decide) (c := _) rfl rfl (sl := [(0, rr 0), (1, pI p1), (2, pI p2)]) (ob := [(0, bx (pm (encDice p0)))]) (Nat.le_of_ble_eq_true rfl) (Nat.le_of_ble_eq_true rfl) (by kernel_rfl) (by kernel_rfl) ?_
 intro cx hnt
 refine DW.start ?_
 refine DW.seq (RK hnt (.no :: []) [(0, rr 0), (1, pI p1), (2, pI p2), (6, rr 1048)] [(0, bx (pm (encDice p0))), (1048, bx [.p (.sl .nil 0 0 (fun _ => [])), pI 0, .p (.sl .nil 0 0 (fun _ => [])), pI 0])] trivial (by kernel_rfl) ?_)
 obtain ⟨r1, hr1, hm⟩ := bind_open hm
 refine DW.seq (RK hnt (.call 5 [] true (.agg [ow 0 r1.tree.nodes.length, pI r1.tree.next, ow 1 r1.tasks.length, pI r1.next]) [] [roNode r1.tree.nodes, roTask r1.tasks] :: nn 2 []) [(0, rr 0), (1, pI p1), (2, pI p2), (6, rr 1048), (7, rr 1056)] [(0, bx (pm (encDice p0))), (1048, bx [.p (.sl .nil 0 0 (fun _ => [])), pI 0, .p (.sl .nil 0 0 (fun _ => [])), pI 0]), (1056, bx [ow 1168 r1.tree.nodes.length, pI r1.tree.next, ow 1169 r1.tasks.length, pI r1.next]), (1168, ob0 (roNode r1.tree.nodes)), (1169, ob0 (roTask r1.tasks))] (an (New_ref6Spec r1 hr1) trivial) (by kernel_rfl) ?_)
 obtain ⟨r2, hr2, hm⟩ := bind_open hm
 refine DW.seq (RK hnt (nn 2 (.call 32 [0] true (.p (.agg (encTree r2.1))) [.box (pm (encDice r2.2))] [] :: nn 2 [])) [(0, rr 0), (1, pI p1), (2, pI p2), (6, rr 1048), (7, rr 1056)] [(0, bx (pm (encDice r2.2))), (1048, bx [.p (.sl .nil 0 0 (fun _ => [])), pI 0, .p (.sl .nil 0 0 (fun _ => [])), pI 0]), (1056, bx [.p (slNode r2.1.nodes), pI r2.1.next, ow 1169 r1.tasks.length, pI r1.next]), (1169, ob0 (roTask r1.tasks))] (an (Tree_Dice_madeSpec p0 p1 r2 hr2) (an trivial trivial)) (by kernel_rfl) ?_)
 obtain ⟨r3, hr3, hm⟩ := bind_open hm
 refine DW.seq (DW.seq (RK hnt (nn 3 (.call 15 [0] true (pI r3.1) [.box (pm (encDice r3.2))] [] :: .no :: [])) [(0, rr 0), (2, pI p2), (6, rr 1048), (7, rr 1056), (8, pI r3.1)] [(0, bx (pm (encDice r3.2))), (1048, bx [.p (.sl .nil 0 0 (fun _ => [])), pI 0, .p (.sl .nil 0 0 (fun _ => [])), pI 0]), (1056, bx [.p (slNode r2.1.nodes), pI r2.1.next, ow 1169 r1.tasks.length, pI r1.next]), (1169, ob0 (roTask r1.tasks))] (an (Next_Dice_madeSpec r2.2 (w64 (p1 + 3)) r3 hr3) (an trivial trivial)) (by kernel_rfl) ?_))
 refine DW.block ?_
 refine DW.whileO (fun (s1 : Dice × Hierarchy × Int) => mkSt [(0, rr 0), (2, pI p2), (6, rr 1048), (7, rr 1056), (8, pI s1.2.2)] [(0, bx (pm (encDice s1.1))), (1048, bx [.p (.sl .nil 0 0 (fun _ => [])), pI 0, .p (.sl .nil 0 0 (fun _ => [])), pI 0]), (1056, bx (pm (encHierarchy s1.2.1)))]) hm (Conv.trans (τ := mkSt [(0, rr 0), (2, pI p2), (6, rr 1048), (7, rr 1056), (8, pI r3.1)] [(0, bx (pm (encDice r3.2))), (1048, bx [.p (.sl .nil 0 0 (fun _ => [])), pI 0, .p (.sl .nil 0 0 (fun _ => [])), pI 0]), (1056, bx [.p (slNode r2.1.nodes), pI r2.1.next, .p (slTask r1.tasks), pI r1.next])]) (Conv.freezes [1169] (by kernel_rfl)) .refl) ?_
 intro s1 n1 hm
 unfold Hierarchy_Dice_madeL1 at hm
 refine DW.seq (DW.seq (RK hnt (nn 2 []) [(0, rr 0), (2, pI p2), (6, rr 1048), (7, rr 1056), (8, pI s1.2.2), (31, pB (decide (s1.2.2 > 0)))] [(0, bx (pm (encDice s1.1))), (1048, bx [.p (.sl .nil 0 0 (fun _ => [])), pI 0, .p (.sl .nil 0 0 (fun _ => [])), pI 0]), (1056, bx (pm (encHierarchy s1.2.1)))] trivial (by kernel_rfl) ?_))
 refine DW.cond (decide (s1.2.2 > 0)) rfl rfl ?_ ?_
 ·
  intro h56
  replace hm := if_t h56 hm
  refine DW.skip ?_
  refine DW.seq (DW.block ?_)
  obtain ⟨r57, hr57, hm⟩ := bind_open hm
  refine RK hnt (nn 2 (.call 33 [0] true (.p (.agg (encHierarchy r57.1))) [.box (pm (encDice r57.2))] [] :: .no :: [])) [(0, rr 0), (2, pI p2), (6, rr 1048), (7, rr 1056), (8, pI s1.2.2)] [(0, bx (pm (encDice r57.2))), (1048, bx [.p (.sl .nil 0 0 (fun _ => [])), pI 0, .p (.sl .nil 0 0 (fun _ => [])), pI 0]), (1056, bx (pm (encHierarchy r57.1)))] (an (step_Dice_madeSpec s1.1 s1.2.1 r57 hr57) (an trivial trivial)) (by kernel_rfl) ?_
  refine DW.done ?_
  show DW _ _ _ _ _
  refine RK hnt (nn 3 []) [(0, rr 0), (2, pI p2), (6, rr 1048), (7, rr 1056), (8, pI (w64 (s1.2.2 - 1)))] [(0, bx (pm (encDice r57.2))), (1048, bx [.p (.sl .nil 0 0 (fun _ => [])), pI 0, .p (.sl .nil 0 0 (fun _ => [])), pI 0]), (1056, bx (pm (encHierarchy r57.1)))] trivial (by kernel_rfl) ?_
  exact joinDone (r57.2, r57.1, (w64 (s1.2.2 - 1))) hm .refl
 ·
  intro h56
  replace hm := if_f h56 hm
  refine DW.exit ?_
  refine joinQ_exit ?_
  refine KQ_exit ?_
  refine blockQ_exit ?_
  show DW _ _ _ _ _
  obtain ⟨r58, hr58, hm⟩ := bind_open hm
  refine DW.seq (DW.seq (RK hnt (nn 3 (.call 15 [0] true (pI r58.1) [.box (pm (encDice r58.2))] [] :: .no :: [])) [(0, rr 0), (6, rr 1048), (7, rr 1056), (9, pI r58.1)] [(0, bx (pm (encDice r58.2))), (1048, bx [.p (.sl .nil 0 0 (fun _ => [])), pI 0, .p (.sl .nil 0 0 (fun _ => [])), pI 0]), (1056, bx (pm (encHierarchy s1.2.1)))] (an (Next_Dice_madeSpec s1.1 (w64 (p2 + 1)) r58 hr58) (an trivial trivial)) (by kernel_rfl) ?_))
  refine DW.block ?_
  refine DW.whileO (fun (s3 : Dice × Hierarchy × Int) => mkSt [(0, rr 0), (6, rr 1048), (7, rr 1056), (9, pI s3.2.2)] [(0, bx (pm (encDice s3.1))), (1048, bx [.p (.sl .nil 0 0 (fun _ => [])), pI 0, .p (.sl .nil 0 0 (fun _ => [])), pI 0]), (1056, bx (pm (encHierarchy s3.2.1)))]) hm .refl ?_
  intro s3 n3 hm
  unfold Hierarchy_Dice_madeL3 at hm
  refine DW.seq (DW.seq (RK hnt (nn 2 []) [(0, rr 0), (6, rr 1048), (7, rr 1056), (9, pI s3.2.2), (42, pB (decide (s3.2.2 > 0)))] [(0, bx (pm (encDice s3.1))), (1048, bx [.p (.sl .nil 0 0 (fun _ => [])), pI 0, .p (.sl .nil 0 0 (fun _ => [])), pI 0]), (1056, bx (pm (encHierarchy s3.2.1)))] trivial (by kernel_rfl) ?_))
  refine DW.cond (decide (s3.2.2 > 0)) rfl rfl ?_ ?_
  ·
   intro h82
   replace hm := if_t h82 hm
   refine DW.skip ?_
   refine DW.seq ?_
   refine DW.join (ι := Dice × Hierarchy) (fun (y13 : Dice × Hierarchy) => mkSt [(0, rr 0), (6, rr 1048), (7, rr 1056), (9, pI s3.2.2)] [(0, bx (pm (encDice y13.1))), (1048, bx [.p (.sl .nil 0 0 (fun _ => [])), pI 0, .p (.sl .nil 0 0 (fun _ => [])), pI 0]), (1056, bx (pm (encHierarchy y13.2)))]) (fun y13 => (Hierarchy_Dice_madeJ13 s3 n3) y13 = some RES) ?_ ?_
   ·
    intro y13 hm
    unfold Hierarchy_Dice_madeJ13 at hm
    refine RK hnt (nn 3 []) [(0, rr 0), (6, rr 1048), (7, rr 1056), (9, pI (w64 (s3.2.2 - 1)))] [(0, bx (pm (encDice y13.1))), (1048, bx [.p (.sl .nil 0 0 (fun _ => [])), pI 0, .p (.sl .nil 0 0 (fun _ => [])), pI 0]), (1056, bx (pm (encHierarchy y13.2)))] trivial (by kernel_rfl) ?_
    exact joinDone (y13.1, y13.2, (w64 (s3.2.2 - 1))) hm .refl
   ·
    refine DW.block ?_
    obtain ⟨r83, hr83, hm⟩ := bind_open hm
    refine DW.seq (RK hnt (nn 3 (.call 34 [0] true (pI r83.1) [.box (pm (encDice r83.2))] [] :: .no :: [])) [(0, rr 0), (6, rr 1048), (7, rr 1056), (9, pI s3.2.2), (10, pI r83.1)] [(0, bx (pm (encDice r83.2))), (1048, bx [.p (.sl .nil 0 0 (fun _ => [])), pI 0, .p (.sl .nil 0 0 (fun _ => [])), pI 0]), (1056, bx (pm (encHierarchy s3.2.1)))] (an (Group_Dice_madeSpec s3.1 s3.2.1.tree r83 hr83) (an trivial trivial)) (by kernel_rfl) ?_)
    obtain ⟨r84, hr84, hm⟩ := bind_open hm
    refine DW.seq (DW.seq (RK hnt (nn 2 (.call 35 [] true (pI r84) [] [] :: .no :: [])) [(0, rr 0), (6, rr 1048), (7, rr 1056), (9, pI s3.2.2), (10, pI r83.1), (52, pB (r84 != 0))] [(0, bx (pm (encDice r83.2))), (1048, bx [.p (.sl .nil 0 0 (fun _ => [])), pI 0, .p (.sl .nil 0 0 (fun _ => [])), pI 0]), (1056, bx (pm (encHierarchy s3.2.1)))] (an (Admits_ref8Spec s3.2.1 r83.1 r84 hr84) trivial) (by kernel_rfl) ?_))
    refine DW.cond (r84 != 0) rfl rfl ?_ ?_
    ·
     intro h85
     replace hm := if_t h85 hm
     refine DW.exit ?_
     exact blockQ_exit (joinKQ (r83.2, s3.2.1) hm (Conv.tp [] [] (by kernel_rfl) .nil .nil))
    ·
     intro h85
     replace hm := if_f h85 hm
     refine DW.skip ?_
     obtain ⟨r86, hr86, hm⟩ := bind_open hm
     obtain ⟨r87, hr87, hm⟩ := bind_open hm
     refine DW.seq (DW.seq (RK hnt (nn 3 (.call 15 [0] true (pI r86.1) [.box (pm (encDice r86.2))] [] :: .call 7 [] true (.tup [.agg [ow 0 r87.1.tree.nodes.length, pI r87.1.tree.next, ow 1 r87.1.tasks.length, pI r87.1.next], pI r87.2.1, pI r87.2.2]) [] [roNode r87.1.tree.nodes, roTask r87.1.tasks] :: nn 8 [])) [(0, rr 0), (6, rr 1048), (7, rr 1056), (9, pI s3.2.2), (11, rr 1088), (13, pI r87.2.2)] [(0, bx (pm (encDice r86.2))), (1048, bx [.p (.sl .nil 0 0 (fun _ => [])), pI 0, .p (.sl .nil 0 0 (fun _ => [])), pI 0]), (1056, bx (pm (encHierarchy s3.2.1))), (1088, bx [ow 1464 r87.1.tree.nodes.length, pI r87.1.tree.next, ow 1465 r87.1.tasks.length, pI r87.1.next]), (1464, ob0 (roNode r87.1.tree.nodes)), (1465, ob0 (roTask r87.1.tasks))] (an (Next_Dice_madeSpec r83.2 3 r86 hr86) (an trivial (an (Spawn_ref6Spec s3.2.1 r83.1 r86.1 r87 hr87) trivial))) (by kernel_rfl) ?_))
     refine DW.seq (RK hnt (nn 2 []) [(0, rr 0), (6, rr 1048), (7, rr 1056), (9, pI s3.2.2), (11, rr 1088), (63, pB (r87.2.2 == 0))] [(0, bx (pm (encDice r86.2))), (1048, bx [.p (.sl .nil 0 0 (fun _ => [])), pI 0, .p (.sl .nil 0 0 (fun _ => [])), pI 0]), (1056, bx (pm (encHierarchy s3.2.1))), (1088, bx [ow 1464 r87.1.tree.nodes.length, pI r87.1.tree.next, ow 1465 r87.1.tasks.length, pI r87.1.next]), (1464, ob0 (roNode r87.1.tree.nodes)), (1465, ob0 (roTask r87.1.tasks))] trivial (by kernel_rfl) ?_)
     refine DW.join (ι := Hierarchy) (fun (y14 : Hierarchy) => mkSt [(0, rr 0), (6, rr 1048), (7, rr 1056), (9, pI s3.2.2)] [(0, bx (pm (encDice r86.2))), (1048, bx [.p (.sl .nil 0 0 (fun _ => [])), pI 0, .p (.sl .nil 0 0 (fun _ => [])), pI 0]), (1056, bx (pm (encHierarchy y14)))]) (fun y14 => (Hierarchy_Dice_madeJ14 s3 n3 r86) y14 = some RES) ?_ ?_
     ·
      intro y14 hm
      unfold Hierarchy_Dice_madeJ14 at hm
      obtain ⟨r89, hr89, hm⟩ := bind_open hm
      refine DW.seq (DW.seq (RK hnt (.no :: .call 36 [0] true (pB r89.1) [.box (pm (encDice r89.2))] [] :: []) [(0, rr 0), (6, rr 1048), (7, rr 1056), (9, pI s3.2.2), (66, pB r89.1)] [(0, bx (pm (encDice r89.2))), (1048, bx [.p (.sl .nil 0 0 (fun _ => [])), pI 0, .p (.sl .nil 0 0 (fun _ => [])), pI 0]), (1056, bx (pm (encHierarchy y14)))] (an (Bool_Dice_madeSpec r86.2 3 r89 hr89) (an trivial trivial)) (by kernel_rfl) ?_))
      refine DW.join (ι := Dice × Hierarchy) (fun (y15 : Dice × Hierarchy) => mkSt [(0, rr 0), (6, rr 1048), (7, rr 1056), (9, pI s3.2.2)] [(0, bx (pm (encDice y15.1))), (1048, bx [.p (.sl .nil 0 0 (fun _ => [])), pI 0, .p (.sl .nil 0 0 (fun _ => [])), pI 0]), (1056, bx (pm (encHierarchy y15.2)))]) (fun y15 => (Hierarchy_Dice_madeJ15 s3 n3) y15 = some RES) ?_ ?_
      ·
       intro y15 hm
       unfold Hierarchy_Dice_madeJ15 at hm
       obtain ⟨r94, hr94, hm⟩ := bind_open hm
       refine DW.seq (DW.seq (RK hnt (.no :: .call 36 [0] true (pB r94.1) [.box (pm (encDice r94.2))] [] :: []) [(0, rr 0), (6, rr 1048), (7, rr 1056), (9, pI s3.2.2), (80, pB r94.1)] [(0, bx (pm (encDice r94.2))), (1048, bx [.p (.sl .nil 0 0 (fun _ => [])), pI 0, .p (.sl .nil 0 0 (fun _ => [])), pI 0]), (1056, bx (pm (encHierarchy y15.2)))] (an (Bool_Dice_madeSpec y15.1 4 r94 hr94) (an trivial trivial)) (by kernel_rfl) ?_))
       refine DW.join (ι := Dice × Hierarchy) (fun (y16 : Dice × Hierarchy) => mkSt [(0, rr 0), (6, rr 1048), (7, rr 1056), (9, pI s3.2.2)] [(0, bx (pm (encDice y16.1))), (1048, bx [.p (.sl .nil 0 0 (fun _ => [])), pI 0, .p (.sl .nil 0 0 (fun _ => [])), pI 0]), (1056, bx (pm (encHierarchy y16.2)))]) (fun y16 => (Hierarchy_Dice_madeJ16 s3 n3) y16 = some RES) ?_ ?_
       ·
        intro y16 hm
        unfold Hierarchy_Dice_madeJ16 at hm
        obtain ⟨r100, hr100, hm⟩ := bind_open hm
        refine DW.seq (RK hnt (.no :: .call 36 [0] true (pB r100.1) [.box (pm (encDice r100.2))] [] :: []) [(0, rr 0), (6, rr 1048), (7, rr 1056), (9, pI s3.2.2), (97, pB r100.1)] [(0, bx (pm (encDice r100.2))), (1048, bx [.p (.sl .nil 0 0 (fun _ => [])), pI 0, .p (.sl .nil 0 0 (fun _ => [])), pI 0]), (1056, bx (pm (encHierarchy y16.2)))] (an (Bool_Dice_madeSpec y16.1 8 r100 hr100) (an trivial trivial)) (by kernel_rfl) ?_)
        refine DW.cond r100.1 rfl rfl ?_ ?_
        ·
         intro h101
         replace hm := if_t h101 hm
         obtain ⟨r102, hr102, hm⟩ := bind_open hm
         obtain ⟨r103, hr103, hm⟩ := bind_open hm
         refine DW.seq (RK hnt (nn 3 (.call 37 [0] true (pI r102.1) [.box (pm (encDice r102.2))] [] :: .call 39 [] true (.tup [.agg [ow 0 r103.1.tree.nodes.length, pI r103.1.tree.next, ow 1 r103.1.tasks.length, pI r103.1.next], pI r103.2]) [] [roNode r103.1.tree.nodes, roTask r103.1.tasks] :: nn 6 [])) [(0, rr 0), (6, rr 1048), (7, rr 1056), (9, pI s3.2.2), (19, rr 1152), (20, pI r103.2)] [(0, bx (pm (encDice r102.2))), (1048, bx [.p (.sl .nil 0 0 (fun _ => [])), pI 0, .p (.sl .nil 0 0 (fun _ => [])), pI 0]), (1056, bx (pm (encHierarchy y16.2))), (1152, bx [ow 1824 r103.1.tree.nodes.length, pI r103.1.tree.next, ow 1825 r103.1.tasks.length, pI r103.1.next]), (1824, ob0 (roNode r103.1.tree.nodes)), (1825, ob0 (roTask r103.1.tasks))] (an (Task_Dice_madeSpec r100.2 y16.2 r102 hr102) (an trivial (an (Exit_ref6Spec y16.2 r102.1 r103 hr103) trivial))) (by kernel_rfl) ?_)
         refine DW.seq (RK hnt (nn 2 []) [(0, rr 0), (6, rr 1048), (7, rr 1056), (9, pI s3.2.2), (19, rr 1152), (107, pB (r103.2 == 0))] [(0, bx (pm (encDice r102.2))), (1048, bx [.p (.sl .nil 0 0 (fun _ => [])), pI 0, .p (.sl .nil 0 0 (fun _ => [])), pI 0]), (1056, bx (pm (encHierarchy y16.2))), (1152, bx [ow 1824 r103.1.tree.nodes.length, pI r103.1.tree.next, ow 1825 r103.1.tasks.length, pI r103.1.next]), (1824, ob0 (roNode r103.1.tree.nodes)), (1825, ob0 (roTask r103.1.tasks))] trivial (by kernel_rfl) ?_)
         refine DW.cond (r103.2 == 0) rfl rfl ?_ ?_
         ·
          intro h104
          replace hm := if_t h104 hm
          refine RK hnt (nn 2 []) [(0, rr 0), (6, rr 1048), (7, rr 1056), (9, pI s3.2.2)] [(0, bx (pm (encDice r102.2))), (1048, bx [.p (.sl .nil 0 0 (fun _ => [])), pI 0, .p (.sl .nil 0 0 (fun _ => [])), pI 0]), (1056, bx [ow 1824 r103.1.tree.nodes.length, pI r103.1.tree.next, ow 1825 r103.1.tasks.length, pI r103.1.next]), (1824, ob0 (roNode r103.1.tree.nodes)), (1825, ob0 (roTask r103.1.tasks))] trivial (by kernel_rfl) ?_
          exact blockDone (r102.2, r103.1) hm (Conv.trans (τ := mkSt [(0, rr 0), (6, rr 1048), (7, rr 1056), (9, pI s3.2.2)] [(0, bx (pm (encDice r102.2))), (1048, bx [.p (.sl .nil 0 0 (fun _ => [])), pI 0, .p (.sl .nil 0 0 (fun _ => [])), pI 0]), (1056, bx (pm (encHierarchy r103.1)))]) (Conv.freezes [1824, 1825] (by kernel_rfl)) .refl)
         ·
          intro h104
          replace hm := if_f h104 hm
          refine DW.skip ?_
          exact blockDone (r102.2, y16.2) hm (Conv.tp [] [] (by kernel_rfl) .nil .nil)
        ·
         intro h101
         replace hm := if_f h101 hm
         refine DW.skip ?_
         exact blockDone (r100.2, y16.2) hm (Conv.tp [] [] (by kernel_rfl) .nil .nil)
       ·
        refine DW.cond r94.1 rfl rfl ?_ ?_
        ·
         intro h95
         replace hm := if_t h95 hm
         obtain ⟨r96, hr96, hm⟩ := bind_open hm
         obtain ⟨r97, hr97, hm⟩ := bind_open hm
         obtain ⟨r98, hr98, hm⟩ := bind_open hm
         refine DW.seq (RK hnt (nn 3 (.call 37 [0] true (pI r96.1) [.box (pm (encDice r96.2))] [] :: nn 3 (.call 34 [0] true (pI r97.1) [.box (pm (encDice r97.2))] [] :: .call 38 [] true (.tup [.agg [ow 0 r98.1.tree.nodes.length, pI r98.1.tree.next, ow 1 r98.1.tasks.length, pI r98.1.next], pI r98.2]) [] [roNode r98.1.tree.nodes, roTask r98.1.tasks] :: nn 6 []))) [(0, rr 0), (6, rr 1048), (7, rr 1056), (9, pI s3.2.2), (17, rr 1136), (18, pI r98.2)] [(0, bx (pm (encDice r97.2))), (1048, bx [.p (.sl .nil 0 0 (fun _ => [])), pI 0, .p (.sl .nil 0 0 (fun _ => [])), pI 0]), (1056, bx (pm (encHierarchy y15.2))), (1136, bx [ow 1720 r98.1.tree.nodes.length, pI r98.1.tree.next, ow 1721 r98.1.tasks.length, pI r98.1.next]), (1720, ob0 (roNode r98.1.tree.nodes)), (1721, ob0 (roTask r98.1.tasks))] (an (Task_Dice_madeSpec r94.2 y15.2 r96 hr96) (an trivial (an (Group_Dice_madeSpec r96.2 y15.2.tree r97 hr97) (an trivial (an (AttachThread_ref8Spec y15.2 r96.1 r97.1 r98 hr98) trivial))))) (by kernel_rfl) ?_)
         refine DW.seq (RK hnt (nn 2 []) [(0, rr 0), (6, rr 1048), (7, rr 1056), (9, pI s3.2.2), (17, rr 1136), (94, pB (r98.2 == 0))] [(0, bx (pm (encDice r97.2))), (1048, bx [.p (.sl .nil 0 0 (fun _ => [])), pI 0, .p (.sl .nil 0 0 (fun _ => [])), pI 0]), (1056, bx (pm (encHierarchy y15.2))), (1136, bx [ow 1720 r98.1.tree.nodes.length, pI r98.1.tree.next, ow 1721 r98.1.tasks.length, pI r98.1.next]), (1720, ob0 (roNode r98.1.tree.nodes)), (1721, ob0 (roTask r98.1.tasks))] trivial (by kernel_rfl) ?_)
         refine DW.cond (r98.2 == 0) rfl rfl ?_ ?_
         ·
          intro h99
          replace hm := if_t h99 hm
          refine RK hnt (nn 2 []) [(0, rr 0), (6, rr 1048), (7, rr 1056), (9, pI s3.2.2)] [(0, bx (pm (encDice r97.2))), (1048, bx [.p (.sl .nil 0 0 (fun _ => [])), pI 0, .p (.sl .nil 0 0 (fun _ => [])), pI 0]), (1056, bx [ow 1720 r98.1.tree.nodes.length, pI r98.1.tree.next, ow 1721 r98.1.tasks.length, pI r98.1.next]), (1720, ob0 (roNode r98.1.tree.nodes)), (1721, ob0 (roTask r98.1.tasks))] trivial (by kernel_rfl) ?_
          exact joinDone (r97.2, r98.1) hm (Conv.trans (τ := mkSt [(0, rr 0), (6, rr 1048), (7, rr 1056), (9, pI s3.2.2)] [(0, bx (pm (encDice r97.2))), (1048, bx [.p (.sl .nil 0 0 (fun _ => [])), pI 0, .p (.sl .nil 0 0 (fun _ => [])), pI 0]), (1056, bx (pm (encHierarchy r98.1)))]) (Conv.freezes [1720, 1721] (by kernel_rfl)) .refl)
         ·
          intro h99
          replace hm := if_f h99 hm
          refine DW.skip ?_
          exact joinDone (r97.2, y15.2) hm (Conv.tp [] [] (by kernel_rfl) .nil .nil)
        ·
         intro h95
         replace hm := if_f h95 hm
         refine DW.skip ?_
         exact joinDone (r94.2, y15.2) hm (Conv.tp [] [] (by kernel_rfl) .nil .nil)
      ·
       refine DW.cond r89.1 rfl rfl ?_ ?_
       ·
        intro h90
        replace hm := if_t h90 hm
        obtain ⟨r91, hr91, hm⟩ := bind_open hm
        obtain ⟨r92, hr92, hm⟩ := bind_open hm
        refine DW.seq (RK hnt (nn 3 (.call 37 [0] true (pI r91.1) [.box (pm (encDice r91.2))] [] :: .call 9 [] true (.tup [.agg [ow 0 r92.1.tree.nodes.length, pI r92.1.tree.next, ow 1 r92.1.tasks.length, pI r92.1.next], pI r92.2.1, pI r92.2.2]) [] [roNode r92.1.tree.nodes, roTask r92.1.tasks] :: nn 8 [])) [(0, rr 0), (6, rr 1048), (7, rr 1056), (9, pI s3.2.2), (14, rr 1112), (16, pI r92.2.2)] [(0, bx (pm (encDice r91.2))), (1048, bx [.p (.sl .nil 0 0 (fun _ => [])), pI 0, .p (.sl .nil 0 0 (fun _ => [])), pI 0]), (1056, bx (pm (encHierarchy y14))), (1112, bx [ow 1576 r92.1.tree.nodes.length, pI r92.1.tree.next, ow 1577 r92.1.tasks.length, pI r92.1.next]), (1576, ob0 (roNode r92.1.tree.nodes)), (1577, ob0 (roTask r92.1.tasks))] (an (Task_Dice_madeSpec r89.2 y14 r91 hr91) (an trivial (an (Clone_ref6Spec y14 r91.1 r92 hr92) trivial))) (by kernel_rfl) ?_)
        refine DW.seq (RK hnt (nn 2 []) [(0, rr 0), (6, rr 1048), (7, rr 1056), (9, pI s3.2.2), (14, rr 1112), (77, pB (r92.2.2 == 0))] [(0, bx (pm (encDice r91.2))), (1048, bx [.p (.sl .nil 0 0 (fun _ => [])), pI 0, .p (.sl .nil 0 0 (fun _ => [])), pI 0]), (1056, bx (pm (encHierarchy y14))), (1112, bx [ow 1576 r92.1.tree.nodes.length, pI r92.1.tree.next, ow 1577 r92.1.tasks.length, pI r92.1.next]), (1576, ob0 (roNode r92.1.tree.nodes)), (1577, ob0 (roTask r92.1.tasks))] trivial (by kernel_rfl) ?_)
        refine DW.cond (r92.2.2 == 0) rfl rfl ?_ ?_
        ·
         intro h93
         replace hm := if_t h93 hm
         refine RK hnt (nn 2 []) [(0, rr 0), (6, rr 1048), (7, rr 1056), (9, pI s3.2.2)] [(0, bx (pm (encDice r91.2))), (1048, bx [.p (.sl .nil 0 0 (fun _ => [])), pI 0, .p (.sl .nil 0 0 (fun _ => [])), pI 0]), (1056, bx [ow 1576 r92.1.tree.nodes.length, pI r92.1.tree.next, ow 1577 r92.1.tasks.length, pI r92.1.next]), (1576, ob0 (roNode r92.1.tree.nodes)), (1577, ob0 (roTask r92.1.tasks))] trivial (by kernel_rfl) ?_
         exact joinDone (r91.2, r92.1) hm (Conv.trans (τ := mkSt [(0, rr 0), (6, rr 1048), (7, rr 1056), (9, pI s3.2.2)] [(0, bx (pm (encDice r91.2))), (1048, bx [.p (.sl .nil 0 0 (fun _ => [])), pI 0, .p (.sl .nil 0 0 (fun _ => [])), pI 0]), (1056, bx (pm (encHierarchy r92.1)))]) (Conv.freezes [1576, 1577] (by kernel_rfl)) .refl)
        ·
         intro h93
         replace hm := if_f h93 hm
         refine DW.skip ?_
         exact joinDone (r91.2, y14) hm (Conv.tp [] [] (by kernel_rfl) .nil .nil)
       ·
        intro h90
        replace hm := if_f h90 hm
        refine DW.skip ?_
        exact joinDone (r89.2, y14) hm (Conv.tp [] [] (by kernel_rfl) .nil .nil)
     ·
      refine DW.cond (r87.2.2 == 0) rfl rfl ?_ ?_
      ·
       intro h88
       replace hm := if_t h88 hm
       refine RK hnt (nn 2 []) [(0, rr 0), (6, rr 1048), (7, rr 1056), (9, pI s3.2.2)] [(0, bx (pm (encDice r86.2))), (1048, bx [.p (.sl .nil 0 0 (fun _ => [])), pI 0, .p (.sl .nil 0 0 (fun _ => [])), pI 0]), (1056, bx [ow 1464 r87.1.tree.nodes.length, pI r87.1.tree.next, ow 1465 r87.1.tasks.length, pI r87.1.next]), (1464, ob0 (roNode r87.1.tree.nodes)), (1465, ob0 (roTask r87.1.tasks))] trivial (by kernel_rfl) ?_
       exact joinDone r87.1 hm (Conv.trans (τ := mkSt [(0, rr 0), (6, rr 1048), (7, rr 1056), (9, pI s3.2.2)] [(0, bx (pm (encDice r86.2))), (1048, bx [.p (.sl .nil 0 0 (fun _ => [])), pI 0, .p (.sl .nil 0 0 (fun _ => [])), pI 0]), (1056, bx (pm (encHierarchy r87.1)))]) (Conv.freezes [1464, 1465] (by kernel_rfl)) .refl)
      ·
       intro h88
       replace hm := if_f h88 hm
       refine DW.skip ?_
       exact joinDone s3.2.1 hm (Conv.tp [] [] (by kernel_rfl) .nil .nil)
  ·
   intro h82
   replace hm := if_f h82 hm
   refine DW.exit ?_
   refine joinQ_exit ?_
   refine KQ_exit ?_
   refine blockQ_exit ?_
   show DW _ _ _ _ _
   refine DW.seq (RK hnt (nn 2 []) [(6, rr 1048)] [(0, bx (pm (encDice s3.1))), (1048, bx (pm (encHierarchy s3.2.1)))] trivial (by kernel_rfl) ?_)
   refine DW.ret ?_
   obtain rfl := Option.some.inj hm
   refine retOK (bs' := [.box (pm (encDice s3.1))]) [] (.p (.agg (encHierarchy s3.2.1))) (by kernel_rfl) ?_ ?_
   · rfl
   · rfl

theorem Place_memberSpec (p0 : Hierarchy) (p1 : Int) (p2 : Int) (RES : Hierarchy × Int) (hm : Place_member p0 p1 p2 = some RES) : Spec Try.prog 16 [.p (.agg (encHierarchy p0)), pI p1, pI p2] [] (.tup [.agg [ow 0 RES.1.tree.nodes.length, pI RES.1.tree.next, ow 1 RES.1.tasks.length, pI RES.1.next], pI RES.2]) [] [roNode RES.1.tree.nodes, roTask RES.1.tasks] := by
 unfold Place_member at hm
 refine spec_of Tgood (T := Tt) Try.func16 (by decide) (c := _) rfl rfl (sl := [(0, .p (.agg (encHierarchy p0))), (1, pI p1), (2, pI p2)]) (ob := []) (Nat.le_of_ble_eq_true rfl) (Nat.le_of_ble_eq_true rfl) (by kernel_rfl) (by kernel_rfl) ?_
 intro cx hnt
 refine DW.start ?_
 refine DW.seq (RK hnt (nn 3 []) [(1, pI p1), (2, pI p2), (3, rr 1024), (6, rr 1048)] [(1024, bx (pm (encHierarchy p0))), (1048, bx [.p (.sl .nil 0 0 (fun _ => [])), pI 0, .p (.sl .nil 0 0 (fun _ => [])), pI 0])] trivial (by kernel_rfl) ?_)
 obtain ⟨r1, hr1, hm⟩ := bind_open hm
 refine DW.seq (DW.seq (RK hnt (.no :: .call 21 [] true (pB r1) [] [] :: .no :: []) [(1, pI p1), (2, pI p2), (3, rr 1024), (6, rr 1048), (12, pB (!r1))] [(1024, bx (pm (encHierarchy p0))), (1048, bx [.p (.sl .nil 0 0 (fun _ => [])), pI 0, .p (.sl .nil 0 0 (fun _ => [])), pI 0])] (an (Check_memberSpec p0 r1 hr1) trivial) (by kernel_rfl) ?_))
 refine DW.cond (!r1) rfl rfl ?_ ?_
 ·
  intro h2
  replace hm := if_t h2 hm
  refine DW.seq (RK hnt (nn 3 []) [(6, rr 1048), (7, pI 1)] [(1048, bx [.p (.sl .nil 0 0 (fun _ => [])), pI 0, .p (.sl .nil 0 0 (fun _ => [])), pI 0])] trivial (by kernel_rfl) ?_)
  refine DW.conv (τ := mkSt [(6, rr 1048), (7, pI 1)] [(1048, bx [ow 100000 0, pI 0, ow 100001 0, pI 0]), (100000, ob0 (roNode [])), (100001, ob0 (roTask []))]) (Conv.trans (τ := mkSt [(6, rr 1048), (7, pI 1)] ((100000, ⟨0, .row 6 0 (elems encNode dNode [])⟩) :: [(1048, bx [ow 100000 0, pI 0, .p (.sl .nil 0 0 (fun _ => [])), pI 0])])) (Conv.adopt 100000 6 (elems encNode dNode []) rfl rfl (.rfl _) (.box (.cons (.nil _ _) (.cons (.rfl _) (.cons (.rfl _) (.cons (.rfl _) (.rfl _))))) (.rfl _))) (Conv.trans (τ := mkSt [(6, rr 1048), (7, pI 1)] [(1048, bx [ow 100000 0, pI 0, .p (.sl .nil 0 0 (fun _ => [])), pI 0]), (100000, ob0 (roNode []))]) (Conv.tp [] [] (by kernel_rfl) .nil .nil) (Conv.trans (τ := mkSt [(6, rr 1048), (7, pI 1)] ((100001, ⟨0, .row 4 0 (elems encTask dTask [])⟩) :: [(1048, bx [ow 100000 0, pI 0, ow 100001 0, pI 0]), (100000, ob0 (roNode []))])) (Conv.adopt 100001 4 (elems encTask dTask []) rfl rfl (.rfl _) (.box (.cons (.rfl _) (.cons (.rfl _) (.cons (.nil _ _) (.cons (.rfl _) (.rfl _))))) (.keep (.rfl _)))) (Conv.trans (τ := mkSt [(6, rr 1048), (7, pI 1)] [(1048, bx [ow 100000 0, pI 0, ow 100001 0, pI 0]), (100000, ob0 (roNode [])), (100001, ob0 (roTask []))]) (Conv.tp [] [] (by kernel_rfl) .nil .nil) .refl)))) ?_
  refine DW.ret ?_
  obtain rfl := Option.some.inj hm
  refine retOK (bs' := [roNode [], roTask []]) [100000, 100001] (.tup [.agg [ow 0 0, pI 0, ow 1 0, pI 0], pI 1]) (by kernel_rfl) ?_ ?_
  · rfl
  · rfl
 ·
  intro h2
  replace hm := if_f h2 hm
  refine DW.skip ?_
  obtain ⟨r3, hr3, hm⟩ := bind_open hm
  refine DW.seq (RK hnt (nn 2 (.call 40 [] true (pI r3) [] [] :: .no :: [])) [(2, pI p2), (3, rr 1024), (6, rr 1048), (8, pI r3)] [(1024, bx (pm (encHierarchy p0))), (1048, bx [.p (.sl .nil 0 0 (fun _ => [])), pI 0, .p (.sl .nil 0 0 (fun _ => [])), pI 0])] (an (At_crewSpec p0 p1 r3 hr3) trivial) (by kernel_rfl) ?_)
  refine DW.seq (DW.seq ?_)
  refine DW.join (ι := Bool) (fun (y1 : Bool) => mkSt [(2, pI p2), (3, rr 1024), (6, rr 1048), (8, pI r3), (25, pB y1)] [(1024, bx (pm (encHierarchy p0))), (1048, bx [.p (.sl .nil 0 0 (fun _ => [])), pI 0, .p (.sl .nil 0 0 (fun _ => [])), pI 0])]) (fun y1 => (Place_memberJ1 p0 p2 r3) y1 = some RES) ?_ ?_
  ·
   intro y1 hm
   unfold Place_memberJ1 at hm
   refine DW.cond y1 rfl rfl ?_ ?_
   ·
    intro h6
    replace hm := if_t h6 hm
    refine DW.seq (RK hnt (nn 3 []) [(6, rr 1048), (7, pI 4)] [(1048, bx [.p (.sl .nil 0 0 (fun _ => [])), pI 0, .p (.sl .nil 0 0 (fun _ => [])), pI 0])] trivial (by kernel_rfl) ?_)
    refine DW.conv (τ := mkSt [(6, rr 1048), (7, pI 4)] [(1048, bx [ow 100000 0, pI 0, ow 100001 0, pI 0]), (100000, ob0 (roNode [])), (100001, ob0 (roTask []))]) (Conv.trans (τ := mkSt [(6, rr 1048), (7, pI 4)] ((100000, ⟨0, .row 6 0 (elems encNode dNode [])⟩) :: [(1048, bx [ow 100000 0, pI 0, .p (.sl .nil 0 0 (fun _ => [])), pI 0])])) (Conv.adopt 100000 6 (elems encNode dNode []) rfl rfl (.rfl _) (.box (.cons (.nil _ _) (.cons (.rfl _) (.cons (.rfl _) (.cons (.rfl _) (.rfl _))))) (.rfl _))) (Conv.trans (τ := mkSt [(6, rr 1048), (7, pI 4)] [(1048, bx [ow 100000 0, pI 0, .p (.sl .nil 0 0 (fun _ => [])), pI 0]), (100000, ob0 (roNode []))]) (Conv.tp [] [] (by kernel_rfl) .nil .nil) (Conv.trans (τ := mkSt [(6, rr 1048), (7, pI 4)] ((100001, ⟨0, .row 4 0 (elems encTask dTask [])⟩) :: [(1048, bx [ow 100000 0, pI 0, ow 100001 0, pI 0]), (100000, ob0 (roNode []))])) (Conv.adopt 100001 4 (elems encTask dTask []) rfl rfl (.rfl _) (.box (.cons (.rfl _) (.cons (.rfl _) (.cons (.nil _ _) (.cons (.rfl _) (.rfl _))))) (.keep (.rfl _)))) (Conv.trans (τ := mkSt [(6, rr 1048), (7, pI 4)] [(1048, bx [ow 100000 0, pI 0, ow 100001 0, pI 0]), (100000, ob0 (roNode [])), (100001, ob0 (roTask []))]) (Conv.tp [] [] (by kernel_rfl) .nil .nil) .refl)))) ?_
    refine DW.ret ?_
    obtain rfl := Option.some.inj hm
    refine retOK (bs' := [roNode [], roTask []]) [100000, 100001] (.tup [.agg [ow 0 0, pI 0, ow 1 0, pI 0], pI 4]) (by kernel_rfl) ?_ ?_
    · rfl
    · rfl
   ·
    intro h6
    replace hm := if_f h6 hm
    refine DW.skip ?_
    obtain ⟨r7, hr7, hm⟩ := bind_open hm
    refine DW.seq (RK hnt (.no :: .call 41 [] true (.agg [ow 0 r7.tree.nodes.length, pI r7.tree.next, ow 1 r7.tasks.length, pI r7.next]) [] [roNode r7.tree.nodes, roTask r7.tasks] :: nn 2 []) [(2, pI p2), (6, rr 1048), (8, pI r3), (9, rr 1072)] [(1048, bx [.p (.sl .nil 0 0 (fun _ => [])), pI 0, .p (.sl .nil 0 0 (fun _ => [])), pI 0]), (1072, bx [ow 1224 r7.tree.nodes.length, pI r7.tree.next, ow 1225 r7.tasks.length, pI r7.next]), (1224, ob0 (roNode r7.tree.nodes)), (1225, ob0 (roTask r7.tasks))] (an (Copy_crewSpec p0 r7 hr7) trivial) (by kernel_rfl) ?_)
    obtain ⟨g8, hm⟩ := guard_open hm
    obtain ⟨g9, hm⟩ := guard_open hm
    refine DW.seq (RN hnt (nn 7 []) [(6, rr 1048), (9, rr 1072)] [(1048, bx [.p (.sl .nil 0 0 (fun _ => [])), pI 0, .p (.sl .nil 0 0 (fun _ => [])), pI 0]), (1072, bx [ow 1224 r7.tree.nodes.length, pI r7.tree.next, ow 1225 (r7.tasks.set (Int.toNat r3) ({ id := (r7.tasks.getD (Int.toNat r3) dTask).id, process := (r7.tasks.getD (Int.toNat r3) dTask).process, group := p2, user := (r7.tasks.getD (Int.toNat r3) dTask).user } : Task)).length, pI r7.next]), (1224, ob0 (roNode r7.tree.nodes)), (1225, ob0 (roTask (r7.tasks.set (Int.toNat r3) ({ id := (r7.tasks.getD (Int.toNat r3) dTask).id, process := (r7.tasks.getD (Int.toNat r3) dTask).process, group := p2, user := (r7.tasks.getD (Int.toNat r3) dTask).user } : Task))))] [] [(1072, .box [ow 1224 r7.tree.nodes.length, pI r7.tree.next, ow 1225 r7.tasks.length, pI r7.next]), (1225, .row 4 r7.tasks.length (updF (elTask r7.tasks) (Int.toNat r3) [vi (r7.tasks.getD (Int.toNat r3) dTask).id, vi (r7.tasks.getD (Int.toNat r3) dTask).process, vi p2, vi (r7.tasks.getD (Int.toNat r3) dTask).user]))] (an g8.1 (an g8.2 (an g9 trivial))) (by kernel_rfl) .nil (.cons rfl (.box (.cons .rfl (.cons .rfl (.cons (MLe.ownLen (enc := encTask) (d := dTask) (f := (updF (elTask r7.tasks) (Int.toNat r3) [vi (r7.tasks.getD (Int.toNat r3) dTask).id, vi (r7.tasks.getD (Int.toNat r3) dTask).process, vi p2, vi (r7.tasks.getD (Int.toNat r3) dTask).user])) (RowIs.upd RowIs.elems ({ id := (r7.tasks.getD (Int.toNat r3) dTask).id, process := (r7.tasks.getD (Int.toNat r3) dTask).process, group := p2, user := (r7.tasks.getD (Int.toNat r3) dTask).user } : Task) rfl)) (.cons .rfl .nil))))) (.cons rfl (BLe.typed (RowIs.upd RowIs.elems ({ id := (r7.tasks.getD (Int.toNat r3) dTask).id, process := (r7.tasks.getD (Int.toNat r3) dTask).process, group := p2, user := (r7.tasks.getD (Int.toNat r3) dTask).user } : Task) rfl)) .nil)) ?_)
    refine DW.seq (RK hnt (nn 3 []) [(6, rr 1048), (7, pI 0)] [(1048, bx [ow 1224 r7.tree.nodes.length, pI r7.tree.next, ow 1225 (r7.tasks.set (Int.toNat r3) ({ id := (r7.tasks.getD (Int.toNat r3) dTask).id, process := (r7.tasks.getD (Int.toNat r3) dTask).process, group := p2, user := (r7.tasks.getD (Int.toNat r3) dTask).user } : Task)).length, pI r7.next]), (1224, ob0 (roNode r7.tree.nodes)), (1225, ob0 (roTask (r7.tasks.set (Int.toNat r3) ({ id := (r7.tasks.getD (Int.toNat r3) dTask).id, process := (r7.tasks.getD (Int.toNat r3) dTask).process, group := p2, user := (r7.tasks.getD (Int.toNat r3) dTask).user } : Task))))] trivial (by kernel_rfl) ?_)
    refine DW.ret ?_
    obtain rfl := Option.some.inj hm
    refine retOK (bs' := [roNode r7.tree.nodes, roTask (r7.tasks.set (Int.toNat r3) ({ id := (r7.tasks.getD (Int.toNat r3) dTask).id, process := (r7.tasks.getD (Int.toNat r3) dTask).process, group := p2, user := (r7.tasks.getD (Int.toNat r3) dTask).user } : Task))]) [1224, 1225] (.tup [.agg [ow 0 r7.tree.nodes.length, pI r7.tree.next, ow 1 (r7.tasks.set (Int.toNat r3) ({ id := (r7.tasks.getD (Int.toNat r3) dTask).id, process := (r7.tasks.getD (Int.toNat r3) dTask).process, group := p2, user := (r7.tasks.getD (Int.toNat r3) dTask).user } : Task)).length, pI r7.next], pI 0]) (by kernel_rfl) ?_ ?_
    · rfl
    · rfl
  ·
   rcases bt (decide (r3 < 0)) with h4 | h4
   ·
    replace hm := if_t h4 hm
    refine RK hnt (nn 3 (sk 5 (pT :: []))) [(2, pI p2), (3, rr 1024), (6, rr 1048), (8, pI r3), (25, pB true)] [(1024, bx (pm (encHierarchy p0))), (1048, bx [.p (.sl .nil 0 0 (fun _ => [])), pI 0, .p (.sl .nil 0 0 (fun _ => [])), pI 0])] (an6 h4 trivial) (by kernel_rfl) ?_
    exact joinDone true hm .refl
   ·
    replace hm := if_f h4 hm
    obtain ⟨r5, hr5, hm⟩ := bind_open hm
    refine RK hnt (nn 6 (.call 22 [] true (pI r5) [] [] :: .no :: pF :: [])) [(2, pI p2), (3, rr 1024), (6, rr 1048), (8, pI r3), (25, pB (decide (r5 < 0)))] [(1024, bx (pm (encHierarchy p0))), (1048, bx [.p (.sl .nil 0 0 (fun _ => [])), pI 0, .p (.sl .nil 0 0 (fun _ => [])), pI 0])] (an4 h4 (an (At_forestSpec p0.tree p2 r5 hr5) (an2 h4 trivial))) (by kernel_rfl) ?_
    exact joinDone (decide (r5 < 0)) hm .refl

theorem Has_ref3Spec (p0 : List Int) (p1 : Int) (RES : Bool) (hm : Has_ref3 p0 p1 = some RES) : Spec Try.prog 18 [.p (slI p0), pI p1] [] (pB RES) [] [] := by
 unfold Has_ref3 at hm
 refine spec_of Tgood (T := Tt) Try.func18 (by decide) (c := _) rfl rfl (sl := [(0, .p (slI p0)), (1, pI p1)]) (ob := []) (Nat.le_of_ble_eq_true rfl) (Nat.le_of_ble_eq_true rfl) (by kernel_rfl) (by kernel_rfl) ?_
 intro cx hnt
 refine DW.start ?_
 refine DW.seq (RK hnt (.no :: []) [(0, .p (slI p0)), (1, pI p1)] [] trivial (by kernel_rfl) ?_)
 refine DW.seq (DW.seq (RK hnt (.no :: []) [(0, .p (slI p0)), (1, pI p1), (5, pI 0)] [] trivial (by kernel_rfl) ?_))
 refine DW.block ?_
 obtain ⟨hc1, hm⟩ := guard_open hm
 refine DW.rangeO (fun (k1 : Nat) (s1 : Unit) => mkSt [(0, .p (slI p0)), (1, pI p1), (5, pI ((k1 : Nat) : Int))] []) 0 hm .refl ?_
 intro k1 s1 n1 hk1 hs1 he1
 refine DW.seq (DW.seq (RK hnt (nn 4 []) [(0, .p (slI p0)), (1, pI p1), (5, pI ((k1 : Nat) : Int)), (9, pB (decide (((k1 : Nat) : Int) < ((p0.length : Nat) : Int))))] [] trivial (by kernel_rfl) ?_))
 refine DW.cond (decide (((k1 : Nat) : Int) < ((p0.length : Nat) : Int))) rfl rfl ?_ ?_
 ·
  intro h7
  have hlt1 : k1 < p0.length := by have := of_decide_eq_true h7; omega
  have hm := hs1 hlt1
  unfold Has_ref3L1 at hm
  refine DW.skip ?_
  refine DW.seq (DW.block ?_)
  refine DW.seq (RK hnt (nn 6 []) [(0, .p (slI p0)), (1, pI p1), (5, pI ((k1 : Nat) : Int)), (17, pB ((p0.getD k1 0) == p1))] [] (an (nn0 k1) (an (ltc hlt1) trivial)) (by kernel_rfl) ?_)
  refine DW.cond ((p0.getD k1 0) == p1) rfl rfl ?_ ?_
  ·
   intro h8
   replace hm := if_t h8 hm
   refine DW.seq (RK hnt (.no :: []) [(4, pB true)] [] trivial (by kernel_rfl) ?_)
   refine DW.ret ?_
   obtain rfl := Option.some.inj hm
   refine retOK (bs' := []) [] (pB true) (by kernel_rfl) ?_ ?_
   · rfl
   · rfl
  ·
   intro h8
   replace hm := if_f h8 hm
   refine DW.skip ?_
   refine DW.done ?_
   show DW _ _ _ _ _
   refine RK hnt (nn 3 []) [(0, .p (slI p0)), (1, pI p1), (5, pI (w64 (((k1 : Nat) : Int) + 1)))] [] trivial (by kernel_rfl) ?_
   exact joinDone () ⟨hlt1, hm⟩ (Conv.tp [(5, pI (w64 (((k1 : Nat) : Int) + 1)))] [] (by kernel_rfl) (.cons rfl (.of_eq (congrArg pI (w64_succ hlt1 hc1))) .nil) .nil)
 ·
  intro h7
  have hge1 : ¬ k1 < p0.length := by have := of_decide_eq_false h7; omega
  have hm := he1 hge1
  unfold Has_ref3D1 at hm
  refine DW.exit ?_
  refine joinQ_exit ?_
  refine KQ_exit ?_
  refine blockQ_exit ?_
  show DW _ _ _ _ _
  refine DW.seq (RK hnt (.no :: []) [(4, pB false)] [] trivial (by kernel_rfl) ?_)
  refine DW.ret ?_
  obtain rfl := Option.some.inj hm
  refine retOK (bs' := []) [] (pB false) (by kernel_rfl) ?_ ?_
  · rfl
  · rfl

theorem checked_memberSpec (p0 : Hierarchy) (RES : Hierarchy) (hm : checked_member p0 = some RES) : Spec Try.prog 44 [.p (.agg (encHierarchy p0))] [] (.p (.agg (encHierarchy RES))) [] [] := by
 unfold checked_member at hm
 refine spec_of Tgood (T := Tt) Try.func44 (by decide) (c := _) rfl rfl (sl := [(0, .p (.agg (encHierarchy p0)))]) (ob := []) (Nat.le_of_ble_eq_true rfl) (Nat.le_of_ble_eq_true rfl) (by kernel_rfl) (by kernel_rfl) ?_
 intro cx hnt
 refine DW.start ?_
 refine DW.seq (RK hnt (nn 2 []) [(1, rr 1008), (2, rr 1016)] [(1008, bx (pm (encHierarchy p0))), (1016, bx [.p (.sl .nil 0 0 (fun _ => [])), pI 0, .p (.sl .nil 0 0 (fun _ => [])), pI 0])] trivial (by kernel_rfl) ?_)
 obtain ⟨r1, hr1, hm⟩ := bind_open hm
 refine DW.seq (DW.seq (RK hnt (.no :: .call 21 [] true (pB r1) [] [] :: .no :: []) [(1, rr 1008), (2, rr 1016), (5, pB (!r1))] [(1008, bx (pm (encHierarchy p0))), (1016, bx [.p (.sl .nil 0 0 (fun _ => [])), pI 0, .p (.sl .nil 0 0 (fun _ => [])), pI 0])] (an (Check_memberSpec p0 r1 hr1) trivial) (by kernel_rfl) ?_))
 refine DW.cond (!r1) rfl rfl ?_ ?_
 ·
  intro h2
  replace hm := if_t h2 hm
  refine DW.seq (RK hnt (nn 2 []) [(2, rr 1016)] [(1016, bx [.p (.sl .nil 0 0 (fun _ => [])), pI 0, .p (.sl .nil 0 0 (fun _ => [])), pI 0])] trivial (by kernel_rfl) ?_)
  refine DW.conv (τ := mkSt [(2, rr 1016)] [(1016, bx [.p (slNode []), pI 0, .p (slTask []), pI 0])]) (Conv.tp [] [(1016, .box [.p (.sl .nil 0 0 (fun _ => [])), pI 0, .p (.sl .nil 0 0 (fun _ => [])), pI 0])] (by kernel_rfl) .nil (.cons rfl (.box (.cons MLe.nilL (.cons .rfl (.cons MLe.nilL (.cons .rfl .nil))))) .nil)) ?_
  refine DW.ret ?_
  obtain rfl := Option.some.inj hm
  refine retOK (bs' := []) [] (.p (.agg [slNode [], vi 0, slTask [], vi 0])) (by kernel_rfl) ?_ ?_
  · rfl
  · rfl
 ·
  intro h2
  replace hm := if_f h2 hm
  refine DW.skip ?_
  refine DW.seq (RK hnt (nn 2 []) [(2, rr 1016)] [(1016, bx (pm (encHierarchy p0)))] trivial (by kernel_rfl) ?_)
  refine DW.ret ?_
  obtain rfl := Option.some.inj hm
  refine retOK (bs' := []) [] (.p (.agg (encHierarchy p0))) (by kernel_rfl) ?_ ?_
  · rfl
  · rfl

theorem Children_forestSpec (p0 : Tree) (p1 : Int) (RES : List Int) (hm : Children_forest p0 p1 = some RES) : Spec Try.prog 83 [.p (.agg (encTree p0)), pI p1] [] (ow 0 RES.length) [] [roI RES] := by
 unfold Children_forest at hm
 refine spec_of Tgood (T := Tt) Try.func83 (by decide) (c := _) rfl rfl (sl := [(0, .p (.agg (encTree p0))), (1, pI p1)]) (ob := []) (Nat.le_of_ble_eq_true rfl) (Nat.le_of_ble_eq_true rfl) (by kernel_rfl) (by kernel_rfl) ?_
 intro cx hnt
 refine DW.start ?_
 refine DW.seq (RK hnt (nn 2 []) [(1, pI p1), (2, rr 1016)] [(1016, bx (pm (encTree p0)))] trivial (by kernel_rfl) ?_)
 refine DW.seq (RK hnt (.no :: []) [(1, pI p1), (2, rr 1016), (5, .p (.sl .nil 0 0 (fun _ => [])))] [(1016, bx (pm (encTree p0)))] trivial (by kernel_rfl) ?_)
 refine DW.seq (DW.seq (RK hnt (nn 4 []) [(1, pI p1), (5, .p (.sl .nil 0 0 (fun _ => []))), (9, .p (slNode p0.nodes)), (10, pI ((p0.nodes.length : Nat) : Int)), (11, pI 0)] [] trivial (by kernel_rfl) ?_))
 refine DW.block ?_
 obtain ⟨hc1, hm⟩ := guard_open hm
 refine DW.rangeO (fun (k1 : Nat) (s1 : List Int) => mkSt [(1, pI p1), (5, ow 1184 s1.length), (9, .p (slNode p0.nodes)), (10, pI ((p0.nodes.length : Nat) : Int)), (11, pI ((k1 : Nat) : Int))] [(1184, ob0 (roI s1))]) dNode hm (Conv.trans (τ := mkSt [(1, pI p1), (5, ow 1184 0), (9, .p (slNode p0.nodes)), (10, pI ((p0.nodes.length : Nat) : Int)), (11, pI 0)] ((1184, ⟨0, .row 1 0 (elems encI 0 [])⟩) :: [])) (Conv.adopt 1184 1 (elems encI 0 []) rfl rfl (.cons (.one (.rfl _)) (.cons (.one (.nil _ _)) (.cons (.one (.rfl _)) (.cons (.one (.rfl _)) (.cons (.one (.rfl _)) (.rfl _)))))) (.rfl _)) (Conv.trans (τ := mkSt [(1, pI p1), (5, ow 1184 0), (9, .p (slNode p0.nodes)), (10, pI ((p0.nodes.length : Nat) : Int)), (11, pI 0)] [(1184, ob0 (roI []))]) (Conv.tp [] [] (by kernel_rfl) .nil .nil) .refl)) ?_
 intro k1 s1 n1 hk1 hs1 he1
 refine DW.seq (RK hnt (.no :: []) [(1, pI p1), (5, ow 1184 s1.length), (9, .p (slNode p0.nodes)), (10, pI ((p0.nodes.length : Nat) : Int)), (11, pI ((k1 : Nat) : Int)), (12, pB (decide (((k1 : Nat) : Int) < ((p0.nodes.length : Nat) : Int))))] [(1184, ob0 (roI s1))] trivial (by kernel_rfl) ?_)
 refine DW.seq (DW.cond (decide (((k1 : Nat) : Int) < ((p0.nodes.length : Nat) : Int))) rfl rfl ?_ ?_)
 ·
  intro h8
  have hlt1 : k1 < p0.nodes.length := by have := of_decide_eq_true h8; omega
  have hm := hs1 hlt1
  unfold Children_forestL1 at hm
  refine DW.skip ?_
  refine DW.seq ?_
  refine DW.join (ι := List Int) (fun (y3 : List Int) => mkSt [(1, pI p1), (5, ow 1184 y3.length), (9, .p (slNode p0.nodes)), (10, pI ((p0.nodes.length : Nat) : Int)), (11, pI ((k1 : Nat) : Int))] [(1184, ob0 (roI y3))]) (fun y3 => (Children_forestJ3 n1) y3 = some RES) ?_ ?_
  ·
   intro y3 hm
   unfold Children_forestJ3 at hm
   refine RK hnt (nn 2 []) [(1, pI p1), (5, ow 1184 y3.length), (9, .p (slNode p0.nodes)), (10, pI ((p0.nodes.length : Nat) : Int)), (11, pI (w64 (((k1 : Nat) : Int) + 1)))] [(1184, ob0 (roI y3))] trivial (by kernel_rfl) ?_
   exact joinDone y3 ⟨hlt1, hm⟩ (Conv.tp [(11, pI (w64 (((k1 : Nat) : Int) + 1)))] [] (by kernel_rfl) (.cons rfl (.of_eq (congrArg pI (w64_succ hlt1 hc1))) .nil) .nil)
  ·
   refine DW.block ?_
   refine DW.seq (RK hnt (nn 4 []) [(1, pI p1), (5, ow 1184 s1.length), (7, rr 1056), (9, .p (slNode p0.nodes)), (10, pI ((p0.nodes.length : Nat) : Int)), (11, pI ((k1 : Nat) : Int))] [(1056, bx (pm (encNode (p0.nodes.getD k1 (default : Node))))), (1184, ob0 (roI s1))] (an (nn0 k1) (an (ltc hlt1) trivial)) (by kernel_rfl) ?_)
   refine DW.seq (RK hnt (nn 4 []) [(1, pI p1), (5, ow 1184 s1.length), (7, rr 1056), (9, .p (slNode p0.nodes)), (10, pI ((p0.nodes.length : Nat) : Int)), (11, pI ((k1 : Nat) : Int)), (18, pB ((p0.nodes.getD k1 (default : Node)).parent == p1))] [(1056, bx (pm (encNode (p0.nodes.getD k1 (default : Node))))), (1184, ob0 (roI s1))] trivial (by kernel_rfl) ?_)
   refine DW.cond ((p0.nodes.getD k1 (default : Node)).parent == p1) rfl rfl ?_ ?_
   ·
    intro h9
    replace hm := if_t h9 hm
    obtain ⟨g10, hm⟩ := guard_open hm
    refine RN hnt (nn 6 []) [(1, pI p1), (5, ow 1184 (s1 ++ [(p0.nodes.getD k1 (default : Node)).id]).length), (9, .p (slNode p0.nodes)), (10, pI ((p0.nodes.length : Nat) : Int)), (11, pI ((k1 : Nat) : Int))] [(1184, ob0 (roI (s1 ++ [(p0.nodes.getD k1 (default : Node)).id])))] [(5, ow 1184 (s1.length + 1))] [(1184, .row 1 (s1.length + 1) (catF s1.length (elI s1) (cut 1 [vi (p0.nodes.getD k1 (default : Node)).id])))] (an (by omega : (s1.length + 1) * 8 ≤ 140737488355328) trivial) (by kernel_rfl) (.cons rfl (MLe.ownLen (enc := encI) (d := 0) (f := (catF s1.length (elI s1) (cut 1 [vi (p0.nodes.getD k1 (default : Node)).id]))) (RowIs.cat RowIs.elems (RowIs.lit (enc := encI) (d := 0) (n := 1) (f := (cut 1 [vi (p0.nodes.getD k1 (default : Node)).id])) [(p0.nodes.getD k1 (default : Node)).id] rfl (fun | 0, _ => rfl | n + 1, h => absurd h (by omega))))) .nil) (.cons rfl (BLe.typed (RowIs.cat RowIs.elems (RowIs.lit (enc := encI) (d := 0) (n := 1) (f := (cut 1 [vi (p0.nodes.getD k1 (default : Node)).id])) [(p0.nodes.getD k1 (default : Node)).id] rfl (fun | 0, _ => rfl | n + 1, h => absurd h (by omega))))) .nil) ?_
    exact blockDone (s1 ++ [(p0.nodes.getD k1 (default : Node)).id]) hm .refl
   ·
    intro h9
    replace hm := if_f h9 hm
    refine DW.skip ?_
    exact blockDone s1 hm (Conv.tp [] [] (by kernel_rfl) .nil .nil)
 ·
  intro h8
  have hge1 : ¬ k1 < p0.nodes.length := by have := of_decide_eq_false h8; omega
  have hm := he1 hge1
  unfold Children_forestD1 at hm
  refine DW.exit ?_
  refine joinQ_exit ?_
  refine KQ_exit ?_
  refine blockQ_exit ?_
  show DW _ _ _ _ _
  refine DW.seq (RK hnt (nn 2 []) [(4, ow 1184 s1.length)] [(1184, ob0 (roI s1))] trivial (by kernel_rfl) ?_)
  refine DW.ret ?_
  obtain rfl := Option.some.inj hm
  refine retOK (bs' := [roI s1]) [1184] (ow 0 s1.length) (by kernel_rfl) ?_ ?_
  · rfl
  · rfl

theorem Subtree_forestSpec (p0 : Tree) (p1 : Int) (RES : List Int) (hm : Subtree_forest p0 p1 = some RES) : Spec Try.prog 72 [.p (.agg (encTree p0)), pI p1] [] (ow 0 RES.length) [] [roI RES] := by
 unfold Subtree_forest at hm
 refine spec_of Tgood (T := Tt) Try.func72 (by decide) (c := _) rfl rfl (sl := [(0, .p (.agg (encTree p0))), (1, pI p1)]) (ob := []) (Nat.le_of_ble_eq_true rfl) (Nat.le_of_ble_eq_true rfl) (by kernel_rfl) (by kernel_rfl) ?_
 intro cx hnt
 refine DW.start ?_
 refine DW.seq (RK hnt (nn 2 []) [(1, pI p1), (2, rr 1016)] [(1016, bx (pm (encTree p0)))] trivial (by kernel_rfl) ?_)
 obtain ⟨r1, hr1, hm⟩ := bind_open hm
 refine DW.seq (DW.seq (RK hnt (nn 2 (.call 22 [] true (pI r1) [] [] :: .no :: [])) [(1, pI p1), (2, rr 1016), (10, pB (decide (r1 < 0)))] [(1016, bx (pm (encTree p0)))] (an (At_forestSpec p0 p1 r1 hr1) trivial) (by kernel_rfl) ?_))
 refine DW.cond (decide (r1 < 0)) rfl rfl ?_ ?_
 ·
  intro h2
  replace hm := if_t h2 hm
  refine DW.seq (RK hnt (.no :: []) [(4, .p (.sl .nil 0 0 (fun _ => [])))] [] trivial (by kernel_rfl) ?_)
  refine DW.conv (τ := mkSt [(4, ow 100000 0)] [(100000, ob0 (roI []))]) (Conv.trans (τ := mkSt [(4, ow 100000 0)] ((100000, ⟨0, .row 1 0 (elems encI 0 [])⟩) :: [])) (Conv.adopt 100000 1 (elems encI 0 []) rfl rfl (.cons (.one (.nil _ _)) (.rfl _)) (.rfl _)) (Conv.trans (τ := mkSt [(4, ow 100000 0)] [(100000, ob0 (roI []))]) (Conv.tp [] [] (by kernel_rfl) .nil .nil) .refl)) ?_
  refine DW.ret ?_
  obtain rfl := Option.some.inj hm
  refine retOK (bs' := [roI []]) [100000] (ow 0 0) (by kernel_rfl) ?_ ?_
  · rfl
  · rfl
 ·
  intro h2
  replace hm := if_f h2 hm
  refine DW.skip ?_
  refine DW.seq (RK hnt (.no :: []) [(1, pI p1), (2, rr 1016), (5, .p (.sl .nil 0 0 (fun _ => [])))] [(1016, bx (pm (encTree p0)))] trivial (by kernel_rfl) ?_)
  refine DW.seq (DW.seq (RN hnt (nn 3 []) [(2, rr 1016), (5, .p (.sl .nil 0 0 (fun _ => []))), (6, ow 1096 [p1].length)] [(1016, bx (pm (encTree p0))), (1096, ob0 (roI [p1]))] [(6, ow 1096 1)] [(1096, .row 1 1 (cut 1 [vi p1]))] trivial (by kernel_rfl) (.cons rfl (MLe.ownLen (enc := encI) (d := 0) (f := (cut 1 [vi p1])) (RowIs.lit (enc := encI) (d := 0) (n := 1) (f := (cut 1 [vi p1])) [p1] rfl (fun | 0, _ => rfl | n + 1, h => absurd h (by omega)))) .nil) (.cons rfl (BLe.typed (RowIs.lit (enc := encI) (d := 0) (n := 1) (f := (cut 1 [vi p1])) [p1] rfl (fun | 0, _ => rfl | n + 1, h => absurd h (by omega)))) .nil) ?_))
  refine DW.block ?_
  refine DW.whileO (fun (s1 : (List Int) × (List Int)) => mkSt [(2, rr 1016), (5, ow 1232 s1.1.length), (6, .p (slI s1.2))] [(1016, bx (pm (encTree p0))), (1232, ob0 (roI s1.1))]) hm (Conv.trans (τ := mkSt [(2, rr 1016), (5, .p (.sl .nil 0 0 (fun _ => []))), (6, .p (slI [p1]))] [(1016, bx (pm (encTree p0)))]) (Conv.freezes [1096] (by kernel_rfl)) (Conv.trans (τ := mkSt [(2, rr 1016), (5, ow 1232 0), (6, .p (slI [p1]))] ((1232, ⟨0, .row 1 0 (elems encI 0 [])⟩) :: [(1016, bx (pm (encTree p0)))])) (Conv.adopt 1232 1 (elems encI 0 []) rfl rfl (.cons (.one (.rfl _)) (.cons (.one (.nil _ _)) (.cons (.one (.rfl _)) (.rfl _)))) (.rfl _)) (Conv.trans (τ := mkSt [(2, rr 1016), (5, ow 1232 0), (6, .p (slI [p1]))] [(1016, bx (pm (encTree p0))), (1232, ob0 (roI []))]) (Conv.tp [] [] (by kernel_rfl) .nil .nil) .refl))) ?_
  intro s1 n1 hm
  unfold Subtree_forestL1 at hm
  refine DW.seq (DW.seq (DW.regJ (sl2 := [(2, rr 1016), (5, ow 1232 s1.1.length), (6, .p (slI s1.2)), (23, pB ((decide (((s1.2.length : Nat) : Int) > 0)) && (decide (((s1.1.length : Nat) : Int) < ((p0.nodes.length : Nat) : Int)))))]) (ob2 := [(1016, bx (pm (encTree p0))), (1232, ob0 (roI s1.1))]) ?_ ?_))
  ·
   rcases bt (decide (((s1.2.length : Nat) : Int) > 0)) with h12 | h12
   ·
    exact RT hnt (nn 10 (pT :: [])) [(23, pB (decide (((s1.1.length : Nat) : Int) < ((p0.nodes.length : Nat) : Int))))] (an h12 (an6 h12 trivial)) (by kernel_rfl) (.cons rfl (.of_eq (by rw [h12]; try rfl)) .nil)
   ·
    exact RT hnt (nn 4 (sk 6 (pF :: []))) [(23, pB false)] (an h12 (an6 h12 trivial)) (by kernel_rfl) (.cons rfl (.of_eq (by rw [h12]; try rfl)) .nil)
  ·
   refine DW.cond ((decide (((s1.2.length : Nat) : Int) > 0)) && (decide (((s1.1.length : Nat) : Int) < ((p0.nodes.length : Nat) : Int)))) rfl rfl ?_ ?_
   ·
    intro h13
    replace hm := if_t h13 hm
    refine DW.skip ?_
    refine DW.block ?_
    obtain ⟨g14, hm⟩ := guard_open hm
    obtain ⟨g15, hm⟩ := guard_open hm
    refine DW.seq (RN hnt (nn 7 []) [(2, rr 1016), (5, ow 1232 (s1.1 ++ [(s1.2.getD 0 0)]).length), (6, .p (slI s1.2))] [(1016, bx (pm (encTree p0))), (1232, ob0 (roI (s1.1 ++ [(s1.2.getD 0 0)])))] [(5, ow 1232 (s1.1.length + 1))] [(1232, .row 1 (s1.1.length + 1) (catF s1.1.length (elI s1.1) (cut 1 [vi (s1.2.getD 0 0)])))] (an (nn0 0) (an (ltc g14) (an (by omega : (s1.1.length + 1) * 8 ≤ 140737488355328) trivial))) (by kernel_rfl) (.cons rfl (MLe.ownLen (enc := encI) (d := 0) (f := (catF s1.1.length (elI s1.1) (cut 1 [vi (s1.2.getD 0 0)]))) (RowIs.cat RowIs.elems (RowIs.lit (enc := encI) (d := 0) (n := 1) (f := (cut 1 [vi (s1.2.getD 0 0)])) [(s1.2.getD 0 0)] rfl (fun | 0, _ => rfl | n + 1, h => absurd h (by omega))))) .nil) (.cons rfl (BLe.typed (RowIs.cat RowIs.elems (RowIs.lit (enc := encI) (d := 0) (n := 1) (f := (cut 1 [vi (s1.2.getD 0 0)])) [(s1.2.getD 0 0)] rfl (fun | 0, _ => rfl | n + 1, h => absurd h (by omega))))) .nil) ?_)
    obtain ⟨g16, hm⟩ := guard_open hm
    obtain ⟨r17, hr17, hm⟩ := bind_open hm
    obtain ⟨g18, hm⟩ := guard_open hm
    obtain ⟨g19, hm⟩ := guard_open hm
    refine RN hnt (nn 4 (.call 83 [] true (ow 0 r17.length) [] [roI r17] :: nn 4 [])) [(2, rr 1016), (5, ow 1232 (s1.1 ++ [(s1.2.getD 0 0)]).length), (6, ow 1272 (r17 ++ (s1.2.drop 1)).length)] [(1016, bx (pm (encTree p0))), (1232, ob0 (roI (s1.1 ++ [(s1.2.getD 0 0)]))), (1272, ob0 (roI (r17 ++ (s1.2.drop 1))))] [(6, ow 1272 (r17.length + (subN s1.2.length 1)))] [(1272, .row 1 (r17.length + (subN s1.2.length 1)) (catF r17.length (elI r17) (shF 1 (elI s1.2))))] (an (nn0 0) (an (ltc g16) (an (Children_forestSpec p0 (s1.2.getD 0 0) r17 hr17) (an (by omega : (0 : Int) ≤ 1) (an (by omega : 1 ≤ ((s1.2.length : Nat) : Int)) (an (by omega : ((s1.2.length : Nat) : Int) ≤ ((s1.2.length : Nat) : Int)) (an (by omega : (r17.length + (subN s1.2.length 1)) * 8 ≤ 140737488355328) trivial))))))) (by kernel_rfl) (.cons rfl (MLe.ownLen (enc := encI) (d := 0) (f := (catF r17.length (elI r17) (shF 1 (elI s1.2)))) (RowIs.cat RowIs.elems (RowIs.elems.drop (subN_eq _ _) (by omega)))) .nil) (.cons rfl (BLe.typed (RowIs.cat RowIs.elems (RowIs.elems.drop (subN_eq _ _) (by omega)))) .nil) ?_
    refine DW.done ?_
    show DW _ _ _ _ _
    exact joinDone ((s1.1 ++ [(s1.2.getD 0 0)]), (r17 ++ (s1.2.drop 1))) hm (Conv.trans (τ := mkSt [(2, rr 1016), (5, ow 1232 (s1.1 ++ [(s1.2.getD 0 0)]).length), (6, .p (slI (r17 ++ (s1.2.drop 1))))] [(1016, bx (pm (encTree p0))), (1232, ob0 (roI (s1.1 ++ [(s1.2.getD 0 0)])))]) (Conv.freezes [1272] (by kernel_rfl)) .refl)
   ·
    intro h13
    replace hm := if_f h13 hm
    refine DW.exit ?_
    refine joinQ_exit ?_
    refine KQ_exit ?_
    refine blockQ_exit ?_
    show DW _ _ _ _ _
    refine DW.seq (RK hnt (nn 2 []) [(4, ow 1232 s1.1.length)] [(1232, ob0 (roI s1.1))] trivial (by kernel_rfl) ?_)
    refine DW.ret ?_
    obtain rfl := Option.some.inj hm
    refine retOK (bs' := [roI s1.1]) [1232] (ow 0 s1.1.length) (by kernel_rfl) ?_ ?_
    · rfl
    · rfl

theorem Index_slices_intSpec (p0 : List Int) (p1 : Int) (RES : Int) (hm : Index_slices_int p0 p1 = some RES) : Spec Try.prog 84 [.p (slI p0), pI p1] [] (pI RES) [] [] := by
 unfold Index_slices_int at hm
 refine spec_of Tgood (T := Tt) Try.func84 (by decide) (c := _) rfl rfl (sl := [(0, .p (slI p0)), (1, pI p1)]) (ob := []) (Nat.le_of_ble_eq_true rfl) (Nat.le_of_ble_eq_true rfl) (by kernel_rfl) (by kernel_rfl) ?_
 intro cx hnt
 refine DW.start ?_
 refine DW.seq (RK hnt (.no :: []) [(0, .p (slI p0)), (1, pI p1)] [] trivial (by kernel_rfl) ?_)
 refine DW.seq (DW.seq (RK hnt (nn 3 []) [(0, .p (slI p0)), (1, pI p1), (7, pI ((p0.length : Nat) : Int)), (8, pI 0)] [] trivial (by kernel_rfl) ?_))
 refine DW.block ?_
 obtain ⟨hc1, hm⟩ := guard_open hm
 refine DW.rangeO (fun (k1 : Nat) (s1 : Unit) => mkSt [(0, .p (slI p0)), (1, pI p1), (7, pI ((p0.length : Nat) : Int)), (8, pI ((k1 : Nat) : Int))] []) 0 hm .refl ?_
 intro k1 s1 n1 hk1 hs1 he1
 refine DW.seq (RK hnt (.no :: []) [(0, .p (slI p0)), (1, pI p1), (7, pI ((p0.length : Nat) : Int)), (8, pI ((k1 : Nat) : Int)), (9, pB (decide (((k1 : Nat) : Int) < ((p0.length : Nat) : Int))))] [] trivial (by kernel_rfl) ?_)
 refine DW.seq (DW.cond (decide (((k1 : Nat) : Int) < ((p0.length : Nat) : Int))) rfl rfl ?_ ?_)
 ·
  intro h7
  have hlt1 : k1 < p0.length := by have := of_decide_eq_true h7; omega
  have hm := hs1 hlt1
  unfold Index_slices_intL1 at hm
  refine DW.skip ?_
  refine DW.seq (DW.block ?_)
  refine DW.seq (RK hnt (nn 2 []) [(0, .p (slI p0)), (1, pI p1), (5, pI ((k1 : Nat) : Int)), (7, pI ((p0.length : Nat) : Int)), (8, pI ((k1 : Nat) : Int))] [] trivial (by kernel_rfl) ?_)
  refine DW.seq (RK hnt (nn 6 []) [(0, .p (slI p0)), (1, pI p1), (5, pI ((k1 : Nat) : Int)), (7, pI ((p0.length : Nat) : Int)), (8, pI ((k1 : Nat) : Int)), (16, pB (p1 == (p0.getD k1 0)))] [] (an (nn0 k1) (an (ltc hlt1) trivial)) (by kernel_rfl) ?_)
  refine DW.cond (p1 == (p0.getD k1 0)) rfl rfl ?_ ?_
  ·
   intro h8
   replace hm := if_t h8 hm
   refine DW.seq (RK hnt (nn 2 []) [(4, pI ((k1 : Nat) : Int))] [] trivial (by kernel_rfl) ?_)
   refine DW.ret ?_
   obtain rfl := Option.some.inj hm
   refine retOK (bs' := []) [] (pI ((k1 : Nat) : Int)) (by kernel_rfl) ?_ ?_
   · rfl
   · rfl
  ·
   intro h8
   replace hm := if_f h8 hm
   refine DW.skip ?_
   refine DW.done ?_
   show DW _ _ _ _ _
   refine RK hnt (nn 2 []) [(0, .p (slI p0)), (1, pI p1), (7, pI ((p0.length : Nat) : Int)), (8, pI (w64 (((k1 : Nat) : Int) + 1)))] [] trivial (by kernel_rfl) ?_
   exact joinDone () ⟨hlt1, hm⟩ (Conv.tp [(8, pI (w64 (((k1 : Nat) : Int) + 1)))] [] (by kernel_rfl) (.cons rfl (.of_eq (congrArg pI (w64_succ hlt1 hc1))) .nil) .nil)
 ·
  intro h7
  have hge1 : ¬ k1 < p0.length := by have := of_decide_eq_false h7; omega
  have hm := he1 hge1
  unfold Index_slices_intD1 at hm
  refine DW.exit ?_
  refine joinQ_exit ?_
  refine KQ_exit ?_
  refine blockQ_exit ?_
  show DW _ _ _ _ _
  refine DW.seq (RK hnt (.no :: []) [(4, pI (-1))] [] trivial (by kernel_rfl) ?_)
  refine DW.ret ?_
  obtain rfl := Option.some.inj hm
  refine retOK (bs' := []) [] (pI (-1)) (by kernel_rfl) ?_ ?_
  · rfl
  · rfl

theorem Contains_slices_intSpec (p0 : List Int) (p1 : Int) (RES : Bool) (hm : Contains_slices_int p0 p1 = some RES) : Spec Try.prog 73 [.p (slI p0), pI p1] [] (pB RES) [] [] := by
 unfold Contains_slices_int at hm
 refine spec_of Tgood (T := Tt) Try.func73 (by decide) (c := _) rfl rfl (sl := [(0, .p (slI p0)), (1, pI p1)]) (ob := []) (Nat.le_of_ble_eq_true rfl) (Nat.le_of_ble_eq_true rfl) (by kernel_rfl) (by kernel_rfl) ?_
 intro cx hnt
 refine DW.start ?_
 refine DW.seq (RK hnt (.no :: []) [(0, .p (slI p0)), (1, pI p1)] [] trivial (by kernel_rfl) ?_)
 obtain ⟨r1, hr1, hm⟩ := bind_open hm
 refine DW.seq (RK hnt (nn 2 (.call 84 [] true (pI r1) [] [] :: nn 2 [])) [(4, pB (decide (r1 ≥ 0)))] [] (an (Index_slices_intSpec p0 p1 r1 hr1) trivial) (by kernel_rfl) ?_)
 refine DW.ret ?_
 obtain rfl := Option.some.inj hm
 refine retOK (bs' := []) [] (pB (decide (r1 ≥ 0))) (by kernel_rfl) ?_ ?_
 · rfl
 · rfl

theorem Count_crewSpec (p0 : Hierarchy) (p1 : Int) (RES : Int) (hm : Count_crew p0 p1 = some RES) : Spec Try.prog 43 [.p (.agg (encHierarchy p0)), pI p1] [] (pI RES) [] [] := by
 unfold Count_crew at hm
 refine spec_of Tgood (T := Tt) Try.func43 (by decide) (c := _) rfl rfl (sl := [(0, .p (.agg (encHierarchy p0))), (1, pI p1)]) (ob := []) (Nat.le_of_ble_eq_true rfl) (Nat.le_of_ble_eq_true rfl) (by kernel_rfl) (by kernel_rfl) ?_
 intro cx hnt
 refine DW.start ?_
 refine DW.seq (RK hnt (nn 2 []) [(1, pI p1), (2, rr 1016)] [(1016, bx (pm (encHierarchy p0)))] trivial (by kernel_rfl) ?_)
 obtain ⟨r1, hr1, hm⟩ := bind_open hm
 refine DW.seq (RK hnt (nn 3 (.call 72 [] true (ow 0 r1.length) [] [roI r1] :: .no :: [])) [(2, rr 1016), (5, ow 1096 r1.length)] [(1016, bx (pm (encHierarchy p0))), (1096, ob0 (roI r1))] (an (Subtree_forestSpec p0.tree p1 r1 hr1) trivial) (by kernel_rfl) ?_)
 refine DW.seq (RK hnt (.no :: []) [(2, rr 1016), (5, ow 1096 r1.length), (6, pI 0)] [(1016, bx (pm (encHierarchy p0))), (1096, ob0 (roI r1))] trivial (by kernel_rfl) ?_)
 refine DW.seq (DW.seq (RK hnt (nn 4 []) [(5, ow 1096 r1.length), (6, pI 0), (14, .p (slTask p0.tasks)), (15, pI ((p0.tasks.length : Nat) : Int)), (16, pI 0)] [(1096, ob0 (roI r1))] trivial (by kernel_rfl) ?_))
 refine DW.block ?_
 obtain ⟨hc1, hm⟩ := guard_open hm
 refine DW.rangeO (fun (k1 : Nat) (s1 : Int) => mkSt [(5, ow 1096 r1.length), (6, pI s1), (14, .p (slTask p0.tasks)), (15, pI ((p0.tasks.length : Nat) : Int)), (16, pI ((k1 : Nat) : Int))] [(1096, ob0 (roI r1))]) dTask hm .refl ?_
 intro k1 s1 n1 hk1 hs1 he1
 refine DW.seq (RK hnt (.no :: []) [(5, ow 1096 r1.length), (6, pI s1), (14, .p (slTask p0.tasks)), (15, pI ((p0.tasks.length : Nat) : Int)), (16, pI ((k1 : Nat) : Int)), (17, pB (decide (((k1 : Nat) : Int) < ((p0.tasks.length : Nat) : Int))))] [(1096, ob0 (roI r1))] trivial (by kernel_rfl) ?_)
 refine DW.seq (DW.cond (decide (((k1 : Nat) : Int) < ((p0.tasks.length : Nat) : Int))) rfl rfl ?_ ?_)
 ·
  intro h10
  have hlt1 : k1 < p0.tasks.length := by have := of_decide_eq_true h10; omega
  have hm := hs1 hlt1
  unfold Count_crewL1 at hm
  refine DW.skip ?_
  refine DW.seq ?_
  refine DW.join (ι := Int) (fun (y3 : Int) => mkSt [(5, ow 1096 r1.length), (6, pI y3), (14, .p (slTask p0.tasks)), (15, pI ((p0.tasks.length : Nat) : Int)), (16, pI ((k1 : Nat) : Int))] [(1096, ob0 (roI r1))]) (fun y3 => (Count_crewJ3 n1) y3 = some RES) ?_ ?_
  ·
   intro y3 hm
   unfold Count_crewJ3 at hm
   refine RK hnt (nn 2 []) [(5, ow 1096 r1.length), (6, pI y3), (14, .p (slTask p0.tasks)), (15, pI ((p0.tasks.length : Nat) : Int)), (16, pI (w64 (((k1 : Nat) : Int) + 1)))] [(1096, ob0 (roI r1))] trivial (by kernel_rfl) ?_
   exact joinDone y3 ⟨hlt1, hm⟩ (Conv.tp [(16, pI (w64 (((k1 : Nat) : Int) + 1)))] [] (by kernel_rfl) (.cons rfl (.of_eq (congrArg pI (w64_succ hlt1 hc1))) .nil) .nil)
  ·
   refine DW.block ?_
   refine DW.seq (RK hnt (nn 4 []) [(5, ow 1096 r1.length), (6, pI s1), (8, rr 1064), (14, .p (slTask p0.tasks)), (15, pI ((p0.tasks.length : Nat) : Int)), (16, pI ((k1 : Nat) : Int))] [(1064, bx (pm (encTask (p0.tasks.getD k1 (default : Task))))), (1096, ob0 (roI r1))] (an (nn0 k1) (an (ltc hlt1) trivial)) (by kernel_rfl) ?_)
   obtain ⟨r11, hr11, hm⟩ := bind_open hm
   refine DW.seq (RK hnt (nn 3 (.call 73 [] true (pB r11) [] [] :: [])) [(5, ow 1096 r1.length), (6, pI s1), (14, .p (slTask p0.tasks)), (15, pI ((p0.tasks.length : Nat) : Int)), (16, pI ((k1 : Nat) : Int)), (23, pB r11)] [(1096, ob0 (roI r1))] (an (Contains_slices_intSpec r1 (p0.tasks.getD k1 (default : Task)).group r11 hr11) trivial) (by kernel_rfl) ?_)
   refine DW.cond r11 rfl rfl ?_ ?_
   ·
    intro h12
    replace hm := if_t h12 hm
    refine RK hnt (nn 3 []) [(5, ow 1096 r1.length), (6, pI (w64 (s1 + 1))), (14, .p (slTask p0.tasks)), (15, pI ((p0.tasks.length : Nat) : Int)), (16, pI ((k1 : Nat) : Int))] [(1096, ob0 (roI r1))] trivial (by kernel_rfl) ?_
    exact blockDone (w64 (s1 + 1)) hm .refl
   ·
    intro h12
    replace hm := if_f h12 hm
    refine DW.skip ?_
    exact blockDone s1 hm (Conv.tp [] [] (by kernel_rfl) .nil .nil)
 ·
  intro h10
  have hge1 : ¬ k1 < p0.tasks.length := by have := of_decide_eq_false h10; omega
  have hm := he1 hge1
  unfold Count_crewD1 at hm
  refine DW.exit ?_
  refine joinQ_exit ?_
  refine KQ_exit ?_
  refine blockQ_exit ?_
  show DW _ _ _ _ _
  refine DW.seq (RK hnt (nn 2 []) [(4, pI s1)] [] trivial (by kernel_rfl) ?_)
  refine DW.ret ?_
  obtain rfl := Option.some.inj hm
  refine retOK (bs' := []) [] (pI s1) (by kernel_rfl) ?_ ?_
  · rfl
  · rfl

theorem Count_memberSpec (p0 : Hierarchy) (p1 : Int) (RES : Int) (hm : Count_member p0 p1 = some RES) : Spec Try.prog 19 [.p (.agg (encHierarchy p0)), pI p1] [] (pI RES) [] [] := by
 unfold Count_member at hm
 refine spec_of Tgood (T := Tt) Try.func19 (by decide) (c := _) rfl rfl (sl := [(0, .p (.agg (encHierarchy p0))), (1, pI p1)]) (ob := []) (Nat.le_of_ble_eq_true rfl) (Nat.le_of_ble_eq_true rfl) (by kernel_rfl) (by kernel_rfl) ?_
 intro cx hnt
 refine DW.start ?_
 refine DW.seq (RK hnt (nn 2 []) [(1, pI p1), (2, rr 1016)] [(1016, bx (pm (encHierarchy p0)))] trivial (by kernel_rfl) ?_)
 obtain ⟨r1, hr1, hm⟩ := bind_open hm
 obtain ⟨r2, hr2, hm⟩ := bind_open hm
 refine DW.seq (RK hnt (.no :: .call 44 [] true (.p (.agg (encHierarchy r1))) [] [] :: .no :: .call 43 [] true (pI r2) [] [] :: .no :: []) [(4, pI r2)] [] (an (checked_memberSpec p0 r1 hr1) (an (Count_crewSpec r1 p1 r2 hr2) trivial)) (by kernel_rfl) ?_)
 refine DW.ret ?_
 obtain rfl := Option.some.inj hm
 refine retOK (bs' := []) [] (pI r2) (by kernel_rfl) ?_ ?_
 · rfl
 · rfl

theorem MemberMoves_law6Spec (p0 : List Int) (RES : Bool) (hm : MemberMoves_law6 p0 = some RES) : Spec Try.prog 4 [.p (slI p0)] [] (pB RES) [] [] := by
 unfold MemberMoves_law6 at hm
 refine spec_of Tgood (T := Tt) Try.func4 (by decide) (c := _) rfl rfl (sl := [(0, .p (slI p0))]) (ob := []) (Nat.le_of_ble_eq_true rfl) (Nat.le_of_ble_eq_true rfl) (by kernel_rfl) (by kernel_rfl) ?_
 intro cx hnt
 refine DW.start ?_
 refine DW.seq (RK hnt (.no :: []) [(0, .p (slI p0))] [] trivial (by kernel_rfl) ?_)
 obtain ⟨r1, hr1, hm⟩ := bind_open hm
 refine DW.seq (DW.seq (RK hnt (.no :: .call 12 [] true (pB r1) [] [] :: .no :: []) [(0, .p (slI p0)), (16, pB (!r1))] [] (an (Light_madeSpec p0 r1 hr1) trivial) (by kernel_rfl) ?_))
 refine DW.cond (!r1) rfl rfl ?_ ?_
 ·
  intro h2
  replace hm := if_t h2 hm
  obtain ⟨r3, hr3, hm⟩ := bind_open hm
  refine DW.seq (RK hnt (.call 11 [] true (pB r3) [] [] :: .no :: []) [(2, pB r3)] [] (an (sane_law6Spec r3 hr3) trivial) (by kernel_rfl) ?_)
  refine DW.ret ?_
  obtain rfl := Option.some.inj hm
  refine retOK (bs' := []) [] (pB r3) (by kernel_rfl) ?_ ?_
  · rfl
  · rfl
 ·
  intro h2
  replace hm := if_f h2 hm
  refine DW.skip ?_
  obtain ⟨r4, hr4, hm⟩ := bind_open hm
  refine DW.seq (RK hnt (.no :: .call 13 [] true (rr 0) [] [.box (pm (encDice r4))] :: .no :: []) [(3, rr 1152)] [(1152, bx (pm (encDice r4)))] (an (Roll_madeSpec p0 r4 hr4) trivial) (by kernel_rfl) ?_)
  obtain ⟨r5, hr5, hm⟩ := bind_open hm
  refine DW.seq (RK hnt (.no :: .call 14 [1152] true (.p (.agg (encHierarchy r5.1))) [.box (pm (encDice r5.2))] [] :: nn 2 []) [(3, rr 1152), (4, rr 1032)] [(1032, bx (pm (encHierarchy r5.1))), (1152, bx (pm (encDice r5.2)))] (an (Hierarchy_Dice_madeSpec r4 7 8 r5 hr5) (an trivial trivial)) (by kernel_rfl) ?_)
  refine DW.seq (DW.seq (RK hnt (nn 4 []) [(3, rr 1152), (4, rr 1032), (25, pB (((r5.1.tasks.length : Nat) : Int) == 0))] [(1032, bx (pm (encHierarchy r5.1))), (1152, bx (pm (encDice r5.2)))] trivial (by kernel_rfl) ?_))
  refine DW.cond (((r5.1.tasks.length : Nat) : Int) == 0) rfl rfl ?_ ?_
  ·
   intro h6
   replace hm := if_t h6 hm
   obtain ⟨r7, hr7, hm⟩ := bind_open hm
   refine DW.seq (RK hnt (.call 11 [] true (pB r7) [] [] :: .no :: []) [(2, pB r7)] [] (an (sane_law6Spec r7 hr7) trivial) (by kernel_rfl) ?_)
   refine DW.ret ?_
   obtain rfl := Option.some.inj hm
   refine retOK (bs' := []) [] (pB r7) (by kernel_rfl) ?_ ?_
   · rfl
   · rfl
  ·
   intro h6
   replace hm := if_f h6 hm
   refine DW.skip ?_
   obtain ⟨r8, hr8, hm⟩ := bind_open hm
   obtain ⟨g9, hm⟩ := guard_open hm
   refine DW.seq (RK hnt (nn 6 (.call 15 [1152] true (pI r8.1) [.box (pm (encDice r8.2))] [] :: nn 4 [])) [(3, rr 1152), (4, rr 1032), (5, rr 1040)] [(1032, bx (pm (encHierarchy r5.1))), (1040, bx (pm (encTask (r5.1.tasks.getD (Int.toNat r8.1) dTask)))), (1152, bx (pm (encDice r8.2)))] (an (Next_Dice_madeSpec r5.2 ((r5.1.tasks.length : Nat) : Int) r8 hr8) (an trivial (an g9.1 (an g9.2 trivial)))) (by kernel_rfl) ?_)
   obtain ⟨r10, hr10, hm⟩ := bind_open hm
   obtain ⟨g11, hm⟩ := guard_open hm
   refine DW.seq (RK hnt (nn 8 (.call 15 [1152] true (pI r10.1) [.box (pm (encDice r10.2))] [] :: nn 4 [])) [(4, rr 1032), (5, rr 1040), (6, pI (r5.1.tree.nodes.getD (Int.toNat r10.1) dNode).id)] [(1032, bx (pm (encHierarchy r5.1))), (1040, bx (pm (encTask (r5.1.tasks.getD (Int.toNat r8.1) dTask))))] (an (Next_Dice_madeSpec r8.2 ((r5.1.tree.nodes.length : Nat) : Int) r10 hr10) (an trivial (an g11.1 (an g11.2 trivial)))) (by kernel_rfl) ?_)
   obtain ⟨r12, hr12, hm⟩ := bind_open hm
   refine DW.seq (RK hnt (nn 4 (.call 16 [] true (.tup [.agg [ow 0 r12.1.tree.nodes.length, pI r12.1.tree.next, ow 1 r12.1.tasks.length, pI r12.1.next], pI r12.2]) [] [roNode r12.1.tree.nodes, roTask r12.1.tasks] :: nn 6 [])) [(4, rr 1032), (5, rr 1040), (6, pI (r5.1.tree.nodes.getD (Int.toNat r10.1) dNode).id), (7, rr 1056), (8, pI r12.2)] [(1032, bx (pm (encHierarchy r5.1))), (1040, bx (pm (encTask (r5.1.tasks.getD (Int.toNat r8.1) dTask)))), (1056, bx [ow 1424 r12.1.tree.nodes.length, pI r12.1.tree.next, ow 1425 r12.1.tasks.length, pI r12.1.next]), (1424, ob0 (roNode r12.1.tree.nodes)), (1425, ob0 (roTask r12.1.tasks))] (an (Place_memberSpec r5.1 (r5.1.tasks.getD (Int.toNat r8.1) dTask).id (r5.1.tree.nodes.getD (Int.toNat r10.1) dNode).id r12 hr12) trivial) (by kernel_rfl) ?_)
   refine DW.seq (DW.seq (RK hnt (nn 2 []) [(4, rr 1032), (5, rr 1040), (6, pI (r5.1.tree.nodes.getD (Int.toNat r10.1) dNode).id), (7, rr 1056), (57, pB (r12.2 != 0))] [(1032, bx (pm (encHierarchy r5.1))), (1040, bx (pm (encTask (r5.1.tasks.getD (Int.toNat r8.1) dTask)))), (1056, bx [ow 1424 r12.1.tree.nodes.length, pI r12.1.tree.next, ow 1425 r12.1.tasks.length, pI r12.1.next]), (1424, ob0 (roNode r12.1.tree.nodes)), (1425, ob0 (roTask r12.1.tasks))] trivial (by kernel_rfl) ?_))
   refine DW.cond (r12.2 != 0) rfl rfl ?_ ?_
   ·
    intro h13
    replace hm := if_t h13 hm
    refine DW.seq (RK hnt (.no :: []) [(2, pB false)] [] trivial (by kernel_rfl) ?_)
    refine DW.ret ?_
    obtain rfl := Option.some.inj hm
    refine retOK (bs' := []) [] (pB false) (by kernel_rfl) ?_ ?_
    · rfl
    · rfl
   ·
    intro h13
    replace hm := if_f h13 hm
    refine DW.skip ?_
    obtain ⟨r14, hr14, hm⟩ := bind_open hm
    obtain ⟨r15, hr15, hm⟩ := bind_open hm
    refine DW.seq (RK hnt (nn 4 (.call 17 [] true (ow 0 r14.length) [] [roI r14] :: nn 3 (.call 17 [] true (ow 0 r15.length) [] [roI r15] :: nn 2 []))) [(4, rr 1032), (7, rr 1056), (9, ow 1496 r14.length), (10, ow 1528 r15.length)] [(1032, bx (pm (encHierarchy r5.1))), (1056, bx [ow 1424 r12.1.tree.nodes.length, pI r12.1.tree.next, ow 1425 r12.1.tasks.length, pI r12.1.next]), (1424, ob0 (roNode r12.1.tree.nodes)), (1425, ob0 (roTask r12.1.tasks)), (1496, ob0 (roI r14)), (1528, ob0 (roI r15))] (an (Ancestors_ref5Spec r5.1.tree (r5.1.tasks.getD (Int.toNat r8.1) dTask).group r14 hr14) (an (Ancestors_ref5Spec r5.1.tree (r5.1.tree.nodes.getD (Int.toNat r10.1) dNode).id r15 hr15) trivial)) (by kernel_rfl) ?_)
    refine DW.seq (DW.seq (RK hnt (nn 5 []) [(4, rr 1032), (7, rr 1056), (9, ow 1496 r14.length), (10, ow 1528 r15.length), (70, pI ((r5.1.tree.nodes.length : Nat) : Int)), (71, pI 0)] [(1032, bx (pm (encHierarchy r5.1))), (1056, bx [ow 1424 r12.1.tree.nodes.length, pI r12.1.tree.next, ow 1425 r12.1.tasks.length, pI r12.1.next]), (1424, ob0 (roNode r12.1.tree.nodes)), (1425, ob0 (roTask r12.1.tasks)), (1496, ob0 (roI r14)), (1528, ob0 (roI r15))] trivial (by kernel_rfl) ?_))
    refine DW.block ?_
    obtain ⟨hc1, hm⟩ := guard_open hm
    refine DW.rangeO (fun (k1 : Nat) (s1 : Unit) => mkSt [(4, rr 1032), (7, rr 1056), (9, ow 1496 r14.length), (10, ow 1528 r15.length), (70, pI ((r5.1.tree.nodes.length : Nat) : Int)), (71, pI ((k1 : Nat) : Int))] [(1032, bx (pm (encHierarchy r5.1))), (1056, bx [ow 1424 r12.1.tree.nodes.length, pI r12.1.tree.next, ow 1425 r12.1.tasks.length, pI r12.1.next]), (1424, ob0 (roNode r12.1.tree.nodes)), (1425, ob0 (roTask r12.1.tasks)), (1496, ob0 (roI r14)), (1528, ob0 (roI r15))]) dNode hm .refl ?_
    intro k1 s1 n1 hk1 hs1 he1
    refine DW.seq (RK hnt (.no :: []) [(4, rr 1032), (7, rr 1056), (9, ow 1496 r14.length), (10, ow 1528 r15.length), (70, pI ((r5.1.tree.nodes.length : Nat) : Int)), (71, pI ((k1 : Nat) : Int)), (72, pB (decide (((k1 : Nat) : Int) < ((r5.1.tree.nodes.length : Nat) : Int))))] [(1032, bx (pm (encHierarchy r5.1))), (1056, bx [ow 1424 r12.1.tree.nodes.length, pI r12.1.tree.next, ow 1425 r12.1.tasks.length, pI r12.1.next]), (1424, ob0 (roNode r12.1.tree.nodes)), (1425, ob0 (roTask r12.1.tasks)), (1496, ob0 (roI r14)), (1528, ob0 (roI r15))] trivial (by kernel_rfl) ?_)
    refine DW.seq (DW.cond (decide (((k1 : Nat) : Int) < ((r5.1.tree.nodes.length : Nat) : Int))) rfl rfl ?_ ?_)
    ·
     intro h36
     have hlt1 : k1 < r5.1.tree.nodes.length := by have := of_decide_eq_true h36; omega
     have hm := hs1 hlt1
     unfold MemberMoves_law6L1 at hm
     refine DW.skip ?_
     refine DW.seq (DW.block ?_)
     refine DW.seq (RK hnt (nn 2 []) [(4, rr 1032), (7, rr 1056), (9, ow 1496 r14.length), (10, ow 1528 r15.length), (11, pI ((k1 : Nat) : Int)), (70, pI ((r5.1.tree.nodes.length : Nat) : Int)), (71, pI ((k1 : Nat) : Int))] [(1032, bx (pm (encHierarchy r5.1))), (1056, bx [ow 1424 r12.1.tree.nodes.length, pI r12.1.tree.next, ow 1425 r12.1.tasks.length, pI r12.1.next]), (1424, ob0 (roNode r12.1.tree.nodes)), (1425, ob0 (roTask r12.1.tasks)), (1496, ob0 (roI r14)), (1528, ob0 (roI r15))] trivial (by kernel_rfl) ?_)
     refine DW.seq (RK hnt (nn 8 []) [(4, rr 1032), (7, rr 1056), (9, ow 1496 r14.length), (10, ow 1528 r15.length), (12, pI (r5.1.tree.nodes.getD k1 (default : Node)).id), (70, pI ((r5.1.tree.nodes.length : Nat) : Int)), (71, pI ((k1 : Nat) : Int))] [(1032, bx (pm (encHierarchy r5.1))), (1056, bx [ow 1424 r12.1.tree.nodes.length, pI r12.1.tree.next, ow 1425 r12.1.tasks.length, pI r12.1.next]), (1424, ob0 (roNode r12.1.tree.nodes)), (1425, ob0 (roTask r12.1.tasks)), (1496, ob0 (roI r14)), (1528, ob0 (roI r15))] (an (nn0 k1) (an (ltc hlt1) trivial)) (by kernel_rfl) ?_)
     refine DW.seq (RK hnt (.no :: []) [(4, rr 1032), (7, rr 1056), (9, ow 1496 r14.length), (10, ow 1528 r15.length), (12, pI (r5.1.tree.nodes.getD k1 (default : Node)).id), (13, pI 0), (70, pI ((r5.1.tree.nodes.length : Nat) : Int)), (71, pI ((k1 : Nat) : Int))] [(1032, bx (pm (encHierarchy r5.1))), (1056, bx [ow 1424 r12.1.tree.nodes.length, pI r12.1.tree.next, ow 1425 r12.1.tasks.length, pI r12.1.next]), (1424, ob0 (roNode r12.1.tree.nodes)), (1425, ob0 (roTask r12.1.tasks)), (1496, ob0 (roI r14)), (1528, ob0 (roI r15))] trivial (by kernel_rfl) ?_)
     obtain ⟨r37, hr37, hm⟩ := bind_open hm
     refine DW.seq (DW.seq (RK hnt (nn 2 (.call 18 [] true (pB r37) [] [] :: [])) [(4, rr 1032), (7, rr 1056), (9, ow 1496 r14.length), (10, ow 1528 r15.length), (12, pI (r5.1.tree.nodes.getD k1 (default : Node)).id), (13, pI 0), (70, pI ((r5.1.tree.nodes.length : Nat) : Int)), (71, pI ((k1 : Nat) : Int)), (83, pB r37)] [(1032, bx (pm (encHierarchy r5.1))), (1056, bx [ow 1424 r12.1.tree.nodes.length, pI r12.1.tree.next, ow 1425 r12.1.tasks.length, pI r12.1.next]), (1424, ob0 (roNode r12.1.tree.nodes)), (1425, ob0 (roTask r12.1.tasks)), (1496, ob0 (roI r14)), (1528, ob0 (roI r15))] (an (Has_ref3Spec r14 (r5.1.tree.nodes.getD k1 (default : Node)).id r37 hr37) trivial) (by kernel_rfl) ?_))
     refine DW.join (ι := Int) (fun (y5 : Int) => mkSt [(4, rr 1032), (7, rr 1056), (9, ow 1496 r14.length), (10, ow 1528 r15.length), (12, pI (r5.1.tree.nodes.getD k1 (default : Node)).id), (13, pI y5), (70, pI ((r5.1.tree.nodes.length : Nat) : Int)), (71, pI ((k1 : Nat) : Int))] [(1032, bx (pm (encHierarchy r5.1))), (1056, bx [ow 1424 r12.1.tree.nodes.length, pI r12.1.tree.next, ow 1425 r12.1.tasks.length, pI r12.1.next]), (1424, ob0 (roNode r12.1.tree.nodes)), (1425, ob0 (roTask r12.1.tasks)), (1496, ob0 (roI r14)), (1528, ob0 (roI r15))]) (fun y5 => (MemberMoves_law6J5 r5 r12 r15 (r5.1.tree.nodes.getD k1 (default : Node)) n1) y5 = some RES) ?_ ?_
     ·
      intro y5 hm
      unfold MemberMoves_law6J5 at hm
      obtain ⟨r39, hr39, hm⟩ := bind_open hm
      refine DW.seq (DW.seq (RK hnt (nn 2 (.call 18 [] true (pB r39) [] [] :: [])) [(4, rr 1032), (7, rr 1056), (9, ow 1496 r14.length), (10, ow 1528 r15.length), (12, pI (r5.1.tree.nodes.getD k1 (default : Node)).id), (13, pI y5), (70, pI ((r5.1.tree.nodes.length : Nat) : Int)), (71, pI ((k1 : Nat) : Int)), (88, pB r39)] [(1032, bx (pm (encHierarchy r5.1))), (1056, bx [ow 1424 r12.1.tree.nodes.length, pI r12.1.tree.next, ow 1425 r12.1.tasks.length, pI r12.1.next]), (1424, ob0 (roNode r12.1.tree.nodes)), (1425, ob0 (roTask r12.1.tasks)), (1496, ob0 (roI r14)), (1528, ob0 (roI r15))] (an (Has_ref3Spec r15 (r5.1.tree.nodes.getD k1 (default : Node)).id r39 hr39) trivial) (by kernel_rfl) ?_))
      refine DW.join (ι := Int) (fun (y6 : Int) => mkSt [(4, rr 1032), (7, rr 1056), (9, ow 1496 r14.length), (10, ow 1528 r15.length), (12, pI (r5.1.tree.nodes.getD k1 (default : Node)).id), (13, pI y6), (70, pI ((r5.1.tree.nodes.length : Nat) : Int)), (71, pI ((k1 : Nat) : Int))] [(1032, bx (pm (encHierarchy r5.1))), (1056, bx [ow 1424 r12.1.tree.nodes.length, pI r12.1.tree.next, ow 1425 r12.1.tasks.length, pI r12.1.next]), (1424, ob0 (roNode r12.1.tree.nodes)), (1425, ob0 (roTask r12.1.tasks)), (1496, ob0 (roI r14)), (1528, ob0 (roI r15))]) (fun y6 => (MemberMoves_law6J6 r5 r12 (r5.1.tree.nodes.getD k1 (default : Node)) n1) y6 = some RES) ?_ ?_
      ·
       intro y6 hm
       unfold MemberMoves_law6J6 at hm
       obtain ⟨r41, hr41, hm⟩ := bind_open hm
       obtain ⟨r42, hr42, hm⟩ := bind_open hm
       refine DW.seq (RK hnt (nn 2 (.call 19 [] true (pI r41) [] [] :: nn 2 (.call 19 [] true (pI r42) [] [] :: nn 3 []))) [(4, rr 1032), (7, rr 1056), (9, ow 1496 r14.length), (10, ow 1528 r15.length), (70, pI ((r5.1.tree.nodes.length : Nat) : Int)), (71, pI ((k1 : Nat) : Int)), (99, pB ((w64 (r41 - r42)) != y6))] [(1032, bx (pm (encHierarchy r5.1))), (1056, bx [ow 1424 r12.1.tree.nodes.length, pI r12.1.tree.next, ow 1425 r12.1.tasks.length, pI r12.1.next]), (1424, ob0 (roNode r12.1.tree.nodes)), (1425, ob0 (roTask r12.1.tasks)), (1496, ob0 (roI r14)), (1528, ob0 (roI r15))] (an (Count_memberSpec r12.1 (r5.1.tree.nodes.getD k1 (default : Node)).id r41 hr41) (an (Count_memberSpec r5.1 (r5.1.tree.nodes.getD k1 (default : Node)).id r42 hr42) trivial)) (by kernel_rfl) ?_)
       refine DW.cond ((w64 (r41 - r42)) != y6) rfl rfl ?_ ?_
       ·
        intro h43
        replace hm := if_t h43 hm
        refine DW.seq (RK hnt (.no :: []) [(2, pB false)] [] trivial (by kernel_rfl) ?_)
        refine DW.ret ?_
        obtain rfl := Option.some.inj hm
        refine retOK (bs' := []) [] (pB false) (by kernel_rfl) ?_ ?_
        · rfl
        · rfl
       ·
        intro h43
        replace hm := if_f h43 hm
        refine DW.skip ?_
        refine DW.done ?_
        show DW _ _ _ _ _
        refine RK hnt (nn 2 []) [(4, rr 1032), (7, rr 1056), (9, ow 1496 r14.length), (10, ow 1528 r15.length), (70, pI ((r5.1.tree.nodes.length : Nat) : Int)), (71, pI (w64 (((k1 : Nat) : Int) + 1)))] [(1032, bx (pm (encHierarchy r5.1))), (1056, bx [ow 1424 r12.1.tree.nodes.length, pI r12.1.tree.next, ow 1425 r12.1.tasks.length, pI r12.1.next]), (1424, ob0 (roNode r12.1.tree.nodes)), (1425, ob0 (roTask r12.1.tasks)), (1496, ob0 (roI r14)), (1528, ob0 (roI r15))] trivial (by kernel_rfl) ?_
        exact joinDone () ⟨hlt1, hm⟩ (Conv.tp [(71, pI (w64 (((k1 : Nat) : Int) + 1)))] [] (by kernel_rfl) (.cons rfl (.of_eq (congrArg pI (w64_succ hlt1 hc1))) .nil) .nil)
      ·
       refine DW.cond r39 rfl rfl ?_ ?_
       ·
        intro h40
        replace hm := if_t h40 hm
        refine RK hnt (nn 3 []) [(4, rr 1032), (7, rr 1056), (9, ow 1496 r14.length), (10, ow 1528 r15.length), (12, pI (r5.1.tree.nodes.getD k1 (default : Node)).id), (13, pI (w64 (y5 + 1))), (70, pI ((r5.1.tree.nodes.length : Nat) : Int)), (71, pI ((k1 : Nat) : Int))] [(1032, bx (pm (encHierarchy r5.1))), (1056, bx [ow 1424 r12.1.tree.nodes.length, pI r12.1.tree.next, ow 1425 r12.1.tasks.length, pI r12.1.next]), (1424, ob0 (roNode r12.1.tree.nodes)), (1425, ob0 (roTask r12.1.tasks)), (1496, ob0 (roI r14)), (1528, ob0 (roI r15))] trivial (by kernel_rfl) ?_
        exact joinDone (w64 (y5 + 1)) hm .refl
       ·
        intro h40
        replace hm := if_f h40 hm
        refine DW.skip ?_
        exact joinDone y5 hm (Conv.tp [] [] (by kernel_rfl) .nil .nil)
     ·
      refine DW.cond r37 rfl rfl ?_ ?_
      ·
       intro h38
       replace hm := if_t h38 hm
       refine RK hnt (nn 3 []) [(4, rr 1032), (7, rr 1056), (9, ow 1496 r14.length), (10, ow 1528 r15.length), (12, pI (r5.1.tree.nodes.getD k1 (default : Node)).id), (13, pI (-1)), (70, pI ((r5.1.tree.nodes.length : Nat) : Int)), (71, pI ((k1 : Nat) : Int))] [(1032, bx (pm (encHierarchy r5.1))), (1056, bx [ow 1424 r12.1.tree.nodes.length, pI r12.1.tree.next, ow 1425 r12.1.tasks.length, pI r12.1.next]), (1424, ob0 (roNode r12.1.tree.nodes)), (1425, ob0 (roTask r12.1.tasks)), (1496, ob0 (roI r14)), (1528, ob0 (roI r15))] trivial (by kernel_rfl) ?_
       exact joinDone (-1) hm .refl
      ·
       intro h38
       replace hm := if_f h38 hm
       refine DW.skip ?_
       exact joinDone 0 hm (Conv.tp [] [] (by kernel_rfl) .nil .nil)
    ·
     intro h36
     have hge1 : ¬ k1 < r5.1.tree.nodes.length := by have := of_decide_eq_false h36; omega
     have hm := he1 hge1
     unfold MemberMoves_law6D1 at hm
     refine DW.exit ?_
     refine joinQ_exit ?_
     refine KQ_exit ?_
     refine blockQ_exit ?_
     show DW _ _ _ _ _
     obtain ⟨r44, hr44, hm⟩ := bind_open hm
     refine DW.seq (RK hnt (.call 11 [] true (pB r44) [] [] :: .no :: []) [(2, pB r44)] [] (an (sane_law6Spec r44 hr44) trivial) (by kernel_rfl) ?_)
     refine DW.ret ?_
     obtain rfl := Option.some.inj hm
     refine retOK (bs' := []) [] (pB r44) (by kernel_rfl) ?_ ?_
     · rfl
     · rfl
end Go.Dm
