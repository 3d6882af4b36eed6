/- Texts of the proof of PidsCounts: the data machine, the models of the Go functions, their contracts. -/
import Derived.Test.YtdckdjkjjmadeaaGreatPidsCountsA4
set_option linter.unusedVariables false
set_option linter.unusedSimpArgs false
/- Go functions compute their models, printed by a program. -/
namespace Go.Dm
open Go.Proofs
set_option linter.unusedVariables false
abbrev c134e1 : Nat × Obj := (1032, bx [.p (.sl .nil 0 0 (fun _ => [])), pI 0, .p (.sl .nil 0 0 (fun _ => [])), pI 0])
abbrev c134e2 : Nat × Obj := (1032, bx [ow 100000 0, pI 0, .p (.sl .nil 0 0 (fun _ => [])), pI 0])
abbrev c134e3 : Nat × Obj := (1032, bx [ow 100000 0, pI 0, ow 100001 0, pI 0])
theorem Convert_ref8Spec (p0 : Hierarchy) (p1 : Int) (RES : Hierarchy × Int) (hm : Convert_ref8 p0 p1 = some RES) : Spec Tryz.prog 134 [.p (.agg (encHierarchy p0)), pI p1] [] (.tup [.agg [ow 0 RES.1.tree.nodes.length, pI RES.1.tree.next, ow 1 RES.1.tasks.length, pI RES.1.next], pI RES.2]) [] [roNode RES.1.tree.nodes, roTask RES.1.tasks] := by
 unfold Convert_ref8 at hm
 refine SO Tryz.func134 rfl rfl [(0, .p (.agg (encHierarchy p0))), (1, pI p1)] [] ?_
 intro cx hnt
 refine DW.seq (RK hnt (nn 3 []) [(1, pI p1), (2, rr 1016), (4, rr 1032)] [(1016, bx (pm (encHierarchy p0))), (c134e1)] trivial ?_)
 obtain ⟨r1, hr1, hm⟩ := bind_open hm
 refine DW.seq (DW.seq (RD hnt (.no :: .call 129 [] true (pB r1) [] [] :: .no :: []) [] [(13, pB (!r1))] [] [] (an (Fits_ref8Spec p0 r1 hr1) trivial) ?_))
 refine condM hm ?_ ?_
 ·intro h2 hm
  refine DW.seq (RD hnt (nn 3 []) [1, 2, 13] [(5, pI 1)] [1016] [] trivial ?_)
  refine DW.conv (τ := mkSt [(4, rr 1032), (5, pI 1)] [(c134e3), (100000, ob0 (roNode [])), (100001, ob0 (roTask []))]) (Conv.trans (τ := mkSt [(4, rr 1032), (5, pI 1)] [(c134e1)]) Conv.eqK (Conv.trans (τ := mkSt [(4, rr 1032), (5, pI 1)] ((100000, ⟨0, .row 6 0 (elems encNode dNode [])⟩) :: [(c134e2)])) (Conv.adopt 100000 6 (elems encNode dNode []) rfl rfl (.rfl _) (.box (.cons (.nil _ _) (.cons (.rfl _) (.cons (.rfl _) (.cons (.rfl _) (.rfl _))))) (.rfl _))) (Conv.trans (τ := mkSt [(4, rr 1032), (5, pI 1)] [(c134e2), (100000, ob0 (roNode []))]) Conv.t0 (Conv.trans (τ := mkSt [(4, rr 1032), (5, pI 1)] ((100001, ⟨0, .row 4 0 (elems encTask dTask [])⟩) :: [(c134e3), (100000, ob0 (roNode []))])) (Conv.adopt 100001 4 (elems encTask dTask []) rfl rfl (.rfl _) (.box (.cons (.rfl _) (.cons (.rfl _) (.cons (.nil _ _) (.cons (.rfl _) (.rfl _))))) (.keep (.rfl _)))) Conv.t0)))) ?_
  refine DW.ret ?_
  obtain rfl := Option.some.inj hm
  exact retK [roNode [], roTask []] [100000, 100001] (.tup [.agg [ow 0 0, pI 0, ow 1 0, pI 0], pI 1])
 ·intro h2 hm
  refine DW.skip ?_
  obtain ⟨r3, hr3, hm⟩ := bind_open hm
  refine DW.seq (RD hnt (nn 3 (.call 135 [] true (.p (.tup [.agg (encNode r3.1), vb r3.2])) [] [] :: nn 6 [])) [13] [(6, rr 1048), (7, pB r3.2)] [] [(1048, bx (pm (encNode r3.1)))] (an (Find_ref5Spec p0.tree p1 r3 hr3) trivial) ?_)
  refine DW.seq (DW.seq (RD hnt (nn 2 []) [7] [(23, pB (!r3.2))] [] [] trivial ?_))
  refine condM hm ?_ ?_
  ·intro h4 hm
   refine DW.seq (RD hnt (nn 3 []) [1, 2, 6, 23] [(5, pI 4)] [1016, 1048] [] trivial ?_)
   refine DW.conv (τ := mkSt [(4, rr 1032), (5, pI 4)] [(c134e3), (100000, ob0 (roNode [])), (100001, ob0 (roTask []))]) (Conv.trans (τ := mkSt [(4, rr 1032), (5, pI 4)] [(c134e1)]) Conv.eqK (Conv.trans (τ := mkSt [(4, rr 1032), (5, pI 4)] ((100000, ⟨0, .row 6 0 (elems encNode dNode [])⟩) :: [(c134e2)])) (Conv.adopt 100000 6 (elems encNode dNode []) rfl rfl (.rfl _) (.box (.cons (.nil _ _) (.cons (.rfl _) (.cons (.rfl _) (.cons (.rfl _) (.rfl _))))) (.rfl _))) (Conv.trans (τ := mkSt [(4, rr 1032), (5, pI 4)] [(c134e2), (100000, ob0 (roNode []))]) Conv.t0 (Conv.trans (τ := mkSt [(4, rr 1032), (5, pI 4)] ((100001, ⟨0, .row 4 0 (elems encTask dTask [])⟩) :: [(c134e3), (100000, ob0 (roNode []))])) (Conv.adopt 100001 4 (elems encTask dTask []) rfl rfl (.rfl _) (.box (.cons (.rfl _) (.cons (.rfl _) (.cons (.nil _ _) (.cons (.rfl _) (.rfl _))))) (.keep (.rfl _)))) Conv.t0)))) ?_
   refine DW.ret ?_
   obtain rfl := Option.some.inj hm
   exact retK [roNode [], roTask []] [100000, 100001] (.tup [.agg [ow 0 0, pI 0, ow 1 0, pI 0], pI 4])
  ·intro h4 hm
   refine DW.skip ?_
   refine DW.seq (DW.seq (DW.regJ (sl2 := [(1, pI p1), (2, rr 1016), (4, rr 1032), (6, rr 1048), (31, pB ((p1 == 1) || (r3.1.kind == 1)))]) (ob2 := [(1016, bx (pm (encHierarchy p0))), (c134e1), (1048, bx (pm (encNode r3.1)))]) ?_ ?_))
   ·rcases bt (p1 == 1) with h5 | h5
    ·exact RT hnt (nn 3 (sk 3 (pT :: []))) [(31, pB true)] (an4 h5 trivial) (by kernel_rfl) (.cons rfl (.of_eq (by rw [h5]; try rfl)) .nil)
    ·exact RT hnt (nn 6 (pF :: [])) [(31, pB (r3.1.kind == 1))] (an4 h5 trivial) (by kernel_rfl) (.cons rfl (.of_eq (by rw [h5]; try rfl)) .nil)
   ·refine condM hm ?_ ?_
    ·intro h6 hm
     refine DW.seq (RD hnt (nn 3 []) [1, 2, 6, 31] [(5, pI 9)] [1016, 1048] [] trivial ?_)
     refine DW.conv (τ := mkSt [(4, rr 1032), (5, pI 9)] [(c134e3), (100000, ob0 (roNode [])), (100001, ob0 (roTask []))]) (Conv.trans (τ := mkSt [(4, rr 1032), (5, pI 9)] [(c134e1)]) Conv.eqK (Conv.trans (τ := mkSt [(4, rr 1032), (5, pI 9)] ((100000, ⟨0, .row 6 0 (elems encNode dNode [])⟩) :: [(c134e2)])) (Conv.adopt 100000 6 (elems encNode dNode []) rfl rfl (.rfl _) (.box (.cons (.nil _ _) (.cons (.rfl _) (.cons (.rfl _) (.cons (.rfl _) (.rfl _))))) (.rfl _))) (Conv.trans (τ := mkSt [(4, rr 1032), (5, pI 9)] [(c134e2), (100000, ob0 (roNode []))]) Conv.t0 (Conv.trans (τ := mkSt [(4, rr 1032), (5, pI 9)] ((100001, ⟨0, .row 4 0 (elems encTask dTask [])⟩) :: [(c134e3), (100000, ob0 (roNode []))])) (Conv.adopt 100001 4 (elems encTask dTask []) rfl rfl (.rfl _) (.box (.cons (.rfl _) (.cons (.rfl _) (.cons (.nil _ _) (.cons (.rfl _) (.rfl _))))) (.keep (.rfl _)))) Conv.t0)))) ?_
     refine DW.ret ?_
     obtain rfl := Option.some.inj hm
     exact retK [roNode [], roTask []] [100000, 100001] (.tup [.agg [ow 0 0, pI 0, ow 1 0, pI 0], pI 9])
    ·intro h6 hm
     refine DW.skip ?_
     obtain ⟨r7, hr7, hm⟩ := bind_open hm
     refine DW.seq (RD hnt (nn 4 (.call 135 [] true (.p (.tup [.agg (encNode r7.1), vb r7.2])) [] [] :: nn 6 [])) [31] [(8, rr 1064)] [] [(1064, bx (pm (encNode r7.1)))] (an (Find_ref5Spec p0.tree r3.1.parent r7 hr7) trivial) ?_)
     obtain ⟨r8, hr8, hm⟩ := bind_open hm
     refine DW.seq (DW.seq ?_)
     refine DW.join (ι := Bool) (fun (y1 : Bool) => mkSt [(1, pI p1), (2, rr 1016), (4, rr 1032), (6, rr 1048), (57, pB y1)] [(1016, bx (pm (encHierarchy p0))), (c134e1), (1048, bx (pm (encNode r3.1)))]) (fun y1 => (Convert_ref8J1 p0 p1 r3) y1 = some RES) ?_ ?_
     ·intro y1 hm
      unfold Convert_ref8J1 at hm
      refine condM hm ?_ ?_
      ·intro h11 hm
       refine DW.seq (RD hnt (nn 3 []) [1, 2, 6, 57] [(5, pI 10)] [1016, 1048] [] trivial ?_)
       refine DW.conv (τ := mkSt [(4, rr 1032), (5, pI 10)] [(c134e3), (100000, ob0 (roNode [])), (100001, ob0 (roTask []))]) (Conv.trans (τ := mkSt [(4, rr 1032), (5, pI 10)] [(c134e1)]) Conv.eqK (Conv.trans (τ := mkSt [(4, rr 1032), (5, pI 10)] ((100000, ⟨0, .row 6 0 (elems encNode dNode [])⟩) :: [(c134e2)])) (Conv.adopt 100000 6 (elems encNode dNode []) rfl rfl (.rfl _) (.box (.cons (.nil _ _) (.cons (.rfl _) (.cons (.rfl _) (.cons (.rfl _) (.rfl _))))) (.rfl _))) (Conv.trans (τ := mkSt [(4, rr 1032), (5, pI 10)] [(c134e2), (100000, ob0 (roNode []))]) Conv.t0 (Conv.trans (τ := mkSt [(4, rr 1032), (5, pI 10)] ((100001, ⟨0, .row 4 0 (elems encTask dTask [])⟩) :: [(c134e3), (100000, ob0 (roNode []))])) (Conv.adopt 100001 4 (elems encTask dTask []) rfl rfl (.rfl _) (.box (.cons (.rfl _) (.cons (.rfl _) (.cons (.nil _ _) (.cons (.rfl _) (.rfl _))))) (.keep (.rfl _)))) Conv.t0)))) ?_
       refine DW.ret ?_
       obtain rfl := Option.some.inj hm
       exact retK [roNode [], roTask []] [100000, 100001] (.tup [.agg [ow 0 0, pI 0, ow 1 0, pI 0], pI 10])
      ·intro h11 hm
       refine DW.skip ?_
       refine DW.seq (DW.seq (RD hnt (nn 4 []) [57] [(62, pB ((kand .i64 r3.1.control 6) != 0))] [] [] trivial ?_))
       refine condM hm ?_ ?_
       ·intro h12 hm
        refine DW.seq (RD hnt (nn 3 []) [1, 2, 6, 62] [(5, pI 9)] [1016, 1048] [] trivial ?_)
        refine DW.conv (τ := mkSt [(4, rr 1032), (5, pI 9)] [(c134e3), (100000, ob0 (roNode [])), (100001, ob0 (roTask []))]) (Conv.trans (τ := mkSt [(4, rr 1032), (5, pI 9)] [(c134e1)]) Conv.eqK (Conv.trans (τ := mkSt [(4, rr 1032), (5, pI 9)] ((100000, ⟨0, .row 6 0 (elems encNode dNode [])⟩) :: [(c134e2)])) (Conv.adopt 100000 6 (elems encNode dNode []) rfl rfl (.rfl _) (.box (.cons (.nil _ _) (.cons (.rfl _) (.cons (.rfl _) (.cons (.rfl _) (.rfl _))))) (.rfl _))) (Conv.trans (τ := mkSt [(4, rr 1032), (5, pI 9)] [(c134e2), (100000, ob0 (roNode []))]) Conv.t0 (Conv.trans (τ := mkSt [(4, rr 1032), (5, pI 9)] ((100001, ⟨0, .row 4 0 (elems encTask dTask [])⟩) :: [(c134e3), (100000, ob0 (roNode []))])) (Conv.adopt 100001 4 (elems encTask dTask []) rfl rfl (.rfl _) (.box (.cons (.rfl _) (.cons (.rfl _) (.cons (.nil _ _) (.cons (.rfl _) (.rfl _))))) (.keep (.rfl _)))) Conv.t0)))) ?_
        refine DW.ret ?_
        obtain rfl := Option.some.inj hm
        exact retK [roNode [], roTask []] [100000, 100001] (.tup [.agg [ow 0 0, pI 0, ow 1 0, pI 0], pI 9])
       ·intro h12 hm
        refine DW.skip ?_
        refine DW.seq (RD hnt (nn 2 []) [62] [] [] [(1048, bx [pI r3.1.id, pI r3.1.parent, pS r3.1.name, pI r3.1.control, pI 1, pI r3.1.owner])] trivial ?_)
        obtain ⟨r13, hr13, hm⟩ := bind_open hm
        refine DW.seq (RD hnt (.no :: .call 105 [] true (.agg [ow 0 r13.tree.nodes.length, pI r13.tree.next, ow 1 r13.tasks.length, pI r13.next]) [] [roNode r13.tree.nodes, roTask r13.tasks] :: nn 2 []) [] [(10, rr 1080)] [] [(1080, bx [ow 1528 r13.tree.nodes.length, pI r13.tree.next, ow 1529 r13.tasks.length, pI r13.next]), (1528, ob0 (roNode r13.tree.nodes)), (1529, ob0 (roTask r13.tasks))] (an (Copy_ref6Spec p0 r13 hr13) trivial) ?_)
        obtain ⟨r14, hr14, hm⟩ := bind_open hm
        refine DW.seq (RD hnt (nn 3 (.call 136 [] true (.agg [ow 0 r14.nodes.length, pI r14.next]) [] [roNode r14.nodes] :: nn 2 [])) [6] [] [1048, 1528] [(1080, bx [ow 1560 r14.nodes.length, pI r14.next, ow 1529 r13.tasks.length, pI r13.next]), (1560, ob0 (roNode r14.nodes))] (an (Set_ref5Spec p0.tree ({ id := r3.1.id, parent := r3.1.parent, name := r3.1.name, control := r3.1.control, kind := 1, owner := r3.1.owner } : Node) r14 hr14) trivial) ?_)
        obtain ⟨r15, hr15, hm⟩ := bind_open hm
        refine DW.seq (DW.seq ?_)
        refine DW.join (ι := Bool) (fun (y2 : Bool) => mkSt [(4, rr 1032), (10, rr 1080), (81, pB y2)] [(c134e1), (1080, bx [ow 1560 r14.nodes.length, pI r14.next, ow 1529 r13.tasks.length, pI r13.next]), (1529, ob0 (roTask r13.tasks)), (1560, ob0 (roNode r14.nodes))]) (fun y2 => (Convert_ref8J2 r13 r14) y2 = some RES) ?_ ?_
        ·intro y2 hm
         unfold Convert_ref8J2 at hm
         refine condM hm ?_ ?_
         ·intro h18 hm
          refine DW.seq (RD hnt (nn 3 []) [10, 81] [(5, pI 6)] [1080, 1529, 1560] [] trivial ?_)
          refine DW.conv (τ := mkSt [(4, rr 1032), (5, pI 6)] [(c134e3), (100000, ob0 (roNode [])), (100001, ob0 (roTask []))]) (Conv.trans (τ := mkSt [(4, rr 1032), (5, pI 6)] [(c134e1)]) Conv.eqK (Conv.trans (τ := mkSt [(4, rr 1032), (5, pI 6)] ((100000, ⟨0, .row 6 0 (elems encNode dNode [])⟩) :: [(c134e2)])) (Conv.adopt 100000 6 (elems encNode dNode []) rfl rfl (.rfl _) (.box (.cons (.nil _ _) (.cons (.rfl _) (.cons (.rfl _) (.cons (.rfl _) (.rfl _))))) (.rfl _))) (Conv.trans (τ := mkSt [(4, rr 1032), (5, pI 6)] [(c134e2), (100000, ob0 (roNode []))]) Conv.t0 (Conv.trans (τ := mkSt [(4, rr 1032), (5, pI 6)] ((100001, ⟨0, .row 4 0 (elems encTask dTask [])⟩) :: [(c134e3), (100000, ob0 (roNode []))])) (Conv.adopt 100001 4 (elems encTask dTask []) rfl rfl (.rfl _) (.box (.cons (.rfl _) (.cons (.rfl _) (.cons (.nil _ _) (.cons (.rfl _) (.rfl _))))) (.keep (.rfl _)))) Conv.t0)))) ?_
          refine DW.ret ?_
          obtain rfl := Option.some.inj hm
          exact retK [roNode [], roTask []] [100000, 100001] (.tup [.agg [ow 0 0, pI 0, ow 1 0, pI 0], pI 6])
         ·intro h18 hm
          refine DW.skip ?_
          refine DW.seq (RD hnt (nn 3 []) [10, 81] [(5, pI 0)] [1080] [(1032, bx [ow 1560 r14.nodes.length, pI r14.next, ow 1529 r13.tasks.length, pI r13.next])] trivial ?_)
          refine DW.ret ?_
          obtain rfl := Option.some.inj hm
          exact retK [roNode r14.nodes, roTask r13.tasks] [1560, 1529] (.tup [.agg [ow 0 r14.nodes.length, pI r14.next, ow 1 r13.tasks.length, pI r13.next], pI 0])
        ·rcases bt (decide (((r15.length : Nat) : Int) > 0)) with h16 | h16
         ·replace hm := if_t h16 hm
          refine RD hnt (nn 2 (.call 26 [] true (ow 0 r15.length) [] [roI r15] :: nn 3 (sk 3 (pT :: [])))) [1, 2] [(81, pB true)] [1016] [] (an (Tasks_ref6Spec p0 p1 r15 hr15) (an4 h16 trivial)) ?_
          exact joinDone true hm Conv.eqK
         ·replace hm := if_f h16 hm
          obtain ⟨r17, hr17, hm⟩ := bind_open hm
          refine RD hnt (nn 2 (.call 26 [] true (ow 0 r15.length) [] [roI r15] :: nn 4 (.call 129 [] true (pB r17) [] [] :: .no :: pF :: []))) [1, 2] [(81, pB (!r17))] [1016] [] (an (Tasks_ref6Spec p0 p1 r15 hr15) (an2 h16 (an (Fits_ref8Spec ({ tree := r14, tasks := r13.tasks, next := r13.next } : Hierarchy) r17 hr17) (an2 h16 trivial)))) ?_
          exact joinDone (!r17) hm Conv.eqK
     ·rcases bt (r8 == 3) with h9 | h9
      ·replace hm := if_t h9 hm
       refine RD hnt (nn 4 (.call 130 [] true (pI r8) [] [] :: nn 2 (sk 9 (pT :: [])))) [8] [(57, pB true)] [1064] [] (an (Type_ref8Spec p0.tree r7.1.id r8 hr8) (an6 h9 trivial)) ?_
       exact joinDone true hm Conv.eqK
      ·replace hm := if_f h9 hm
       rcases bt (r7.1.id != 1) with h10 | h10
       ·replace hm := if_t h10 hm
        refine RD hnt (nn 4 (.call 130 [] true (pI r8) [] [] :: nn 10 (pT :: pF :: []))) [8] [(57, pB ((kand .i64 r7.1.control 6) != 0))] [1064] [] (an (Type_ref8Spec p0.tree r7.1.id r8 hr8) (an4 h9 (an4 h10 (an h9 (an h10 (an h9 trivial)))))) ?_
        exact joinDone ((kand .i64 r7.1.control 6) != 0) hm Conv.eqK
       ·replace hm := if_f h10 hm
        refine RD hnt (nn 4 (.call 130 [] true (pI r8) [] [] :: nn 6 (sk 4 (pF :: pF :: [])))) [8] [(57, pB false)] [1064] [] (an (Type_ref8Spec p0.tree r7.1.id r8 hr8) (an4 h9 (an4 h10 (an h9 (an h10 (an h9 trivial)))))) ?_
        exact joinDone false hm Conv.eqK

abbrev c81e1 : Nat × Obj := (1032, bx [.p (.sl .nil 0 0 (fun _ => [])), pI 0, .p (.sl .nil 0 0 (fun _ => [])), pI 0])
theorem step_Dice_madeSpec (p0 : Dice) (p1 : Hierarchy) (RES : Hierarchy × Dice) (hm : step_Dice_made p0 p1 = some RES) : Spec Tryz.prog 81 [rr 0, .p (.agg (encHierarchy p1))] [.box (pm (encDice p0))] (.p (.agg (encHierarchy RES.1))) [.box (pm (encDice RES.2))] [] := by
 unfold step_Dice_made at hm
 refine SO Tryz.func81 rfl rfl [(0, rr 0), (1, .p (.agg (encHierarchy p1)))] [(0, bx (pm (encDice p0)))] ?_
 intro cx hnt
 refine DW.seq (RD hnt (nn 2 []) [1] [(3, rr 1024), (4, rr 1032)] [] [(1024, bx (pm (encHierarchy p1))), (c81e1)] trivial ?_)
 obtain ⟨r1, hr1, hm⟩ := bind_open hm
 refine DW.seq (RD hnt (nn 3 (.call 33 [0] true (pI r1.1) [.box (pm (encDice r1.2))] [] :: .no :: [])) [] [(5, pI r1.1)] [] [(0, bx (pm (encDice r1.2)))] (an (Group_Dice_madeSpec p0 p1.tree r1 hr1) (an trivial trivial)) ?_)
 obtain ⟨r2, hr2, hm⟩ := bind_open hm
 refine DW.seq (DW.seq (RD hnt (.no :: .call 19 [0] true (pI r2.1) [.box (pm (encDice r2.2))] [] :: []) [] [(17, pI r2.1)] [] [(0, bx (pm (encDice r2.2)))] (an (Next_Dice_madeSpec r1.2 5 r2 hr2) (an trivial trivial)) ?_))
 refine DW.join (ι := Dice × Hierarchy) (fun (y1 : Dice × Hierarchy) => mkSt [(3, rr 1024), (4, rr 1032)] [(0, bx (pm (encDice y1.1))), (1024, bx (pm (encHierarchy y1.2))), (c81e1)]) (fun y1 => step_Dice_madeJ1 y1 = some RES) ?_ ?_
 ·intro y1 hm
  unfold step_Dice_madeJ1 at hm
  refine DW.seq (RD hnt (nn 2 []) [3] [] [1024] [(1032, bx (pm (encHierarchy y1.2)))] trivial ?_)
  refine DW.ret ?_
  obtain rfl := Option.some.inj hm
  exact retK [.box (pm (encDice y1.1))] [] (.p (.agg (encHierarchy y1.2)))
 ·refine DW.block ?_
  refine DW.seq (DW.seq (RD hnt (nn 2 []) [] [(18, pB (r2.1 == 0))] [] [] trivial ?_))
  refine DW.join (ι := Bool) (fun (y2 : Bool) => mkSt [(0, rr 0), (3, rr 1024), (4, rr 1032), (5, pI r1.1), (17, pI r2.1), (18, pB y2)] [(0, bx (pm (encDice r2.2))), (1024, bx (pm (encHierarchy p1))), (c81e1)]) (fun y2 => (step_Dice_madeJ2 p1 r1 r2) y2 = some RES) ?_ ?_
  ·intro y2 hm
   unfold step_Dice_madeJ2 at hm
   refine condM hm ?_ ?_
   ·intro h4 hm
    obtain ⟨r5, hr5, hm⟩ := bind_open hm
    obtain ⟨r6, hr6, hm⟩ := bind_open hm
    refine DW.seq (RD hnt (nn 3 (.call 107 [0] true (pI r5.1) [.box (pm (encDice r5.2))] [] :: .call 133 [] true (.tup [.agg [ow 0 r6.1.tree.nodes.length, pI r6.1.tree.next, ow 1 r6.1.tasks.length, pI r6.1.next], pI r6.2]) [] [roNode r6.1.tree.nodes, roTask r6.1.tasks] :: nn 6 [])) [0, 5, 17, 18] [(6, rr 1048), (7, pI r6.2)] [] [(0, bx (pm (encDice r5.2))), (1048, bx [ow 1208 r6.1.tree.nodes.length, pI r6.1.tree.next, ow 1209 r6.1.tasks.length, pI r6.1.next]), (1208, ob0 (roNode r6.1.tree.nodes)), (1209, ob0 (roTask r6.1.tasks))] (an (Controllers_Dice_madeSpec r2.2 r5 hr5) (an trivial (an (Enable_ref8Spec p1 r1.1 r5.1 0 r6 hr6) trivial))) ?_)
    refine DW.seq (RD hnt (nn 2 []) [7] [(30, pB (r6.2 == 0))] [] [] trivial ?_)
    refine condM hm ?_ ?_
    ·intro h7 hm
     refine DW.seq (RD hnt (nn 2 []) [3, 6, 30] [] [1024, 1048] [(1032, bx [ow 1208 r6.1.tree.nodes.length, pI r6.1.tree.next, ow 1209 r6.1.tasks.length, pI r6.1.next])] trivial ?_)
     refine DW.ret ?_
     obtain rfl := Option.some.inj hm
     exact retK [.box (pm (encDice r5.2))] [] (.p (.agg (encHierarchy r6.1)))
    ·intro h7 hm
     refine DW.skip ?_
     exact blockDone (r5.2, p1) hm Conv.t0
   ·intro h4 hm
    refine DW.seq (RD hnt (nn 2 []) [18] [(32, pB (r2.1 == 2))] [] [] trivial ?_)
    refine condM hm ?_ ?_
    ·intro h8 hm
     obtain ⟨r9, hr9, hm⟩ := bind_open hm
     refine DW.seq (RD hnt (nn 2 (.call 134 [] true (.tup [.agg [ow 0 r9.1.tree.nodes.length, pI r9.1.tree.next, ow 1 r9.1.tasks.length, pI r9.1.next], pI r9.2]) [] [roNode r9.1.tree.nodes, roTask r9.1.tasks] :: nn 6 [])) [0, 5, 17, 32] [(8, rr 1064), (9, pI r9.2)] [] [(1064, bx [ow 1296 r9.1.tree.nodes.length, pI r9.1.tree.next, ow 1297 r9.1.tasks.length, pI r9.1.next]), (1296, ob0 (roNode r9.1.tree.nodes)), (1297, ob0 (roTask r9.1.tasks))] (an (Convert_ref8Spec p1 r1.1 r9 hr9) trivial) ?_)
     refine DW.seq (RD hnt (nn 2 []) [9] [(41, pB (r9.2 == 0))] [] [] trivial ?_)
     refine condM hm ?_ ?_
     ·intro h10 hm
      refine DW.seq (RD hnt (nn 2 []) [3, 8, 41] [] [1024, 1064] [(1032, bx [ow 1296 r9.1.tree.nodes.length, pI r9.1.tree.next, ow 1297 r9.1.tasks.length, pI r9.1.next])] trivial ?_)
      refine DW.ret ?_
      obtain rfl := Option.some.inj hm
      exact retK [.box (pm (encDice r2.2))] [] (.p (.agg (encHierarchy r9.1)))
     ·intro h10 hm
      refine DW.skip ?_
      exact blockDone (r2.2, p1) hm Conv.t0
    ·intro h8 hm
     refine DW.seq (RD hnt (nn 2 []) [17, 32] [(43, pB (r2.1 == 3))] [] [] trivial ?_)
     refine condM hm ?_ ?_
     ·intro h11 hm
      obtain ⟨r12, hr12, hm⟩ := bind_open hm
      refine DW.seq (RD hnt (nn 3 (.call 135 [] true (.p (.tup [.agg (encNode r12.1), vb r12.2])) [] [] :: nn 6 [])) [43] [(10, rr 1080), (11, pB r12.2)] [] [(1080, bx (pm (encNode r12.1)))] (an (Find_ref5Spec p1.tree r1.1 r12 hr12) trivial) ?_)
      refine DW.seq (DW.regJ (sl2 := [(0, rr 0), (3, rr 1024), (4, rr 1032), (10, rr 1080), (56, pB (r12.2 && (r1.1 != 1)))]) (ob2 := [(0, bx (pm (encDice r2.2))), (1024, bx (pm (encHierarchy p1))), (c81e1), (1080, bx (pm (encNode r12.1)))]) ?_ ?_)
      ·rcases bt r12.2 with h13 | h13
       ·exact RT hnt (nn 4 (pT :: [])) [(56, pB (r1.1 != 1))] (an3 h13 trivial) (by kernel_rfl) (.cons rfl (.of_eq (by rw [h13]; try rfl)) .nil)
       ·exact RT hnt (nn 2 (sk 2 (pF :: []))) [(56, pB false)] (an3 h13 trivial) (by kernel_rfl) (.cons rfl (.of_eq (by rw [h13]; try rfl)) .nil)
      ·refine condM hm ?_ ?_
       ·intro h14 hm
        obtain ⟨r15, hr15, hm⟩ := bind_open hm
        refine DW.seq (RD hnt (.no :: .call 19 [0] true (pI r15.1) [.box (pm (encDice r15.2))] [] :: nn 2 []) [0, 56] [] [] [(0, bx (pm (encDice r15.2))), (1080, bx [pI r12.1.id, pI r12.1.parent, pS r12.1.name, pI r12.1.control, pI r12.1.kind, pI r15.1])] (an (Next_Dice_madeSpec r2.2 3 r15 hr15) (an trivial trivial)) ?_)
        obtain ⟨r16, hr16, hm⟩ := bind_open hm
        refine RD hnt (nn 3 (.call 136 [] true (.agg [ow 0 r16.nodes.length, pI r16.next]) [] [roNode r16.nodes] :: nn 2 [])) [10] [] [1080] [(1024, bx [ow 1504 r16.nodes.length, pI r16.next, .p (slTask p1.tasks), pI p1.next]), (1504, ob0 (roNode r16.nodes))] (an (Set_ref5Spec p1.tree ({ id := r12.1.id, parent := r12.1.parent, name := r12.1.name, control := r12.1.control, kind := r12.1.kind, owner := r15.1 } : Node) r16 hr16) trivial) ?_
        exact blockDone (r15.2, ({ tree := r16, tasks := p1.tasks, next := p1.next } : Hierarchy)) hm (Conv.freezes [1504] (by kernel_rfl))
       ·intro h14 hm
        refine DW.skip ?_
        exact blockDone (r2.2, p1) hm Conv.t0
     ·intro h11 hm
      refine DW.skip ?_
      exact blockDone (r2.2, p1) hm Conv.t0
  ·refine condM hm ?_ ?_
   ·intro h3 hm
    refine DW.skip ?_
    exact joinDone (r2.1 == 0) hm Conv.eqK
   ·intro h3 hm
    refine RD hnt (nn 2 []) [] [(18, pB (r2.1 == 1))] [] [] trivial ?_
    exact joinDone (r2.1 == 1) hm Conv.eqK

theorem Admits_ref8Spec (p0 : Hierarchy) (p1 : Int) (RES : Int) (hm : Admits_ref8 p0 p1 = some RES) : Spec Tryz.prog 82 [.p (.agg (encHierarchy p0)), pI p1] [] (pI RES) [] [] := by
 unfold Admits_ref8 at hm
 refine SO Tryz.func82 rfl rfl [(0, .p (.agg (encHierarchy p0))), (1, pI p1)] [] ?_
 intro cx hnt
 refine DW.seq (RK hnt (nn 2 []) [(1, pI p1), (2, rr 1016)] [(1016, bx (pm (encHierarchy p0)))] trivial ?_)
 obtain ⟨r1, hr1, hm⟩ := bind_open hm
 refine DW.seq (DW.seq (RD hnt (.no :: .call 129 [] true (pB r1) [] [] :: .no :: []) [] [(9, pB (!r1))] [] [] (an (Fits_ref8Spec p0 r1 hr1) trivial) ?_))
 refine condM hm ?_ ?_
 ·intro h2 hm
  refine DW.seq (RK hnt (.no :: []) [(4, pI 1)] [] trivial ?_)
  refine DW.ret ?_
  obtain rfl := Option.some.inj hm
  exact retK [] [] (pI 1)
 ·intro h2 hm
  refine DW.skip ?_
  obtain ⟨r3, hr3, hm⟩ := bind_open hm
  refine DW.seq (RD hnt (nn 3 (.call 135 [] true (.p (.tup [.agg (encNode r3.1), vb r3.2])) [] [] :: nn 6 [])) [9] [(5, rr 1040), (6, pB r3.2)] [] [(1040, bx (pm (encNode r3.1)))] (an (Find_ref5Spec p0.tree p1 r3 hr3) trivial) ?_)
  refine DW.seq (DW.block ?_)
  refine DW.seq (RD hnt (nn 3 []) [6] [(17, pB (!r3.2))] [] [] trivial ?_)
  refine condM hm ?_ ?_
  ·intro h4 hm
   refine DW.seq (RK hnt (.no :: []) [(4, pI 4)] [] trivial ?_)
   refine DW.ret ?_
   obtain rfl := Option.some.inj hm
   exact retK [] [] (pI 4)
  ·intro h4 hm
   obtain ⟨r5, hr5, hm⟩ := bind_open hm
   refine DW.seq (RD hnt (nn 3 (.call 130 [] true (pI r5) [] [] :: nn 2 [])) [2, 17] [(20, pB (r5 == 3))] [1016] [] (an (Type_ref8Spec p0.tree p1 r5 hr5) trivial) ?_)
   refine condM hm ?_ ?_
   ·intro h6 hm
    refine DW.seq (RK hnt (.no :: []) [(4, pI 10)] [] trivial ?_)
    refine DW.ret ?_
    obtain rfl := Option.some.inj hm
    exact retK [] [] (pI 10)
   ·intro h6 hm
    refine DW.seq (DW.regJ (sl2 := [(26, pB ((p1 != 1) && ((kand .i64 r3.1.control 6) != 0)))]) (ob2 := []) ?_ ?_)
    ·rcases bt (p1 != 1) with h7 | h7
     ·exact RT hnt (nn 7 (pT :: .no :: [])) [(26, pB ((kand .i64 r3.1.control 6) != 0))] (an5 h7 trivial) (by kernel_rfl) (.cons rfl (.of_eq (by rw [h7]; try rfl)) .nil)
     ·exact RT hnt (nn 3 (sk 4 (pF :: .no :: []))) [(26, pB false)] (an5 h7 trivial) (by kernel_rfl) (.cons rfl (.of_eq (by rw [h7]; try rfl)) .nil)
    ·refine condM hm ?_ ?_
     ·intro h8 hm
      refine DW.seq (RK hnt (.no :: []) [(4, pI 6)] [] trivial ?_)
      refine DW.ret ?_
      obtain rfl := Option.some.inj hm
      exact retK [] [] (pI 6)
     ·intro h8 hm
      refine DW.skip ?_
      refine DW.done ?_
      show DW _ _ _ _ _
      refine DW.seq (RK hnt (.no :: []) [(4, pI 0)] [] trivial ?_)
      refine DW.ret ?_
      obtain rfl := Option.some.inj hm
      exact retK [] [] (pI 0)

theorem Task_Dice_madeSpec (p0 : Dice) (p1 : Hierarchy) (RES : Int × Dice) (hm : Task_Dice_made p0 p1 = some RES) : Spec Tryz.prog 47 [rr 0, .p (.agg (encHierarchy p1))] [.box (pm (encDice p0))] (pI RES.1) [.box (pm (encDice RES.2))] [] := by
 unfold Task_Dice_made at hm
 refine SO Tryz.func47 rfl rfl [(0, rr 0), (1, .p (.agg (encHierarchy p1)))] [(0, bx (pm (encDice p0)))] ?_
 intro cx hnt
 refine DW.seq (RD hnt (nn 2 []) [1] [(3, rr 1024)] [] [(1024, bx (pm (encHierarchy p1)))] trivial ?_)
 obtain ⟨r1, hr1, hm⟩ := bind_open hm
 refine DW.seq (DW.seq ?_)
 refine DW.join (ι := Bool) (fun (y1 : Bool) => mkSt [(0, rr 0), (3, rr 1024), (12, pB y1)] [(0, bx (pm (encDice r1.2))), (1024, bx (pm (encHierarchy p1)))]) (fun y1 => (Task_Dice_madeJ1 p1 r1) y1 = some RES) ?_ ?_
 ·intro y1 hm
  unfold Task_Dice_madeJ1 at hm
  refine condM hm ?_ ?_
  ·intro h3 hm
   obtain ⟨r4, hr4, hm⟩ := bind_open hm
   refine DW.seq (RK hnt (.no :: .call 19 [0] true (pI r4.1) [.box (pm (encDice r4.2))] [] :: nn 2 []) [(4, pI (w64 (r4.1 - 1)))] [(0, bx (pm (encDice r4.2)))] (an (Next_Dice_madeSpec r1.2 9 r4 hr4) (an trivial trivial)) ?_)
   refine DW.ret ?_
   obtain rfl := Option.some.inj hm
   exact retK [.box (pm (encDice r4.2))] [] (pI (w64 (r4.1 - 1)))
  ·intro h3 hm
   refine DW.skip ?_
   obtain ⟨r5, hr5, hm⟩ := bind_open hm
   obtain ⟨g6, hm⟩ := guard_open hm
   refine DW.seq (RK hnt (nn 6 (.call 19 [0] true (pI r5.1) [.box (pm (encDice r5.2))] [] :: nn 4 [])) [(4, pI (p1.tasks.getD (Int.toNat r5.1) dTask).id)] [(0, bx (pm (encDice r5.2)))] (an (Next_Dice_madeSpec r1.2 ((p1.tasks.length : Nat) : Int) r5 hr5) (an trivial (an g6.1 (an g6.2 trivial)))) ?_)
   refine DW.ret ?_
   obtain rfl := Option.some.inj hm
   exact retK [.box (pm (encDice r5.2))] [] (pI (p1.tasks.getD (Int.toNat r5.1) dTask).id)
 ·rcases bt r1.1 with h2 | h2
  ·replace hm := if_t h2 hm
   refine RD hnt (.no :: .call 77 [0] true (pB r1.1) [.box (pm (encDice r1.2))] [] :: .no :: sk 4 (pT :: [])) [] [(12, pB true)] [] [(0, bx (pm (encDice r1.2)))] (an (Bool_Dice_madeSpec p0 15 r1 hr1) (an trivial (an5 h2 trivial))) ?_
   exact joinDone true hm Conv.eqK
  ·replace hm := if_f h2 hm
   refine RD hnt (.no :: .call 77 [0] true (pB r1.1) [.box (pm (encDice r1.2))] [] :: nn 5 (pF :: [])) [] [(12, pB (((p1.tasks.length : Nat) : Int) == 0))] [] [(0, bx (pm (encDice r1.2)))] (an (Bool_Dice_madeSpec p0 15 r1 hr1) (an trivial (an5 h2 trivial))) ?_
   exact joinDone (((p1.tasks.length : Nat) : Int) == 0) hm Conv.eqK

abbrev c67e1 : Nat × Obj := (1032, bx [ow 100000 0, pI 0, .p (.sl .nil 0 0 (fun _ => [])), pI 0])
abbrev c67e2 : Nat × Obj := (1032, bx [.p (.sl .nil 0 0 (fun _ => [])), pI 0, .p (.sl .nil 0 0 (fun _ => [])), pI 0])
abbrev c67e3 : Nat × Obj := (1032, bx [ow 100000 0, pI 0, ow 100001 0, pI 0])
theorem Clone_ref6Spec (p0 : Hierarchy) (p1 : Int) (RES : Hierarchy × Int × Int) (hm : Clone_ref6 p0 p1 = some RES) : Spec Tryz.prog 67 [.p (.agg (encHierarchy p0)), pI p1] [] (.tup [.agg [ow 0 RES.1.tree.nodes.length, pI RES.1.tree.next, ow 1 RES.1.tasks.length, pI RES.1.next], pI RES.2.1, pI RES.2.2]) [] [roNode RES.1.tree.nodes, roTask RES.1.tasks] := by
 unfold Clone_ref6 at hm
 refine SO Tryz.func67 rfl rfl [(0, .p (.agg (encHierarchy p0))), (1, pI p1)] [] ?_
 intro cx hnt
 refine DW.seq (RK hnt (nn 4 []) [(1, pI p1), (2, rr 1016), (4, rr 1032)] [(1016, bx (pm (encHierarchy p0))), (c67e2)] trivial ?_)
 obtain ⟨r1, hr1, hm⟩ := bind_open hm
 refine DW.seq (DW.seq (RD hnt (.no :: .call 52 [] true (pB r1) [] [] :: .no :: []) [] [(11, pB (!r1))] [] [] (an (Check_ref6Spec p0 r1 hr1) trivial) ?_))
 refine condM hm ?_ ?_
 ·intro h2 hm
  refine DW.seq (RD hnt (nn 4 []) [1, 2, 11] [(5, pI 0), (6, pI 1)] [1016] [] trivial ?_)
  refine DW.conv (τ := mkSt [(4, rr 1032), (5, pI 0), (6, pI 1)] [(c67e3), (100000, ob0 (roNode [])), (100001, ob0 (roTask []))]) (Conv.trans (τ := mkSt [(4, rr 1032), (5, pI 0), (6, pI 1)] [(c67e2)]) Conv.eqK (Conv.trans (τ := mkSt [(4, rr 1032), (5, pI 0), (6, pI 1)] ((100000, ⟨0, .row 6 0 (elems encNode dNode [])⟩) :: [(c67e1)])) (Conv.adopt 100000 6 (elems encNode dNode []) rfl rfl (.rfl _) (.box (.cons (.nil _ _) (.cons (.rfl _) (.cons (.rfl _) (.cons (.rfl _) (.rfl _))))) (.rfl _))) (Conv.trans (τ := mkSt [(4, rr 1032), (5, pI 0), (6, pI 1)] [(c67e1), (100000, ob0 (roNode []))]) Conv.t0 (Conv.trans (τ := mkSt [(4, rr 1032), (5, pI 0), (6, pI 1)] ((100001, ⟨0, .row 4 0 (elems encTask dTask [])⟩) :: [(c67e3), (100000, ob0 (roNode []))])) (Conv.adopt 100001 4 (elems encTask dTask []) rfl rfl (.rfl _) (.box (.cons (.rfl _) (.cons (.rfl _) (.cons (.nil _ _) (.cons (.rfl _) (.rfl _))))) (.keep (.rfl _)))) Conv.t0)))) ?_
  refine DW.ret ?_
  obtain rfl := Option.some.inj hm
  exact retK [roNode [], roTask []] [100000, 100001] (.tup [.agg [ow 0 0, pI 0, ow 1 0, pI 0], pI 0, pI 1])
 ·intro h2 hm
  refine DW.skip ?_
  obtain ⟨r3, hr3, hm⟩ := bind_open hm
  refine DW.seq (RD hnt (nn 2 (.call 53 [] true (.p (.tup [.agg (encTask r3.1), vb r3.2])) [] [] :: nn 6 [])) [1, 11] [(7, rr 1056), (8, pB r3.2)] [] [(1056, bx (pm (encTask r3.1)))] (an (Find_ref6Spec p0 p1 r3 hr3) trivial) ?_)
  refine DW.seq (DW.seq (RD hnt (nn 2 []) [8] [(20, pB (!r3.2))] [] [] trivial ?_))
  refine condM hm ?_ ?_
  ·intro h4 hm
   refine DW.seq (RD hnt (nn 4 []) [2, 7, 20] [(5, pI 0), (6, pI 4)] [1016, 1056] [] trivial ?_)
   refine DW.conv (τ := mkSt [(4, rr 1032), (5, pI 0), (6, pI 4)] [(c67e3), (100000, ob0 (roNode [])), (100001, ob0 (roTask []))]) (Conv.trans (τ := mkSt [(4, rr 1032), (5, pI 0), (6, pI 4)] [(c67e2)]) Conv.eqK (Conv.trans (τ := mkSt [(4, rr 1032), (5, pI 0), (6, pI 4)] ((100000, ⟨0, .row 6 0 (elems encNode dNode [])⟩) :: [(c67e1)])) (Conv.adopt 100000 6 (elems encNode dNode []) rfl rfl (.rfl _) (.box (.cons (.nil _ _) (.cons (.rfl _) (.cons (.rfl _) (.cons (.rfl _) (.rfl _))))) (.rfl _))) (Conv.trans (τ := mkSt [(4, rr 1032), (5, pI 0), (6, pI 4)] [(c67e1), (100000, ob0 (roNode []))]) Conv.t0 (Conv.trans (τ := mkSt [(4, rr 1032), (5, pI 0), (6, pI 4)] ((100001, ⟨0, .row 4 0 (elems encTask dTask [])⟩) :: [(c67e3), (100000, ob0 (roNode []))])) (Conv.adopt 100001 4 (elems encTask dTask []) rfl rfl (.rfl _) (.box (.cons (.rfl _) (.cons (.rfl _) (.cons (.nil _ _) (.cons (.rfl _) (.rfl _))))) (.keep (.rfl _)))) Conv.t0)))) ?_
   refine DW.ret ?_
   obtain rfl := Option.some.inj hm
   exact retK [roNode [], roTask []] [100000, 100001] (.tup [.agg [ow 0 0, pI 0, ow 1 0, pI 0], pI 0, pI 4])
  ·intro h4 hm
   refine DW.skip ?_
   obtain ⟨r5, hr5, hm⟩ := bind_open hm
   refine DW.seq (RK hnt (nn 2 (.call 121 [] true (.tup [.agg [ow 0 r5.1.tree.nodes.length, pI r5.1.tree.next, ow 1 r5.1.tasks.length, pI r5.1.next], pI r5.2.1, pI r5.2.2]) [] [roNode r5.1.tree.nodes, roTask r5.1.tasks] :: nn 6 [])) [(4, rr 1032), (5, pI r5.2.1), (6, pI r5.2.2)] [(1032, bx [ow 1192 r5.1.tree.nodes.length, pI r5.1.tree.next, ow 1193 r5.1.tasks.length, pI r5.1.next]), (1192, ob0 (roNode r5.1.tree.nodes)), (1193, ob0 (roTask r5.1.tasks))] (an (add_ref6Spec p0 r3.1 r5 hr5) trivial) ?_)
   refine DW.ret ?_
   obtain rfl := Option.some.inj hm
   exact retK [roNode r5.1.tree.nodes, roTask r5.1.tasks] [1192, 1193] (.tup [.agg [ow 0 r5.1.tree.nodes.length, pI r5.1.tree.next, ow 1 r5.1.tasks.length, pI r5.1.next], pI r5.2.1, pI r5.2.2])

abbrev c70e1 : Nat × Obj := (1048, bx [.p (.sl .nil 0 0 (fun _ => [])), pI 0, .p (.sl .nil 0 0 (fun _ => [])), pI 0])
abbrev c70e2 : Nat × Obj := (1048, bx [ow 100000 0, pI 0, .p (.sl .nil 0 0 (fun _ => [])), pI 0])
abbrev c70e3 : Nat × Obj := (1048, bx [ow 100000 0, pI 0, ow 100001 0, pI 0])
theorem Place_ref6Spec (p0 : Hierarchy) (p1 : Int) (p2 : Int) (RES : Hierarchy × Int) (hm : Place_ref6 p0 p1 p2 = some RES) : Spec Tryz.prog 70 [.p (.agg (encHierarchy p0)), pI p1, pI p2] [] (.tup [.agg [ow 0 RES.1.tree.nodes.length, pI RES.1.tree.next, ow 1 RES.1.tasks.length, pI RES.1.next], pI RES.2]) [] [roNode RES.1.tree.nodes, roTask RES.1.tasks] := by
 unfold Place_ref6 at hm
 refine SO Tryz.func70 rfl rfl [(0, .p (.agg (encHierarchy p0))), (1, pI p1), (2, pI p2)] [] ?_
 intro cx hnt
 refine DW.seq (RD hnt (nn 3 []) [0] [(3, rr 1024), (6, rr 1048)] [] [(1024, bx (pm (encHierarchy p0))), (c70e1)] trivial ?_)
 obtain ⟨r1, hr1, hm⟩ := bind_open hm
 refine DW.seq (DW.seq (RD hnt (.no :: .call 52 [] true (pB r1) [] [] :: .no :: []) [] [(14, pB (!r1))] [] [] (an (Check_ref6Spec p0 r1 hr1) trivial) ?_))
 refine condM hm ?_ ?_
 ·intro h2 hm
  refine DW.seq (RD hnt (nn 3 []) [1, 2, 3, 14] [(7, pI 1)] [1024] [] trivial ?_)
  refine DW.conv (τ := mkSt [(6, rr 1048), (7, pI 1)] [(c70e3), (100000, ob0 (roNode [])), (100001, ob0 (roTask []))]) (Conv.trans (τ := mkSt [(6, rr 1048), (7, pI 1)] [(c70e1)]) Conv.eqK (Conv.trans (τ := mkSt [(6, rr 1048), (7, pI 1)] ((100000, ⟨0, .row 6 0 (elems encNode dNode [])⟩) :: [(c70e2)])) (Conv.adopt 100000 6 (elems encNode dNode []) rfl rfl (.rfl _) (.box (.cons (.nil _ _) (.cons (.rfl _) (.cons (.rfl _) (.cons (.rfl _) (.rfl _))))) (.rfl _))) (Conv.trans (τ := mkSt [(6, rr 1048), (7, pI 1)] [(c70e2), (100000, ob0 (roNode []))]) Conv.t0 (Conv.trans (τ := mkSt [(6, rr 1048), (7, pI 1)] ((100001, ⟨0, .row 4 0 (elems encTask dTask [])⟩) :: [(c70e3), (100000, ob0 (roNode []))])) (Conv.adopt 100001 4 (elems encTask dTask []) rfl rfl (.rfl _) (.box (.cons (.rfl _) (.cons (.rfl _) (.cons (.nil _ _) (.cons (.rfl _) (.rfl _))))) (.keep (.rfl _)))) Conv.t0)))) ?_
  refine DW.ret ?_
  obtain rfl := Option.some.inj hm
  exact retK [roNode [], roTask []] [100000, 100001] (.tup [.agg [ow 0 0, pI 0, ow 1 0, pI 0], pI 1])
 ·intro h2 hm
  refine DW.skip ?_
  obtain ⟨r3, hr3, hm⟩ := bind_open hm
  refine DW.seq (DW.seq (RD hnt (nn 2 (.call 53 [] true (.p (.tup [.agg (encTask r3.1), vb r3.2])) [] [] :: nn 6 [])) [14] [(9, pB r3.2)] [] [] (an (Find_ref6Spec p0 p1 r3 hr3) trivial) ?_))
  refine DW.seq ?_
  refine DW.join (ι := Bool) (fun (y1 : Bool) => mkSt [(1, pI p1), (2, pI p2), (3, rr 1024), (6, rr 1048), (30, pB y1)] [(1024, bx (pm (encHierarchy p0))), (c70e1)]) (fun y1 => (Place_ref6J1 p0 p1 p2) y1 = some RES) ?_ ?_
  ·intro y1 hm
   unfold Place_ref6J1 at hm
   refine condM hm ?_ ?_
   ·intro h6 hm
    refine DW.seq (RD hnt (nn 3 []) [1, 2, 3, 30] [(7, pI 4)] [1024] [] trivial ?_)
    refine DW.conv (τ := mkSt [(6, rr 1048), (7, pI 4)] [(c70e3), (100000, ob0 (roNode [])), (100001, ob0 (roTask []))]) (Conv.trans (τ := mkSt [(6, rr 1048), (7, pI 4)] [(c70e1)]) Conv.eqK (Conv.trans (τ := mkSt [(6, rr 1048), (7, pI 4)] ((100000, ⟨0, .row 6 0 (elems encNode dNode [])⟩) :: [(c70e2)])) (Conv.adopt 100000 6 (elems encNode dNode []) rfl rfl (.rfl _) (.box (.cons (.nil _ _) (.cons (.rfl _) (.cons (.rfl _) (.cons (.rfl _) (.rfl _))))) (.rfl _))) (Conv.trans (τ := mkSt [(6, rr 1048), (7, pI 4)] [(c70e2), (100000, ob0 (roNode []))]) Conv.t0 (Conv.trans (τ := mkSt [(6, rr 1048), (7, pI 4)] ((100001, ⟨0, .row 4 0 (elems encTask dTask [])⟩) :: [(c70e3), (100000, ob0 (roNode []))])) (Conv.adopt 100001 4 (elems encTask dTask []) rfl rfl (.rfl _) (.box (.cons (.rfl _) (.cons (.rfl _) (.cons (.nil _ _) (.cons (.rfl _) (.rfl _))))) (.keep (.rfl _)))) Conv.t0)))) ?_
    refine DW.ret ?_
    obtain rfl := Option.some.inj hm
    exact retK [roNode [], roTask []] [100000, 100001] (.tup [.agg [ow 0 0, pI 0, ow 1 0, pI 0], pI 4])
   ·intro h6 hm
    refine DW.skip ?_
    obtain ⟨r7, hr7, hm⟩ := bind_open hm
    refine DW.seq (RD hnt (.no :: .call 105 [] true (.agg [ow 0 r7.tree.nodes.length, pI r7.tree.next, ow 1 r7.tasks.length, pI r7.next]) [] [roNode r7.tree.nodes, roTask r7.tasks] :: nn 2 []) [3, 30] [(10, rr 1080)] [1024] [(1080, bx [ow 1264 r7.tree.nodes.length, pI r7.tree.next, ow 1265 r7.tasks.length, pI r7.next]), (1264, ob0 (roNode r7.tree.nodes)), (1265, ob0 (roTask r7.tasks))] (an (Copy_ref6Spec p0 r7 hr7) trivial) ?_)
    refine DW.seq (DW.seq (RD hnt (.no :: []) [] [(11, pI 0)] [] [] trivial ?_))
    refine DW.block ?_
    refine DW.whileO (fun (s1 : (List Task) × Int) => mkSt [(1, pI p1), (2, pI p2), (6, rr 1048), (10, rr 1080), (11, pI s1.2)] [(c70e1), (1080, bx [ow 1264 r7.tree.nodes.length, pI r7.tree.next, ow 1265 s1.1.length, pI r7.next]), (1264, ob0 (roNode r7.tree.nodes)), (1265, ob0 (roTask s1.1))]) hm Conv.eqK ?_
    intro s1 n1 hm
    unfold Place_ref6L1 at hm
    refine DW.seq (DW.seq (RD hnt (nn 5 []) [] [(38, pB (decide (s1.2 < ((s1.1.length : Nat) : Int))))] [] [] trivial ?_))
    refine condM hm ?_ ?_
    ·intro h14 hm
     refine DW.skip ?_
     refine DW.seq ?_
     refine DW.join (ι := List Task) (fun (y3 : List Task) => mkSt [(1, pI p1), (2, pI p2), (6, rr 1048), (10, rr 1080), (11, pI s1.2)] [(c70e1), (1080, bx [ow 1264 r7.tree.nodes.length, pI r7.tree.next, ow 1265 y3.length, pI r7.next]), (1264, ob0 (roNode r7.tree.nodes)), (1265, ob0 (roTask y3))]) (fun y3 => (Place_ref6J3 s1 n1) y3 = some RES) ?_ ?_
     ·intro y3 hm
      unfold Place_ref6J3 at hm
      refine RD hnt (nn 3 []) [] [(11, pI (w64 (s1.2 + 1)))] [] [] trivial ?_
      exact joinDone (y3, (w64 (s1.2 + 1))) hm Conv.eqK
     ·refine DW.block ?_
      obtain ⟨g15, g16, hm⟩ := go2 hm
      refine DW.seq (RD hnt (nn 8 []) [38] [(48, pB ((s1.1.getD (Int.toNat s1.2) dTask).id == p1))] [] [] (an g15.1 (an g15.2 (an g16 trivial))) ?_)
      refine condM hm ?_ ?_
      ·intro h17 hm
       obtain ⟨g18, g19, hm⟩ := go2 hm
       refine RN hnt (nn 7 []) [(1, pI p1), (2, pI p2), (6, rr 1048), (10, rr 1080), (11, pI s1.2)] [(c70e1), (1080, bx [ow 1264 r7.tree.nodes.length, pI r7.tree.next, ow 1265 (s1.1.set (Int.toNat s1.2) ({ id := (s1.1.getD (Int.toNat s1.2) dTask).id, process := (s1.1.getD (Int.toNat s1.2) dTask).process, group := p2, user := (s1.1.getD (Int.toNat s1.2) dTask).user } : Task)).length, pI r7.next]), (1264, ob0 (roNode r7.tree.nodes)), (1265, ob0 (roTask (s1.1.set (Int.toNat s1.2) ({ id := (s1.1.getD (Int.toNat s1.2) dTask).id, process := (s1.1.getD (Int.toNat s1.2) dTask).process, group := p2, user := (s1.1.getD (Int.toNat s1.2) dTask).user } : Task))))] [] [(1080, .box [ow 1264 r7.tree.nodes.length, pI r7.tree.next, ow 1265 s1.1.length, pI r7.next]), (1265, .row 4 s1.1.length (updF (elTask s1.1) (Int.toNat s1.2) [vi (s1.1.getD (Int.toNat s1.2) dTask).id, vi (s1.1.getD (Int.toNat s1.2) dTask).process, vi p2, vi (s1.1.getD (Int.toNat s1.2) dTask).user]))] (an g18.1 (an g18.2 (an g19 trivial))) (by kernel_rfl) .nil (.cons rfl (.box (.cons .rfl (.cons .rfl (.cons (MLe.ownLen (enc := encTask) (d := dTask) (f := (updF (elTask s1.1) (Int.toNat s1.2) [vi (s1.1.getD (Int.toNat s1.2) dTask).id, vi (s1.1.getD (Int.toNat s1.2) dTask).process, vi p2, vi (s1.1.getD (Int.toNat s1.2) dTask).user])) (RowIs.upd RowIs.elems ({ id := (s1.1.getD (Int.toNat s1.2) dTask).id, process := (s1.1.getD (Int.toNat s1.2) dTask).process, group := p2, user := (s1.1.getD (Int.toNat s1.2) dTask).user } : Task) rfl)) (.cons .rfl .nil))))) (.cons rfl (BLe.typed (RowIs.upd RowIs.elems ({ id := (s1.1.getD (Int.toNat s1.2) dTask).id, process := (s1.1.getD (Int.toNat s1.2) dTask).process, group := p2, user := (s1.1.getD (Int.toNat s1.2) dTask).user } : Task) rfl)) .nil)) ?_
       exact blockDone (s1.1.set (Int.toNat s1.2) ({ id := (s1.1.getD (Int.toNat s1.2) dTask).id, process := (s1.1.getD (Int.toNat s1.2) dTask).process, group := p2, user := (s1.1.getD (Int.toNat s1.2) dTask).user } : Task)) hm .refl
      ·intro h17 hm
       refine DW.skip ?_
       exact blockDone s1.1 hm Conv.t0
    ·intro h14 hm
     refine DW.exit ?_
     refine joinQ_exit ?_
     refine KQ_exit ?_
     refine blockQ_exit ?_
     show DW _ _ _ _ _
     refine DW.seq (RD hnt (nn 3 []) [1, 2, 10, 11, 38] [(7, pI 0)] [1080] [(1048, bx [ow 1264 r7.tree.nodes.length, pI r7.tree.next, ow 1265 s1.1.length, pI r7.next])] trivial ?_)
     refine DW.ret ?_
     obtain rfl := Option.some.inj hm
     exact retK [roNode r7.tree.nodes, roTask s1.1] [1264, 1265] (.tup [.agg [ow 0 r7.tree.nodes.length, pI r7.tree.next, ow 1 s1.1.length, pI r7.next], pI 0])
  ·rcases bt (!r3.2) with h4 | h4
   ·replace hm := if_t h4 hm
    refine RD hnt (nn 3 (sk 5 (pT :: []))) [9] [(30, pB true)] [] [] (an6 h4 trivial) ?_
    exact joinDone true hm Conv.eqK
   ·replace hm := if_f h4 hm
    obtain ⟨r5, hr5, hm⟩ := bind_open hm
    refine RD hnt (nn 6 (.call 88 [] true (pB r5) [] [] :: .no :: pF :: [])) [9] [(30, pB (!r5))] [] [] (an4 h4 (an (Has_ref5Spec p0.tree p2 r5 hr5) (an2 h4 trivial))) ?_
    exact joinDone (!r5) hm Conv.eqK

abbrev c83e1 : Nat × Obj := (1048, bx [ow 100000 0, pI 0, .p (.sl .nil 0 0 (fun _ => [])), pI 0])
abbrev c83e2 : Nat × Obj := (1048, bx [.p (.sl .nil 0 0 (fun _ => [])), pI 0, .p (.sl .nil 0 0 (fun _ => [])), pI 0])
abbrev c83e3 : Nat × Obj := (1048, bx [ow 100000 0, pI 0, ow 100001 0, pI 0])
theorem AttachThread_ref8Spec (p0 : Hierarchy) (p1 : Int) (p2 : Int) (RES : Hierarchy × Int) (hm : AttachThread_ref8 p0 p1 p2 = some RES) : Spec Tryz.prog 83 [.p (.agg (encHierarchy p0)), pI p1, pI p2] [] (.tup [.agg [ow 0 RES.1.tree.nodes.length, pI RES.1.tree.next, ow 1 RES.1.tasks.length, pI RES.1.next], pI RES.2]) [] [roNode RES.1.tree.nodes, roTask RES.1.tasks] := by
 unfold AttachThread_ref8 at hm
 refine SO Tryz.func83 rfl rfl [(0, .p (.agg (encHierarchy p0))), (1, pI p1), (2, pI p2)] [] ?_
 intro cx hnt
 refine DW.seq (RD hnt (nn 3 []) [0] [(3, rr 1024), (6, rr 1048)] [] [(1024, bx (pm (encHierarchy p0))), (c83e2)] trivial ?_)
 obtain ⟨r1, hr1, hm⟩ := bind_open hm
 refine DW.seq (DW.seq (RD hnt (.no :: .call 129 [] true (pB r1) [] [] :: .no :: []) [] [(17, pB (!r1))] [] [] (an (Fits_ref8Spec p0 r1 hr1) trivial) ?_))
 refine condM hm ?_ ?_
 ·intro h2 hm
  refine DW.seq (RD hnt (nn 3 []) [1, 2, 3, 17] [(7, pI 1)] [1024] [] trivial ?_)
  refine DW.conv (τ := mkSt [(6, rr 1048), (7, pI 1)] [(c83e3), (100000, ob0 (roNode [])), (100001, ob0 (roTask []))]) (Conv.trans (τ := mkSt [(6, rr 1048), (7, pI 1)] [(c83e2)]) Conv.eqK (Conv.trans (τ := mkSt [(6, rr 1048), (7, pI 1)] ((100000, ⟨0, .row 6 0 (elems encNode dNode [])⟩) :: [(c83e1)])) (Conv.adopt 100000 6 (elems encNode dNode []) rfl rfl (.rfl _) (.box (.cons (.nil _ _) (.cons (.rfl _) (.cons (.rfl _) (.cons (.rfl _) (.rfl _))))) (.rfl _))) (Conv.trans (τ := mkSt [(6, rr 1048), (7, pI 1)] [(c83e1), (100000, ob0 (roNode []))]) Conv.t0 (Conv.trans (τ := mkSt [(6, rr 1048), (7, pI 1)] ((100001, ⟨0, .row 4 0 (elems encTask dTask [])⟩) :: [(c83e3), (100000, ob0 (roNode []))])) (Conv.adopt 100001 4 (elems encTask dTask []) rfl rfl (.rfl _) (.box (.cons (.rfl _) (.cons (.rfl _) (.cons (.nil _ _) (.cons (.rfl _) (.rfl _))))) (.keep (.rfl _)))) Conv.t0)))) ?_
  refine DW.ret ?_
  obtain rfl := Option.some.inj hm
  exact retK [roNode [], roTask []] [100000, 100001] (.tup [.agg [ow 0 0, pI 0, ow 1 0, pI 0], pI 1])
 ·intro h2 hm
  refine DW.skip ?_
  obtain ⟨r3, hr3, hm⟩ := bind_open hm
  refine DW.seq (RD hnt (nn 2 (.call 53 [] true (.p (.tup [.agg (encTask r3.1), vb r3.2])) [] [] :: nn 6 [])) [17] [(8, rr 1064), (9, pB r3.2)] [] [(1064, bx (pm (encTask r3.1)))] (an (Find_ref6Spec p0 p1 r3 hr3) trivial) ?_)
  refine DW.seq (DW.seq ?_)
  refine DW.join (ι := Bool) (fun (y1 : Bool) => mkSt [(1, pI p1), (2, pI p2), (3, rr 1024), (6, rr 1048), (8, rr 1064), (33, pB y1)] [(1024, bx (pm (encHierarchy p0))), (c83e2), (1064, bx (pm (encTask r3.1)))]) (fun y1 => (AttachThread_ref8J1 p0 p1 p2 r3) y1 = some RES) ?_ ?_
  ·intro y1 hm
   unfold AttachThread_ref8J1 at hm
   refine condM hm ?_ ?_
   ·intro h6 hm
    refine DW.seq (RD hnt (nn 3 []) [1, 2, 3, 8, 33] [(7, pI 4)] [1024, 1064] [] trivial ?_)
    refine DW.conv (τ := mkSt [(6, rr 1048), (7, pI 4)] [(c83e3), (100000, ob0 (roNode [])), (100001, ob0 (roTask []))]) (Conv.trans (τ := mkSt [(6, rr 1048), (7, pI 4)] [(c83e2)]) Conv.eqK (Conv.trans (τ := mkSt [(6, rr 1048), (7, pI 4)] ((100000, ⟨0, .row 6 0 (elems encNode dNode [])⟩) :: [(c83e1)])) (Conv.adopt 100000 6 (elems encNode dNode []) rfl rfl (.rfl _) (.box (.cons (.nil _ _) (.cons (.rfl _) (.cons (.rfl _) (.cons (.rfl _) (.rfl _))))) (.rfl _))) (Conv.trans (τ := mkSt [(6, rr 1048), (7, pI 4)] [(c83e1), (100000, ob0 (roNode []))]) Conv.t0 (Conv.trans (τ := mkSt [(6, rr 1048), (7, pI 4)] ((100001, ⟨0, .row 4 0 (elems encTask dTask [])⟩) :: [(c83e3), (100000, ob0 (roNode []))])) (Conv.adopt 100001 4 (elems encTask dTask []) rfl rfl (.rfl _) (.box (.cons (.rfl _) (.cons (.rfl _) (.cons (.nil _ _) (.cons (.rfl _) (.rfl _))))) (.keep (.rfl _)))) Conv.t0)))) ?_
    refine DW.ret ?_
    obtain rfl := Option.some.inj hm
    exact retK [roNode [], roTask []] [100000, 100001] (.tup [.agg [ow 0 0, pI 0, ow 1 0, pI 0], pI 4])
   ·intro h6 hm
    refine DW.skip ?_
    obtain ⟨r7, hr7, hm⟩ := bind_open hm
    refine DW.seq (DW.seq (RD hnt (nn 2 (.call 82 [] true (pI r7) [] [] :: .no :: [])) [33] [(10, pI r7)] [] [] (an (Admits_ref8Spec p0 p2 r7 hr7) trivial) ?_))
    refine DW.seq (RD hnt (nn 2 []) [] [(39, pB (r7 != 0))] [] [] trivial ?_)
    refine condM hm ?_ ?_
    ·intro h8 hm
     refine DW.seq (RD hnt (nn 4 []) [1, 2, 3, 8, 10, 39] [(7, pI r7)] [1024, 1064] [] trivial ?_)
     refine DW.conv (τ := mkSt [(6, rr 1048), (7, pI r7)] [(c83e3), (100000, ob0 (roNode [])), (100001, ob0 (roTask []))]) (Conv.trans (τ := mkSt [(6, rr 1048), (7, pI r7)] [(c83e2)]) Conv.eqK (Conv.trans (τ := mkSt [(6, rr 1048), (7, pI r7)] ((100000, ⟨0, .row 6 0 (elems encNode dNode [])⟩) :: [(c83e1)])) (Conv.adopt 100000 6 (elems encNode dNode []) rfl rfl (.rfl _) (.box (.cons (.nil _ _) (.cons (.rfl _) (.cons (.rfl _) (.cons (.rfl _) (.rfl _))))) (.rfl _))) (Conv.trans (τ := mkSt [(6, rr 1048), (7, pI r7)] [(c83e1), (100000, ob0 (roNode []))]) Conv.t0 (Conv.trans (τ := mkSt [(6, rr 1048), (7, pI r7)] ((100001, ⟨0, .row 4 0 (elems encTask dTask [])⟩) :: [(c83e3), (100000, ob0 (roNode []))])) (Conv.adopt 100001 4 (elems encTask dTask []) rfl rfl (.rfl _) (.box (.cons (.rfl _) (.cons (.rfl _) (.cons (.nil _ _) (.cons (.rfl _) (.rfl _))))) (.keep (.rfl _)))) Conv.t0)))) ?_
     refine DW.ret ?_
     obtain rfl := Option.some.inj hm
     exact retK [roNode [], roTask []] [100000, 100001] (.tup [.agg [ow 0 0, pI 0, ow 1 0, pI 0], pI r7])
    ·intro h8 hm
     refine DW.skip ?_
     obtain ⟨r9, hr9, hm⟩ := bind_open hm
     refine DW.seq (RD hnt (nn 3 (.call 137 [] true (.p (.tup [vi r9.1, vb r9.2])) [] [] :: nn 5 [])) [10, 39] [(11, pI r9.1)] [] [] (an (Domain_ref8Spec p0.tree p2 r9 hr9) trivial) ?_)
     obtain ⟨r10, hr10, hm⟩ := bind_open hm
     refine DW.seq (DW.seq (RD hnt (nn 4 (.call 137 [] true (.p (.tup [vi r10.1, vb r10.2])) [] [] :: nn 5 [])) [8] [(13, pI r10.1)] [1064] [] (an (Domain_ref8Spec p0.tree r3.1.group r10 hr10) trivial) ?_))
     refine DW.seq (RD hnt (nn 3 []) [11, 13] [(59, pB (r9.1 != r10.1))] [] [] trivial ?_)
     refine condM hm ?_ ?_
     ·intro h11 hm
      refine DW.seq (RD hnt (nn 3 []) [1, 2, 3, 59] [(7, pI 9)] [1024] [] trivial ?_)
      refine DW.conv (τ := mkSt [(6, rr 1048), (7, pI 9)] [(c83e3), (100000, ob0 (roNode [])), (100001, ob0 (roTask []))]) (Conv.trans (τ := mkSt [(6, rr 1048), (7, pI 9)] [(c83e2)]) Conv.eqK (Conv.trans (τ := mkSt [(6, rr 1048), (7, pI 9)] ((100000, ⟨0, .row 6 0 (elems encNode dNode [])⟩) :: [(c83e1)])) (Conv.adopt 100000 6 (elems encNode dNode []) rfl rfl (.rfl _) (.box (.cons (.nil _ _) (.cons (.rfl _) (.cons (.rfl _) (.cons (.rfl _) (.rfl _))))) (.rfl _))) (Conv.trans (τ := mkSt [(6, rr 1048), (7, pI 9)] [(c83e1), (100000, ob0 (roNode []))]) Conv.t0 (Conv.trans (τ := mkSt [(6, rr 1048), (7, pI 9)] ((100001, ⟨0, .row 4 0 (elems encTask dTask [])⟩) :: [(c83e3), (100000, ob0 (roNode []))])) (Conv.adopt 100001 4 (elems encTask dTask []) rfl rfl (.rfl _) (.box (.cons (.rfl _) (.cons (.rfl _) (.cons (.nil _ _) (.cons (.rfl _) (.rfl _))))) (.keep (.rfl _)))) Conv.t0)))) ?_
      refine DW.ret ?_
      obtain rfl := Option.some.inj hm
      exact retK [roNode [], roTask []] [100000, 100001] (.tup [.agg [ow 0 0, pI 0, ow 1 0, pI 0], pI 9])
     ·intro h11 hm
      refine DW.skip ?_
      obtain ⟨r12, hr12, hm⟩ := bind_open hm
      refine DW.seq (RK hnt (nn 3 (.call 70 [] true (.tup [.agg [ow 0 r12.1.tree.nodes.length, pI r12.1.tree.next, ow 1 r12.1.tasks.length, pI r12.1.next], pI r12.2]) [] [roNode r12.1.tree.nodes, roTask r12.1.tasks] :: nn 4 [])) [(6, rr 1048), (7, pI r12.2)] [(1048, bx [ow 1512 r12.1.tree.nodes.length, pI r12.1.tree.next, ow 1513 r12.1.tasks.length, pI r12.1.next]), (1512, ob0 (roNode r12.1.tree.nodes)), (1513, ob0 (roTask r12.1.tasks))] (an (Place_ref6Spec p0 p1 p2 r12 hr12) trivial) ?_)
      refine DW.ret ?_
      obtain rfl := Option.some.inj hm
      exact retK [roNode r12.1.tree.nodes, roTask r12.1.tasks] [1512, 1513] (.tup [.agg [ow 0 r12.1.tree.nodes.length, pI r12.1.tree.next, ow 1 r12.1.tasks.length, pI r12.1.next], pI r12.2])
  ·rcases bt (!r3.2) with h4 | h4
   ·replace hm := if_t h4 hm
    refine RD hnt (nn 3 (sk 5 (pT :: []))) [9] [(33, pB true)] [] [] (an6 h4 trivial) ?_
    exact joinDone true hm Conv.eqK
   ·replace hm := if_f h4 hm
    obtain ⟨r5, hr5, hm⟩ := bind_open hm
    refine RD hnt (nn 6 (.call 88 [] true (pB r5) [] [] :: .no :: pF :: [])) [9] [(33, pB (!r5))] [] [] (an4 h4 (an (Has_ref5Spec p0.tree p2 r5 hr5) (an2 h4 trivial))) ?_
    exact joinDone (!r5) hm Conv.eqK

abbrev c68e1 : Nat × Obj := (1032, bx [.p (.sl .nil 0 0 (fun _ => [])), pI 0, .p (.sl .nil 0 0 (fun _ => [])), pI 0])
abbrev c68e2 (p0 : Hierarchy) (k1 : Nat) := (p0.tasks.getD k1 (default : Task))
abbrev c68e3 : Nat × Obj := (1032, bx [ow 100000 0, pI 0, .p (.sl .nil 0 0 (fun _ => [])), pI 0])
abbrev c68e4 : Nat × Obj := (1032, bx [ow 100000 0, pI 0, ow 100001 0, pI 0])
abbrev c68e5 (p0 : Hierarchy) : Nat × Obj := (1016, bx (pm (encHierarchy p0)))
abbrev c68e6 (r5 : Tree) : Nat × Obj := (1208, ob0 (roNode r5.nodes))
theorem Exit_ref6Spec (p0 : Hierarchy) (p1 : Int) (RES : Hierarchy × Int) (hm : Exit_ref6 p0 p1 = some RES) : Spec Tryz.prog 68 [.p (.agg (encHierarchy p0)), pI p1] [] (.tup [.agg [ow 0 RES.1.tree.nodes.length, pI RES.1.tree.next, ow 1 RES.1.tasks.length, pI RES.1.next], pI RES.2]) [] [roNode RES.1.tree.nodes, roTask RES.1.tasks] := by
 unfold Exit_ref6 at hm
 refine SO Tryz.func68 rfl rfl [(0, .p (.agg (encHierarchy p0))), (1, pI p1)] [] ?_
 intro cx hnt
 refine DW.seq (RK hnt (nn 3 []) [(1, pI p1), (2, rr 1016), (4, rr 1032)] [(c68e5 p0), (c68e1)] trivial ?_)
 obtain ⟨r1, hr1, hm⟩ := bind_open hm
 refine DW.seq (DW.seq (RD hnt (.no :: .call 52 [] true (pB r1) [] [] :: .no :: []) [] [(13, pB (!r1))] [] [] (an (Check_ref6Spec p0 r1 hr1) trivial) ?_))
 refine condM hm ?_ ?_
 ·intro h2 hm
  refine DW.seq (RD hnt (nn 3 []) [1, 2, 13] [(5, pI 1)] [1016] [] trivial ?_)
  refine DW.conv (τ := mkSt [(4, rr 1032), (5, pI 1)] [(c68e4), (100000, ob0 (roNode [])), (100001, ob0 (roTask []))]) (Conv.trans (τ := mkSt [(4, rr 1032), (5, pI 1)] [(c68e1)]) Conv.eqK (Conv.trans (τ := mkSt [(4, rr 1032), (5, pI 1)] ((100000, ⟨0, .row 6 0 (elems encNode dNode [])⟩) :: [(c68e3)])) (Conv.adopt 100000 6 (elems encNode dNode []) rfl rfl (.rfl _) (.box (.cons (.nil _ _) (.cons (.rfl _) (.cons (.rfl _) (.cons (.rfl _) (.rfl _))))) (.rfl _))) (Conv.trans (τ := mkSt [(4, rr 1032), (5, pI 1)] [(c68e3), (100000, ob0 (roNode []))]) Conv.t0 (Conv.trans (τ := mkSt [(4, rr 1032), (5, pI 1)] ((100001, ⟨0, .row 4 0 (elems encTask dTask [])⟩) :: [(c68e4), (100000, ob0 (roNode []))])) (Conv.adopt 100001 4 (elems encTask dTask []) rfl rfl (.rfl _) (.box (.cons (.rfl _) (.cons (.rfl _) (.cons (.nil _ _) (.cons (.rfl _) (.rfl _))))) (.keep (.rfl _)))) Conv.t0)))) ?_
  refine DW.ret ?_
  obtain rfl := Option.some.inj hm
  exact retK [roNode [], roTask []] [100000, 100001] (.tup [.agg [ow 0 0, pI 0, ow 1 0, pI 0], pI 1])
 ·intro h2 hm
  refine DW.skip ?_
  obtain ⟨r3, hr3, hm⟩ := bind_open hm
  refine DW.seq (DW.seq (RD hnt (nn 2 (.call 53 [] true (.p (.tup [.agg (encTask r3.1), vb r3.2])) [] [] :: nn 6 [])) [13] [(7, pB r3.2)] [] [] (an (Find_ref6Spec p0 p1 r3 hr3) trivial) ?_))
  refine DW.seq (RD hnt (nn 2 []) [7] [(22, pB (!r3.2))] [] [] trivial ?_)
  refine condM hm ?_ ?_
  ·intro h4 hm
   refine DW.seq (RD hnt (nn 3 []) [1, 2, 22] [(5, pI 4)] [1016] [] trivial ?_)
   refine DW.conv (τ := mkSt [(4, rr 1032), (5, pI 4)] [(c68e4), (100000, ob0 (roNode [])), (100001, ob0 (roTask []))]) (Conv.trans (τ := mkSt [(4, rr 1032), (5, pI 4)] [(c68e1)]) Conv.eqK (Conv.trans (τ := mkSt [(4, rr 1032), (5, pI 4)] ((100000, ⟨0, .row 6 0 (elems encNode dNode [])⟩) :: [(c68e3)])) (Conv.adopt 100000 6 (elems encNode dNode []) rfl rfl (.rfl _) (.box (.cons (.nil _ _) (.cons (.rfl _) (.cons (.rfl _) (.cons (.rfl _) (.rfl _))))) (.rfl _))) (Conv.trans (τ := mkSt [(4, rr 1032), (5, pI 4)] [(c68e3), (100000, ob0 (roNode []))]) Conv.t0 (Conv.trans (τ := mkSt [(4, rr 1032), (5, pI 4)] ((100001, ⟨0, .row 4 0 (elems encTask dTask [])⟩) :: [(c68e4), (100000, ob0 (roNode []))])) (Conv.adopt 100001 4 (elems encTask dTask []) rfl rfl (.rfl _) (.box (.cons (.rfl _) (.cons (.rfl _) (.cons (.nil _ _) (.cons (.rfl _) (.rfl _))))) (.keep (.rfl _)))) Conv.t0)))) ?_
   refine DW.ret ?_
   obtain rfl := Option.some.inj hm
   exact retK [roNode [], roTask []] [100000, 100001] (.tup [.agg [ow 0 0, pI 0, ow 1 0, pI 0], pI 4])
  ·intro h4 hm
   refine DW.skip ?_
   obtain ⟨r5, hr5, hm⟩ := bind_open hm
   refine DW.seq (RD hnt (nn 2 (.call 122 [] true (.agg [ow 0 r5.nodes.length, pI r5.next]) [] [roNode r5.nodes] :: nn 5 [])) [22] [(8, rr 1064)] [] [(1064, bx [ow 1208 r5.nodes.length, pI r5.next, .p (.sl .nil 0 0 (fun _ => [])), pI p0.next]), (c68e6 r5)] (an (Copy_ref5Spec p0.tree r5 hr5) trivial) ?_)
   refine DW.seq (DW.seq (RD hnt (.no :: []) [] [(9, pI 0)] [] [] trivial ?_))
   refine DW.block ?_
   obtain ⟨hc1, hm⟩ := guard_open hm
   refine DW.rangeO (fun (k1 : Nat) (s1 : List Task) => mkSt [(1, pI p1), (2, rr 1016), (4, rr 1032), (8, rr 1064), (9, pI ((k1 : Nat) : Int))] [(c68e5 p0), (c68e1), (1064, bx [ow 1208 r5.nodes.length, pI r5.next, ow 1448 s1.length, pI p0.next]), (c68e6 r5), (1448, ob0 (roTask s1))]) dTask hm (Conv.trans (τ := mkSt [(1, pI p1), (2, rr 1016), (4, rr 1032), (8, rr 1064), (9, pI 0)] [(c68e5 p0), (c68e1), (1064, bx [ow 1208 r5.nodes.length, pI r5.next, .p (.sl .nil 0 0 (fun _ => [])), pI p0.next]), (c68e6 r5)]) Conv.eqK (Conv.trans (τ := mkSt [(1, pI p1), (2, rr 1016), (4, rr 1032), (8, rr 1064), (9, pI 0)] ((1448, ⟨0, .row 4 0 (elems encTask dTask [])⟩) :: [(c68e5 p0), (c68e1), (1064, bx [ow 1208 r5.nodes.length, pI r5.next, ow 1448 0, pI p0.next]), (c68e6 r5)])) (Conv.adopt 1448 4 (elems encTask dTask []) rfl rfl (.rfl _) (.keep (.keep (.box (.cons (.rfl _) (.cons (.rfl _) (.cons (.nil _ _) (.cons (.rfl _) (.rfl _))))) (.keep (.rfl _)))))) Conv.t0)) ?_
   intro k1 s1 n1 hk1 hs1 he1
   refine DW.seq (DW.seq (RD hnt (nn 5 []) [] [(34, pB (decide (((k1 : Nat) : Int) < ((p0.tasks.length : Nat) : Int))))] [] [] trivial ?_))
   refine condK (decide (((k1 : Nat) : Int) < ((p0.tasks.length : Nat) : Int))) ?_ ?_
   ·intro h15
    have hlt1 : k1 < p0.tasks.length := by have := of_decide_eq_true h15; omega
    have hm := hs1 hlt1
    unfold Exit_ref6L1 at hm
    refine DW.skip ?_
    refine DW.seq ?_
    refine DW.join (ι := List Task) (fun (y3 : List Task) => mkSt [(1, pI p1), (2, rr 1016), (4, rr 1032), (8, rr 1064), (9, pI ((k1 : Nat) : Int))] [(c68e5 p0), (c68e1), (1064, bx [ow 1208 r5.nodes.length, pI r5.next, ow 1448 y3.length, pI p0.next]), (c68e6 r5), (1448, ob0 (roTask y3))]) (fun y3 => (Exit_ref6J3 n1) y3 = some RES) ?_ ?_
    ·intro y3 hm
     unfold Exit_ref6J3 at hm
     refine RD hnt (nn 3 []) [] [(9, pI (w64 (((k1 : Nat) : Int) + 1)))] [] [] trivial ?_
     exact joinDone y3 ⟨hlt1, hm⟩ (Conv.tp [(9, pI (w64 (((k1 : Nat) : Int) + 1)))] [] (by kernel_rfl) (.cons rfl (.of_eq (congrArg pI (w64_succ hlt1 hc1))) .nil) .nil)
    ·refine DW.block ?_
     refine DW.seq (RD hnt (nn 7 []) [34] [(10, rr 1080)] [] [(1080, bx (pm (encTask (c68e2 p0 k1))))] (an (nn0 k1) (an (ltc hlt1) trivial)) ?_)
     refine DW.seq (DW.regJ (sl2 := [(1, pI p1), (2, rr 1016), (4, rr 1032), (8, rr 1064), (9, pI ((k1 : Nat) : Int)), (10, rr 1080), (51, pB (((c68e2 p0 k1).id != p1) && ((c68e2 p0 k1).process != p1)))]) (ob2 := [(c68e5 p0), (c68e1), (1064, bx [ow 1208 r5.nodes.length, pI r5.next, ow 1448 s1.length, pI p0.next]), (1080, bx (pm (encTask (c68e2 p0 k1)))), (c68e6 r5), (1448, ob0 (roTask s1))]) ?_ ?_)
     ·rcases bt ((c68e2 p0 k1).id != p1) with h16 | h16
      ·exact RT hnt (nn 9 (pT :: [])) [(51, pB ((c68e2 p0 k1).process != p1))] (an5 h16 trivial) (by kernel_rfl) (.cons rfl (.of_eq (by rw [h16]; try rfl)) .nil)
      ·exact RT hnt (nn 5 (sk 4 (pF :: []))) [(51, pB false)] (an5 h16 trivial) (by kernel_rfl) (.cons rfl (.of_eq (by rw [h16]; try rfl)) .nil)
     ·refine condM hm ?_ ?_
      ·intro h17 hm
       obtain ⟨g18, hm⟩ := guard_open hm
       refine RN hnt (nn 7 []) [(1, pI p1), (2, rr 1016), (4, rr 1032), (8, rr 1064), (9, pI ((k1 : Nat) : Int))] [(c68e5 p0), (c68e1), (1064, bx [ow 1208 r5.nodes.length, pI r5.next, ow 1448 (s1 ++ [(c68e2 p0 k1)]).length, pI p0.next]), (c68e6 r5), (1448, ob0 (roTask (s1 ++ [(c68e2 p0 k1)])))] [] [(1064, .box [ow 1208 r5.nodes.length, pI r5.next, ow 1448 (s1.length + 1), pI p0.next]), (1448, .row 4 (s1.length + 1) (catF s1.length (elTask s1) (cut 4 [vi (c68e2 p0 k1).id, vi (c68e2 p0 k1).process, vi (c68e2 p0 k1).group, vi (c68e2 p0 k1).user])))] (an (by omega : (s1.length + 1) * 32 ≤ 140737488355328) trivial) (by kernel_rfl) .nil (.cons rfl (.box (.cons .rfl (.cons .rfl (.cons (MLe.ownLen (enc := encTask) (d := dTask) (f := (catF s1.length (elTask s1) (cut 4 [vi (c68e2 p0 k1).id, vi (c68e2 p0 k1).process, vi (c68e2 p0 k1).group, vi (c68e2 p0 k1).user]))) (RowIs.cat RowIs.elems (RowIs.lit (enc := encTask) (d := dTask) (n := 1) (f := (cut 4 [vi (c68e2 p0 k1).id, vi (c68e2 p0 k1).process, vi (c68e2 p0 k1).group, vi (c68e2 p0 k1).user])) [(c68e2 p0 k1)] rfl (fun | 0, _ => rfl | n + 1, h => absurd h (by omega))))) (.cons .rfl .nil))))) (.cons rfl (BLe.typed (RowIs.cat RowIs.elems (RowIs.lit (enc := encTask) (d := dTask) (n := 1) (f := (cut 4 [vi (c68e2 p0 k1).id, vi (c68e2 p0 k1).process, vi (c68e2 p0 k1).group, vi (c68e2 p0 k1).user])) [(c68e2 p0 k1)] rfl (fun | 0, _ => rfl | n + 1, h => absurd h (by omega))))) .nil)) ?_
       exact blockDone (s1 ++ [(c68e2 p0 k1)]) hm .refl
      ·intro h17 hm
       refine DW.skip ?_
       exact blockDone s1 hm Conv.t0
   ·intro h15
    have hge1 : ¬ k1 < p0.tasks.length := by have := of_decide_eq_false h15; omega
    have hm := he1 hge1
    unfold Exit_ref6D1 at hm
    refine DW.exit ?_
    refine joinQ_exit ?_
    refine KQ_exit ?_
    refine blockQ_exit ?_
    show DW _ _ _ _ _
    refine DW.seq (RD hnt (nn 3 []) [1, 2, 8, 9, 34] [(5, pI 0)] [1016, 1064] [(1032, bx [ow 1208 r5.nodes.length, pI r5.next, ow 1448 s1.length, pI p0.next])] trivial ?_)
    refine DW.ret ?_
    obtain rfl := Option.some.inj hm
    exact retK [roNode r5.nodes, roTask s1] [1208, 1448] (.tup [.agg [ow 0 r5.nodes.length, pI r5.next, ow 1 s1.length, pI p0.next], pI 0])

abbrev c17e1 : Nat × Obj := (1048, bx [.p (.sl .nil 0 0 (fun _ => [])), pI 0, .p (.sl .nil 0 0 (fun _ => [])), pI 0])
theorem Hierarchy_Dice_madeSpec (p0 : Dice) (p1 : Int) (p2 : Int) (RES : Hierarchy × Dice) (hm : Hierarchy_Dice_made p0 p1 p2 = some RES) : Spec Tryz.prog 17 [rr 0, pI p1, pI p2] [.box (pm (encDice p0))] (.p (.agg (encHierarchy RES.1))) [.box (pm (encDice RES.2))] [] := by
 unfold Hierarchy_Dice_made at hm
 refine SO Tryz.func17 rfl rfl [(0, rr 0), (1, pI p1), (2, pI p2)] [(0, bx (pm (encDice p0)))] ?_
 intro cx hnt
 refine DW.seq (RD hnt (.no :: []) [] [(6, rr 1048)] [] [(c17e1)] trivial ?_)
 obtain ⟨r1, hr1, hm⟩ := bind_open hm
 refine DW.seq (RD hnt (.call 64 [] true (.agg [ow 0 r1.tree.nodes.length, pI r1.tree.next, ow 1 r1.tasks.length, pI r1.next]) [] [roNode r1.tree.nodes, roTask r1.tasks] :: nn 2 []) [] [(7, rr 1056)] [] [(1056, bx [ow 1168 r1.tree.nodes.length, pI r1.tree.next, ow 1169 r1.tasks.length, pI r1.next]), (1168, ob0 (roNode r1.tree.nodes)), (1169, ob0 (roTask r1.tasks))] (an (New_ref6Spec r1 hr1) trivial) ?_)
 obtain ⟨r2, hr2, hm⟩ := bind_open hm
 refine DW.seq (RD hnt (nn 2 (.call 80 [0] true (.p (.agg (encTree r2.1))) [.box (pm (encDice r2.2))] [] :: nn 2 [])) [] [] [1168] [(0, bx (pm (encDice r2.2))), (1056, bx [.p (slNode r2.1.nodes), pI r2.1.next, ow 1169 r1.tasks.length, pI r1.next])] (an (Tree_Dice_madeSpec p0 p1 r2 hr2) (an trivial trivial)) ?_)
 obtain ⟨r3, hr3, hm⟩ := bind_open hm
 refine DW.seq (DW.seq (RD hnt (nn 3 (.call 19 [0] true (pI r3.1) [.box (pm (encDice r3.2))] [] :: .no :: [])) [1] [(8, pI r3.1)] [] [(0, bx (pm (encDice r3.2)))] (an (Next_Dice_madeSpec r2.2 (w64 (p1 + 3)) r3 hr3) (an trivial trivial)) ?_))
 refine DW.block ?_
 refine DW.whileO (fun (s1 : Dice × Hierarchy × Int) => mkSt [(0, rr 0), (2, pI p2), (6, rr 1048), (7, rr 1056), (8, pI s1.2.2)] [(0, bx (pm (encDice s1.1))), (c17e1), (1056, bx (pm (encHierarchy s1.2.1)))]) hm (Conv.freezes [1169] (by kernel_rfl)) ?_
 intro s1 n1 hm
 unfold Hierarchy_Dice_madeL1 at hm
 refine DW.seq (DW.seq (RD hnt (nn 2 []) [] [(31, pB (decide (s1.2.2 > 0)))] [] [] trivial ?_))
 refine condM hm ?_ ?_
 ·intro h56 hm
  refine DW.skip ?_
  refine DW.seq (DW.block ?_)
  obtain ⟨r57, hr57, hm⟩ := bind_open hm
  refine RD hnt (nn 2 (.call 81 [0] true (.p (.agg (encHierarchy r57.1))) [.box (pm (encDice r57.2))] [] :: .no :: [])) [31] [] [] [(0, bx (pm (encDice r57.2))), (1056, bx (pm (encHierarchy r57.1)))] (an (step_Dice_madeSpec s1.1 s1.2.1 r57 hr57) (an trivial trivial)) ?_
  refine DW.done ?_
  show DW _ _ _ _ _
  refine RD hnt (nn 3 []) [] [(8, pI (w64 (s1.2.2 - 1)))] [] [] trivial ?_
  exact joinDone (r57.2, r57.1, (w64 (s1.2.2 - 1))) hm Conv.eqK
 ·intro h56 hm
  refine DW.exit ?_
  refine joinQ_exit ?_
  refine KQ_exit ?_
  refine blockQ_exit ?_
  show DW _ _ _ _ _
  obtain ⟨r58, hr58, hm⟩ := bind_open hm
  refine DW.seq (DW.seq (RD hnt (nn 3 (.call 19 [0] true (pI r58.1) [.box (pm (encDice r58.2))] [] :: .no :: [])) [2, 8, 31] [(9, pI r58.1)] [] [(0, bx (pm (encDice r58.2)))] (an (Next_Dice_madeSpec s1.1 (w64 (p2 + 1)) r58 hr58) (an trivial trivial)) ?_))
  refine DW.block ?_
  refine DW.whileO (fun (s3 : Dice × Hierarchy × Int) => mkSt [(0, rr 0), (6, rr 1048), (7, rr 1056), (9, pI s3.2.2)] [(0, bx (pm (encDice s3.1))), (c17e1), (1056, bx (pm (encHierarchy s3.2.1)))]) hm Conv.eqK ?_
  intro s3 n3 hm
  unfold Hierarchy_Dice_madeL3 at hm
  refine DW.seq (DW.seq (RD hnt (nn 2 []) [] [(42, pB (decide (s3.2.2 > 0)))] [] [] trivial ?_))
  refine condM hm ?_ ?_
  ·intro h82 hm
   refine DW.skip ?_
   refine DW.seq ?_
   refine DW.join (ι := Dice × Hierarchy) (fun (y13 : Dice × Hierarchy) => mkSt [(0, rr 0), (6, rr 1048), (7, rr 1056), (9, pI s3.2.2)] [(0, bx (pm (encDice y13.1))), (c17e1), (1056, bx (pm (encHierarchy y13.2)))]) (fun y13 => (Hierarchy_Dice_madeJ13 s3 n3) y13 = some RES) ?_ ?_
   ·intro y13 hm
    unfold Hierarchy_Dice_madeJ13 at hm
    refine RD hnt (nn 3 []) [] [(9, pI (w64 (s3.2.2 - 1)))] [] [] trivial ?_
    exact joinDone (y13.1, y13.2, (w64 (s3.2.2 - 1))) hm Conv.eqK
   ·refine DW.block ?_
    obtain ⟨r83, hr83, hm⟩ := bind_open hm
    refine DW.seq (RD hnt (nn 3 (.call 33 [0] true (pI r83.1) [.box (pm (encDice r83.2))] [] :: .no :: [])) [42] [(10, pI r83.1)] [] [(0, bx (pm (encDice r83.2)))] (an (Group_Dice_madeSpec s3.1 s3.2.1.tree r83 hr83) (an trivial trivial)) ?_)
    obtain ⟨r84, hr84, hm⟩ := bind_open hm
    refine DW.seq (DW.seq (RD hnt (nn 2 (.call 82 [] true (pI r84) [] [] :: .no :: [])) [] [(52, pB (r84 != 0))] [] [] (an (Admits_ref8Spec s3.2.1 r83.1 r84 hr84) trivial) ?_))
    refine condM hm ?_ ?_
    ·intro h85 hm
     refine DW.exit ?_
     exact blockQ_exit (joinKQ (r83.2, s3.2.1) hm Conv.t0)
    ·intro h85 hm
     refine DW.skip ?_
     obtain ⟨r86, hr86, hm⟩ := bind_open hm
     obtain ⟨r87, hr87, hm⟩ := bind_open hm
     refine DW.seq (DW.seq (RD hnt (nn 3 (.call 19 [0] true (pI r86.1) [.box (pm (encDice r86.2))] [] :: .call 66 [] true (.tup [.agg [ow 0 r87.1.tree.nodes.length, pI r87.1.tree.next, ow 1 r87.1.tasks.length, pI r87.1.next], pI r87.2.1, pI r87.2.2]) [] [roNode r87.1.tree.nodes, roTask r87.1.tasks] :: nn 8 [])) [10, 52] [(11, rr 1088), (13, pI r87.2.2)] [] [(0, bx (pm (encDice r86.2))), (1088, bx [ow 1464 r87.1.tree.nodes.length, pI r87.1.tree.next, ow 1465 r87.1.tasks.length, pI r87.1.next]), (1464, ob0 (roNode r87.1.tree.nodes)), (1465, ob0 (roTask r87.1.tasks))] (an (Next_Dice_madeSpec r83.2 3 r86 hr86) (an trivial (an (Spawn_ref6Spec s3.2.1 r83.1 r86.1 r87 hr87) trivial))) ?_))
     refine DW.seq (RD hnt (nn 2 []) [13] [(63, pB (r87.2.2 == 0))] [] [] trivial ?_)
     refine DW.join (ι := Hierarchy) (fun (y14 : Hierarchy) => mkSt [(0, rr 0), (6, rr 1048), (7, rr 1056), (9, pI s3.2.2)] [(0, bx (pm (encDice r86.2))), (c17e1), (1056, bx (pm (encHierarchy y14)))]) (fun y14 => (Hierarchy_Dice_madeJ14 s3 n3 r86) y14 = some RES) ?_ ?_
     ·intro y14 hm
      unfold Hierarchy_Dice_madeJ14 at hm
      obtain ⟨r89, hr89, hm⟩ := bind_open hm
      refine DW.seq (DW.seq (RD hnt (.no :: .call 77 [0] true (pB r89.1) [.box (pm (encDice r89.2))] [] :: []) [] [(66, pB r89.1)] [] [(0, bx (pm (encDice r89.2)))] (an (Bool_Dice_madeSpec r86.2 3 r89 hr89) (an trivial trivial)) ?_))
      refine DW.join (ι := Dice × Hierarchy) (fun (y15 : Dice × Hierarchy) => mkSt [(0, rr 0), (6, rr 1048), (7, rr 1056), (9, pI s3.2.2)] [(0, bx (pm (encDice y15.1))), (c17e1), (1056, bx (pm (encHierarchy y15.2)))]) (fun y15 => (Hierarchy_Dice_madeJ15 s3 n3) y15 = some RES) ?_ ?_
      ·intro y15 hm
       unfold Hierarchy_Dice_madeJ15 at hm
       obtain ⟨r94, hr94, hm⟩ := bind_open hm
       refine DW.seq (DW.seq (RD hnt (.no :: .call 77 [0] true (pB r94.1) [.box (pm (encDice r94.2))] [] :: []) [] [(80, pB r94.1)] [] [(0, bx (pm (encDice r94.2)))] (an (Bool_Dice_madeSpec y15.1 4 r94 hr94) (an trivial trivial)) ?_))
       refine DW.join (ι := Dice × Hierarchy) (fun (y16 : Dice × Hierarchy) => mkSt [(0, rr 0), (6, rr 1048), (7, rr 1056), (9, pI s3.2.2)] [(0, bx (pm (encDice y16.1))), (c17e1), (1056, bx (pm (encHierarchy y16.2)))]) (fun y16 => (Hierarchy_Dice_madeJ16 s3 n3) y16 = some RES) ?_ ?_
       ·intro y16 hm
        unfold Hierarchy_Dice_madeJ16 at hm
        obtain ⟨r100, hr100, hm⟩ := bind_open hm
        refine DW.seq (RD hnt (.no :: .call 77 [0] true (pB r100.1) [.box (pm (encDice r100.2))] [] :: []) [] [(97, pB r100.1)] [] [(0, bx (pm (encDice r100.2)))] (an (Bool_Dice_madeSpec y16.1 8 r100 hr100) (an trivial trivial)) ?_)
        refine condM hm ?_ ?_
        ·intro h101 hm
         obtain ⟨r102, hr102, hm⟩ := bind_open hm
         obtain ⟨r103, hr103, hm⟩ := bind_open hm
         refine DW.seq (RD hnt (nn 3 (.call 47 [0] true (pI r102.1) [.box (pm (encDice r102.2))] [] :: .call 68 [] true (.tup [.agg [ow 0 r103.1.tree.nodes.length, pI r103.1.tree.next, ow 1 r103.1.tasks.length, pI r103.1.next], pI r103.2]) [] [roNode r103.1.tree.nodes, roTask r103.1.tasks] :: nn 6 [])) [97] [(19, rr 1152), (20, pI r103.2)] [] [(0, bx (pm (encDice r102.2))), (1152, bx [ow 1824 r103.1.tree.nodes.length, pI r103.1.tree.next, ow 1825 r103.1.tasks.length, pI r103.1.next]), (1824, ob0 (roNode r103.1.tree.nodes)), (1825, ob0 (roTask r103.1.tasks))] (an (Task_Dice_madeSpec r100.2 y16.2 r102 hr102) (an trivial (an (Exit_ref6Spec y16.2 r102.1 r103 hr103) trivial))) ?_)
         refine DW.seq (RD hnt (nn 2 []) [20] [(107, pB (r103.2 == 0))] [] [] trivial ?_)
         refine condM hm ?_ ?_
         ·intro h104 hm
          refine RD hnt (nn 2 []) [19, 107] [] [1152] [(1056, bx [ow 1824 r103.1.tree.nodes.length, pI r103.1.tree.next, ow 1825 r103.1.tasks.length, pI r103.1.next])] trivial ?_
          exact blockDone (r102.2, r103.1) hm (Conv.freezes [1824, 1825] (by kernel_rfl))
         ·intro h104 hm
          refine DW.skip ?_
          exact blockDone (r102.2, y16.2) hm Conv.t0
        ·intro h101 hm
         refine DW.skip ?_
         exact blockDone (r100.2, y16.2) hm Conv.t0
       ·refine condM hm ?_ ?_
        ·intro h95 hm
         obtain ⟨r96, hr96, hm⟩ := bind_open hm
         obtain ⟨r97, hr97, hm⟩ := bind_open hm
         obtain ⟨r98, hr98, hm⟩ := bind_open hm
         refine DW.seq (RD hnt (nn 3 (.call 47 [0] true (pI r96.1) [.box (pm (encDice r96.2))] [] :: nn 3 (.call 33 [0] true (pI r97.1) [.box (pm (encDice r97.2))] [] :: .call 83 [] true (.tup [.agg [ow 0 r98.1.tree.nodes.length, pI r98.1.tree.next, ow 1 r98.1.tasks.length, pI r98.1.next], pI r98.2]) [] [roNode r98.1.tree.nodes, roTask r98.1.tasks] :: nn 6 []))) [80] [(17, rr 1136), (18, pI r98.2)] [] [(0, bx (pm (encDice r97.2))), (1136, bx [ow 1720 r98.1.tree.nodes.length, pI r98.1.tree.next, ow 1721 r98.1.tasks.length, pI r98.1.next]), (1720, ob0 (roNode r98.1.tree.nodes)), (1721, ob0 (roTask r98.1.tasks))] (an (Task_Dice_madeSpec r94.2 y15.2 r96 hr96) (an trivial (an (Group_Dice_madeSpec r96.2 y15.2.tree r97 hr97) (an trivial (an (AttachThread_ref8Spec y15.2 r96.1 r97.1 r98 hr98) trivial))))) ?_)
         refine DW.seq (RD hnt (nn 2 []) [18] [(94, pB (r98.2 == 0))] [] [] trivial ?_)
         refine condM hm ?_ ?_
         ·intro h99 hm
          refine RD hnt (nn 2 []) [17, 94] [] [1136] [(1056, bx [ow 1720 r98.1.tree.nodes.length, pI r98.1.tree.next, ow 1721 r98.1.tasks.length, pI r98.1.next])] trivial ?_
          exact joinDone (r97.2, r98.1) hm (Conv.freezes [1720, 1721] (by kernel_rfl))
         ·intro h99 hm
          refine DW.skip ?_
          exact joinDone (r97.2, y15.2) hm Conv.t0
        ·intro h95 hm
         refine DW.skip ?_
         exact joinDone (r94.2, y15.2) hm Conv.t0
      ·refine condM hm ?_ ?_
       ·intro h90 hm
        obtain ⟨r91, hr91, hm⟩ := bind_open hm
        obtain ⟨r92, hr92, hm⟩ := bind_open hm
        refine DW.seq (RD hnt (nn 3 (.call 47 [0] true (pI r91.1) [.box (pm (encDice r91.2))] [] :: .call 67 [] true (.tup [.agg [ow 0 r92.1.tree.nodes.length, pI r92.1.tree.next, ow 1 r92.1.tasks.length, pI r92.1.next], pI r92.2.1, pI r92.2.2]) [] [roNode r92.1.tree.nodes, roTask r92.1.tasks] :: nn 8 [])) [66] [(14, rr 1112), (16, pI r92.2.2)] [] [(0, bx (pm (encDice r91.2))), (1112, bx [ow 1576 r92.1.tree.nodes.length, pI r92.1.tree.next, ow 1577 r92.1.tasks.length, pI r92.1.next]), (1576, ob0 (roNode r92.1.tree.nodes)), (1577, ob0 (roTask r92.1.tasks))] (an (Task_Dice_madeSpec r89.2 y14 r91 hr91) (an trivial (an (Clone_ref6Spec y14 r91.1 r92 hr92) trivial))) ?_)
        refine DW.seq (RD hnt (nn 2 []) [16] [(77, pB (r92.2.2 == 0))] [] [] trivial ?_)
        refine condM hm ?_ ?_
        ·intro h93 hm
         refine RD hnt (nn 2 []) [14, 77] [] [1112] [(1056, bx [ow 1576 r92.1.tree.nodes.length, pI r92.1.tree.next, ow 1577 r92.1.tasks.length, pI r92.1.next])] trivial ?_
         exact joinDone (r91.2, r92.1) hm (Conv.freezes [1576, 1577] (by kernel_rfl))
        ·intro h93 hm
         refine DW.skip ?_
         exact joinDone (r91.2, y14) hm Conv.t0
       ·intro h90 hm
        refine DW.skip ?_
        exact joinDone (r89.2, y14) hm Conv.t0
     ·refine condM hm ?_ ?_
      ·intro h88 hm
       refine RD hnt (nn 2 []) [11, 63] [] [1088] [(1056, bx [ow 1464 r87.1.tree.nodes.length, pI r87.1.tree.next, ow 1465 r87.1.tasks.length, pI r87.1.next])] trivial ?_
       exact joinDone r87.1 hm (Conv.freezes [1464, 1465] (by kernel_rfl))
      ·intro h88 hm
       refine DW.skip ?_
       exact joinDone s3.2.1 hm Conv.t0
  ·intro h82 hm
   refine DW.exit ?_
   refine joinQ_exit ?_
   refine KQ_exit ?_
   refine blockQ_exit ?_
   show DW _ _ _ _ _
   refine DW.seq (RD hnt (nn 2 []) [0, 7, 9, 42] [] [1056] [(1048, bx (pm (encHierarchy s3.2.1)))] trivial ?_)
   refine DW.ret ?_
   obtain rfl := Option.some.inj hm
   exact retK [.box (pm (encDice s3.1))] [] (.p (.agg (encHierarchy s3.2.1)))

theorem Get_ref10Spec (p0 : List Count) (p1 : Int) (RES : Count × Bool) (hm : Get_ref10 p0 p1 = some RES) : Spec Tryz.prog 22 [.p (slCount p0), pI p1] [] (.p (.tup [.agg (encCount RES.1), vb RES.2])) [] [] := by
 unfold Get_ref10 at hm
 refine SO Tryz.func22 rfl rfl [(0, .p (slCount p0)), (1, pI p1)] [] ?_
 intro cx hnt
 refine DW.seq (RD hnt (nn 2 []) [] [(4, rr 1032)] [] [(1032, bx [pI 0, pI 0, pI 0, pI 0, pI 0])] trivial ?_)
 refine DW.seq (DW.seq (RD hnt (.no :: []) [] [(6, pI 0)] [] [] trivial ?_))
 refine DW.block ?_
 obtain ⟨hc1, hm⟩ := guard_open hm
 refine DW.rangeO (fun (k1 : Nat) (s1 : Unit) => mkSt [(0, .p (slCount p0)), (1, pI p1), (4, rr 1032), (6, pI ((k1 : Nat) : Int))] [(1032, bx [pI 0, pI 0, pI 0, pI 0, pI 0])]) dCount hm Conv.eqK ?_
 intro k1 s1 n1 hk1 hs1 he1
 refine DW.seq (DW.seq (RD hnt (nn 4 []) [] [(10, pB (decide (((k1 : Nat) : Int) < ((p0.length : Nat) : Int))))] [] [] trivial ?_))
 refine condK (decide (((k1 : Nat) : Int) < ((p0.length : Nat) : Int))) ?_ ?_
 ·intro h9
  have hlt1 : k1 < p0.length := by have := of_decide_eq_true h9; omega
  have hm := hs1 hlt1
  unfold Get_ref10L1 at hm
  refine DW.skip ?_
  refine DW.seq (DW.block ?_)
  refine DW.seq (RD hnt (nn 7 []) [10] [(19, pB ((p0.getD k1 (default : Count)).group == p1))] [] [] (an (nn0 k1) (an (ltc hlt1) trivial)) ?_)
  refine condM hm ?_ ?_
  ·intro h10 hm
   refine DW.seq (RK hnt (nn 6 []) [(4, rr 1032), (5, pB true)] [(1032, bx (pm (encCount (p0.getD k1 (default : Count)))))] (an (nn0 k1) (an (ltc hlt1) trivial)) ?_)
   refine DW.ret ?_
   obtain rfl := Option.some.inj hm
   exact retK [] [] (.p (.tup [.agg (encCount (p0.getD k1 (default : Count))), vb true]))
  ·intro h10 hm
   refine DW.skip ?_
   refine DW.done ?_
   show DW _ _ _ _ _
   refine RD hnt (nn 3 []) [19] [(6, pI (w64 (((k1 : Nat) : Int) + 1)))] [] [] trivial ?_
   exact joinDone () ⟨hlt1, hm⟩ (Conv.tp [(6, pI (w64 (((k1 : Nat) : Int) + 1)))] [] (by kernel_rfl) (.cons rfl (.of_eq (congrArg pI (w64_succ hlt1 hc1))) .nil) .nil)
 ·intro h9
  have hge1 : ¬ k1 < p0.length := by have := of_decide_eq_false h9; omega
  have hm := he1 hge1
  unfold Get_ref10D1 at hm
  refine DW.exit ?_
  refine joinQ_exit ?_
  refine KQ_exit ?_
  refine blockQ_exit ?_
  show DW _ _ _ _ _
  refine DW.seq (RD hnt (nn 3 []) [0, 1, 6, 10] [(5, pB false)] [] [] trivial ?_)
  refine DW.ret ?_
  obtain rfl := Option.some.inj hm
  exact retK [] [] (.p (.tup [.agg [vi 0, vi 0, vi 0, vi 0, vi 0], vb false]))

theorem Subtree_ref5BSpec (rec : Tree → Int → Option (List Int)) (ih : ∀ (p0 : Tree) (p1 : Int) (RES : List Int), rec p0 p1 = some RES → Spec Tryz.prog 116 [.p (.agg (encTree p0)), pI p1] [] (ow 0 RES.length) [] [roI RES]) (p0 : Tree) (p1 : Int) (RES : List Int) (hm : Subtree_ref5B rec p0 p1 = some RES) : Spec Tryz.prog 116 [.p (.agg (encTree p0)), pI p1] [] (ow 0 RES.length) [] [roI RES] := by
 unfold Subtree_ref5B at hm
 refine SO Tryz.func116 rfl rfl [(0, .p (.agg (encTree p0))), (1, pI p1)] [] ?_
 intro cx hnt
 refine DW.seq (RK hnt (nn 2 []) [(1, pI p1), (2, rr 1016)] [(1016, bx (pm (encTree p0)))] trivial ?_)
 obtain ⟨r1, hr1, hm⟩ := bind_open hm
 refine DW.seq (DW.seq (RD hnt (nn 2 (.call 88 [] true (pB r1) [] [] :: .no :: [])) [] [(11, pB (!r1))] [] [] (an (Has_ref5Spec p0 p1 r1 hr1) trivial) ?_))
 refine condM hm ?_ ?_
 ·intro h2 hm
  refine DW.seq (RK hnt (.no :: []) [(4, .p (.sl .nil 0 0 (fun _ => [])))] [] trivial ?_)
  refine DW.conv (τ := mkSt [(4, ow 100000 0)] [(100000, ob0 (roI []))]) (Conv.trans (τ := mkSt [(4, ow 100000 0)] ((100000, ⟨0, .row 1 0 (elems encI 0 [])⟩) :: [])) (Conv.adopt 100000 1 (elems encI 0 []) rfl rfl (.cons (.one (.nil _ _)) (.rfl _)) (.rfl _)) Conv.t0) ?_
  refine DW.ret ?_
  obtain rfl := Option.some.inj hm
  exact retK [roI []] [100000] (ow 0 0)
 ·intro h2 hm
  refine DW.skip ?_
  refine DW.seq (RN hnt (nn 3 []) [(1, pI p1), (2, rr 1016), (5, ow 1104 [p1].length)] [(1016, bx (pm (encTree p0))), (1104, ob0 (roI [p1]))] [(5, ow 1104 1)] [(1104, .row 1 1 (cut 1 [vi p1]))] trivial (by kernel_rfl) (.cons rfl (MLe.ownLen (enc := encI) (d := 0) (f := (cut 1 [vi p1])) (RowIs.lit (enc := encI) (d := 0) (n := 1) (f := (cut 1 [vi p1])) [p1] rfl (fun | 0, _ => rfl | n + 1, h => absurd h (by omega)))) .nil) (.cons rfl (BLe.typed (RowIs.lit (enc := encI) (d := 0) (n := 1) (f := (cut 1 [vi p1])) [p1] rfl (fun | 0, _ => rfl | n + 1, h => absurd h (by omega)))) .nil) ?_)
  obtain ⟨r3, hr3, hm⟩ := bind_open hm
  refine DW.seq (RD hnt (nn 2 (.call 27 [] true (ow 0 r3.length) [] [roI r3] :: .no :: [])) [1] [(6, ow 1128 r3.length)] [] [(1128, ob0 (roI r3))] (an (Children_ref5Spec p0 p1 r3 hr3) trivial) ?_)
  refine DW.seq (DW.seq (RD hnt (.no :: []) [] [(7, pI 0)] [] [] trivial ?_))
  refine DW.block ?_
  obtain ⟨hc1, hm⟩ := guard_open hm
  refine DW.rangeO (fun (k1 : Nat) (s1 : List Int) => mkSt [(2, rr 1016), (5, ow 1104 s1.length), (6, ow 1128 r3.length), (7, pI ((k1 : Nat) : Int))] [(1016, bx (pm (encTree p0))), (1104, ob0 (roI s1)), (1128, ob0 (roI r3))]) 0 hm Conv.eqK ?_
  intro k1 s1 n1 hk1 hs1 he1
  refine DW.seq (DW.seq (RD hnt (nn 4 []) [] [(20, pB (decide (((k1 : Nat) : Int) < ((r3.length : Nat) : Int))))] [] [] trivial ?_))
  refine condK (decide (((k1 : Nat) : Int) < ((r3.length : Nat) : Int))) ?_ ?_
  ·intro h14
   have hlt1 : k1 < r3.length := by have := of_decide_eq_true h14; omega
   have hm := hs1 hlt1
   unfold Subtree_ref5L1 at hm
   refine DW.skip ?_
   refine DW.seq (DW.block ?_)
   obtain ⟨r15, hr15, hm⟩ := bind_open hm
   obtain ⟨g16, hm⟩ := guard_open hm
   refine RN hnt (nn 6 (.call 116 [] true (ow 0 r15.length) [] [roI r15] :: nn 2 [])) [(2, rr 1016), (5, ow 1104 (s1 ++ r15).length), (6, ow 1128 r3.length), (7, pI ((k1 : Nat) : Int))] [(1016, bx (pm (encTree p0))), (1104, ob0 (roI (s1 ++ r15))), (1128, ob0 (roI r3))] [(5, ow 1104 (s1.length + r15.length))] [(1104, .row 1 (s1.length + r15.length) (catF s1.length (elI s1) (elI r15)))] (an (nn0 k1) (an (ltc hlt1) (an (by omega : k1 < r3.length) (an (ih p0 (r3.getD k1 0) r15 hr15) (an (by omega : (s1.length + r15.length) * 8 ≤ 140737488355328) trivial))))) (by kernel_rfl) (.cons rfl (MLe.ownLen (enc := encI) (d := 0) (f := (catF s1.length (elI s1) (elI r15))) (RowIs.cat RowIs.elems RowIs.elems)) .nil) (.cons rfl (BLe.typed (RowIs.cat RowIs.elems RowIs.elems)) .nil) ?_
   refine DW.done ?_
   show DW _ _ _ _ _
   refine RD hnt (nn 3 []) [] [(7, pI (w64 (((k1 : Nat) : Int) + 1)))] [] [] trivial ?_
   exact joinDone (s1 ++ r15) ⟨hlt1, hm⟩ (Conv.tp [(7, pI (w64 (((k1 : Nat) : Int) + 1)))] [] (by kernel_rfl) (.cons rfl (.of_eq (congrArg pI (w64_succ hlt1 hc1))) .nil) .nil)
  ·intro h14
   have hge1 : ¬ k1 < r3.length := by have := of_decide_eq_false h14; omega
   have hm := he1 hge1
   unfold Subtree_ref5D1 at hm
   refine DW.exit ?_
   refine joinQ_exit ?_
   refine KQ_exit ?_
   refine blockQ_exit ?_
   show DW _ _ _ _ _
   refine DW.seq (RK hnt (nn 2 []) [(4, ow 1104 s1.length)] [(1104, ob0 (roI s1))] trivial ?_)
   refine DW.ret ?_
   obtain rfl := Option.some.inj hm
   exact retK [roI s1] [1104] (ow 0 s1.length)
theorem Subtree_ref5FSpec : ∀ (n : Nat) (p0 : Tree) (p1 : Int) (RES : List Int), Subtree_ref5F n p0 p1 = some RES → Spec Tryz.prog 116 [.p (.agg (encTree p0)), pI p1] [] (ow 0 RES.length) [] [roI RES]
  | 0, p0, p1, RES, hm => by simp [Subtree_ref5F] at hm
  | n + 1, p0, p1, RES, hm => Subtree_ref5BSpec (Subtree_ref5F n) (Subtree_ref5FSpec n) p0 p1 RES hm
theorem Subtree_ref5Spec (p0 : Tree) (p1 : Int) (RES : List Int) (hm : Subtree_ref5 p0 p1 = some RES) : Spec Tryz.prog 116 [.p (.agg (encTree p0)), pI p1] [] (ow 0 RES.length) [] [roI RES] := Subtree_ref5FSpec FUEL p0 p1 RES hm

theorem Has_ref3Spec (p0 : List Int) (p1 : Int) (RES : Bool) (hm : Has_ref3 p0 p1 = some RES) : Spec Tryz.prog 117 [.p (slI p0), pI p1] [] (pB RES) [] [] := by
 unfold Has_ref3 at hm
 refine SO Tryz.func117 rfl rfl [(0, .p (slI p0)), (1, pI p1)] [] ?_
 intro cx hnt
 refine DW.seq (RD hnt (.no :: []) [] [] [] [] trivial ?_)
 refine DW.seq (DW.seq (RD hnt (.no :: []) [] [(5, pI 0)] [] [] trivial ?_))
 refine DW.block ?_
 obtain ⟨hc1, hm⟩ := guard_open hm
 refine DW.rangeO (fun (k1 : Nat) (s1 : Unit) => mkSt [(0, .p (slI p0)), (1, pI p1), (5, pI ((k1 : Nat) : Int))] []) 0 hm Conv.eqK ?_
 intro k1 s1 n1 hk1 hs1 he1
 refine DW.seq (DW.seq (RD hnt (nn 4 []) [] [(9, pB (decide (((k1 : Nat) : Int) < ((p0.length : Nat) : Int))))] [] [] trivial ?_))
 refine condK (decide (((k1 : Nat) : Int) < ((p0.length : Nat) : Int))) ?_ ?_
 ·intro h7
  have hlt1 : k1 < p0.length := by have := of_decide_eq_true h7; omega
  have hm := hs1 hlt1
  unfold Has_ref3L1 at hm
  refine DW.skip ?_
  refine DW.seq (DW.block ?_)
  refine DW.seq (RD hnt (nn 6 []) [9] [(17, pB ((p0.getD k1 0) == p1))] [] [] (an (nn0 k1) (an (ltc hlt1) trivial)) ?_)
  refine condM hm ?_ ?_
  ·intro h8 hm
   refine DW.seq (RK hnt (.no :: []) [(4, pB true)] [] trivial ?_)
   refine DW.ret ?_
   obtain rfl := Option.some.inj hm
   exact retK [] [] (pB true)
  ·intro h8 hm
   refine DW.skip ?_
   refine DW.done ?_
   show DW _ _ _ _ _
   refine RD hnt (nn 3 []) [17] [(5, pI (w64 (((k1 : Nat) : Int) + 1)))] [] [] trivial ?_
   exact joinDone () ⟨hlt1, hm⟩ (Conv.tp [(5, pI (w64 (((k1 : Nat) : Int) + 1)))] [] (by kernel_rfl) (.cons rfl (.of_eq (congrArg pI (w64_succ hlt1 hc1))) .nil) .nil)
 ·intro h7
  have hge1 : ¬ k1 < p0.length := by have := of_decide_eq_false h7; omega
  have hm := he1 hge1
  unfold Has_ref3D1 at hm
  refine DW.exit ?_
  refine joinQ_exit ?_
  refine KQ_exit ?_
  refine blockQ_exit ?_
  show DW _ _ _ _ _
  refine DW.seq (RK hnt (.no :: []) [(4, pB false)] [] trivial ?_)
  refine DW.ret ?_
  obtain rfl := Option.some.inj hm
  exact retK [] [] (pB false)

theorem Count_ref6Spec (p0 : Hierarchy) (p1 : Int) (RES : Int) (hm : Count_ref6 p0 p1 = some RES) : Spec Tryz.prog 59 [.p (.agg (encHierarchy p0)), pI p1] [] (pI RES) [] [] := by
 unfold Count_ref6 at hm
 refine SO Tryz.func59 rfl rfl [(0, .p (.agg (encHierarchy p0))), (1, pI p1)] [] ?_
 intro cx hnt
 refine DW.seq (RK hnt (nn 2 []) [(1, pI p1), (2, rr 1016)] [(1016, bx (pm (encHierarchy p0)))] trivial ?_)
 obtain ⟨r1, hr1, hm⟩ := bind_open hm
 refine DW.seq (DW.seq (RD hnt (.no :: .call 52 [] true (pB r1) [] [] :: .no :: []) [] [(10, pB (!r1))] [] [] (an (Check_ref6Spec p0 r1 hr1) trivial) ?_))
 refine condM hm ?_ ?_
 ·intro h2 hm
  refine DW.seq (RK hnt (.no :: []) [(4, pI 0)] [] trivial ?_)
  refine DW.ret ?_
  obtain rfl := Option.some.inj hm
  exact retK [] [] (pI 0)
 ·intro h2 hm
  refine DW.skip ?_
  refine DW.seq (RD hnt (.no :: []) [10] [(5, pI 0)] [] [] trivial ?_)
  obtain ⟨r3, hr3, hm⟩ := bind_open hm
  refine DW.seq (RD hnt (nn 3 (.call 116 [] true (ow 0 r3.length) [] [roI r3] :: .no :: [])) [1] [(6, ow 1112 r3.length)] [] [(1112, ob0 (roI r3))] (an (Subtree_ref5Spec p0.tree p1 r3 hr3) trivial) ?_)
  refine DW.seq (DW.seq (RD hnt (.no :: []) [] [(7, pI 0)] [] [] trivial ?_))
  refine DW.block ?_
  obtain ⟨hc1, hm⟩ := guard_open hm
  refine DW.rangeO (fun (k1 : Nat) (s1 : Int) => mkSt [(2, rr 1016), (5, pI s1), (6, ow 1112 r3.length), (7, pI ((k1 : Nat) : Int))] [(1016, bx (pm (encHierarchy p0))), (1112, ob0 (roI r3))]) dTask hm Conv.eqK ?_
  intro k1 s1 n1 hk1 hs1 he1
  refine DW.seq (DW.seq (RD hnt (nn 5 []) [] [(19, pB (decide (((k1 : Nat) : Int) < ((p0.tasks.length : Nat) : Int))))] [] [] trivial ?_))
  refine condK (decide (((k1 : Nat) : Int) < ((p0.tasks.length : Nat) : Int))) ?_ ?_
  ·intro h12
   have hlt1 : k1 < p0.tasks.length := by have := of_decide_eq_true h12; omega
   have hm := hs1 hlt1
   unfold Count_ref6L1 at hm
   refine DW.skip ?_
   refine DW.seq ?_
   refine DW.join (ι := Int) (fun (y3 : Int) => mkSt [(2, rr 1016), (5, pI y3), (6, ow 1112 r3.length), (7, pI ((k1 : Nat) : Int))] [(1016, bx (pm (encHierarchy p0))), (1112, ob0 (roI r3))]) (fun y3 => (Count_ref6J3 n1) y3 = some RES) ?_ ?_
   ·intro y3 hm
    unfold Count_ref6J3 at hm
    refine RD hnt (nn 3 []) [] [(7, pI (w64 (((k1 : Nat) : Int) + 1)))] [] [] trivial ?_
    exact joinDone y3 ⟨hlt1, hm⟩ (Conv.tp [(7, pI (w64 (((k1 : Nat) : Int) + 1)))] [] (by kernel_rfl) (.cons rfl (.of_eq (congrArg pI (w64_succ hlt1 hc1))) .nil) .nil)
   ·refine DW.block ?_
    obtain ⟨r13, hr13, hm⟩ := bind_open hm
    refine DW.seq (RD hnt (nn 7 (.call 117 [] true (pB r13) [] [] :: [])) [19] [(29, pB r13)] [] [] (an (nn0 k1) (an (ltc hlt1) (an (Has_ref3Spec r3 (p0.tasks.getD k1 (default : Task)).group r13 hr13) trivial))) ?_)
    refine condM hm ?_ ?_
    ·intro h14 hm
     refine RD hnt (nn 3 []) [29] [(5, pI (w64 (s1 + 1)))] [] [] trivial ?_
     exact blockDone (w64 (s1 + 1)) hm Conv.eqK
    ·intro h14 hm
     refine DW.skip ?_
     exact blockDone s1 hm Conv.t0
  ·intro h12
   have hge1 : ¬ k1 < p0.tasks.length := by have := of_decide_eq_false h12; omega
   have hm := he1 hge1
   unfold Count_ref6D1 at hm
   refine DW.exit ?_
   refine joinQ_exit ?_
   refine KQ_exit ?_
   refine blockQ_exit ?_
   show DW _ _ _ _ _
   refine DW.seq (RK hnt (nn 2 []) [(4, pI s1)] [] trivial ?_)
   refine DW.ret ?_
   obtain rfl := Option.some.inj hm
   exact retK [] [] (pI s1)

abbrev c40e1 (y3 : Count) (r17 : Int) := ({ group := y3.group, now := r17, limit := y3.limit, peak := (maxI y3.peak r17), events := y3.events } : Count)
abbrev c40e2 (p0 : Hierarchy) (k1 : Nat) := (p0.tree.nodes.getD k1 (default : Node))
abbrev c40e3 (p0 : Hierarchy) : Nat × Obj := (1016, bx (pm (encHierarchy p0)))
theorem Adjust_ref10Spec (p0 : Hierarchy) (p1 : List Count) (RES : List Count) (hm : Adjust_ref10 p0 p1 = some RES) : Spec Tryz.prog 40 [.p (.agg (encHierarchy p0)), .p (slCount p1)] [] (ow 0 RES.length) [] [roCount RES] := by
 unfold Adjust_ref10 at hm
 refine SO Tryz.func40 rfl rfl [(0, .p (.agg (encHierarchy p0))), (1, .p (slCount p1))] [] ?_
 intro cx hnt
 refine DW.seq (RD hnt (nn 2 []) [0] [(2, rr 1016)] [] [(c40e3 p0)] trivial ?_)
 obtain ⟨r1, hr1, hm⟩ := bind_open hm
 refine DW.seq (DW.seq (RD hnt (.no :: .call 52 [] true (pB r1) [] [] :: .no :: []) [] [(12, pB (!r1))] [] [] (an (Check_ref6Spec p0 r1 hr1) trivial) ?_))
 refine condM hm ?_ ?_
 ·intro h2 hm
  refine DW.seq (RK hnt (.no :: []) [(4, .p (.sl .nil 0 0 (fun _ => [])))] [] trivial ?_)
  refine DW.conv (τ := mkSt [(4, ow 100000 0)] [(100000, ob0 (roCount []))]) (Conv.trans (τ := mkSt [(4, ow 100000 0)] ((100000, ⟨0, .row 5 0 (elems encCount dCount [])⟩) :: [])) (Conv.adopt 100000 5 (elems encCount dCount []) rfl rfl (.cons (.one (.nil _ _)) (.rfl _)) (.rfl _)) Conv.t0) ?_
  refine DW.ret ?_
  obtain rfl := Option.some.inj hm
  exact retK [roCount []] [100000] (ow 0 0)
 ·intro h2 hm
  refine DW.skip ?_
  refine DW.seq (RD hnt (.no :: []) [12] [(5, .p (.sl .nil 0 0 (fun _ => [])))] [] [] trivial ?_)
  refine DW.seq (DW.seq (RD hnt (.no :: []) [] [(6, pI 0)] [] [] trivial ?_))
  refine DW.block ?_
  obtain ⟨hc1, hm⟩ := guard_open hm
  refine DW.rangeO (fun (k1 : Nat) (s1 : List Count) => mkSt [(1, .p (slCount p1)), (2, rr 1016), (5, ow 1408 s1.length), (6, pI ((k1 : Nat) : Int))] [(c40e3 p0), (1408, ob0 (roCount s1))]) dNode hm (Conv.trans (τ := mkSt [(1, .p (slCount p1)), (2, rr 1016), (5, .p (.sl .nil 0 0 (fun _ => []))), (6, pI 0)] [(c40e3 p0)]) Conv.eqK (Conv.trans (τ := mkSt [(1, .p (slCount p1)), (2, rr 1016), (5, ow 1408 0), (6, pI 0)] ((1408, ⟨0, .row 5 0 (elems encCount dCount [])⟩) :: [(c40e3 p0)])) (Conv.adopt 1408 5 (elems encCount dCount []) rfl rfl (.cons (.one (.rfl _)) (.cons (.one (.rfl _)) (.cons (.one (.nil _ _)) (.cons (.one (.rfl _)) (.rfl _))))) (.rfl _)) Conv.t0)) ?_
  intro k1 s1 n1 hk1 hs1 he1
  refine DW.seq (DW.seq (RD hnt (nn 6 []) [] [(18, pB (decide (((k1 : Nat) : Int) < ((p0.tree.nodes.length : Nat) : Int))))] [] [] trivial ?_))
  refine condK (decide (((k1 : Nat) : Int) < ((p0.tree.nodes.length : Nat) : Int))) ?_ ?_
  ·intro h14
   have hlt1 : k1 < p0.tree.nodes.length := by have := of_decide_eq_true h14; omega
   have hm := hs1 hlt1
   unfold Adjust_ref10L1 at hm
   refine DW.skip ?_
   refine DW.seq (DW.block ?_)
   refine DW.seq (RD hnt (nn 8 []) [18] [(7, pI (c40e2 p0 k1).id)] [] [] (an (nn0 k1) (an (ltc hlt1) trivial)) ?_)
   obtain ⟨r15, hr15, hm⟩ := bind_open hm
   refine DW.seq (RD hnt (nn 2 (.call 22 [] true (.p (.tup [.agg (encCount r15.1), vb r15.2])) [] [] :: nn 6 [])) [] [(8, rr 1064), (9, pB r15.2)] [] [(1064, bx (pm (encCount r15.1)))] (an (Get_ref10Spec p1 (c40e2 p0 k1).id r15 hr15) trivial) ?_)
   refine DW.seq (DW.seq (RD hnt (nn 2 []) [9] [(35, pB (!r15.2))] [] [] trivial ?_))
   refine DW.join (ι := Count) (fun (y3 : Count) => mkSt [(1, .p (slCount p1)), (2, rr 1016), (5, ow 1408 s1.length), (6, pI ((k1 : Nat) : Int)), (7, pI (c40e2 p0 k1).id), (8, rr 1064)] [(c40e3 p0), (1064, bx (pm (encCount y3))), (1408, ob0 (roCount s1))]) (fun y3 => (Adjust_ref10J3 p0 (c40e2 p0 k1) s1 n1) y3 = some RES) ?_ ?_
   ·intro y3 hm
    unfold Adjust_ref10J3 at hm
    obtain ⟨r17, hr17, hm⟩ := bind_open hm
    refine DW.seq (RD hnt (nn 2 (.call 59 [] true (pI r17) [] [] :: nn 2 [])) [7] [] [] [(1064, bx [pI y3.group, pI r17, pI y3.limit, pI y3.peak, pI y3.events])] (an (Count_ref6Spec p0 (c40e2 p0 k1).id r17 hr17) trivial) ?_)
    refine DW.seq (RD hnt (nn 7 []) [] [] [] [(1064, bx [pI y3.group, pI r17, pI y3.limit, pI (maxI y3.peak r17), pI y3.events])] trivial ?_)
    obtain ⟨g18, hm⟩ := guard_open hm
    refine RN hnt (nn 5 []) [(1, .p (slCount p1)), (2, rr 1016), (5, ow 1408 (s1 ++ [(c40e1 y3 r17)]).length), (6, pI ((k1 : Nat) : Int))] [(c40e3 p0), (1408, ob0 (roCount (s1 ++ [(c40e1 y3 r17)])))] [(5, ow 1408 (s1.length + 1))] [(1408, .row 5 (s1.length + 1) (catF s1.length (elCount s1) (cut 5 [vi y3.group, vi r17, vi y3.limit, vi (maxI y3.peak r17), vi y3.events])))] (an (by omega : (s1.length + 1) * 40 ≤ 140737488355328) trivial) (by kernel_rfl) (.cons rfl (MLe.ownLen (enc := encCount) (d := dCount) (f := (catF s1.length (elCount s1) (cut 5 [vi y3.group, vi r17, vi y3.limit, vi (maxI y3.peak r17), vi y3.events]))) (RowIs.cat RowIs.elems (RowIs.lit (enc := encCount) (d := dCount) (n := 1) (f := (cut 5 [vi y3.group, vi r17, vi y3.limit, vi (maxI y3.peak r17), vi y3.events])) [(c40e1 y3 r17)] rfl (fun | 0, _ => rfl | n + 1, h => absurd h (by omega))))) .nil) (.cons rfl (BLe.typed (RowIs.cat RowIs.elems (RowIs.lit (enc := encCount) (d := dCount) (n := 1) (f := (cut 5 [vi y3.group, vi r17, vi y3.limit, vi (maxI y3.peak r17), vi y3.events])) [(c40e1 y3 r17)] rfl (fun | 0, _ => rfl | n + 1, h => absurd h (by omega))))) .nil) ?_
    refine DW.done ?_
    show DW _ _ _ _ _
    refine RD hnt (nn 3 []) [] [(6, pI (w64 (((k1 : Nat) : Int) + 1)))] [] [] trivial ?_
    exact joinDone (s1 ++ [(c40e1 y3 r17)]) ⟨hlt1, hm⟩ (Conv.tp [(6, pI (w64 (((k1 : Nat) : Int) + 1)))] [] (by kernel_rfl) (.cons rfl (.of_eq (congrArg pI (w64_succ hlt1 hc1))) .nil) .nil)
   ·refine condM hm ?_ ?_
    ·intro h16 hm
     refine RD hnt (nn 3 []) [35] [] [] [(1064, bx [pI (c40e2 p0 k1).id, pI 0, pI 4611686018427387904, pI 0, pI 0])] trivial ?_
     exact joinDone ({ group := (c40e2 p0 k1).id, now := 0, limit := 4611686018427387904, peak := 0, events := 0 } : Count) hm Conv.eqK
    ·intro h16 hm
     refine DW.skip ?_
     exact joinDone r15.1 hm Conv.t0
  ·intro h14
   have hge1 : ¬ k1 < p0.tree.nodes.length := by have := of_decide_eq_false h14; omega
   have hm := he1 hge1
   unfold Adjust_ref10D1 at hm
   refine DW.exit ?_
   refine joinQ_exit ?_
   refine KQ_exit ?_
   refine blockQ_exit ?_
   show DW _ _ _ _ _
   refine DW.seq (RK hnt (nn 2 []) [(4, ow 1408 s1.length)] [(1408, ob0 (roCount s1))] trivial ?_)
   refine DW.ret ?_
   obtain rfl := Option.some.inj hm
   exact retK [roCount s1] [1408] (ow 0 s1.length)

theorem New_ref10Spec (p0 : Hierarchy) (RES : List Count) (hm : New_ref10 p0 = some RES) : Spec Tryz.prog 41 [.p (.agg (encHierarchy p0))] [] (ow 0 RES.length) [] [roCount RES] := by
 unfold New_ref10 at hm
 refine SO Tryz.func41 rfl rfl [(0, .p (.agg (encHierarchy p0)))] [] ?_
 intro cx hnt
 refine DW.seq (RK hnt (nn 2 []) [(1, rr 1008)] [(1008, bx (pm (encHierarchy p0)))] trivial ?_)
 obtain ⟨r1, hr1, hm⟩ := bind_open hm
 refine DW.seq (RK hnt (.no :: .call 40 [] true (ow 0 r1.length) [] [roCount r1] :: .no :: []) [(2, ow 1032 r1.length)] [(1032, ob0 (roCount r1))] (an (Spec.args (xs := [.p (.agg (encHierarchy p0)), .p (.sl .nil 0 0 (fun _ => []))]) (Adjust_ref10Spec p0 [] r1 hr1) (.cons .rfl (.cons (.p PLe.nilL) .nil))) trivial) ?_)
 refine DW.ret ?_
 obtain rfl := Option.some.inj hm
 exact retK [roCount r1] [1032] (ow 0 r1.length)

abbrev c18e1 (y3 : Dice × (List Count)) (k1 : Int) := (y3.2.getD (Int.toNat k1) dCount)
abbrev c18e2 (r1 : List Count) : Nat × MV := (10, pI ((r1.length : Nat) : Int))
theorem counts_law10Spec (p0 : Dice) (p1 : Hierarchy) (RES : (List Count) × Dice) (hm : counts_law10 p0 p1 = some RES) : Spec Tryz.prog 18 [rr 0, .p (.agg (encHierarchy p1))] [.box (pm (encDice p0))] (ow 1 RES.1.length) [.box (pm (encDice RES.2))] [roCount RES.1] := by
 unfold counts_law10 at hm
 refine SO Tryz.func18 rfl rfl [(0, rr 0), (1, .p (.agg (encHierarchy p1)))] [(0, bx (pm (encDice p0)))] ?_
 intro cx hnt
 refine DW.seq (RD hnt (nn 2 []) [1] [(3, rr 1024)] [] [(1024, bx (pm (encHierarchy p1)))] trivial ?_)
 obtain ⟨r1, hr1, hm⟩ := bind_open hm
 refine DW.seq (RD hnt (.no :: .call 41 [] true (ow 0 r1.length) [] [roCount r1] :: .no :: []) [3] [(5, ow 1064 r1.length)] [1024] [(1064, ob0 (roCount r1))] (an (New_ref10Spec p1 r1 hr1) trivial) ?_)
 refine DW.seq (DW.seq (RD hnt (nn 3 []) [] [(c18e2 r1), (11, pI 0)] [] [] trivial ?_))
 refine DW.block ?_
 obtain ⟨hc1, hm⟩ := guard_open hm
 refine DW.forO (fun (k1 : Int) (s1 : Dice × (List Count)) => mkSt [(0, rr 0), (5, ow 1064 s1.2.length), (c18e2 r1), (11, pI k1)] [(0, bx (pm (encDice s1.1))), (1064, ob0 (roCount s1.2))]) (lo := 0) (hi := ((r1.length : Nat) : Int)) hm Conv.eqK ?_
 intro k1 s1 n1 hk1 hs1 he1
 refine DW.seq (RD hnt (.no :: []) [] [(12, pB (decide (k1 < ((r1.length : Nat) : Int))))] [] [] trivial ?_)
 refine DW.seq (condK (decide (k1 < ((r1.length : Nat) : Int))) ?_ ?_)
 ·intro h30
  have hlt1 : k1 < ((r1.length : Nat) : Int) := by have := of_decide_eq_true h30; omega
  have hm := hs1 hlt1
  unfold counts_law10L1 at hm
  refine DW.skip ?_
  refine DW.seq (DW.block ?_)
  refine DW.seq (RD hnt (nn 2 []) [12] [(6, pI k1)] [] [] trivial ?_)
  obtain ⟨r31, hr31, hm⟩ := bind_open hm
  refine DW.seq (DW.seq (RD hnt (.no :: .call 77 [0] true (pB r31.1) [.box (pm (encDice r31.2))] [] :: []) [] [(15, pB r31.1)] [] [(0, bx (pm (encDice r31.2)))] (an (Bool_Dice_madeSpec s1.1 2 r31 hr31) (an trivial trivial)) ?_))
  refine DW.join (ι := Dice × (List Count)) (fun (y3 : Dice × (List Count)) => mkSt [(0, rr 0), (5, ow 1064 y3.2.length), (6, pI k1), (c18e2 r1), (11, pI k1)] [(0, bx (pm (encDice y3.1))), (1064, ob0 (roCount y3.2))]) (fun y3 => (counts_law10J3 k1 n1) y3 = some RES) ?_ ?_
  ·intro y3 hm
   unfold counts_law10J3 at hm
   obtain ⟨g36, g37, hm⟩ := go2 hm
   obtain ⟨r38, hr38, hm⟩ := bind_open hm
   obtain ⟨g39, g40, hm⟩ := go2 hm
   refine DW.seq (RN hnt (nn 8 (.call 19 [0] true (pI r38.1) [.box (pm (encDice r38.2))] [] :: nn 5 [])) [(0, rr 0), (5, ow 1064 (y3.2.set (Int.toNat k1) ({ group := (c18e1 y3 k1).group, now := (c18e1 y3 k1).now, limit := (c18e1 y3 k1).limit, peak := (minI (w64 ((c18e1 y3 k1).peak + r38.1)) 128), events := (c18e1 y3 k1).events } : Count)).length), (6, pI k1), (c18e2 r1), (11, pI k1)] [(0, bx (pm (encDice r38.2))), (1064, ob0 (roCount (y3.2.set (Int.toNat k1) ({ group := (c18e1 y3 k1).group, now := (c18e1 y3 k1).now, limit := (c18e1 y3 k1).limit, peak := (minI (w64 ((c18e1 y3 k1).peak + r38.1)) 128), events := (c18e1 y3 k1).events } : Count))))] [(5, ow 1064 y3.2.length)] [(1064, .row 5 y3.2.length (updF (elCount y3.2) (Int.toNat k1) [vi (c18e1 y3 k1).group, vi (c18e1 y3 k1).now, vi (c18e1 y3 k1).limit, vi (minI (w64 ((c18e1 y3 k1).peak + r38.1)) 128), vi (c18e1 y3 k1).events]))] (an g36.1 (an g36.2 (an g37 (an (Next_Dice_madeSpec y3.1 3 r38 hr38) (an trivial (an g39.1 (an g39.2 (an g40 trivial)))))))) (by kernel_rfl) (.cons rfl (MLe.ownLen (enc := encCount) (d := dCount) (f := (updF (elCount y3.2) (Int.toNat k1) [vi (c18e1 y3 k1).group, vi (c18e1 y3 k1).now, vi (c18e1 y3 k1).limit, vi (minI (w64 ((c18e1 y3 k1).peak + r38.1)) 128), vi (c18e1 y3 k1).events])) (RowIs.upd RowIs.elems ({ group := (c18e1 y3 k1).group, now := (c18e1 y3 k1).now, limit := (c18e1 y3 k1).limit, peak := (minI (w64 ((c18e1 y3 k1).peak + r38.1)) 128), events := (c18e1 y3 k1).events } : Count) rfl)) .nil) (.cons rfl (BLe.typed (RowIs.upd RowIs.elems ({ group := (c18e1 y3 k1).group, now := (c18e1 y3 k1).now, limit := (c18e1 y3 k1).limit, peak := (minI (w64 ((c18e1 y3 k1).peak + r38.1)) 128), events := (c18e1 y3 k1).events } : Count) rfl)) .nil) ?_)
   obtain ⟨r41, hr41, hm⟩ := bind_open hm
   obtain ⟨g42, g43, hm⟩ := go2 hm
   refine RN hnt (nn 3 (.call 19 [0] true (pI r41.1) [.box (pm (encDice r41.2))] [] :: nn 3 [])) [(0, rr 0), (5, ow 1064 ((y3.2.set (Int.toNat k1) ({ group := (c18e1 y3 k1).group, now := (c18e1 y3 k1).now, limit := (c18e1 y3 k1).limit, peak := (minI (w64 ((c18e1 y3 k1).peak + r38.1)) 128), events := (c18e1 y3 k1).events } : Count)).set (Int.toNat k1) ({ group := ((y3.2.set (Int.toNat k1) ({ group := (c18e1 y3 k1).group, now := (c18e1 y3 k1).now, limit := (c18e1 y3 k1).limit, peak := (minI (w64 ((c18e1 y3 k1).peak + r38.1)) 128), events := (c18e1 y3 k1).events } : Count)).getD (Int.toNat k1) dCount).group, now := ((y3.2.set (Int.toNat k1) ({ group := (c18e1 y3 k1).group, now := (c18e1 y3 k1).now, limit := (c18e1 y3 k1).limit, peak := (minI (w64 ((c18e1 y3 k1).peak + r38.1)) 128), events := (c18e1 y3 k1).events } : Count)).getD (Int.toNat k1) dCount).now, limit := ((y3.2.set (Int.toNat k1) ({ group := (c18e1 y3 k1).group, now := (c18e1 y3 k1).now, limit := (c18e1 y3 k1).limit, peak := (minI (w64 ((c18e1 y3 k1).peak + r38.1)) 128), events := (c18e1 y3 k1).events } : Count)).getD (Int.toNat k1) dCount).limit, peak := ((y3.2.set (Int.toNat k1) ({ group := (c18e1 y3 k1).group, now := (c18e1 y3 k1).now, limit := (c18e1 y3 k1).limit, peak := (minI (w64 ((c18e1 y3 k1).peak + r38.1)) 128), events := (c18e1 y3 k1).events } : Count)).getD (Int.toNat k1) dCount).peak, events := r41.1 } : Count)).length), (c18e2 r1), (11, pI k1)] [(0, bx (pm (encDice r41.2))), (1064, ob0 (roCount ((y3.2.set (Int.toNat k1) ({ group := (c18e1 y3 k1).group, now := (c18e1 y3 k1).now, limit := (c18e1 y3 k1).limit, peak := (minI (w64 ((c18e1 y3 k1).peak + r38.1)) 128), events := (c18e1 y3 k1).events } : Count)).set (Int.toNat k1) ({ group := ((y3.2.set (Int.toNat k1) ({ group := (c18e1 y3 k1).group, now := (c18e1 y3 k1).now, limit := (c18e1 y3 k1).limit, peak := (minI (w64 ((c18e1 y3 k1).peak + r38.1)) 128), events := (c18e1 y3 k1).events } : Count)).getD (Int.toNat k1) dCount).group, now := ((y3.2.set (Int.toNat k1) ({ group := (c18e1 y3 k1).group, now := (c18e1 y3 k1).now, limit := (c18e1 y3 k1).limit, peak := (minI (w64 ((c18e1 y3 k1).peak + r38.1)) 128), events := (c18e1 y3 k1).events } : Count)).getD (Int.toNat k1) dCount).now, limit := ((y3.2.set (Int.toNat k1) ({ group := (c18e1 y3 k1).group, now := (c18e1 y3 k1).now, limit := (c18e1 y3 k1).limit, peak := (minI (w64 ((c18e1 y3 k1).peak + r38.1)) 128), events := (c18e1 y3 k1).events } : Count)).getD (Int.toNat k1) dCount).limit, peak := ((y3.2.set (Int.toNat k1) ({ group := (c18e1 y3 k1).group, now := (c18e1 y3 k1).now, limit := (c18e1 y3 k1).limit, peak := (minI (w64 ((c18e1 y3 k1).peak + r38.1)) 128), events := (c18e1 y3 k1).events } : Count)).getD (Int.toNat k1) dCount).peak, events := r41.1 } : Count))))] [(5, ow 1064 (y3.2.set (Int.toNat k1) ({ group := (c18e1 y3 k1).group, now := (c18e1 y3 k1).now, limit := (c18e1 y3 k1).limit, peak := (minI (w64 ((c18e1 y3 k1).peak + r38.1)) 128), events := (c18e1 y3 k1).events } : Count)).length)] [(1064, .row 5 (y3.2.set (Int.toNat k1) ({ group := (c18e1 y3 k1).group, now := (c18e1 y3 k1).now, limit := (c18e1 y3 k1).limit, peak := (minI (w64 ((c18e1 y3 k1).peak + r38.1)) 128), events := (c18e1 y3 k1).events } : Count)).length (updF (elCount (y3.2.set (Int.toNat k1) ({ group := (c18e1 y3 k1).group, now := (c18e1 y3 k1).now, limit := (c18e1 y3 k1).limit, peak := (minI (w64 ((c18e1 y3 k1).peak + r38.1)) 128), events := (c18e1 y3 k1).events } : Count))) (Int.toNat k1) [vi ((y3.2.set (Int.toNat k1) ({ group := (c18e1 y3 k1).group, now := (c18e1 y3 k1).now, limit := (c18e1 y3 k1).limit, peak := (minI (w64 ((c18e1 y3 k1).peak + r38.1)) 128), events := (c18e1 y3 k1).events } : Count)).getD (Int.toNat k1) dCount).group, vi ((y3.2.set (Int.toNat k1) ({ group := (c18e1 y3 k1).group, now := (c18e1 y3 k1).now, limit := (c18e1 y3 k1).limit, peak := (minI (w64 ((c18e1 y3 k1).peak + r38.1)) 128), events := (c18e1 y3 k1).events } : Count)).getD (Int.toNat k1) dCount).now, vi ((y3.2.set (Int.toNat k1) ({ group := (c18e1 y3 k1).group, now := (c18e1 y3 k1).now, limit := (c18e1 y3 k1).limit, peak := (minI (w64 ((c18e1 y3 k1).peak + r38.1)) 128), events := (c18e1 y3 k1).events } : Count)).getD (Int.toNat k1) dCount).limit, vi ((y3.2.set (Int.toNat k1) ({ group := (c18e1 y3 k1).group, now := (c18e1 y3 k1).now, limit := (c18e1 y3 k1).limit, peak := (minI (w64 ((c18e1 y3 k1).peak + r38.1)) 128), events := (c18e1 y3 k1).events } : Count)).getD (Int.toNat k1) dCount).peak, vi r41.1]))] (an (Next_Dice_madeSpec r38.2 3 r41 hr41) (an trivial (an g42.1 (an g42.2 (an g43 trivial))))) (by kernel_rfl) (.cons rfl (MLe.ownLen (enc := encCount) (d := dCount) (f := (updF (elCount (y3.2.set (Int.toNat k1) ({ group := (c18e1 y3 k1).group, now := (c18e1 y3 k1).now, limit := (c18e1 y3 k1).limit, peak := (minI (w64 ((c18e1 y3 k1).peak + r38.1)) 128), events := (c18e1 y3 k1).events } : Count))) (Int.toNat k1) [vi ((y3.2.set (Int.toNat k1) ({ group := (c18e1 y3 k1).group, now := (c18e1 y3 k1).now, limit := (c18e1 y3 k1).limit, peak := (minI (w64 ((c18e1 y3 k1).peak + r38.1)) 128), events := (c18e1 y3 k1).events } : Count)).getD (Int.toNat k1) dCount).group, vi ((y3.2.set (Int.toNat k1) ({ group := (c18e1 y3 k1).group, now := (c18e1 y3 k1).now, limit := (c18e1 y3 k1).limit, peak := (minI (w64 ((c18e1 y3 k1).peak + r38.1)) 128), events := (c18e1 y3 k1).events } : Count)).getD (Int.toNat k1) dCount).now, vi ((y3.2.set (Int.toNat k1) ({ group := (c18e1 y3 k1).group, now := (c18e1 y3 k1).now, limit := (c18e1 y3 k1).limit, peak := (minI (w64 ((c18e1 y3 k1).peak + r38.1)) 128), events := (c18e1 y3 k1).events } : Count)).getD (Int.toNat k1) dCount).limit, vi ((y3.2.set (Int.toNat k1) ({ group := (c18e1 y3 k1).group, now := (c18e1 y3 k1).now, limit := (c18e1 y3 k1).limit, peak := (minI (w64 ((c18e1 y3 k1).peak + r38.1)) 128), events := (c18e1 y3 k1).events } : Count)).getD (Int.toNat k1) dCount).peak, vi r41.1])) (RowIs.upd RowIs.elems ({ group := ((y3.2.set (Int.toNat k1) ({ group := (c18e1 y3 k1).group, now := (c18e1 y3 k1).now, limit := (c18e1 y3 k1).limit, peak := (minI (w64 ((c18e1 y3 k1).peak + r38.1)) 128), events := (c18e1 y3 k1).events } : Count)).getD (Int.toNat k1) dCount).group, now := ((y3.2.set (Int.toNat k1) ({ group := (c18e1 y3 k1).group, now := (c18e1 y3 k1).now, limit := (c18e1 y3 k1).limit, peak := (minI (w64 ((c18e1 y3 k1).peak + r38.1)) 128), events := (c18e1 y3 k1).events } : Count)).getD (Int.toNat k1) dCount).now, limit := ((y3.2.set (Int.toNat k1) ({ group := (c18e1 y3 k1).group, now := (c18e1 y3 k1).now, limit := (c18e1 y3 k1).limit, peak := (minI (w64 ((c18e1 y3 k1).peak + r38.1)) 128), events := (c18e1 y3 k1).events } : Count)).getD (Int.toNat k1) dCount).limit, peak := ((y3.2.set (Int.toNat k1) ({ group := (c18e1 y3 k1).group, now := (c18e1 y3 k1).now, limit := (c18e1 y3 k1).limit, peak := (minI (w64 ((c18e1 y3 k1).peak + r38.1)) 128), events := (c18e1 y3 k1).events } : Count)).getD (Int.toNat k1) dCount).peak, events := r41.1 } : Count) rfl)) .nil) (.cons rfl (BLe.typed (RowIs.upd RowIs.elems ({ group := ((y3.2.set (Int.toNat k1) ({ group := (c18e1 y3 k1).group, now := (c18e1 y3 k1).now, limit := (c18e1 y3 k1).limit, peak := (minI (w64 ((c18e1 y3 k1).peak + r38.1)) 128), events := (c18e1 y3 k1).events } : Count)).getD (Int.toNat k1) dCount).group, now := ((y3.2.set (Int.toNat k1) ({ group := (c18e1 y3 k1).group, now := (c18e1 y3 k1).now, limit := (c18e1 y3 k1).limit, peak := (minI (w64 ((c18e1 y3 k1).peak + r38.1)) 128), events := (c18e1 y3 k1).events } : Count)).getD (Int.toNat k1) dCount).now, limit := ((y3.2.set (Int.toNat k1) ({ group := (c18e1 y3 k1).group, now := (c18e1 y3 k1).now, limit := (c18e1 y3 k1).limit, peak := (minI (w64 ((c18e1 y3 k1).peak + r38.1)) 128), events := (c18e1 y3 k1).events } : Count)).getD (Int.toNat k1) dCount).limit, peak := ((y3.2.set (Int.toNat k1) ({ group := (c18e1 y3 k1).group, now := (c18e1 y3 k1).now, limit := (c18e1 y3 k1).limit, peak := (minI (w64 ((c18e1 y3 k1).peak + r38.1)) 128), events := (c18e1 y3 k1).events } : Count)).getD (Int.toNat k1) dCount).peak, events := r41.1 } : Count) rfl)) .nil) ?_
   refine DW.done ?_
   show DW _ _ _ _ _
   refine RD hnt (nn 2 []) [] [(11, pI (w64 (k1 + 1)))] [] [] trivial ?_
   exact joinDone (r41.2, ((y3.2.set (Int.toNat k1) ({ group := (c18e1 y3 k1).group, now := (c18e1 y3 k1).now, limit := (c18e1 y3 k1).limit, peak := (minI (w64 ((c18e1 y3 k1).peak + r38.1)) 128), events := (c18e1 y3 k1).events } : Count)).set (Int.toNat k1) ({ group := ((y3.2.set (Int.toNat k1) ({ group := (c18e1 y3 k1).group, now := (c18e1 y3 k1).now, limit := (c18e1 y3 k1).limit, peak := (minI (w64 ((c18e1 y3 k1).peak + r38.1)) 128), events := (c18e1 y3 k1).events } : Count)).getD (Int.toNat k1) dCount).group, now := ((y3.2.set (Int.toNat k1) ({ group := (c18e1 y3 k1).group, now := (c18e1 y3 k1).now, limit := (c18e1 y3 k1).limit, peak := (minI (w64 ((c18e1 y3 k1).peak + r38.1)) 128), events := (c18e1 y3 k1).events } : Count)).getD (Int.toNat k1) dCount).now, limit := ((y3.2.set (Int.toNat k1) ({ group := (c18e1 y3 k1).group, now := (c18e1 y3 k1).now, limit := (c18e1 y3 k1).limit, peak := (minI (w64 ((c18e1 y3 k1).peak + r38.1)) 128), events := (c18e1 y3 k1).events } : Count)).getD (Int.toNat k1) dCount).limit, peak := ((y3.2.set (Int.toNat k1) ({ group := (c18e1 y3 k1).group, now := (c18e1 y3 k1).now, limit := (c18e1 y3 k1).limit, peak := (minI (w64 ((c18e1 y3 k1).peak + r38.1)) 128), events := (c18e1 y3 k1).events } : Count)).getD (Int.toNat k1) dCount).peak, events := r41.1 } : Count))) ⟨hlt1, hm⟩ (Conv.tp [(11, pI (w64 (k1 + 1)))] [] (by kernel_rfl) (.cons rfl (.of_eq (congrArg pI (w64_for (lo := 0) (hi := ((r1.length : Nat) : Int)) (by omega) hk1 hlt1 (by omega)))) .nil) .nil)
  ·refine condM hm ?_ ?_
   ·intro h32 hm
    obtain ⟨r33, hr33, hm⟩ := bind_open hm
    obtain ⟨g34, g35, hm⟩ := go2 hm
    refine RN hnt (nn 3 (.call 19 [0] true (pI r33.1) [.box (pm (encDice r33.2))] [] :: nn 3 [])) [(0, rr 0), (5, ow 1064 (s1.2.set (Int.toNat k1) ({ group := (s1.2.getD (Int.toNat k1) dCount).group, now := (s1.2.getD (Int.toNat k1) dCount).now, limit := r33.1, peak := (s1.2.getD (Int.toNat k1) dCount).peak, events := (s1.2.getD (Int.toNat k1) dCount).events } : Count)).length), (6, pI k1), (c18e2 r1), (11, pI k1)] [(0, bx (pm (encDice r33.2))), (1064, ob0 (roCount (s1.2.set (Int.toNat k1) ({ group := (s1.2.getD (Int.toNat k1) dCount).group, now := (s1.2.getD (Int.toNat k1) dCount).now, limit := r33.1, peak := (s1.2.getD (Int.toNat k1) dCount).peak, events := (s1.2.getD (Int.toNat k1) dCount).events } : Count))))] [(5, ow 1064 s1.2.length)] [(1064, .row 5 s1.2.length (updF (elCount s1.2) (Int.toNat k1) [vi (s1.2.getD (Int.toNat k1) dCount).group, vi (s1.2.getD (Int.toNat k1) dCount).now, vi r33.1, vi (s1.2.getD (Int.toNat k1) dCount).peak, vi (s1.2.getD (Int.toNat k1) dCount).events]))] (an (Next_Dice_madeSpec r31.2 6 r33 hr33) (an trivial (an g34.1 (an g34.2 (an g35 trivial))))) (by kernel_rfl) (.cons rfl (MLe.ownLen (enc := encCount) (d := dCount) (f := (updF (elCount s1.2) (Int.toNat k1) [vi (s1.2.getD (Int.toNat k1) dCount).group, vi (s1.2.getD (Int.toNat k1) dCount).now, vi r33.1, vi (s1.2.getD (Int.toNat k1) dCount).peak, vi (s1.2.getD (Int.toNat k1) dCount).events])) (RowIs.upd RowIs.elems ({ group := (s1.2.getD (Int.toNat k1) dCount).group, now := (s1.2.getD (Int.toNat k1) dCount).now, limit := r33.1, peak := (s1.2.getD (Int.toNat k1) dCount).peak, events := (s1.2.getD (Int.toNat k1) dCount).events } : Count) rfl)) .nil) (.cons rfl (BLe.typed (RowIs.upd RowIs.elems ({ group := (s1.2.getD (Int.toNat k1) dCount).group, now := (s1.2.getD (Int.toNat k1) dCount).now, limit := r33.1, peak := (s1.2.getD (Int.toNat k1) dCount).peak, events := (s1.2.getD (Int.toNat k1) dCount).events } : Count) rfl)) .nil) ?_
    exact joinDone (r33.2, (s1.2.set (Int.toNat k1) ({ group := (s1.2.getD (Int.toNat k1) dCount).group, now := (s1.2.getD (Int.toNat k1) dCount).now, limit := r33.1, peak := (s1.2.getD (Int.toNat k1) dCount).peak, events := (s1.2.getD (Int.toNat k1) dCount).events } : Count))) hm .refl
   ·intro h32 hm
    refine DW.skip ?_
    exact joinDone (r31.2, s1.2) hm Conv.t0
 ·intro h30
  have hge1 : ¬ k1 < ((r1.length : Nat) : Int) := by have := of_decide_eq_false h30; omega
  have hm := he1 hge1
  unfold counts_law10D1 at hm
  refine DW.exit ?_
  refine joinQ_exit ?_
  refine KQ_exit ?_
  refine blockQ_exit ?_
  show DW _ _ _ _ _
  refine DW.seq (RD hnt (nn 2 []) [0, 5, 10, 11, 12] [(4, ow 1064 s1.2.length)] [] [] trivial ?_)
  refine DW.ret ?_
  obtain rfl := Option.some.inj hm
  exact retK [.box (pm (encDice s1.1)), roCount s1.2] [1064] (ow 1 s1.2.length)
end Go.Dm


/- Go functions compute their models, printed by a program. -/
namespace Go.Dm
open Go.Proofs
set_option linter.unusedVariables false
abbrev c30e1 (p1 : List Count) (r3 : Int × Dice) := (p1.getD (Int.toNat r3.1) dCount)
abbrev c30e2 (p1 : List Count) (r3 : Int × Dice) (r15 : Int × Dice) := ({ group := (c30e1 p1 r3).group, now := (c30e1 p1 r3).now, limit := ([(-1), 1099511627776, 1099511627777].getD (Int.toNat r15.1) 0), peak := (c30e1 p1 r3).peak, events := (c30e1 p1 r3).events } : Count)
abbrev c30e3 (p1 : List Count) (r3 : Int × Dice) (r31 : Int × Dice) := ({ group := (c30e1 p1 r3).group, now := (c30e1 p1 r3).now, limit := (c30e1 p1 r3).limit, peak := (c30e1 p1 r3).peak, events := ([(-1), 1099511627776, 1099511627777].getD (Int.toNat r31.1) 0) } : Count)
abbrev c30e4 (p1 : List Count) (r3 : Int × Dice) (r15 : Int × Dice) := (updF (elCount p1) (Int.toNat r3.1) [vi (c30e1 p1 r3).group, vi (c30e1 p1 r3).now, vi ([(-1), 1099511627776, 1099511627777].getD (Int.toNat r15.1) 0), vi (c30e1 p1 r3).peak, vi (c30e1 p1 r3).events])
abbrev c30e5 (p1 : List Count) (r3 : Int × Dice) (r31 : Int × Dice) := (updF (elCount p1) (Int.toNat r3.1) [vi (c30e1 p1 r3).group, vi (c30e1 p1 r3).now, vi (c30e1 p1 r3).limit, vi (c30e1 p1 r3).peak, vi ([(-1), 1099511627776, 1099511627777].getD (Int.toNat r31.1) 0)])
abbrev c30e6 (r5 : Int × Dice) : Nat × Obj := (0, bx (pm (encDice r5.2)))
theorem odd_law10Spec (p0 : Dice) (p1 : List Count) (RES : (List Count) × Dice) (hm : odd_law10 p0 p1 = some RES) : Spec Tryz.prog 30 [rr 0, .p (slCount p1)] [.box (pm (encDice p0))] (.p (slCount RES.1)) [.box (pm (encDice RES.2))] [] := by
 unfold odd_law10 at hm
 refine SO Tryz.func30 rfl rfl [(0, rr 0), (1, .p (slCount p1))] [(0, bx (pm (encDice p0)))] ?_
 intro cx hnt
 refine DW.seq (RD hnt (.no :: []) [] [] [] [] trivial ?_)
 obtain ⟨g1, hm⟩ := guard_open hm
 refine DW.seq (RN hnt (nn 3 []) [(0, rr 0), (5, ow 1064 p1.length)] [(0, bx (pm (encDice p0))), (1064, ob0 (roCount p1))] [] [(1064, .row 5 p1.length (elCount p1))] (an (by omega : p1.length * 40 ≤ 140737488355328) trivial) (by kernel_rfl) .nil (.cons rfl (BLe.typed RowIs.elems) .nil) ?_)
 refine DW.seq (DW.seq (RD hnt (nn 3 []) [] [(11, pB (((p1.length : Nat) : Int) == 0))] [] [] trivial ?_))
 refine condM hm ?_ ?_
 ·intro h2 hm
  refine DW.seq (RD hnt (nn 2 []) [0, 5, 11] [(4, ow 1064 p1.length)] [] [] trivial ?_)
  refine DW.ret ?_
  obtain rfl := Option.some.inj hm
  exact retK [.box (pm (encDice p0))] [] (.p (slCount p1))
 ·intro h2 hm
  refine DW.skip ?_
  obtain ⟨r3, hr3, hm⟩ := bind_open hm
  obtain ⟨g4, hm⟩ := guard_open hm
  refine DW.seq (RD hnt (nn 4 (.call 19 [0] true (pI r3.1) [.box (pm (encDice r3.2))] [] :: nn 2 [])) [11] [(6, .eref 1064 0 (Int.toNat r3.1) 0)] [] [(0, bx (pm (encDice r3.2)))] (an (Next_Dice_madeSpec p0 ((p1.length : Nat) : Int) r3 hr3) (an trivial (an g4.1 (an g4.2 trivial)))) ?_)
  obtain ⟨r5, hr5, hm⟩ := bind_open hm
  refine DW.seq (DW.seq (RD hnt (.no :: .call 19 [0] true (pI r5.1) [.box (pm (encDice r5.2))] [] :: []) [] [(20, pI r5.1)] [] [(c30e6 r5)] (an (Next_Dice_madeSpec r3.2 6 r5 hr5) (an trivial trivial)) ?_))
  refine DW.join (ι := Dice × (List Count)) (fun (y1 : Dice × (List Count)) => mkSt [(5, .p (slCount y1.2))] [(0, bx (pm (encDice y1.1)))]) (fun y1 => odd_law10J1 y1 = some RES) ?_ ?_
  ·intro y1 hm
   unfold odd_law10J1 at hm
   refine DW.seq (RD hnt (nn 2 []) [5] [(4, .p (slCount y1.2))] [] [] trivial ?_)
   refine DW.ret ?_
   obtain rfl := Option.some.inj hm
   exact retK [.box (pm (encDice y1.1))] [] (.p (slCount y1.2))
  ·refine DW.block ?_
   refine DW.seq (RD hnt (nn 2 []) [] [(21, pB (r5.1 == 0))] [] [] trivial ?_)
   refine condM hm ?_ ?_
   ·intro h6 hm
    obtain ⟨g7, g8, hm⟩ := go2 hm
    refine RN hnt (nn 8 []) [(5, ow 1064 (p1.set (Int.toNat r3.1) ({ group := (w64 ((c30e1 p1 r3).group + 1)), now := (c30e1 p1 r3).now, limit := (c30e1 p1 r3).limit, peak := (c30e1 p1 r3).peak, events := (c30e1 p1 r3).events } : Count)).length)] [(c30e6 r5), (1064, ob0 (roCount (p1.set (Int.toNat r3.1) ({ group := (w64 ((c30e1 p1 r3).group + 1)), now := (c30e1 p1 r3).now, limit := (c30e1 p1 r3).limit, peak := (c30e1 p1 r3).peak, events := (c30e1 p1 r3).events } : Count))))] [(5, ow 1064 p1.length)] [(1064, .row 5 p1.length (updF (elCount p1) (Int.toNat r3.1) [vi (w64 ((c30e1 p1 r3).group + 1)), vi (c30e1 p1 r3).now, vi (c30e1 p1 r3).limit, vi (c30e1 p1 r3).peak, vi (c30e1 p1 r3).events]))] (an g7 (an g8 trivial)) (by kernel_rfl) (.cons rfl (MLe.ownLen (enc := encCount) (d := dCount) (f := (updF (elCount p1) (Int.toNat r3.1) [vi (w64 ((c30e1 p1 r3).group + 1)), vi (c30e1 p1 r3).now, vi (c30e1 p1 r3).limit, vi (c30e1 p1 r3).peak, vi (c30e1 p1 r3).events])) (RowIs.upd RowIs.elems ({ group := (w64 ((c30e1 p1 r3).group + 1)), now := (c30e1 p1 r3).now, limit := (c30e1 p1 r3).limit, peak := (c30e1 p1 r3).peak, events := (c30e1 p1 r3).events } : Count) rfl)) .nil) (.cons rfl (BLe.typed (RowIs.upd RowIs.elems ({ group := (w64 ((c30e1 p1 r3).group + 1)), now := (c30e1 p1 r3).now, limit := (c30e1 p1 r3).limit, peak := (c30e1 p1 r3).peak, events := (c30e1 p1 r3).events } : Count) rfl)) .nil) ?_
    exact blockDone (r5.2, (p1.set (Int.toNat r3.1) ({ group := (w64 ((c30e1 p1 r3).group + 1)), now := (c30e1 p1 r3).now, limit := (c30e1 p1 r3).limit, peak := (c30e1 p1 r3).peak, events := (c30e1 p1 r3).events } : Count))) hm (Conv.freezes [1064] (by kernel_rfl))
   ·intro h6 hm
    refine DW.seq (RD hnt (nn 2 []) [21] [(30, pB (r5.1 == 1))] [] [] trivial ?_)
    refine condM hm ?_ ?_
    ·intro h9 hm
     obtain ⟨g10, g11, hm⟩ := go2 hm
     refine RN hnt (nn 8 []) [(5, ow 1064 (p1.set (Int.toNat r3.1) ({ group := (c30e1 p1 r3).group, now := (w64 ((c30e1 p1 r3).now + 1)), limit := (c30e1 p1 r3).limit, peak := (c30e1 p1 r3).peak, events := (c30e1 p1 r3).events } : Count)).length)] [(c30e6 r5), (1064, ob0 (roCount (p1.set (Int.toNat r3.1) ({ group := (c30e1 p1 r3).group, now := (w64 ((c30e1 p1 r3).now + 1)), limit := (c30e1 p1 r3).limit, peak := (c30e1 p1 r3).peak, events := (c30e1 p1 r3).events } : Count))))] [(5, ow 1064 p1.length)] [(1064, .row 5 p1.length (updF (elCount p1) (Int.toNat r3.1) [vi (c30e1 p1 r3).group, vi (w64 ((c30e1 p1 r3).now + 1)), vi (c30e1 p1 r3).limit, vi (c30e1 p1 r3).peak, vi (c30e1 p1 r3).events]))] (an g10 (an g11 trivial)) (by kernel_rfl) (.cons rfl (MLe.ownLen (enc := encCount) (d := dCount) (f := (updF (elCount p1) (Int.toNat r3.1) [vi (c30e1 p1 r3).group, vi (w64 ((c30e1 p1 r3).now + 1)), vi (c30e1 p1 r3).limit, vi (c30e1 p1 r3).peak, vi (c30e1 p1 r3).events])) (RowIs.upd RowIs.elems ({ group := (c30e1 p1 r3).group, now := (w64 ((c30e1 p1 r3).now + 1)), limit := (c30e1 p1 r3).limit, peak := (c30e1 p1 r3).peak, events := (c30e1 p1 r3).events } : Count) rfl)) .nil) (.cons rfl (BLe.typed (RowIs.upd RowIs.elems ({ group := (c30e1 p1 r3).group, now := (w64 ((c30e1 p1 r3).now + 1)), limit := (c30e1 p1 r3).limit, peak := (c30e1 p1 r3).peak, events := (c30e1 p1 r3).events } : Count) rfl)) .nil) ?_
     exact blockDone (r5.2, (p1.set (Int.toNat r3.1) ({ group := (c30e1 p1 r3).group, now := (w64 ((c30e1 p1 r3).now + 1)), limit := (c30e1 p1 r3).limit, peak := (c30e1 p1 r3).peak, events := (c30e1 p1 r3).events } : Count))) hm (Conv.freezes [1064] (by kernel_rfl))
    ·intro h9 hm
     refine DW.seq (RD hnt (nn 2 []) [30] [(39, pB (r5.1 == 2))] [] [] trivial ?_)
     refine condM hm ?_ ?_
     ·intro h12 hm
      obtain ⟨r15, hr15, hm⟩ := bind_open hm
      obtain ⟨g16, g17, g18, hm⟩ := go3 hm
      refine RN hnt (.no :: .asR (ow 1336 [(-1), 1099511627776, 1099511627777].length) [(-1), 1099511627776, 1099511627777].length (elems encI 0 [(-1), 1099511627776, 1099511627777]) :: .no :: .call 19 [0] true (pI r15.1) [.box (pm (encDice r15.2))] [] :: nn 5 []) [(5, ow 1064 (p1.set (Int.toNat r3.1) (c30e2 p1 r3 r15)).length)] [(0, bx (pm (encDice r15.2))), (1064, ob0 (roCount (p1.set (Int.toNat r3.1) (c30e2 p1 r3 r15))))] [(5, ow 1064 p1.length)] [(1064, .row 5 p1.length (c30e4 p1 r3 r15))] (an (congrArg (MV.own 1336 0 0) (RowIs.asP (enc := encI) (d := 0) (L := [(-1), 1099511627776, 1099511627777]) (RowIs.lit (enc := encI) (d := 0) (n := 3) (f := (cut 1 [vi (-1), vi 1099511627776, vi 1099511627777])) [(-1), 1099511627776, 1099511627777] rfl (fun | 0, _ => rfl | 1, _ => rfl | 2, _ => rfl | n + 3, h => absurd h (by omega)))).1) (an (RowIs.asP (enc := encI) (d := 0) (L := [(-1), 1099511627776, 1099511627777]) (RowIs.lit (enc := encI) (d := 0) (n := 3) (f := (cut 1 [vi (-1), vi 1099511627776, vi 1099511627777])) [(-1), 1099511627776, 1099511627777] rfl (fun | 0, _ => rfl | 1, _ => rfl | 2, _ => rfl | n + 3, h => absurd h (by omega)))) (an (Next_Dice_madeSpec r5.2 3 r15 hr15) (an trivial (an g16.1 (an g16.2 (an g17 (an g18 trivial)))))))) (by kernel_rfl) (.cons rfl (MLe.ownLen (enc := encCount) (d := dCount) (f := (c30e4 p1 r3 r15)) (RowIs.upd RowIs.elems (c30e2 p1 r3 r15) rfl)) .nil) (.cons rfl (BLe.typed (RowIs.upd RowIs.elems (c30e2 p1 r3 r15) rfl)) .nil) ?_
      exact blockDone (r15.2, (p1.set (Int.toNat r3.1) (c30e2 p1 r3 r15))) hm (Conv.freezes [1064] (by kernel_rfl))
     ·intro h12 hm
      refine DW.seq (RD hnt (nn 2 []) [39] [(49, pB (r5.1 == 3))] [] [] trivial ?_)
      refine condM hm ?_ ?_
      ·intro h19 hm
       obtain ⟨g23, hm⟩ := guard_open hm
       obtain ⟨r24, hr24, hm⟩ := bind_open hm
       obtain ⟨g25, g26, g27, hm⟩ := go3 hm
       refine RN hnt (nn 6 (.asR (ow 1456 [(w64 ((c30e1 p1 r3).now - 1)), 128, 129].length) [(w64 ((c30e1 p1 r3).now - 1)), 128, 129].length (elems encI 0 [(w64 ((c30e1 p1 r3).now - 1)), 128, 129]) :: .no :: .call 19 [0] true (pI r24.1) [.box (pm (encDice r24.2))] [] :: nn 5 [])) [(5, ow 1064 (p1.set (Int.toNat r3.1) ({ group := (c30e1 p1 r3).group, now := (c30e1 p1 r3).now, limit := (c30e1 p1 r3).limit, peak := ([(w64 ((c30e1 p1 r3).now - 1)), 128, 129].getD (Int.toNat r24.1) 0), events := (c30e1 p1 r3).events } : Count)).length)] [(0, bx (pm (encDice r24.2))), (1064, ob0 (roCount (p1.set (Int.toNat r3.1) ({ group := (c30e1 p1 r3).group, now := (c30e1 p1 r3).now, limit := (c30e1 p1 r3).limit, peak := ([(w64 ((c30e1 p1 r3).now - 1)), 128, 129].getD (Int.toNat r24.1) 0), events := (c30e1 p1 r3).events } : Count))))] [(5, ow 1064 p1.length)] [(1064, .row 5 p1.length (updF (elCount p1) (Int.toNat r3.1) [vi (c30e1 p1 r3).group, vi (c30e1 p1 r3).now, vi (c30e1 p1 r3).limit, vi ([(w64 ((c30e1 p1 r3).now - 1)), 128, 129].getD (Int.toNat r24.1) 0), vi (c30e1 p1 r3).events]))] (an g23 (an (congrArg (MV.own 1456 0 0) (RowIs.asP (enc := encI) (d := 0) (L := [(w64 ((c30e1 p1 r3).now - 1)), 128, 129]) (RowIs.lit (enc := encI) (d := 0) (n := 3) (f := (cut 1 [vi (w64 ((c30e1 p1 r3).now - 1)), vi 128, vi 129])) [(w64 ((c30e1 p1 r3).now - 1)), 128, 129] rfl (fun | 0, _ => rfl | 1, _ => rfl | 2, _ => rfl | n + 3, h => absurd h (by omega)))).1) (an (RowIs.asP (enc := encI) (d := 0) (L := [(w64 ((c30e1 p1 r3).now - 1)), 128, 129]) (RowIs.lit (enc := encI) (d := 0) (n := 3) (f := (cut 1 [vi (w64 ((c30e1 p1 r3).now - 1)), vi 128, vi 129])) [(w64 ((c30e1 p1 r3).now - 1)), 128, 129] rfl (fun | 0, _ => rfl | 1, _ => rfl | 2, _ => rfl | n + 3, h => absurd h (by omega)))) (an (Next_Dice_madeSpec r5.2 3 r24 hr24) (an trivial (an g25.1 (an g25.2 (an g26 (an g27 trivial))))))))) (by kernel_rfl) (.cons rfl (MLe.ownLen (enc := encCount) (d := dCount) (f := (updF (elCount p1) (Int.toNat r3.1) [vi (c30e1 p1 r3).group, vi (c30e1 p1 r3).now, vi (c30e1 p1 r3).limit, vi ([(w64 ((c30e1 p1 r3).now - 1)), 128, 129].getD (Int.toNat r24.1) 0), vi (c30e1 p1 r3).events])) (RowIs.upd RowIs.elems ({ group := (c30e1 p1 r3).group, now := (c30e1 p1 r3).now, limit := (c30e1 p1 r3).limit, peak := ([(w64 ((c30e1 p1 r3).now - 1)), 128, 129].getD (Int.toNat r24.1) 0), events := (c30e1 p1 r3).events } : Count) rfl)) .nil) (.cons rfl (BLe.typed (RowIs.upd RowIs.elems ({ group := (c30e1 p1 r3).group, now := (c30e1 p1 r3).now, limit := (c30e1 p1 r3).limit, peak := ([(w64 ((c30e1 p1 r3).now - 1)), 128, 129].getD (Int.toNat r24.1) 0), events := (c30e1 p1 r3).events } : Count) rfl)) .nil) ?_
       exact blockDone (r24.2, (p1.set (Int.toNat r3.1) ({ group := (c30e1 p1 r3).group, now := (c30e1 p1 r3).now, limit := (c30e1 p1 r3).limit, peak := ([(w64 ((c30e1 p1 r3).now - 1)), 128, 129].getD (Int.toNat r24.1) 0), events := (c30e1 p1 r3).events } : Count))) hm (Conv.freezes [1064] (by kernel_rfl))
      ·intro h19 hm
       refine DW.seq (RD hnt (nn 2 []) [49] [(64, pB (r5.1 == 4))] [] [] trivial ?_)
       refine condM hm ?_ ?_
       ·intro h28 hm
        obtain ⟨r31, hr31, hm⟩ := bind_open hm
        obtain ⟨g32, g33, g34, hm⟩ := go3 hm
        refine RN hnt (.no :: .asR (ow 1536 [(-1), 1099511627776, 1099511627777].length) [(-1), 1099511627776, 1099511627777].length (elems encI 0 [(-1), 1099511627776, 1099511627777]) :: .no :: .call 19 [0] true (pI r31.1) [.box (pm (encDice r31.2))] [] :: nn 5 []) [(5, ow 1064 (p1.set (Int.toNat r3.1) (c30e3 p1 r3 r31)).length)] [(0, bx (pm (encDice r31.2))), (1064, ob0 (roCount (p1.set (Int.toNat r3.1) (c30e3 p1 r3 r31))))] [(5, ow 1064 p1.length)] [(1064, .row 5 p1.length (c30e5 p1 r3 r31))] (an (congrArg (MV.own 1536 0 0) (RowIs.asP (enc := encI) (d := 0) (L := [(-1), 1099511627776, 1099511627777]) (RowIs.lit (enc := encI) (d := 0) (n := 3) (f := (cut 1 [vi (-1), vi 1099511627776, vi 1099511627777])) [(-1), 1099511627776, 1099511627777] rfl (fun | 0, _ => rfl | 1, _ => rfl | 2, _ => rfl | n + 3, h => absurd h (by omega)))).1) (an (RowIs.asP (enc := encI) (d := 0) (L := [(-1), 1099511627776, 1099511627777]) (RowIs.lit (enc := encI) (d := 0) (n := 3) (f := (cut 1 [vi (-1), vi 1099511627776, vi 1099511627777])) [(-1), 1099511627776, 1099511627777] rfl (fun | 0, _ => rfl | 1, _ => rfl | 2, _ => rfl | n + 3, h => absurd h (by omega)))) (an (Next_Dice_madeSpec r5.2 3 r31 hr31) (an trivial (an g32.1 (an g32.2 (an g33 (an g34 trivial)))))))) (by kernel_rfl) (.cons rfl (MLe.ownLen (enc := encCount) (d := dCount) (f := (c30e5 p1 r3 r31)) (RowIs.upd RowIs.elems (c30e3 p1 r3 r31) rfl)) .nil) (.cons rfl (BLe.typed (RowIs.upd RowIs.elems (c30e3 p1 r3 r31) rfl)) .nil) ?_
        exact blockDone (r31.2, (p1.set (Int.toNat r3.1) (c30e3 p1 r3 r31))) hm (Conv.freezes [1064] (by kernel_rfl))
       ·intro h28 hm
        refine DW.seq (RK hnt (nn 2 []) [(5, ow 1064 p1.length), (74, pB (r5.1 == 5))] [(c30e6 r5), (1064, ob0 (roCount p1))] trivial ?_)
        refine condM hm ?_ ?_
        ·intro h35 hm
         obtain ⟨g36, hm⟩ := guard_open hm
         refine RD hnt (nn 3 []) [74] [(5, .own 1064 0 1 (subN p1.length 1))] [] [] (an (by omega : (0 : Int) ≤ 1) (an (by omega : 1 ≤ ((p1.length : Nat) : Int)) (an (by omega : ((p1.length : Nat) : Int) ≤ ((p1.length : Nat) : Int)) trivial))) ?_
         exact blockDone (r5.2, ((p1.drop 1).take (subN p1.length 1))) hm (Conv.trans (τ := mkSt [(5, .p (.sl .unk 5 (subN p1.length 1) (shF 1 (elCount p1))))] [(c30e6 r5)]) (Conv.freezes [1064] (by kernel_rfl)) (Conv.tp [(5, .p (.sl .unk 5 (subN p1.length 1) (shF 1 (elCount p1))))] [] (by kernel_rfl) (.cons rfl (MLe.typed (RowIs.sub RowIs.elems (by first | omega | (simp only [subN_eq, addN_eq] at *; omega)))) .nil) .nil))
        ·intro h35 hm
         refine DW.skip ?_
         exact blockDone (r5.2, p1) hm (Conv.trans (τ := mkSt [(5, .p (slCount p1)), (74, pB (r5.1 == 5))] [(c30e6 r5)]) (Conv.freezes [1064] (by kernel_rfl)) Conv.t0)

theorem limit_ref10Spec (p0 : Int) (RES : Bool) (hm : limit_ref10 p0 = some RES) : Spec Tryz.prog 94 [pI p0] [] (pB RES) [] [] := by
 unfold limit_ref10 at hm
 refine SO Tryz.func94 rfl rfl [(0, pI p0)] [] ?_
 intro cx hnt
 refine DW.seq (RK hnt (.no :: []) [(0, pI p0)] [] trivial ?_)
 refine DW.seq (DW.regJ (sl2 := [(2, pB ((p0 == 4611686018427387904) || ((decide (p0 ≥ 0)) && (decide (p0 ≤ 1099511627776)))))]) (ob2 := []) ?_ ?_)
 ·rcases bt (p0 == 4611686018427387904) with h1 | h1
  ·exact RT hnt (nn 3 (sk 6 (pT :: .no :: []))) [(2, pB true)] (an5 h1 trivial) (by kernel_rfl) (.cons rfl (.of_eq (by rw [h1]; try rfl)) .nil)
  ·rcases bt (decide (p0 ≥ 0)) with h2 | h2
   ·exact RT hnt (nn 8 (pT :: pF :: .no :: [])) [(2, pB (decide (p0 ≤ 1099511627776)))] (an3 h1 (an2 h2 (an h1 (an h2 (an h1 trivial))))) (by kernel_rfl) (.cons rfl (.of_eq (by rw [h1, h2]; try rfl)) .nil)
   ·exact RT hnt (nn 6 (sk 2 (pF :: pF :: .no :: []))) [(2, pB false)] (an3 h1 (an2 h2 (an h1 (an h2 (an h1 trivial))))) (by kernel_rfl) (.cons rfl (.of_eq (by rw [h1, h2]; try rfl)) .nil)
 ·refine DW.ret ?_
  obtain rfl := Option.some.inj hm
  exact retK [] [] (pB ((p0 == 4611686018427387904) || ((decide (p0 ≥ 0)) && (decide (p0 ≤ 1099511627776)))))

abbrev c32e1 (p1 : List Count) (k1 : Nat) := (p1.getD k1 (default : Count))
theorem Check_ref10Spec (p0 : Hierarchy) (p1 : List Count) (RES : Bool) (hm : Check_ref10 p0 p1 = some RES) : Spec Tryz.prog 32 [.p (.agg (encHierarchy p0)), .p (slCount p1)] [] (pB RES) [] [] := by
 unfold Check_ref10 at hm
 refine SO Tryz.func32 rfl rfl [(0, .p (.agg (encHierarchy p0))), (1, .p (slCount p1))] [] ?_
 intro cx hnt
 refine DW.seq (RD hnt (nn 2 []) [0] [(2, rr 1016)] [] [(1016, bx (pm (encHierarchy p0)))] trivial ?_)
 obtain ⟨r1, hr1, hm⟩ := bind_open hm
 refine DW.seq (DW.seq ?_)
 refine DW.join (ι := Bool) (fun (y1 : Bool) => mkSt [(1, .p (slCount p1)), (2, rr 1016), (18, pB y1)] [(1016, bx (pm (encHierarchy p0)))]) (fun y1 => (Check_ref10J1 p0 p1) y1 = some RES) ?_ ?_
 ·intro y1 hm
  unfold Check_ref10J1 at hm
  refine condM hm ?_ ?_
  ·intro h3 hm
   refine DW.seq (RK hnt (.no :: []) [(4, pB false)] [] trivial ?_)
   refine DW.ret ?_
   obtain rfl := Option.some.inj hm
   exact retK [] [] (pB false)
  ·intro h3 hm
   refine DW.skip ?_
   refine DW.seq (DW.seq (RD hnt (.no :: []) [18] [(5, pI 0)] [] [] trivial ?_))
   refine DW.block ?_
   obtain ⟨hc1, hm⟩ := guard_open hm
   refine DW.rangeO (fun (k1 : Nat) (s1 : Unit) => mkSt [(1, .p (slCount p1)), (2, rr 1016), (5, pI ((k1 : Nat) : Int))] [(1016, bx (pm (encHierarchy p0)))]) dCount hm Conv.eqK ?_
   intro k1 s1 n1 hk1 hs1 he1
   refine DW.seq (DW.seq (RD hnt (nn 4 []) [] [(22, pB (decide (((k1 : Nat) : Int) < ((p1.length : Nat) : Int))))] [] [] trivial ?_))
   refine condK (decide (((k1 : Nat) : Int) < ((p1.length : Nat) : Int))) ?_ ?_
   ·intro h28
    have hlt1 : k1 < p1.length := by have := of_decide_eq_true h28; omega
    have hm := hs1 hlt1
    unfold Check_ref10L1 at hm
    refine DW.skip ?_
    refine DW.seq (DW.block ?_)
    refine DW.seq (RD hnt (nn 6 []) [22] [(6, rr 1048)] [] [(1048, bx (pm (encCount (c32e1 p1 k1))))] (an (nn0 k1) (an (ltc hlt1) trivial)) ?_)
    obtain ⟨g29, hm⟩ := guard_open hm
    refine DW.seq ?_
    refine DW.join (ι := Bool) (fun (y4 : Bool) => mkSt [(1, .p (slCount p1)), (2, rr 1016), (5, pI ((k1 : Nat) : Int)), (75, pB y4)] [(1016, bx (pm (encHierarchy p0)))]) (fun y4 => (Check_ref10J4 n1) y4 = some RES) ?_ ?_
    ·intro y4 hm
     unfold Check_ref10J4 at hm
     refine condM hm ?_ ?_
     ·intro h38 hm
      refine DW.seq (RK hnt (.no :: []) [(4, pB false)] [] trivial ?_)
      refine DW.ret ?_
      obtain rfl := Option.some.inj hm
      exact retK [] [] (pB false)
     ·intro h38 hm
      refine DW.skip ?_
      refine DW.done ?_
      show DW _ _ _ _ _
      refine RD hnt (nn 3 []) [75] [(5, pI (w64 (((k1 : Nat) : Int) + 1)))] [] [] trivial ?_
      exact joinDone () ⟨hlt1, hm⟩ (Conv.tp [(5, pI (w64 (((k1 : Nat) : Int) + 1)))] [] (by kernel_rfl) (.cons rfl (.of_eq (congrArg pI (w64_succ hlt1 hc1))) .nil) .nil)
    ·rcases bt ((c32e1 p1 k1).group != (p0.tree.nodes.getD k1 dNode).id) with h30 | h30
     ·replace hm := if_t h30 hm
      refine RD hnt (nn 11 (sk 7 (pT :: .no :: sk 4 (pT :: .no :: sk 5 (pT :: .no :: sk 3 (pT :: .no :: sk 3 (pT :: .no :: sk 3 (pT :: [])))))))) [6] [(75, pB true)] [1048] [] (an (nn0 k1) (an (ltc g29) (an2 h30 (an6 h30 (an5 tt (an6 tt (an6 tt (an6 tt trivial)))))))) ?_
      exact joinDone true hm Conv.eqK
     ·replace hm := if_f h30 hm
      obtain ⟨r31, hr31, hm⟩ := bind_open hm
      rcases bt ((c32e1 p1 k1).now != r31) with h32 | h32
      ·replace hm := if_t h32 hm
       refine RD hnt (nn 16 (.call 59 [] true (pI r31) [] [] :: .no :: pF :: .no :: sk 4 (pT :: .no :: sk 5 (pT :: .no :: sk 3 (pT :: .no :: sk 3 (pT :: .no :: sk 3 (pT :: []))))))) [6] [(75, pB true)] [1048] [] (an (nn0 k1) (an (ltc g29) (an6 h30 (an (Count_ref6Spec p0 (c32e1 p1 k1).group r31 hr31) (an2 h30 (an5 h32 (an6 tt (an6 tt (an6 tt trivial))))))))) ?_
       exact joinDone true hm Conv.eqK
      ·replace hm := if_f h32 hm
       obtain ⟨r33, hr33, hm⟩ := bind_open hm
       rcases bt (!r33) with h34 | h34
       ·replace hm := if_t h34 hm
        refine RD hnt (nn 16 (.call 59 [] true (pI r31) [] [] :: .no :: pF :: nn 3 (.call 94 [] true (pB r33) [] [] :: .no :: pF :: .no :: sk 5 (pT :: .no :: sk 3 (pT :: .no :: sk 3 (pT :: .no :: sk 3 (pT :: []))))))) [6] [(75, pB true)] [1048] [] (an (nn0 k1) (an (ltc g29) (an6 h30 (an (Count_ref6Spec p0 (c32e1 p1 k1).group r31 hr31) (an2 h30 (an3 h32 (an (limit_ref10Spec (c32e1 p1 k1).limit r33 hr33) (an2 h32 (an6 h34 (an6 tt (an6 tt trivial))))))))))) ?_
        exact joinDone true hm Conv.eqK
       ·replace hm := if_f h34 hm
        rcases bt (decide ((c32e1 p1 k1).peak < (c32e1 p1 k1).now)) with h35 | h35
        ·replace hm := if_t h35 hm
         refine RD hnt (nn 16 (.call 59 [] true (pI r31) [] [] :: .no :: pF :: nn 3 (.call 94 [] true (pB r33) [] [] :: .no :: pF :: nn 6 (pF :: .no :: sk 3 (pT :: .no :: sk 3 (pT :: .no :: sk 3 (pT :: []))))))) [6] [(75, pB true)] [1048] [] (an (nn0 k1) (an (ltc g29) (an6 h30 (an (Count_ref6Spec p0 (c32e1 p1 k1).group r31 hr31) (an2 h30 (an3 h32 (an (limit_ref10Spec (c32e1 p1 k1).limit r33 hr33) (an2 h32 (an6 h34 (an4 h35 (an2 tt (an6 tt trivial)))))))))))) ?_
         exact joinDone true hm Conv.eqK
        ·replace hm := if_f h35 hm
         rcases bt (decide ((c32e1 p1 k1).peak > 128)) with h36 | h36
         ·replace hm := if_t h36 hm
          refine RD hnt (nn 16 (.call 59 [] true (pI r31) [] [] :: .no :: pF :: nn 3 (.call 94 [] true (pB r33) [] [] :: .no :: pF :: nn 6 (pF :: nn 4 (pF :: .no :: sk 3 (pT :: .no :: sk 3 (pT :: []))))))) [6] [(75, pB true)] [1048] [] (an (nn0 k1) (an (ltc g29) (an6 h30 (an (Count_ref6Spec p0 (c32e1 p1 k1).group r31 hr31) (an2 h30 (an3 h32 (an (limit_ref10Spec (c32e1 p1 k1).limit r33 hr33) (an2 h32 (an6 h34 (an4 h35 (an4 h36 (an4 tt trivial)))))))))))) ?_
          exact joinDone true hm Conv.eqK
         ·replace hm := if_f h36 hm
          rcases bt (decide ((c32e1 p1 k1).events < 0)) with h37 | h37
          ·replace hm := if_t h37 hm
           refine RD hnt (nn 16 (.call 59 [] true (pI r31) [] [] :: .no :: pF :: nn 3 (.call 94 [] true (pB r33) [] [] :: .no :: pF :: nn 6 (pF :: nn 4 (pF :: nn 4 (pF :: .no :: sk 3 (pT :: []))))))) [6] [(75, pB true)] [1048] [] (an (nn0 k1) (an (ltc g29) (an6 h30 (an (Count_ref6Spec p0 (c32e1 p1 k1).group r31 hr31) (an2 h30 (an3 h32 (an (limit_ref10Spec (c32e1 p1 k1).limit r33 hr33) (an2 h32 (an6 h34 (an4 h35 (an4 h36 (an4 h37 trivial)))))))))))) ?_
           exact joinDone true hm Conv.eqK
          ·replace hm := if_f h37 hm
           refine RD hnt (nn 16 (.call 59 [] true (pI r31) [] [] :: .no :: pF :: nn 3 (.call 94 [] true (pB r33) [] [] :: .no :: pF :: nn 6 (pF :: nn 4 (pF :: nn 4 (pF :: nn 4 (pF :: []))))))) [6] [(75, pB (decide ((c32e1 p1 k1).events > 1099511627776)))] [1048] [] (an (nn0 k1) (an (ltc g29) (an6 h30 (an (Count_ref6Spec p0 (c32e1 p1 k1).group r31 hr31) (an2 h30 (an3 h32 (an (limit_ref10Spec (c32e1 p1 k1).limit r33 hr33) (an2 h32 (an6 h34 (an4 h35 (an4 h36 (an4 h37 trivial)))))))))))) ?_
           exact joinDone (decide ((c32e1 p1 k1).events > 1099511627776)) hm Conv.eqK
   ·intro h28
    have hge1 : ¬ k1 < p1.length := by have := of_decide_eq_false h28; omega
    have hm := he1 hge1
    unfold Check_ref10D1 at hm
    refine DW.exit ?_
    refine joinQ_exit ?_
    refine KQ_exit ?_
    refine blockQ_exit ?_
    show DW _ _ _ _ _
    refine DW.seq (RK hnt (.no :: []) [(4, pB true)] [] trivial ?_)
    refine DW.ret ?_
    obtain rfl := Option.some.inj hm
    exact retK [] [] (pB true)
 ·rcases bt (!r1) with h2 | h2
  ·replace hm := if_t h2 hm
   refine RD hnt (.no :: .call 52 [] true (pB r1) [] [] :: nn 2 (sk 7 (pT :: []))) [] [(18, pB true)] [] [] (an (Check_ref6Spec p0 r1 hr1) (an2 h2 (an6 h2 trivial))) ?_
   exact joinDone true hm Conv.eqK
  ·replace hm := if_f h2 hm
   refine RD hnt (.no :: .call 52 [] true (pB r1) [] [] :: nn 9 (pF :: [])) [] [(18, pB (((p1.length : Nat) : Int) != ((p0.tree.nodes.length : Nat) : Int)))] [] [] (an (Check_ref6Spec p0 r1 hr1) (an2 h2 (an6 h2 trivial))) ?_
   exact joinDone (((p1.length : Nat) : Int) != ((p0.tree.nodes.length : Nat) : Int)) hm Conv.eqK

abbrev c35e1 : Nat × MV := (8, .p (.sl .nil 0 0 (fun _ => [])))
theorem Limit_ref10Spec (p0 : Hierarchy) (p1 : List Count) (p2 : Int) (p3 : Int) (RES : (List Count) × Int) (hm : Limit_ref10 p0 p1 p2 p3 = some RES) : Spec Tryz.prog 35 [.p (.agg (encHierarchy p0)), .p (slCount p1), pI p2, pI p3] [] (.tup [ow 0 RES.1.length, pI RES.2]) [] [roCount RES.1] := by
 unfold Limit_ref10 at hm
 refine SO Tryz.func35 rfl rfl [(0, .p (.agg (encHierarchy p0))), (1, .p (slCount p1)), (2, pI p2), (3, pI p3)] [] ?_
 intro cx hnt
 refine DW.seq (RD hnt (nn 3 []) [0] [(4, rr 1032)] [] [(1032, bx (pm (encHierarchy p0)))] trivial ?_)
 refine DW.seq (DW.block ?_)
 obtain ⟨r1, hr1, hm⟩ := bind_open hm
 refine DW.seq (RD hnt (nn 2 (.call 32 [] true (pB r1) [] [] :: nn 2 [])) [] [(12, pB (!r1))] [] [] (an (Check_ref10Spec p0 p1 r1 hr1) trivial) ?_)
 refine condM hm ?_ ?_
 ·intro h2 hm
  refine DW.seq (RK hnt (nn 2 []) [(c35e1), (9, pI 1)] [] trivial ?_)
  refine DW.conv (τ := mkSt [(8, ow 100000 0), (9, pI 1)] [(100000, ob0 (roCount []))]) (Conv.trans (τ := mkSt [(8, ow 100000 0), (9, pI 1)] ((100000, ⟨0, .row 5 0 (elems encCount dCount [])⟩) :: [])) (Conv.adopt 100000 5 (elems encCount dCount []) rfl rfl (.cons (.one (.nil _ _)) (.cons (.one (.rfl _)) (.rfl _))) (.rfl _)) Conv.t0) ?_
  refine DW.ret ?_
  obtain rfl := Option.some.inj hm
  exact retK [roCount []] [100000] (.tup [ow 0 0, pI 1])
 ·intro h2 hm
  obtain ⟨r3, hr3, hm⟩ := bind_open hm
  refine DW.seq (RD hnt (nn 3 (.call 88 [] true (pB r3) [] [] :: nn 2 [])) [4, 12] [(17, pB (!r3))] [1032] [] (an (Has_ref5Spec p0.tree p2 r3 hr3) trivial) ?_)
  refine condM hm ?_ ?_
  ·intro h4 hm
   refine DW.seq (RK hnt (nn 2 []) [(c35e1), (9, pI 4)] [] trivial ?_)
   refine DW.conv (τ := mkSt [(8, ow 100000 0), (9, pI 4)] [(100000, ob0 (roCount []))]) (Conv.trans (τ := mkSt [(8, ow 100000 0), (9, pI 4)] ((100000, ⟨0, .row 5 0 (elems encCount dCount [])⟩) :: [])) (Conv.adopt 100000 5 (elems encCount dCount []) rfl rfl (.cons (.one (.nil _ _)) (.cons (.one (.rfl _)) (.rfl _))) (.rfl _)) Conv.t0) ?_
   refine DW.ret ?_
   obtain rfl := Option.some.inj hm
   exact retK [roCount []] [100000] (.tup [ow 0 0, pI 4])
  ·intro h4 hm
   obtain ⟨r5, hr5, hm⟩ := bind_open hm
   refine DW.seq (RD hnt (.no :: .call 94 [] true (pB r5) [] [] :: nn 2 []) [17] [(23, pB (!r5))] [] [] (an (limit_ref10Spec p3 r5 hr5) trivial) ?_)
   refine condM hm ?_ ?_
   ·intro h6 hm
    refine DW.seq (RK hnt (nn 2 []) [(c35e1), (9, pI 3)] [] trivial ?_)
    refine DW.conv (τ := mkSt [(8, ow 100000 0), (9, pI 3)] [(100000, ob0 (roCount []))]) (Conv.trans (τ := mkSt [(8, ow 100000 0), (9, pI 3)] ((100000, ⟨0, .row 5 0 (elems encCount dCount [])⟩) :: [])) (Conv.adopt 100000 5 (elems encCount dCount []) rfl rfl (.cons (.one (.nil _ _)) (.cons (.one (.rfl _)) (.rfl _))) (.rfl _)) Conv.t0) ?_
    refine DW.ret ?_
    obtain rfl := Option.some.inj hm
    exact retK [roCount []] [100000] (.tup [ow 0 0, pI 3])
   ·intro h6 hm
    refine DW.skip ?_
    refine DW.done ?_
    show DW _ _ _ _ _
    obtain ⟨g7, hm⟩ := guard_open hm
    refine DW.seq (RN hnt (nn 3 []) [(2, pI p2), (3, pI p3), (10, ow 1224 p1.length)] [(1224, ob0 (roCount p1))] [] [(1224, .row 5 p1.length (elCount p1))] (an (by omega : p1.length * 40 ≤ 140737488355328) trivial) (by kernel_rfl) .nil (.cons rfl (BLe.typed RowIs.elems) .nil) ?_)
    refine DW.seq (DW.seq (RD hnt (.no :: []) [] [(11, pI 0)] [] [] trivial ?_))
    refine DW.block ?_
    refine DW.whileO (fun (s1 : (List Count) × Int) => mkSt [(2, pI p2), (3, pI p3), (10, ow 1224 s1.1.length), (11, pI s1.2)] [(1224, ob0 (roCount s1.1))]) hm Conv.eqK ?_
    intro s1 n1 hm
    unfold Limit_ref10L1 at hm
    refine DW.seq (DW.seq (RD hnt (nn 4 []) [] [(32, pB (decide (s1.2 < ((s1.1.length : Nat) : Int))))] [] [] trivial ?_))
    refine condM hm ?_ ?_
    ·intro h14 hm
     refine DW.skip ?_
     refine DW.seq ?_
     refine DW.join (ι := List Count) (fun (y2 : List Count) => mkSt [(2, pI p2), (3, pI p3), (10, ow 1224 y2.length), (11, pI s1.2)] [(1224, ob0 (roCount y2))]) (fun y2 => (Limit_ref10J2 s1 n1) y2 = some RES) ?_ ?_
     ·intro y2 hm
      unfold Limit_ref10J2 at hm
      refine RD hnt (nn 3 []) [] [(11, pI (w64 (s1.2 + 1)))] [] [] trivial ?_
      exact joinDone (y2, (w64 (s1.2 + 1))) hm Conv.eqK
     ·refine DW.block ?_
      obtain ⟨g15, g16, hm⟩ := go2 hm
      refine DW.seq (RD hnt (nn 7 []) [32] [(41, pB ((s1.1.getD (Int.toNat s1.2) dCount).group == p2))] [] [] (an g15.1 (an g15.2 (an g16 trivial))) ?_)
      refine condM hm ?_ ?_
      ·intro h17 hm
       obtain ⟨g18, g19, hm⟩ := go2 hm
       refine RN hnt (nn 6 []) [(2, pI p2), (3, pI p3), (10, ow 1224 (s1.1.set (Int.toNat s1.2) ({ group := (s1.1.getD (Int.toNat s1.2) dCount).group, now := (s1.1.getD (Int.toNat s1.2) dCount).now, limit := p3, peak := (s1.1.getD (Int.toNat s1.2) dCount).peak, events := (s1.1.getD (Int.toNat s1.2) dCount).events } : Count)).length), (11, pI s1.2)] [(1224, ob0 (roCount (s1.1.set (Int.toNat s1.2) ({ group := (s1.1.getD (Int.toNat s1.2) dCount).group, now := (s1.1.getD (Int.toNat s1.2) dCount).now, limit := p3, peak := (s1.1.getD (Int.toNat s1.2) dCount).peak, events := (s1.1.getD (Int.toNat s1.2) dCount).events } : Count))))] [(10, ow 1224 s1.1.length)] [(1224, .row 5 s1.1.length (updF (elCount s1.1) (Int.toNat s1.2) [vi (s1.1.getD (Int.toNat s1.2) dCount).group, vi (s1.1.getD (Int.toNat s1.2) dCount).now, vi p3, vi (s1.1.getD (Int.toNat s1.2) dCount).peak, vi (s1.1.getD (Int.toNat s1.2) dCount).events]))] (an g18.1 (an g18.2 (an g19 trivial))) (by kernel_rfl) (.cons rfl (MLe.ownLen (enc := encCount) (d := dCount) (f := (updF (elCount s1.1) (Int.toNat s1.2) [vi (s1.1.getD (Int.toNat s1.2) dCount).group, vi (s1.1.getD (Int.toNat s1.2) dCount).now, vi p3, vi (s1.1.getD (Int.toNat s1.2) dCount).peak, vi (s1.1.getD (Int.toNat s1.2) dCount).events])) (RowIs.upd RowIs.elems ({ group := (s1.1.getD (Int.toNat s1.2) dCount).group, now := (s1.1.getD (Int.toNat s1.2) dCount).now, limit := p3, peak := (s1.1.getD (Int.toNat s1.2) dCount).peak, events := (s1.1.getD (Int.toNat s1.2) dCount).events } : Count) rfl)) .nil) (.cons rfl (BLe.typed (RowIs.upd RowIs.elems ({ group := (s1.1.getD (Int.toNat s1.2) dCount).group, now := (s1.1.getD (Int.toNat s1.2) dCount).now, limit := p3, peak := (s1.1.getD (Int.toNat s1.2) dCount).peak, events := (s1.1.getD (Int.toNat s1.2) dCount).events } : Count) rfl)) .nil) ?_
       exact blockDone (s1.1.set (Int.toNat s1.2) ({ group := (s1.1.getD (Int.toNat s1.2) dCount).group, now := (s1.1.getD (Int.toNat s1.2) dCount).now, limit := p3, peak := (s1.1.getD (Int.toNat s1.2) dCount).peak, events := (s1.1.getD (Int.toNat s1.2) dCount).events } : Count)) hm .refl
      ·intro h17 hm
       refine DW.skip ?_
       exact blockDone s1.1 hm Conv.t0
    ·intro h14 hm
     refine DW.exit ?_
     refine joinQ_exit ?_
     refine KQ_exit ?_
     refine blockQ_exit ?_
     show DW _ _ _ _ _
     refine DW.seq (RK hnt (nn 3 []) [(8, ow 1224 s1.1.length), (9, pI 0)] [(1224, ob0 (roCount s1.1))] trivial ?_)
     refine DW.ret ?_
     obtain rfl := Option.some.inj hm
     exact retK [roCount s1.1] [1224] (.tup [ow 0 s1.1.length, pI 0])

abbrev c29e1 : Nat × MV := (8, .p (.sl .nil 0 0 (fun _ => [])))
theorem Charge_pidsSpec (p0 : Hierarchy) (p1 : List Count) (p2 : Int) (p3 : Int) (RES : (List Count) × Int) (hm : Charge_pids p0 p1 p2 p3 = some RES) : Spec Tryz.prog 29 [.p (.agg (encHierarchy p0)), .p (slCount p1), pI p2, pI p3] [] (.tup [ow 0 RES.1.length, pI RES.2]) [] [roCount RES.1] := by
 unfold Charge_pids at hm
 refine SO Tryz.func29 rfl rfl [(0, .p (.agg (encHierarchy p0))), (1, .p (slCount p1)), (2, pI p2), (3, pI p3)] [] ?_
 intro cx hnt
 refine DW.seq (RD hnt (nn 3 []) [0] [(4, rr 1032)] [] [(1032, bx (pm (encHierarchy p0)))] trivial ?_)
 refine DW.seq (DW.block ?_)
 obtain ⟨r1, hr1, hm⟩ := bind_open hm
 refine DW.seq ?_
 refine DW.join (ι := Bool) (fun (y1 : Bool) => mkSt [(1, .p (slCount p1)), (2, pI p2), (3, pI p3), (4, rr 1032), (10, pB y1)] [(1032, bx (pm (encHierarchy p0)))]) (fun y1 => (Charge_pidsJ1 p0 p1 p2 p3) y1 = some RES) ?_ ?_
 ·intro y1 hm
  unfold Charge_pidsJ1 at hm
  refine condM hm ?_ ?_
  ·intro h4 hm
   refine DW.seq (RK hnt (nn 2 []) [(c29e1), (9, pI 1)] [] trivial ?_)
   refine DW.conv (τ := mkSt [(8, ow 100000 0), (9, pI 1)] [(100000, ob0 (roCount []))]) (Conv.trans (τ := mkSt [(8, ow 100000 0), (9, pI 1)] ((100000, ⟨0, .row 5 0 (elems encCount dCount [])⟩) :: [])) (Conv.adopt 100000 5 (elems encCount dCount []) rfl rfl (.cons (.one (.nil _ _)) (.cons (.one (.rfl _)) (.rfl _))) (.rfl _)) Conv.t0) ?_
   refine DW.ret ?_
   obtain rfl := Option.some.inj hm
   exact retK [roCount []] [100000] (.tup [ow 0 0, pI 1])
  ·intro h4 hm
   obtain ⟨r5, hr5, hm⟩ := bind_open hm
   refine DW.seq (RD hnt (nn 2 (.call 86 [] true (pI r5) [] [] :: nn 2 [])) [10] [(23, pB (decide (r5 < 0)))] [] [] (an (at_pidsSpec p1 p2 r5 hr5) trivial) ?_)
   refine condM hm ?_ ?_
   ·intro h6 hm
    refine DW.seq (RK hnt (nn 2 []) [(c29e1), (9, pI 4)] [] trivial ?_)
    refine DW.conv (τ := mkSt [(8, ow 100000 0), (9, pI 4)] [(100000, ob0 (roCount []))]) (Conv.trans (τ := mkSt [(8, ow 100000 0), (9, pI 4)] ((100000, ⟨0, .row 5 0 (elems encCount dCount [])⟩) :: [])) (Conv.adopt 100000 5 (elems encCount dCount []) rfl rfl (.cons (.one (.nil _ _)) (.cons (.one (.rfl _)) (.rfl _))) (.rfl _)) Conv.t0) ?_
    refine DW.ret ?_
    obtain rfl := Option.some.inj hm
    exact retK [roCount []] [100000] (.tup [ow 0 0, pI 4])
   ·intro h6 hm
    obtain ⟨r7, hr7, hm⟩ := bind_open hm
    refine DW.seq (RD hnt (nn 3 (.call 90 [] true (pI r7) [] [] :: nn 3 [])) [23] [(28, pB (decide (r7 < p3)))] [] [] (an (least_pidsSpec p0 p1 p2 r7 hr7) trivial) ?_)
    refine condM hm ?_ ?_
    ·intro h8 hm
     refine DW.seq (RK hnt (nn 2 []) [(c29e1), (9, pI 11)] [] trivial ?_)
     refine DW.conv (τ := mkSt [(8, ow 100000 0), (9, pI 11)] [(100000, ob0 (roCount []))]) (Conv.trans (τ := mkSt [(8, ow 100000 0), (9, pI 11)] ((100000, ⟨0, .row 5 0 (elems encCount dCount [])⟩) :: [])) (Conv.adopt 100000 5 (elems encCount dCount []) rfl rfl (.cons (.one (.nil _ _)) (.cons (.one (.rfl _)) (.rfl _))) (.rfl _)) Conv.t0) ?_
     refine DW.ret ?_
     obtain rfl := Option.some.inj hm
     exact retK [roCount []] [100000] (.tup [ow 0 0, pI 11])
    ·intro h8 hm
     refine DW.skip ?_
     refine DW.done ?_
     show DW _ _ _ _ _
     obtain ⟨r9, hr9, hm⟩ := bind_open hm
     refine DW.seq (RK hnt (nn 4 (.call 92 [] true (ow 0 r9.length) [] [roCount r9] :: nn 2 [])) [(8, ow 1312 r9.length), (9, pI 0)] [(1312, ob0 (roCount r9))] (an (charged_pidsSpec p0 p1 p2 p3 r9 hr9) trivial) ?_)
     refine DW.ret ?_
     obtain rfl := Option.some.inj hm
     exact retK [roCount r9] [1312] (.tup [ow 0 r9.length, pI 0])
 ·rcases bt (!r1) with h2 | h2
  ·replace hm := if_t h2 hm
   refine RD hnt (nn 2 (.call 31 [] true (pB r1) [] [] :: nn 2 (sk 2 (pT :: .no :: sk 2 (pT :: .no :: []))))) [] [(10, pB true)] [] [] (an (Check_pidsSpec p0 p1 r1 hr1) (an3 h2 (an3 tt trivial))) ?_
   exact joinDone true hm Conv.eqK
  ·replace hm := if_f h2 hm
   rcases bt (decide (p3 < 0)) with h3 | h3
   ·replace hm := if_t h3 hm
    refine RD hnt (nn 2 (.call 31 [] true (pB r1) [] [] :: nn 4 (pF :: .no :: sk 2 (pT :: .no :: [])))) [] [(10, pB true)] [] [] (an (Check_pidsSpec p0 p1 r1 hr1) (an3 h2 (an3 h3 trivial))) ?_
    exact joinDone true hm Conv.eqK
   ·replace hm := if_f h3 hm
    refine RD hnt (nn 2 (.call 31 [] true (pB r1) [] [] :: nn 4 (pF :: nn 3 (pF :: .no :: [])))) [] [(10, pB (decide (p3 > 128)))] [] [] (an (Check_pidsSpec p0 p1 r1 hr1) (an3 h2 (an3 h3 trivial))) ?_
    exact joinDone (decide (p3 > 128)) hm Conv.eqK

theorem Room_ref10Spec (p0 : Hierarchy) (p1 : List Count) (p2 : Int) (RES : Int) (hm : Room_ref10 p0 p1 p2 = some RES) : Spec Tryz.prog 39 [.p (.agg (encHierarchy p0)), .p (slCount p1), pI p2] [] (pI RES) [] [] := by
 unfold Room_ref10 at hm
 refine SO Tryz.func39 rfl rfl [(0, .p (.agg (encHierarchy p0))), (1, .p (slCount p1)), (2, pI p2)] [] ?_
 intro cx hnt
 refine DW.seq (RD hnt (nn 2 []) [0] [(3, rr 1024)] [] [(1024, bx (pm (encHierarchy p0)))] trivial ?_)
 obtain ⟨r1, hr1, hm⟩ := bind_open hm
 refine DW.seq (DW.seq ?_)
 refine DW.join (ι := Bool) (fun (y1 : Bool) => mkSt [(1, .p (slCount p1)), (2, pI p2), (3, rr 1024), (22, pB y1)] [(1024, bx (pm (encHierarchy p0)))]) (fun y1 => (Room_ref10J1 p0 p1 p2) y1 = some RES) ?_ ?_
 ·intro y1 hm
  unfold Room_ref10J1 at hm
  refine condM hm ?_ ?_
  ·intro h4 hm
   refine DW.seq (RK hnt (.no :: []) [(6, pI 0)] [] trivial ?_)
   refine DW.ret ?_
   obtain rfl := Option.some.inj hm
   exact retK [] [] (pI 0)
  ·intro h4 hm
   refine DW.skip ?_
   refine DW.seq (RD hnt (.no :: []) [22] [(7, pI 128)] [] [] trivial ?_)
   obtain ⟨r5, hr5, hm⟩ := bind_open hm
   refine DW.seq (RD hnt (nn 3 (.call 21 [] true (ow 0 r5.length) [] [roI r5] :: .no :: [])) [2, 3] [(8, ow 1208 r5.length)] [1024] [(1208, ob0 (roI r5))] (an (Ancestors_ref5Spec p0.tree p2 r5 hr5) trivial) ?_)
   refine DW.seq (DW.seq (RD hnt (.no :: []) [] [(9, pI 0)] [] [] trivial ?_))
   refine DW.block ?_
   obtain ⟨hc1, hm⟩ := guard_open hm
   refine DW.rangeO (fun (k1 : Nat) (s1 : Int) => mkSt [(1, .p (slCount p1)), (7, pI s1), (8, ow 1208 r5.length), (9, pI ((k1 : Nat) : Int))] [(1208, ob0 (roI r5))]) 0 hm Conv.eqK ?_
   intro k1 s1 n1 hk1 hs1 he1
   refine DW.seq (DW.seq (RD hnt (nn 4 []) [] [(30, pB (decide (((k1 : Nat) : Int) < ((r5.length : Nat) : Int))))] [] [] trivial ?_))
   refine condK (decide (((k1 : Nat) : Int) < ((r5.length : Nat) : Int))) ?_ ?_
   ·intro h14
    have hlt1 : k1 < r5.length := by have := of_decide_eq_true h14; omega
    have hm := hs1 hlt1
    unfold Room_ref10L1 at hm
    refine DW.skip ?_
    refine DW.seq (DW.block ?_)
    obtain ⟨r15, hr15, hm⟩ := bind_open hm
    refine DW.seq (RD hnt (nn 5 (.call 22 [] true (.p (.tup [.agg (encCount r15.1), vb r15.2])) [] [] :: nn 6 [])) [30] [(10, rr 1080)] [] [(1080, bx (pm (encCount r15.1)))] (an (nn0 k1) (an (ltc hlt1) (an (by omega : k1 < r5.length) (an (Get_ref10Spec p1 (r5.getD k1 0) r15 hr15) trivial)))) ?_)
    refine RD hnt (nn 8 []) [10] [(7, pI (minI s1 (w64 (r15.1.limit - r15.1.now))))] [1080] [] trivial ?_
    refine DW.done ?_
    show DW _ _ _ _ _
    refine RD hnt (nn 3 []) [] [(9, pI (w64 (((k1 : Nat) : Int) + 1)))] [] [] trivial ?_
    exact joinDone (minI s1 (w64 (r15.1.limit - r15.1.now))) ⟨hlt1, hm⟩ (Conv.tp [(9, pI (w64 (((k1 : Nat) : Int) + 1)))] [] (by kernel_rfl) (.cons rfl (.of_eq (congrArg pI (w64_succ hlt1 hc1))) .nil) .nil)
   ·intro h14
    have hge1 : ¬ k1 < r5.length := by have := of_decide_eq_false h14; omega
    have hm := he1 hge1
    unfold Room_ref10D1 at hm
    refine DW.exit ?_
    refine joinQ_exit ?_
    refine KQ_exit ?_
    refine blockQ_exit ?_
    show DW _ _ _ _ _
    refine DW.seq (RK hnt (nn 3 []) [(6, pI (maxI s1 0))] [] trivial ?_)
    refine DW.ret ?_
    obtain rfl := Option.some.inj hm
    exact retK [] [] (pI (maxI s1 0))
 ·rcases bt (!r1) with h2 | h2
  ·replace hm := if_t h2 hm
   refine RD hnt (nn 2 (.call 32 [] true (pB r1) [] [] :: nn 2 (sk 5 (pT :: [])))) [] [(22, pB true)] [] [] (an (Check_ref10Spec p0 p1 r1 hr1) (an6 h2 trivial)) ?_
   exact joinDone true hm Conv.eqK
  ·replace hm := if_f h2 hm
   obtain ⟨r3, hr3, hm⟩ := bind_open hm
   refine RD hnt (nn 2 (.call 32 [] true (pB r1) [] [] :: nn 5 (.call 88 [] true (pB r3) [] [] :: .no :: pF :: []))) [] [(22, pB (!r3))] [] [] (an (Check_ref10Spec p0 p1 r1 hr1) (an4 h2 (an (Has_ref5Spec p0.tree p2 r3 hr3) (an2 h2 trivial)))) ?_
   exact joinDone (!r3) hm Conv.eqK

abbrev c36e1 : Nat × MV := (8, .p (.sl .nil 0 0 (fun _ => [])))
theorem Charge_ref10Spec (p0 : Hierarchy) (p1 : List Count) (p2 : Int) (p3 : Int) (RES : (List Count) × Int) (hm : Charge_ref10 p0 p1 p2 p3 = some RES) : Spec Tryz.prog 36 [.p (.agg (encHierarchy p0)), .p (slCount p1), pI p2, pI p3] [] (.tup [ow 0 RES.1.length, pI RES.2]) [] [roCount RES.1] := by
 unfold Charge_ref10 at hm
 refine SO Tryz.func36 rfl rfl [(0, .p (.agg (encHierarchy p0))), (1, .p (slCount p1)), (2, pI p2), (3, pI p3)] [] ?_
 intro cx hnt
 refine DW.seq (RD hnt (nn 3 []) [0] [(4, rr 1032)] [] [(1032, bx (pm (encHierarchy p0)))] trivial ?_)
 refine DW.seq (DW.block ?_)
 obtain ⟨r1, hr1, hm⟩ := bind_open hm
 refine DW.seq ?_
 refine DW.join (ι := Bool) (fun (y1 : Bool) => mkSt [(1, .p (slCount p1)), (2, pI p2), (3, pI p3), (4, rr 1032), (14, pB y1)] [(1032, bx (pm (encHierarchy p0)))]) (fun y1 => (Charge_ref10J1 p0 p1 p2 p3) y1 = some RES) ?_ ?_
 ·intro y1 hm
  unfold Charge_ref10J1 at hm
  refine condM hm ?_ ?_
  ·intro h4 hm
   refine DW.seq (RK hnt (nn 2 []) [(c36e1), (9, pI 1)] [] trivial ?_)
   refine DW.conv (τ := mkSt [(8, ow 100000 0), (9, pI 1)] [(100000, ob0 (roCount []))]) (Conv.trans (τ := mkSt [(8, ow 100000 0), (9, pI 1)] ((100000, ⟨0, .row 5 0 (elems encCount dCount [])⟩) :: [])) (Conv.adopt 100000 5 (elems encCount dCount []) rfl rfl (.cons (.one (.nil _ _)) (.cons (.one (.rfl _)) (.rfl _))) (.rfl _)) Conv.t0) ?_
   refine DW.ret ?_
   obtain rfl := Option.some.inj hm
   exact retK [roCount []] [100000] (.tup [ow 0 0, pI 1])
  ·intro h4 hm
   obtain ⟨r5, hr5, hm⟩ := bind_open hm
   refine DW.seq (RD hnt (nn 3 (.call 88 [] true (pB r5) [] [] :: nn 2 [])) [14] [(27, pB (!r5))] [] [] (an (Has_ref5Spec p0.tree p2 r5 hr5) trivial) ?_)
   refine condM hm ?_ ?_
   ·intro h6 hm
    refine DW.seq (RK hnt (nn 2 []) [(c36e1), (9, pI 4)] [] trivial ?_)
    refine DW.conv (τ := mkSt [(8, ow 100000 0), (9, pI 4)] [(100000, ob0 (roCount []))]) (Conv.trans (τ := mkSt [(8, ow 100000 0), (9, pI 4)] ((100000, ⟨0, .row 5 0 (elems encCount dCount [])⟩) :: [])) (Conv.adopt 100000 5 (elems encCount dCount []) rfl rfl (.cons (.one (.nil _ _)) (.cons (.one (.rfl _)) (.rfl _))) (.rfl _)) Conv.t0) ?_
    refine DW.ret ?_
    obtain rfl := Option.some.inj hm
    exact retK [roCount []] [100000] (.tup [ow 0 0, pI 4])
   ·intro h6 hm
    obtain ⟨r7, hr7, hm⟩ := bind_open hm
    refine DW.seq (RD hnt (nn 3 (.call 39 [] true (pI r7) [] [] :: nn 3 [])) [27] [(33, pB (decide (r7 < p3)))] [] [] (an (Room_ref10Spec p0 p1 p2 r7 hr7) trivial) ?_)
    refine condM hm ?_ ?_
    ·intro h8 hm
     refine DW.seq (RK hnt (nn 2 []) [(c36e1), (9, pI 11)] [] trivial ?_)
     refine DW.conv (τ := mkSt [(8, ow 100000 0), (9, pI 11)] [(100000, ob0 (roCount []))]) (Conv.trans (τ := mkSt [(8, ow 100000 0), (9, pI 11)] ((100000, ⟨0, .row 5 0 (elems encCount dCount [])⟩) :: [])) (Conv.adopt 100000 5 (elems encCount dCount []) rfl rfl (.cons (.one (.nil _ _)) (.cons (.one (.rfl _)) (.rfl _))) (.rfl _)) Conv.t0) ?_
     refine DW.ret ?_
     obtain rfl := Option.some.inj hm
     exact retK [roCount []] [100000] (.tup [ow 0 0, pI 11])
    ·intro h8 hm
     refine DW.skip ?_
     refine DW.done ?_
     show DW _ _ _ _ _
     obtain ⟨g9, hm⟩ := guard_open hm
     refine DW.seq (RN hnt (nn 3 []) [(2, pI p2), (3, pI p3), (4, rr 1032), (10, ow 1328 p1.length)] [(1032, bx (pm (encHierarchy p0))), (1328, ob0 (roCount p1))] [] [(1328, .row 5 p1.length (elCount p1))] (an (by omega : p1.length * 40 ≤ 140737488355328) trivial) (by kernel_rfl) .nil (.cons rfl (BLe.typed RowIs.elems) .nil) ?_)
     obtain ⟨r10, hr10, hm⟩ := bind_open hm
     refine DW.seq (RD hnt (nn 3 (.call 21 [] true (ow 0 r10.length) [] [roI r10] :: .no :: [])) [2, 4] [(11, ow 1360 r10.length)] [1032] [(1360, ob0 (roI r10))] (an (Ancestors_ref5Spec p0.tree p2 r10 hr10) trivial) ?_)
     refine DW.seq (DW.seq (RD hnt (.no :: []) [] [(12, pI 0)] [] [] trivial ?_))
     refine DW.block ?_
     refine DW.whileO (fun (s1 : (List Count) × Int) => mkSt [(3, pI p3), (10, ow 1328 s1.1.length), (11, ow 1360 r10.length), (12, pI s1.2)] [(1328, ob0 (roCount s1.1)), (1360, ob0 (roI r10))]) hm Conv.eqK ?_
     intro s1 n1 hm
     unfold Charge_ref10L1 at hm
     refine DW.seq (DW.seq (RD hnt (nn 4 []) [] [(49, pB (decide (s1.2 < ((s1.1.length : Nat) : Int))))] [] [] trivial ?_))
     refine condM hm ?_ ?_
     ·intro h58 hm
      refine DW.skip ?_
      refine DW.seq (DW.block ?_)
      refine DW.seq (RD hnt (.no :: []) [49] [(13, pI 0)] [] [] trivial ?_)
      refine DW.block ?_
      obtain ⟨hc3, hm⟩ := guard_open hm
      refine DW.rangeO (fun (k3 : Nat) (s3 : List Count) => mkSt [(3, pI p3), (10, ow 1328 s3.length), (11, ow 1360 r10.length), (12, pI s1.2), (13, pI ((k3 : Nat) : Int))] [(1328, ob0 (roCount s3)), (1360, ob0 (roI r10))]) 0 hm Conv.eqK ?_
      intro k3 s3 n3 hk3 hs3 he3
      refine DW.seq (DW.seq (RD hnt (nn 4 []) [] [(55, pB (decide (((k3 : Nat) : Int) < ((r10.length : Nat) : Int))))] [] [] trivial ?_))
      refine condK (decide (((k3 : Nat) : Int) < ((r10.length : Nat) : Int))) ?_ ?_
      ·intro h91
       have hlt3 : k3 < r10.length := by have := of_decide_eq_true h91; omega
       have hm := hs3 hlt3
       unfold Charge_ref10L3 at hm
       refine DW.skip ?_
       refine DW.seq ?_
       refine DW.join (ι := List Count) (fun (y7 : List Count) => mkSt [(3, pI p3), (10, ow 1328 y7.length), (11, ow 1360 r10.length), (12, pI s1.2), (13, pI ((k3 : Nat) : Int))] [(1328, ob0 (roCount y7)), (1360, ob0 (roI r10))]) (fun y7 => (Charge_ref10J7 n3) y7 = some RES) ?_ ?_
       ·intro y7 hm
        unfold Charge_ref10J7 at hm
        refine RD hnt (nn 3 []) [] [(13, pI (w64 (((k3 : Nat) : Int) + 1)))] [] [] trivial ?_
        exact joinDone y7 ⟨hlt3, hm⟩ (Conv.tp [(13, pI (w64 (((k3 : Nat) : Int) + 1)))] [] (by kernel_rfl) (.cons rfl (.of_eq (congrArg pI (w64_succ hlt3 hc3))) .nil) .nil)
       ·refine DW.block ?_
        obtain ⟨g92, g93, hm⟩ := go2 hm
        refine DW.seq (RD hnt (nn 10 []) [55] [(67, pB ((s3.getD (Int.toNat s1.2) dCount).group == (r10.getD k3 0)))] [] [] (an g92.1 (an g92.2 (an g93 (an (nn0 k3) (an (ltc hlt3) (an (by omega : k3 < r10.length) trivial)))))) ?_)
        refine condM hm ?_ ?_
        ·intro h94 hm
         obtain ⟨g95, g96, g97, g98, hm⟩ := go4 hm
         refine DW.seq (RN hnt (nn 10 []) [(3, pI p3), (10, ow 1328 (s3.set (Int.toNat s1.2) ({ group := (s3.getD (Int.toNat s1.2) dCount).group, now := (w64 ((s3.getD (Int.toNat s1.2) dCount).now + p3)), limit := (s3.getD (Int.toNat s1.2) dCount).limit, peak := (s3.getD (Int.toNat s1.2) dCount).peak, events := (s3.getD (Int.toNat s1.2) dCount).events } : Count)).length), (11, ow 1360 r10.length), (12, pI s1.2), (13, pI ((k3 : Nat) : Int))] [(1328, ob0 (roCount (s3.set (Int.toNat s1.2) ({ group := (s3.getD (Int.toNat s1.2) dCount).group, now := (w64 ((s3.getD (Int.toNat s1.2) dCount).now + p3)), limit := (s3.getD (Int.toNat s1.2) dCount).limit, peak := (s3.getD (Int.toNat s1.2) dCount).peak, events := (s3.getD (Int.toNat s1.2) dCount).events } : Count)))), (1360, ob0 (roI r10))] [(10, ow 1328 s3.length)] [(1328, .row 5 s3.length (updF (elCount s3) (Int.toNat s1.2) [vi (s3.getD (Int.toNat s1.2) dCount).group, vi (w64 ((s3.getD (Int.toNat s1.2) dCount).now + p3)), vi (s3.getD (Int.toNat s1.2) dCount).limit, vi (s3.getD (Int.toNat s1.2) dCount).peak, vi (s3.getD (Int.toNat s1.2) dCount).events]))] (an g95.1 (an g95.2 (an g96 (an g97.1 (an g97.2 (an g98 trivial)))))) (by kernel_rfl) (.cons rfl (MLe.ownLen (enc := encCount) (d := dCount) (f := (updF (elCount s3) (Int.toNat s1.2) [vi (s3.getD (Int.toNat s1.2) dCount).group, vi (w64 ((s3.getD (Int.toNat s1.2) dCount).now + p3)), vi (s3.getD (Int.toNat s1.2) dCount).limit, vi (s3.getD (Int.toNat s1.2) dCount).peak, vi (s3.getD (Int.toNat s1.2) dCount).events])) (RowIs.upd RowIs.elems ({ group := (s3.getD (Int.toNat s1.2) dCount).group, now := (w64 ((s3.getD (Int.toNat s1.2) dCount).now + p3)), limit := (s3.getD (Int.toNat s1.2) dCount).limit, peak := (s3.getD (Int.toNat s1.2) dCount).peak, events := (s3.getD (Int.toNat s1.2) dCount).events } : Count) rfl)) .nil) (.cons rfl (BLe.typed (RowIs.upd RowIs.elems ({ group := (s3.getD (Int.toNat s1.2) dCount).group, now := (w64 ((s3.getD (Int.toNat s1.2) dCount).now + p3)), limit := (s3.getD (Int.toNat s1.2) dCount).limit, peak := (s3.getD (Int.toNat s1.2) dCount).peak, events := (s3.getD (Int.toNat s1.2) dCount).events } : Count) rfl)) .nil) ?_)
         obtain ⟨g99, g100, g101, g102, hm⟩ := go4 hm
         obtain ⟨g103, g104, hm⟩ := go2 hm
         refine RN hnt (nn 16 []) [(3, pI p3), (10, ow 1328 ((s3.set (Int.toNat s1.2) ({ group := (s3.getD (Int.toNat s1.2) dCount).group, now := (w64 ((s3.getD (Int.toNat s1.2) dCount).now + p3)), limit := (s3.getD (Int.toNat s1.2) dCount).limit, peak := (s3.getD (Int.toNat s1.2) dCount).peak, events := (s3.getD (Int.toNat s1.2) dCount).events } : Count)).set (Int.toNat s1.2) ({ group := ((s3.set (Int.toNat s1.2) ({ group := (s3.getD (Int.toNat s1.2) dCount).group, now := (w64 ((s3.getD (Int.toNat s1.2) dCount).now + p3)), limit := (s3.getD (Int.toNat s1.2) dCount).limit, peak := (s3.getD (Int.toNat s1.2) dCount).peak, events := (s3.getD (Int.toNat s1.2) dCount).events } : Count)).getD (Int.toNat s1.2) dCount).group, now := ((s3.set (Int.toNat s1.2) ({ group := (s3.getD (Int.toNat s1.2) dCount).group, now := (w64 ((s3.getD (Int.toNat s1.2) dCount).now + p3)), limit := (s3.getD (Int.toNat s1.2) dCount).limit, peak := (s3.getD (Int.toNat s1.2) dCount).peak, events := (s3.getD (Int.toNat s1.2) dCount).events } : Count)).getD (Int.toNat s1.2) dCount).now, limit := ((s3.set (Int.toNat s1.2) ({ group := (s3.getD (Int.toNat s1.2) dCount).group, now := (w64 ((s3.getD (Int.toNat s1.2) dCount).now + p3)), limit := (s3.getD (Int.toNat s1.2) dCount).limit, peak := (s3.getD (Int.toNat s1.2) dCount).peak, events := (s3.getD (Int.toNat s1.2) dCount).events } : Count)).getD (Int.toNat s1.2) dCount).limit, peak := (maxI ((s3.set (Int.toNat s1.2) ({ group := (s3.getD (Int.toNat s1.2) dCount).group, now := (w64 ((s3.getD (Int.toNat s1.2) dCount).now + p3)), limit := (s3.getD (Int.toNat s1.2) dCount).limit, peak := (s3.getD (Int.toNat s1.2) dCount).peak, events := (s3.getD (Int.toNat s1.2) dCount).events } : Count)).getD (Int.toNat s1.2) dCount).peak ((s3.set (Int.toNat s1.2) ({ group := (s3.getD (Int.toNat s1.2) dCount).group, now := (w64 ((s3.getD (Int.toNat s1.2) dCount).now + p3)), limit := (s3.getD (Int.toNat s1.2) dCount).limit, peak := (s3.getD (Int.toNat s1.2) dCount).peak, events := (s3.getD (Int.toNat s1.2) dCount).events } : Count)).getD (Int.toNat s1.2) dCount).now), events := ((s3.set (Int.toNat s1.2) ({ group := (s3.getD (Int.toNat s1.2) dCount).group, now := (w64 ((s3.getD (Int.toNat s1.2) dCount).now + p3)), limit := (s3.getD (Int.toNat s1.2) dCount).limit, peak := (s3.getD (Int.toNat s1.2) dCount).peak, events := (s3.getD (Int.toNat s1.2) dCount).events } : Count)).getD (Int.toNat s1.2) dCount).events } : Count)).length), (11, ow 1360 r10.length), (12, pI s1.2), (13, pI ((k3 : Nat) : Int))] [(1328, ob0 (roCount ((s3.set (Int.toNat s1.2) ({ group := (s3.getD (Int.toNat s1.2) dCount).group, now := (w64 ((s3.getD (Int.toNat s1.2) dCount).now + p3)), limit := (s3.getD (Int.toNat s1.2) dCount).limit, peak := (s3.getD (Int.toNat s1.2) dCount).peak, events := (s3.getD (Int.toNat s1.2) dCount).events } : Count)).set (Int.toNat s1.2) ({ group := ((s3.set (Int.toNat s1.2) ({ group := (s3.getD (Int.toNat s1.2) dCount).group, now := (w64 ((s3.getD (Int.toNat s1.2) dCount).now + p3)), limit := (s3.getD (Int.toNat s1.2) dCount).limit, peak := (s3.getD (Int.toNat s1.2) dCount).peak, events := (s3.getD (Int.toNat s1.2) dCount).events } : Count)).getD (Int.toNat s1.2) dCount).group, now := ((s3.set (Int.toNat s1.2) ({ group := (s3.getD (Int.toNat s1.2) dCount).group, now := (w64 ((s3.getD (Int.toNat s1.2) dCount).now + p3)), limit := (s3.getD (Int.toNat s1.2) dCount).limit, peak := (s3.getD (Int.toNat s1.2) dCount).peak, events := (s3.getD (Int.toNat s1.2) dCount).events } : Count)).getD (Int.toNat s1.2) dCount).now, limit := ((s3.set (Int.toNat s1.2) ({ group := (s3.getD (Int.toNat s1.2) dCount).group, now := (w64 ((s3.getD (Int.toNat s1.2) dCount).now + p3)), limit := (s3.getD (Int.toNat s1.2) dCount).limit, peak := (s3.getD (Int.toNat s1.2) dCount).peak, events := (s3.getD (Int.toNat s1.2) dCount).events } : Count)).getD (Int.toNat s1.2) dCount).limit, peak := (maxI ((s3.set (Int.toNat s1.2) ({ group := (s3.getD (Int.toNat s1.2) dCount).group, now := (w64 ((s3.getD (Int.toNat s1.2) dCount).now + p3)), limit := (s3.getD (Int.toNat s1.2) dCount).limit, peak := (s3.getD (Int.toNat s1.2) dCount).peak, events := (s3.getD (Int.toNat s1.2) dCount).events } : Count)).getD (Int.toNat s1.2) dCount).peak ((s3.set (Int.toNat s1.2) ({ group := (s3.getD (Int.toNat s1.2) dCount).group, now := (w64 ((s3.getD (Int.toNat s1.2) dCount).now + p3)), limit := (s3.getD (Int.toNat s1.2) dCount).limit, peak := (s3.getD (Int.toNat s1.2) dCount).peak, events := (s3.getD (Int.toNat s1.2) dCount).events } : Count)).getD (Int.toNat s1.2) dCount).now), events := ((s3.set (Int.toNat s1.2) ({ group := (s3.getD (Int.toNat s1.2) dCount).group, now := (w64 ((s3.getD (Int.toNat s1.2) dCount).now + p3)), limit := (s3.getD (Int.toNat s1.2) dCount).limit, peak := (s3.getD (Int.toNat s1.2) dCount).peak, events := (s3.getD (Int.toNat s1.2) dCount).events } : Count)).getD (Int.toNat s1.2) dCount).events } : Count)))), (1360, ob0 (roI r10))] [(10, ow 1328 (s3.set (Int.toNat s1.2) ({ group := (s3.getD (Int.toNat s1.2) dCount).group, now := (w64 ((s3.getD (Int.toNat s1.2) dCount).now + p3)), limit := (s3.getD (Int.toNat s1.2) dCount).limit, peak := (s3.getD (Int.toNat s1.2) dCount).peak, events := (s3.getD (Int.toNat s1.2) dCount).events } : Count)).length)] [(1328, .row 5 (s3.set (Int.toNat s1.2) ({ group := (s3.getD (Int.toNat s1.2) dCount).group, now := (w64 ((s3.getD (Int.toNat s1.2) dCount).now + p3)), limit := (s3.getD (Int.toNat s1.2) dCount).limit, peak := (s3.getD (Int.toNat s1.2) dCount).peak, events := (s3.getD (Int.toNat s1.2) dCount).events } : Count)).length (updF (elCount (s3.set (Int.toNat s1.2) ({ group := (s3.getD (Int.toNat s1.2) dCount).group, now := (w64 ((s3.getD (Int.toNat s1.2) dCount).now + p3)), limit := (s3.getD (Int.toNat s1.2) dCount).limit, peak := (s3.getD (Int.toNat s1.2) dCount).peak, events := (s3.getD (Int.toNat s1.2) dCount).events } : Count))) (Int.toNat s1.2) [vi ((s3.set (Int.toNat s1.2) ({ group := (s3.getD (Int.toNat s1.2) dCount).group, now := (w64 ((s3.getD (Int.toNat s1.2) dCount).now + p3)), limit := (s3.getD (Int.toNat s1.2) dCount).limit, peak := (s3.getD (Int.toNat s1.2) dCount).peak, events := (s3.getD (Int.toNat s1.2) dCount).events } : Count)).getD (Int.toNat s1.2) dCount).group, vi ((s3.set (Int.toNat s1.2) ({ group := (s3.getD (Int.toNat s1.2) dCount).group, now := (w64 ((s3.getD (Int.toNat s1.2) dCount).now + p3)), limit := (s3.getD (Int.toNat s1.2) dCount).limit, peak := (s3.getD (Int.toNat s1.2) dCount).peak, events := (s3.getD (Int.toNat s1.2) dCount).events } : Count)).getD (Int.toNat s1.2) dCount).now, vi ((s3.set (Int.toNat s1.2) ({ group := (s3.getD (Int.toNat s1.2) dCount).group, now := (w64 ((s3.getD (Int.toNat s1.2) dCount).now + p3)), limit := (s3.getD (Int.toNat s1.2) dCount).limit, peak := (s3.getD (Int.toNat s1.2) dCount).peak, events := (s3.getD (Int.toNat s1.2) dCount).events } : Count)).getD (Int.toNat s1.2) dCount).limit, vi (maxI ((s3.set (Int.toNat s1.2) ({ group := (s3.getD (Int.toNat s1.2) dCount).group, now := (w64 ((s3.getD (Int.toNat s1.2) dCount).now + p3)), limit := (s3.getD (Int.toNat s1.2) dCount).limit, peak := (s3.getD (Int.toNat s1.2) dCount).peak, events := (s3.getD (Int.toNat s1.2) dCount).events } : Count)).getD (Int.toNat s1.2) dCount).peak ((s3.set (Int.toNat s1.2) ({ group := (s3.getD (Int.toNat s1.2) dCount).group, now := (w64 ((s3.getD (Int.toNat s1.2) dCount).now + p3)), limit := (s3.getD (Int.toNat s1.2) dCount).limit, peak := (s3.getD (Int.toNat s1.2) dCount).peak, events := (s3.getD (Int.toNat s1.2) dCount).events } : Count)).getD (Int.toNat s1.2) dCount).now), vi ((s3.set (Int.toNat s1.2) ({ group := (s3.getD (Int.toNat s1.2) dCount).group, now := (w64 ((s3.getD (Int.toNat s1.2) dCount).now + p3)), limit := (s3.getD (Int.toNat s1.2) dCount).limit, peak := (s3.getD (Int.toNat s1.2) dCount).peak, events := (s3.getD (Int.toNat s1.2) dCount).events } : Count)).getD (Int.toNat s1.2) dCount).events]))] (an g99.1 (an g99.2 (an g100 (an g101.1 (an g101.2 (an g102 (an g103.1 (an g103.2 (an g104 trivial))))))))) (by kernel_rfl) (.cons rfl (MLe.ownLen (enc := encCount) (d := dCount) (f := (updF (elCount (s3.set (Int.toNat s1.2) ({ group := (s3.getD (Int.toNat s1.2) dCount).group, now := (w64 ((s3.getD (Int.toNat s1.2) dCount).now + p3)), limit := (s3.getD (Int.toNat s1.2) dCount).limit, peak := (s3.getD (Int.toNat s1.2) dCount).peak, events := (s3.getD (Int.toNat s1.2) dCount).events } : Count))) (Int.toNat s1.2) [vi ((s3.set (Int.toNat s1.2) ({ group := (s3.getD (Int.toNat s1.2) dCount).group, now := (w64 ((s3.getD (Int.toNat s1.2) dCount).now + p3)), limit := (s3.getD (Int.toNat s1.2) dCount).limit, peak := (s3.getD (Int.toNat s1.2) dCount).peak, events := (s3.getD (Int.toNat s1.2) dCount).events } : Count)).getD (Int.toNat s1.2) dCount).group, vi ((s3.set (Int.toNat s1.2) ({ group := (s3.getD (Int.toNat s1.2) dCount).group, now := (w64 ((s3.getD (Int.toNat s1.2) dCount).now + p3)), limit := (s3.getD (Int.toNat s1.2) dCount).limit, peak := (s3.getD (Int.toNat s1.2) dCount).peak, events := (s3.getD (Int.toNat s1.2) dCount).events } : Count)).getD (Int.toNat s1.2) dCount).now, vi ((s3.set (Int.toNat s1.2) ({ group := (s3.getD (Int.toNat s1.2) dCount).group, now := (w64 ((s3.getD (Int.toNat s1.2) dCount).now + p3)), limit := (s3.getD (Int.toNat s1.2) dCount).limit, peak := (s3.getD (Int.toNat s1.2) dCount).peak, events := (s3.getD (Int.toNat s1.2) dCount).events } : Count)).getD (Int.toNat s1.2) dCount).limit, vi (maxI ((s3.set (Int.toNat s1.2) ({ group := (s3.getD (Int.toNat s1.2) dCount).group, now := (w64 ((s3.getD (Int.toNat s1.2) dCount).now + p3)), limit := (s3.getD (Int.toNat s1.2) dCount).limit, peak := (s3.getD (Int.toNat s1.2) dCount).peak, events := (s3.getD (Int.toNat s1.2) dCount).events } : Count)).getD (Int.toNat s1.2) dCount).peak ((s3.set (Int.toNat s1.2) ({ group := (s3.getD (Int.toNat s1.2) dCount).group, now := (w64 ((s3.getD (Int.toNat s1.2) dCount).now + p3)), limit := (s3.getD (Int.toNat s1.2) dCount).limit, peak := (s3.getD (Int.toNat s1.2) dCount).peak, events := (s3.getD (Int.toNat s1.2) dCount).events } : Count)).getD (Int.toNat s1.2) dCount).now), vi ((s3.set (Int.toNat s1.2) ({ group := (s3.getD (Int.toNat s1.2) dCount).group, now := (w64 ((s3.getD (Int.toNat s1.2) dCount).now + p3)), limit := (s3.getD (Int.toNat s1.2) dCount).limit, peak := (s3.getD (Int.toNat s1.2) dCount).peak, events := (s3.getD (Int.toNat s1.2) dCount).events } : Count)).getD (Int.toNat s1.2) dCount).events])) (RowIs.upd RowIs.elems ({ group := ((s3.set (Int.toNat s1.2) ({ group := (s3.getD (Int.toNat s1.2) dCount).group, now := (w64 ((s3.getD (Int.toNat s1.2) dCount).now + p3)), limit := (s3.getD (Int.toNat s1.2) dCount).limit, peak := (s3.getD (Int.toNat s1.2) dCount).peak, events := (s3.getD (Int.toNat s1.2) dCount).events } : Count)).getD (Int.toNat s1.2) dCount).group, now := ((s3.set (Int.toNat s1.2) ({ group := (s3.getD (Int.toNat s1.2) dCount).group, now := (w64 ((s3.getD (Int.toNat s1.2) dCount).now + p3)), limit := (s3.getD (Int.toNat s1.2) dCount).limit, peak := (s3.getD (Int.toNat s1.2) dCount).peak, events := (s3.getD (Int.toNat s1.2) dCount).events } : Count)).getD (Int.toNat s1.2) dCount).now, limit := ((s3.set (Int.toNat s1.2) ({ group := (s3.getD (Int.toNat s1.2) dCount).group, now := (w64 ((s3.getD (Int.toNat s1.2) dCount).now + p3)), limit := (s3.getD (Int.toNat s1.2) dCount).limit, peak := (s3.getD (Int.toNat s1.2) dCount).peak, events := (s3.getD (Int.toNat s1.2) dCount).events } : Count)).getD (Int.toNat s1.2) dCount).limit, peak := (maxI ((s3.set (Int.toNat s1.2) ({ group := (s3.getD (Int.toNat s1.2) dCount).group, now := (w64 ((s3.getD (Int.toNat s1.2) dCount).now + p3)), limit := (s3.getD (Int.toNat s1.2) dCount).limit, peak := (s3.getD (Int.toNat s1.2) dCount).peak, events := (s3.getD (Int.toNat s1.2) dCount).events } : Count)).getD (Int.toNat s1.2) dCount).peak ((s3.set (Int.toNat s1.2) ({ group := (s3.getD (Int.toNat s1.2) dCount).group, now := (w64 ((s3.getD (Int.toNat s1.2) dCount).now + p3)), limit := (s3.getD (Int.toNat s1.2) dCount).limit, peak := (s3.getD (Int.toNat s1.2) dCount).peak, events := (s3.getD (Int.toNat s1.2) dCount).events } : Count)).getD (Int.toNat s1.2) dCount).now), events := ((s3.set (Int.toNat s1.2) ({ group := (s3.getD (Int.toNat s1.2) dCount).group, now := (w64 ((s3.getD (Int.toNat s1.2) dCount).now + p3)), limit := (s3.getD (Int.toNat s1.2) dCount).limit, peak := (s3.getD (Int.toNat s1.2) dCount).peak, events := (s3.getD (Int.toNat s1.2) dCount).events } : Count)).getD (Int.toNat s1.2) dCount).events } : Count) rfl)) .nil) (.cons rfl (BLe.typed (RowIs.upd RowIs.elems ({ group := ((s3.set (Int.toNat s1.2) ({ group := (s3.getD (Int.toNat s1.2) dCount).group, now := (w64 ((s3.getD (Int.toNat s1.2) dCount).now + p3)), limit := (s3.getD (Int.toNat s1.2) dCount).limit, peak := (s3.getD (Int.toNat s1.2) dCount).peak, events := (s3.getD (Int.toNat s1.2) dCount).events } : Count)).getD (Int.toNat s1.2) dCount).group, now := ((s3.set (Int.toNat s1.2) ({ group := (s3.getD (Int.toNat s1.2) dCount).group, now := (w64 ((s3.getD (Int.toNat s1.2) dCount).now + p3)), limit := (s3.getD (Int.toNat s1.2) dCount).limit, peak := (s3.getD (Int.toNat s1.2) dCount).peak, events := (s3.getD (Int.toNat s1.2) dCount).events } : Count)).getD (Int.toNat s1.2) dCount).now, limit := ((s3.set (Int.toNat s1.2) ({ group := (s3.getD (Int.toNat s1.2) dCount).group, now := (w64 ((s3.getD (Int.toNat s1.2) dCount).now + p3)), limit := (s3.getD (Int.toNat s1.2) dCount).limit, peak := (s3.getD (Int.toNat s1.2) dCount).peak, events := (s3.getD (Int.toNat s1.2) dCount).events } : Count)).getD (Int.toNat s1.2) dCount).limit, peak := (maxI ((s3.set (Int.toNat s1.2) ({ group := (s3.getD (Int.toNat s1.2) dCount).group, now := (w64 ((s3.getD (Int.toNat s1.2) dCount).now + p3)), limit := (s3.getD (Int.toNat s1.2) dCount).limit, peak := (s3.getD (Int.toNat s1.2) dCount).peak, events := (s3.getD (Int.toNat s1.2) dCount).events } : Count)).getD (Int.toNat s1.2) dCount).peak ((s3.set (Int.toNat s1.2) ({ group := (s3.getD (Int.toNat s1.2) dCount).group, now := (w64 ((s3.getD (Int.toNat s1.2) dCount).now + p3)), limit := (s3.getD (Int.toNat s1.2) dCount).limit, peak := (s3.getD (Int.toNat s1.2) dCount).peak, events := (s3.getD (Int.toNat s1.2) dCount).events } : Count)).getD (Int.toNat s1.2) dCount).now), events := ((s3.set (Int.toNat s1.2) ({ group := (s3.getD (Int.toNat s1.2) dCount).group, now := (w64 ((s3.getD (Int.toNat s1.2) dCount).now + p3)), limit := (s3.getD (Int.toNat s1.2) dCount).limit, peak := (s3.getD (Int.toNat s1.2) dCount).peak, events := (s3.getD (Int.toNat s1.2) dCount).events } : Count)).getD (Int.toNat s1.2) dCount).events } : Count) rfl)) .nil) ?_
         exact blockDone ((s3.set (Int.toNat s1.2) ({ group := (s3.getD (Int.toNat s1.2) dCount).group, now := (w64 ((s3.getD (Int.toNat s1.2) dCount).now + p3)), limit := (s3.getD (Int.toNat s1.2) dCount).limit, peak := (s3.getD (Int.toNat s1.2) dCount).peak, events := (s3.getD (Int.toNat s1.2) dCount).events } : Count)).set (Int.toNat s1.2) ({ group := ((s3.set (Int.toNat s1.2) ({ group := (s3.getD (Int.toNat s1.2) dCount).group, now := (w64 ((s3.getD (Int.toNat s1.2) dCount).now + p3)), limit := (s3.getD (Int.toNat s1.2) dCount).limit, peak := (s3.getD (Int.toNat s1.2) dCount).peak, events := (s3.getD (Int.toNat s1.2) dCount).events } : Count)).getD (Int.toNat s1.2) dCount).group, now := ((s3.set (Int.toNat s1.2) ({ group := (s3.getD (Int.toNat s1.2) dCount).group, now := (w64 ((s3.getD (Int.toNat s1.2) dCount).now + p3)), limit := (s3.getD (Int.toNat s1.2) dCount).limit, peak := (s3.getD (Int.toNat s1.2) dCount).peak, events := (s3.getD (Int.toNat s1.2) dCount).events } : Count)).getD (Int.toNat s1.2) dCount).now, limit := ((s3.set (Int.toNat s1.2) ({ group := (s3.getD (Int.toNat s1.2) dCount).group, now := (w64 ((s3.getD (Int.toNat s1.2) dCount).now + p3)), limit := (s3.getD (Int.toNat s1.2) dCount).limit, peak := (s3.getD (Int.toNat s1.2) dCount).peak, events := (s3.getD (Int.toNat s1.2) dCount).events } : Count)).getD (Int.toNat s1.2) dCount).limit, peak := (maxI ((s3.set (Int.toNat s1.2) ({ group := (s3.getD (Int.toNat s1.2) dCount).group, now := (w64 ((s3.getD (Int.toNat s1.2) dCount).now + p3)), limit := (s3.getD (Int.toNat s1.2) dCount).limit, peak := (s3.getD (Int.toNat s1.2) dCount).peak, events := (s3.getD (Int.toNat s1.2) dCount).events } : Count)).getD (Int.toNat s1.2) dCount).peak ((s3.set (Int.toNat s1.2) ({ group := (s3.getD (Int.toNat s1.2) dCount).group, now := (w64 ((s3.getD (Int.toNat s1.2) dCount).now + p3)), limit := (s3.getD (Int.toNat s1.2) dCount).limit, peak := (s3.getD (Int.toNat s1.2) dCount).peak, events := (s3.getD (Int.toNat s1.2) dCount).events } : Count)).getD (Int.toNat s1.2) dCount).now), events := ((s3.set (Int.toNat s1.2) ({ group := (s3.getD (Int.toNat s1.2) dCount).group, now := (w64 ((s3.getD (Int.toNat s1.2) dCount).now + p3)), limit := (s3.getD (Int.toNat s1.2) dCount).limit, peak := (s3.getD (Int.toNat s1.2) dCount).peak, events := (s3.getD (Int.toNat s1.2) dCount).events } : Count)).getD (Int.toNat s1.2) dCount).events } : Count)) hm .refl
        ·intro h94 hm
         refine DW.skip ?_
         exact blockDone s3 hm Conv.t0
      ·intro h91
       have hge3 : ¬ k3 < r10.length := by have := of_decide_eq_false h91; omega
       have hm := he3 hge3
       unfold Charge_ref10D3 at hm
       refine DW.exit ?_
       refine joinQ_exit ?_
       refine KQ_exit ?_
       refine blockQ_exit ?_
       show DW _ _ _ _ _
       refine DW.done ?_
       show DW _ _ _ _ _
       refine RD hnt (nn 3 []) [13, 55] [(12, pI (w64 (s1.2 + 1)))] [] [] trivial ?_
       exact joinDone (s3, (w64 (s1.2 + 1))) hm Conv.eqK
     ·intro h58 hm
      refine DW.exit ?_
      refine joinQ_exit ?_
      refine KQ_exit ?_
      refine blockQ_exit ?_
      show DW _ _ _ _ _
      refine DW.seq (RK hnt (nn 3 []) [(8, ow 1328 s1.1.length), (9, pI 0)] [(1328, ob0 (roCount s1.1))] trivial ?_)
      refine DW.ret ?_
      obtain rfl := Option.some.inj hm
      exact retK [roCount s1.1] [1328] (.tup [ow 0 s1.1.length, pI 0])
 ·rcases bt (!r1) with h2 | h2
  ·replace hm := if_t h2 hm
   refine RD hnt (nn 2 (.call 32 [] true (pB r1) [] [] :: nn 2 (sk 2 (pT :: .no :: sk 2 (pT :: .no :: []))))) [] [(14, pB true)] [] [] (an (Check_ref10Spec p0 p1 r1 hr1) (an3 h2 (an3 tt trivial))) ?_
   exact joinDone true hm Conv.eqK
  ·replace hm := if_f h2 hm
   rcases bt (decide (p3 < 0)) with h3 | h3
   ·replace hm := if_t h3 hm
    refine RD hnt (nn 2 (.call 32 [] true (pB r1) [] [] :: nn 4 (pF :: .no :: sk 2 (pT :: .no :: [])))) [] [(14, pB true)] [] [] (an (Check_ref10Spec p0 p1 r1 hr1) (an3 h2 (an3 h3 trivial))) ?_
    exact joinDone true hm Conv.eqK
   ·replace hm := if_f h3 hm
    refine RD hnt (nn 2 (.call 32 [] true (pB r1) [] [] :: nn 4 (pF :: nn 3 (pF :: .no :: [])))) [] [(14, pB (decide (p3 > 128)))] [] [] (an (Check_ref10Spec p0 p1 r1 hr1) (an3 h2 (an3 h3 trivial))) ?_
    exact joinDone (decide (p3 > 128)) hm Conv.eqK

abbrev c37e1 (p1 : List Count) (k4 : Nat) := (p1.getD k4 (default : Count))
theorem Refuse_ref10Spec (p0 : Hierarchy) (p1 : List Count) (p2 : Int) (p3 : Int) (RES : (List Count) × Int) (hm : Refuse_ref10 p0 p1 p2 p3 = some RES) : Spec Tryz.prog 37 [.p (.agg (encHierarchy p0)), .p (slCount p1), pI p2, pI p3] [] (.tup [ow 0 RES.1.length, pI RES.2]) [] [roCount RES.1] := by
 unfold Refuse_ref10 at hm
 refine SO Tryz.func37 rfl rfl [(0, .p (.agg (encHierarchy p0))), (1, .p (slCount p1)), (2, pI p2), (3, pI p3)] [] ?_
 intro cx hnt
 refine DW.seq (RD hnt (nn 3 []) [0] [(4, rr 1032)] [] [(1032, bx (pm (encHierarchy p0)))] trivial ?_)
 obtain ⟨r1, hr1, hm⟩ := bind_open hm
 refine DW.seq (DW.seq (RD hnt (nn 2 (.call 32 [] true (pB r1) [] [] :: .no :: [])) [] [(18, pB (!r1))] [] [] (an (Check_ref10Spec p0 p1 r1 hr1) trivial) ?_))
 refine condM hm ?_ ?_
 ·intro h2 hm
  refine DW.seq (RK hnt (nn 2 []) [(8, .p (.sl .nil 0 0 (fun _ => []))), (9, pI 0)] [] trivial ?_)
  refine DW.conv (τ := mkSt [(8, ow 100000 0), (9, pI 0)] [(100000, ob0 (roCount []))]) (Conv.trans (τ := mkSt [(8, ow 100000 0), (9, pI 0)] ((100000, ⟨0, .row 5 0 (elems encCount dCount [])⟩) :: [])) (Conv.adopt 100000 5 (elems encCount dCount []) rfl rfl (.cons (.one (.nil _ _)) (.cons (.one (.rfl _)) (.rfl _))) (.rfl _)) Conv.t0) ?_
  refine DW.ret ?_
  obtain rfl := Option.some.inj hm
  exact retK [roCount []] [100000] (.tup [ow 0 0, pI 0])
 ·intro h2 hm
  refine DW.skip ?_
  obtain ⟨g3, hm⟩ := guard_open hm
  refine DW.seq (RN hnt (nn 3 []) [(2, pI p2), (3, pI p3), (4, rr 1032), (10, ow 1160 p1.length)] [(1032, bx (pm (encHierarchy p0))), (1160, ob0 (roCount p1))] [] [(1160, .row 5 p1.length (elCount p1))] (an (by omega : p1.length * 40 ≤ 140737488355328) trivial) (by kernel_rfl) .nil (.cons rfl (BLe.typed RowIs.elems) .nil) ?_)
  obtain ⟨r4, hr4, hm⟩ := bind_open hm
  refine DW.seq (RD hnt (nn 3 (.call 21 [] true (ow 0 r4.length) [] [roI r4] :: .no :: [])) [2, 4] [(11, ow 1192 r4.length)] [1032] [(1192, ob0 (roI r4))] (an (Ancestors_ref5Spec p0.tree p2 r4 hr4) trivial) ?_)
  refine DW.seq (DW.seq (RD hnt (.no :: []) [] [(12, pI 0)] [] [] trivial ?_))
  refine DW.block ?_
  obtain ⟨hc1, hm⟩ := guard_open hm
  refine DW.rangeO (fun (k1 : Nat) (s1 : Unit) => mkSt [(3, pI p3), (10, ow 1160 p1.length), (11, ow 1192 r4.length), (12, pI ((k1 : Nat) : Int))] [(1160, ob0 (roCount p1)), (1192, ob0 (roI r4))]) 0 hm Conv.eqK ?_
  intro k1 s1 n1 hk1 hs1 he1
  refine DW.seq (DW.seq (RD hnt (nn 4 []) [] [(28, pB (decide (((k1 : Nat) : Int) < ((r4.length : Nat) : Int))))] [] [] trivial ?_))
  refine condK (decide (((k1 : Nat) : Int) < ((r4.length : Nat) : Int))) ?_ ?_
  ·intro h71
   have hlt1 : k1 < r4.length := by have := of_decide_eq_true h71; omega
   have hm := hs1 hlt1
   unfold Refuse_ref10L1 at hm
   refine DW.skip ?_
   refine DW.seq (DW.block ?_)
   refine DW.seq (RD hnt (.no :: []) [28] [(13, pI 0)] [] [] trivial ?_)
   refine DW.block ?_
   obtain ⟨hc4, hm⟩ := guard_open hm
   refine DW.rangeO (fun (k4 : Nat) (s4 : Unit) => mkSt [(3, pI p3), (10, ow 1160 p1.length), (11, ow 1192 r4.length), (12, pI ((k1 : Nat) : Int)), (13, pI ((k4 : Nat) : Int))] [(1160, ob0 (roCount p1)), (1192, ob0 (roI r4))]) dCount hm Conv.eqK ?_
   intro k4 s4 n4 hk4 hs4 he4
   refine DW.seq (DW.seq (RD hnt (nn 4 []) [] [(34, pB (decide (((k4 : Nat) : Int) < ((p1.length : Nat) : Int))))] [] [] trivial ?_))
   refine condK (decide (((k4 : Nat) : Int) < ((p1.length : Nat) : Int))) ?_ ?_
   ·intro h92
    have hlt4 : k4 < p1.length := by have := of_decide_eq_true h92; omega
    have hm := hs4 hlt4
    unfold Refuse_ref10L4 at hm
    refine DW.skip ?_
    refine DW.seq (DW.block ?_)
    refine DW.seq (RD hnt (nn 4 []) [34] [(14, .eref 1160 0 k4 0)] [] [] (an (nn0 k4) (an (ltc hlt4) trivial)) ?_)
    refine DW.seq (DW.regJ (sl2 := [(3, pI p3), (10, ow 1160 p1.length), (11, ow 1192 r4.length), (12, pI ((k1 : Nat) : Int)), (13, pI ((k4 : Nat) : Int)), (14, .eref 1160 0 k4 0), (61, pB (((c37e1 p1 k4).group == (r4.getD k1 0)) && (decide ((w64 ((c37e1 p1 k4).limit - (c37e1 p1 k4).now)) < p3))))]) (ob2 := [(1160, ob0 (roCount p1)), (1192, ob0 (roI r4))]) ?_ ?_)
    ·rcases bt ((c37e1 p1 k4).group == (r4.getD k1 0)) with h93 | h93
     ·exact RT hnt (nn 21 (pT :: [])) [(61, pB (decide ((w64 ((c37e1 p1 k4).limit - (c37e1 p1 k4).now)) < p3)))] (an (by omega : k4 < p1.length) (an (nn0 k1) (an (ltc hlt1) (an (by omega : k1 < r4.length) (an4 h93 (an (by omega : k4 < p1.length) (an4 h93 (an (by omega : k4 < p1.length) (an4 h93 trivial))))))))) (by kernel_rfl) (.cons rfl (.of_eq (by rw [h93]; try rfl)) .nil)
     ·exact RT hnt (nn 10 (sk 11 (pF :: []))) [(61, pB false)] (an (by omega : k4 < p1.length) (an (nn0 k1) (an (ltc hlt1) (an (by omega : k1 < r4.length) (an6 h93 (an6 h93 trivial)))))) (by kernel_rfl) (.cons rfl (.of_eq (by rw [h93]; try rfl)) .nil)
    ·refine condM hm ?_ ?_
     ·intro h94 hm
      refine DW.seq (RN hnt (nn 10 []) [(10, ow 1160 (p1.set k4 ({ group := (c37e1 p1 k4).group, now := (c37e1 p1 k4).now, limit := (c37e1 p1 k4).limit, peak := (c37e1 p1 k4).peak, events := (minI (w64 ((c37e1 p1 k4).events + 1)) 1099511627776) } : Count)).length), (14, .eref 1160 0 k4 0)] [(1160, ob0 (roCount (p1.set k4 ({ group := (c37e1 p1 k4).group, now := (c37e1 p1 k4).now, limit := (c37e1 p1 k4).limit, peak := (c37e1 p1 k4).peak, events := (minI (w64 ((c37e1 p1 k4).events + 1)) 1099511627776) } : Count))))] [(10, ow 1160 p1.length)] [(1160, .row 5 p1.length (updF (elCount p1) k4 [vi (c37e1 p1 k4).group, vi (c37e1 p1 k4).now, vi (c37e1 p1 k4).limit, vi (c37e1 p1 k4).peak, vi (minI (w64 ((c37e1 p1 k4).events + 1)) 1099511627776)]))] (an (by omega : k4 < p1.length) (an (by omega : k4 < p1.length) trivial)) (by kernel_rfl) (.cons rfl (MLe.ownLen (enc := encCount) (d := dCount) (f := (updF (elCount p1) k4 [vi (c37e1 p1 k4).group, vi (c37e1 p1 k4).now, vi (c37e1 p1 k4).limit, vi (c37e1 p1 k4).peak, vi (minI (w64 ((c37e1 p1 k4).events + 1)) 1099511627776)])) (RowIs.upd RowIs.elems ({ group := (c37e1 p1 k4).group, now := (c37e1 p1 k4).now, limit := (c37e1 p1 k4).limit, peak := (c37e1 p1 k4).peak, events := (minI (w64 ((c37e1 p1 k4).events + 1)) 1099511627776) } : Count) rfl)) .nil) (.cons rfl (BLe.typed (RowIs.upd RowIs.elems ({ group := (c37e1 p1 k4).group, now := (c37e1 p1 k4).now, limit := (c37e1 p1 k4).limit, peak := (c37e1 p1 k4).peak, events := (minI (w64 ((c37e1 p1 k4).events + 1)) 1099511627776) } : Count) rfl)) .nil) ?_)
      obtain ⟨g95, hm⟩ := guard_open hm
      refine DW.seq (RD hnt (nn 7 []) [10, 14] [(8, ow 1160 (p1.set k4 ({ group := (c37e1 p1 k4).group, now := (c37e1 p1 k4).now, limit := (c37e1 p1 k4).limit, peak := (c37e1 p1 k4).peak, events := (minI (w64 ((c37e1 p1 k4).events + 1)) 1099511627776) } : Count)).length), (9, pI ((p1.set k4 ({ group := (c37e1 p1 k4).group, now := (c37e1 p1 k4).now, limit := (c37e1 p1 k4).limit, peak := (c37e1 p1 k4).peak, events := (minI (w64 ((c37e1 p1 k4).events + 1)) 1099511627776) } : Count)).getD k4 dCount).group)] [] [] (an g95 trivial) ?_)
      refine DW.ret ?_
      obtain rfl := Option.some.inj hm
      exact retK [roCount (p1.set k4 ({ group := (c37e1 p1 k4).group, now := (c37e1 p1 k4).now, limit := (c37e1 p1 k4).limit, peak := (c37e1 p1 k4).peak, events := (minI (w64 ((c37e1 p1 k4).events + 1)) 1099511627776) } : Count))] [1160] (.tup [ow 0 (p1.set k4 ({ group := (c37e1 p1 k4).group, now := (c37e1 p1 k4).now, limit := (c37e1 p1 k4).limit, peak := (c37e1 p1 k4).peak, events := (minI (w64 ((c37e1 p1 k4).events + 1)) 1099511627776) } : Count)).length, pI ((p1.set k4 ({ group := (c37e1 p1 k4).group, now := (c37e1 p1 k4).now, limit := (c37e1 p1 k4).limit, peak := (c37e1 p1 k4).peak, events := (minI (w64 ((c37e1 p1 k4).events + 1)) 1099511627776) } : Count)).getD k4 dCount).group])
     ·intro h94 hm
      refine DW.skip ?_
      refine DW.done ?_
      show DW _ _ _ _ _
      refine RD hnt (nn 3 []) [14, 61] [(13, pI (w64 (((k4 : Nat) : Int) + 1)))] [] [] trivial ?_
      exact joinDone () ⟨hlt4, hm⟩ (Conv.tp [(13, pI (w64 (((k4 : Nat) : Int) + 1)))] [] (by kernel_rfl) (.cons rfl (.of_eq (congrArg pI (w64_succ hlt4 hc4))) .nil) .nil)
   ·intro h92
    have hge4 : ¬ k4 < p1.length := by have := of_decide_eq_false h92; omega
    have hm := he4 hge4
    unfold Refuse_ref10D4 at hm
    refine DW.exit ?_
    refine joinQ_exit ?_
    refine KQ_exit ?_
    refine blockQ_exit ?_
    show DW _ _ _ _ _
    refine DW.done ?_
    show DW _ _ _ _ _
    refine RD hnt (nn 3 []) [13, 34] [(12, pI (w64 (((k1 : Nat) : Int) + 1)))] [] [] trivial ?_
    exact joinDone () ⟨hlt1, hm⟩ (Conv.tp [(12, pI (w64 (((k1 : Nat) : Int) + 1)))] [] (by kernel_rfl) (.cons rfl (.of_eq (congrArg pI (w64_succ hlt1 hc1))) .nil) .nil)
  ·intro h71
   have hge1 : ¬ k1 < r4.length := by have := of_decide_eq_false h71; omega
   have hm := he1 hge1
   unfold Refuse_ref10D1 at hm
   refine DW.exit ?_
   refine joinQ_exit ?_
   refine KQ_exit ?_
   refine blockQ_exit ?_
   show DW _ _ _ _ _
   refine DW.seq (RK hnt (nn 3 []) [(8, ow 1160 p1.length), (9, pI 0)] [(1160, ob0 (roCount p1))] trivial ?_)
   refine DW.ret ?_
   obtain rfl := Option.some.inj hm
   exact retK [roCount p1] [1160] (.tup [ow 0 p1.length, pI 0])

theorem Same_ref10Spec (p0 : List Count) (p1 : List Count) (RES : Bool) (hm : Same_ref10 p0 p1 = some RES) : Spec Tryz.prog 38 [.p (slCount p0), .p (slCount p1)] [] (pB RES) [] [] := by
 unfold Same_ref10 at hm
 refine SO Tryz.func38 rfl rfl [(0, .p (slCount p0)), (1, .p (slCount p1))] [] ?_
 intro cx hnt
 refine DW.seq (RD hnt (.no :: []) [] [] [] [] trivial ?_)
 refine DW.seq (DW.seq (RD hnt (nn 5 []) [] [(10, pB (((p0.length : Nat) : Int) != ((p1.length : Nat) : Int)))] [] [] trivial ?_))
 refine condM hm ?_ ?_
 ·intro h1 hm
  refine DW.seq (RK hnt (.no :: []) [(4, pB false)] [] trivial ?_)
  refine DW.ret ?_
  obtain rfl := Option.some.inj hm
  exact retK [] [] (pB false)
 ·intro h1 hm
  refine DW.skip ?_
  refine DW.seq (DW.seq (RD hnt (.no :: []) [10] [(5, pI 0)] [] [] trivial ?_))
  refine DW.block ?_
  obtain ⟨hc1, hm⟩ := guard_open hm
  refine DW.rangeO (fun (k1 : Nat) (s1 : Unit) => mkSt [(0, .p (slCount p0)), (1, .p (slCount p1)), (5, pI ((k1 : Nat) : Int))] []) dCount hm Conv.eqK ?_
  intro k1 s1 n1 hk1 hs1 he1
  refine DW.seq (DW.seq (RD hnt (nn 4 []) [] [(14, pB (decide (((k1 : Nat) : Int) < ((p0.length : Nat) : Int))))] [] [] trivial ?_))
  refine condK (decide (((k1 : Nat) : Int) < ((p0.length : Nat) : Int))) ?_ ?_
  ·intro h10
   have hlt1 : k1 < p0.length := by have := of_decide_eq_true h10; omega
   have hm := hs1 hlt1
   unfold Same_ref10L1 at hm
   refine DW.skip ?_
   refine DW.seq (DW.block ?_)
   obtain ⟨g11, hm⟩ := guard_open hm
   refine DW.seq (RD hnt (nn 9 []) [14] [(25, pB (!(eqCount (p0.getD k1 (default : Count)) (p1.getD k1 dCount))))] [] [] (an (nn0 k1) (an (ltc hlt1) (an (nn0 k1) (an (ltc g11) trivial)))) ?_)
   refine condM hm ?_ ?_
   ·intro h12 hm
    refine DW.seq (RK hnt (.no :: []) [(4, pB false)] [] trivial ?_)
    refine DW.ret ?_
    obtain rfl := Option.some.inj hm
    exact retK [] [] (pB false)
   ·intro h12 hm
    refine DW.skip ?_
    refine DW.done ?_
    show DW _ _ _ _ _
    refine RD hnt (nn 3 []) [25] [(5, pI (w64 (((k1 : Nat) : Int) + 1)))] [] [] trivial ?_
    exact joinDone () ⟨hlt1, hm⟩ (Conv.tp [(5, pI (w64 (((k1 : Nat) : Int) + 1)))] [] (by kernel_rfl) (.cons rfl (.of_eq (congrArg pI (w64_succ hlt1 hc1))) .nil) .nil)
  ·intro h10
   have hge1 : ¬ k1 < p0.length := by have := of_decide_eq_false h10; omega
   have hm := he1 hge1
   unfold Same_ref10D1 at hm
   refine DW.exit ?_
   refine joinQ_exit ?_
   refine KQ_exit ?_
   refine blockQ_exit ?_
   show DW _ _ _ _ _
   refine DW.seq (RK hnt (.no :: []) [(4, pB true)] [] trivial ?_)
   refine DW.ret ?_
   obtain rfl := Option.some.inj hm
   exact retK [] [] (pB true)

theorem Room_pidsSpec (p0 : Hierarchy) (p1 : List Count) (p2 : Int) (RES : Int) (hm : Room_pids p0 p1 p2 = some RES) : Spec Tryz.prog 23 [.p (.agg (encHierarchy p0)), .p (slCount p1), pI p2] [] (pI RES) [] [] := by
 unfold Room_pids at hm
 refine SO Tryz.func23 rfl rfl [(0, .p (.agg (encHierarchy p0))), (1, .p (slCount p1)), (2, pI p2)] [] ?_
 intro cx hnt
 refine DW.seq (RD hnt (nn 2 []) [0] [(3, rr 1024)] [] [(1024, bx (pm (encHierarchy p0)))] trivial ?_)
 obtain ⟨r1, hr1, hm⟩ := bind_open hm
 refine DW.seq (DW.seq ?_)
 refine DW.join (ι := Bool) (fun (y1 : Bool) => mkSt [(1, .p (slCount p1)), (2, pI p2), (3, rr 1024), (16, pB y1)] [(1024, bx (pm (encHierarchy p0)))]) (fun y1 => (Room_pidsJ1 p0 p1 p2) y1 = some RES) ?_ ?_
 ·intro y1 hm
  unfold Room_pidsJ1 at hm
  refine condM hm ?_ ?_
  ·intro h4 hm
   refine DW.seq (RK hnt (.no :: []) [(6, pI 0)] [] trivial ?_)
   refine DW.ret ?_
   obtain rfl := Option.some.inj hm
   exact retK [] [] (pI 0)
  ·intro h4 hm
   refine DW.skip ?_
   obtain ⟨r5, hr5, hm⟩ := bind_open hm
   refine DW.seq (RK hnt (nn 3 (.call 90 [] true (pI r5) [] [] :: .no :: [])) [(6, pI r5)] [] (an (least_pidsSpec p0 p1 p2 r5 hr5) trivial) ?_)
   refine DW.ret ?_
   obtain rfl := Option.some.inj hm
   exact retK [] [] (pI r5)
 ·rcases bt (!r1) with h2 | h2
  ·replace hm := if_t h2 hm
   refine RD hnt (nn 2 (.call 31 [] true (pB r1) [] [] :: nn 2 (sk 4 (pT :: [])))) [] [(16, pB true)] [] [] (an (Check_pidsSpec p0 p1 r1 hr1) (an5 h2 trivial)) ?_
   exact joinDone true hm Conv.eqK
  ·replace hm := if_f h2 hm
   obtain ⟨r3, hr3, hm⟩ := bind_open hm
   refine RD hnt (nn 2 (.call 31 [] true (pB r1) [] [] :: nn 4 (.call 86 [] true (pI r3) [] [] :: .no :: pF :: []))) [] [(16, pB (decide (r3 < 0)))] [] [] (an (Check_pidsSpec p0 p1 r1 hr1) (an3 h2 (an (at_pidsSpec p1 p2 r3 hr3) (an2 h2 trivial)))) ?_
   exact joinDone (decide (r3 < 0)) hm Conv.eqK

abbrev c6e1 (r6 : (List Count) × Dice) (r8 : (List Count) × Dice) : Nat × Obj := (1384, ob0 (rowOf 1 (encSl 5 encCount dCount) [] [r6.1, r8.1]))
abbrev c6e2 (r5 : Hierarchy × Dice) : Nat × Obj := (1064, bx (pm (encHierarchy r5.1)))
abbrev c6e3 (p2 : Int) (r686 : Int × Dice) : Nat × MV := (79, ow 1632 [p2, r686.1, 4611686018427387904].length)
abbrev c6e4 (r6 : (List Count) × Dice) (r8 : (List Count) × Dice) (k1 : Nat) : Nat × MV := (11, .p (slCount ([r6.1, r8.1].getD k1 [])))
abbrev c6e5 (p2 : Int) (r686 : Int × Dice) : Nat × Obj := (1632, ob0 (roI [p2, r686.1, 4611686018427387904]))
abbrev c6e6 (r6 : (List Count) × Dice) (r8 : (List Count) × Dice) : Nat × MV := (48, ow 1384 [r6.1, r8.1].length)
abbrev c6e7 (k1 : Nat) : Nat × MV := (50, pI ((k1 : Nat) : Int))
abbrev c6e8 (p1 : Int) (r523 : Int × Dice) (r524 : Int × Dice) : Nat × MV := (70, ow 1560 [p1, r523.1, r524.1].length)
abbrev c6e9 (k10 : Nat) : Nat × MV := (72, pI ((k10 : Nat) : Int))
abbrev c6e10 (r686 : Int × Dice) : Nat × Obj := (1304, bx (pm (encDice r686.2)))
abbrev c6e11 (p1 : Int) (r523 : Int × Dice) (r524 : Int × Dice) : Nat × Obj := (1560, ob0 (roI [p1, r523.1, r524.1]))
abbrev c6e12 (p1 : Int) (r523 : Int × Dice) (r524 : Int × Dice) (k10 : Nat) : Nat × MV := (13, pI ([p1, r523.1, r524.1].getD k10 0))
theorem PidsCounts_law10Spec (p0 : List Int) (p1 : Int) (p2 : Int) (RES : Bool) (hm : PidsCounts_law10 p0 p1 p2 = some RES) : Spec Tryz.prog 6 [.p (slI p0), pI p1, pI p2] [] (pB RES) [] [] := by
 unfold PidsCounts_law10 at hm
 refine SO Tryz.func6 rfl rfl [(0, .p (slI p0)), (1, pI p1), (2, pI p2)] [] ?_
 intro cx hnt
 refine DW.seq (RD hnt (.no :: []) [] [] [] [] trivial ?_)
 obtain ⟨r1, hr1, hm⟩ := bind_open hm
 refine DW.seq (DW.seq (RD hnt (.no :: .call 14 [] true (pB r1) [] [] :: .no :: []) [] [(35, pB (!r1))] [] [] (an (Light_madeSpec p0 r1 hr1) trivial) ?_))
 refine condM hm ?_ ?_
 ·intro h2 hm
  obtain ⟨r3, hr3, hm⟩ := bind_open hm
  refine DW.seq (RK hnt (.call 15 [] true (pB r3) [] [] :: .no :: []) [(6, pB r3)] [] (an (sane_law10Spec r3 hr3) trivial) ?_)
  refine DW.ret ?_
  obtain rfl := Option.some.inj hm
  exact retK [] [] (pB r3)
 ·intro h2 hm
  refine DW.skip ?_
  obtain ⟨r4, hr4, hm⟩ := bind_open hm
  refine DW.seq (RD hnt (.no :: .call 16 [] true (rr 0) [] [.box (pm (encDice r4))] :: .no :: []) [0, 35] [(7, rr 1304)] [] [(1304, bx (pm (encDice r4)))] (an (Roll_madeSpec p0 r4 hr4) trivial) ?_)
  obtain ⟨r5, hr5, hm⟩ := bind_open hm
  refine DW.seq (RD hnt (.no :: .call 17 [1304] true (.p (.agg (encHierarchy r5.1))) [.box (pm (encDice r5.2))] [] :: nn 2 []) [] [(8, rr 1064)] [] [(c6e2 r5), (1304, bx (pm (encDice r5.2)))] (an (Hierarchy_Dice_madeSpec r4 6 8 r5 hr5) (an trivial trivial)) ?_)
  obtain ⟨r6, hr6, hm⟩ := bind_open hm
  refine DW.seq (RD hnt (nn 2 (.call 18 [1304] true (ow 1 r6.1.length) [.box (pm (encDice r6.2))] [roCount r6.1] :: .no :: [])) [] [(9, ow 1344 r6.1.length)] [] [(1304, bx (pm (encDice r6.2))), (1344, ob0 (roCount r6.1))] (an (counts_law10Spec r5.2 r5.1 r6 hr6) (an trivial trivial)) ?_)
  refine DW.seq (DW.seq (DW.conv (τ := mkSt [(1, pI p1), (2, pI p2), (7, rr 1304), (8, rr 1064), (9, .p (slCount r6.1))] [(c6e2 r5), (1304, bx (pm (encDice r6.2)))]) (Conv.freezes [1344] (by kernel_rfl)) ?_))
  obtain ⟨r8, hr8, hm⟩ := bind_open hm
  refine RN hnt (nn 3 (.call 30 [1304] true (.p (slCount r8.1)) [.box (pm (encDice r8.2))] [] :: nn 3 [])) [(1, pI p1), (2, pI p2), (7, rr 1304), (8, rr 1064), (c6e6 r6 r8), (49, pI 2), (50, pI 0)] [(c6e2 r5), (1304, bx (pm (encDice r8.2))), (c6e1 r6 r8)] [(48, ow 1384 2)] [(1384, .row 1 2 (cut 1 [slCount r6.1, slCount r8.1]))] (an (odd_law10Spec r6.2 r6.1 r8 hr8) (an trivial trivial)) (by kernel_rfl) (.cons rfl (MLe.ownLen (enc := (encSl 5 encCount dCount)) (d := []) (f := (cut 1 [slCount r6.1, slCount r8.1])) (RowIs.lit (enc := (encSl 5 encCount dCount)) (d := []) (n := 2) (f := (cut 1 [slCount r6.1, slCount r8.1])) [r6.1, r8.1] rfl (fun | 0, _ => rfl | 1, _ => rfl | n + 2, h => absurd h (by omega)))) .nil) (.cons rfl (BLe.typed (RowIs.lit (enc := (encSl 5 encCount dCount)) (d := []) (n := 2) (f := (cut 1 [slCount r6.1, slCount r8.1])) [r6.1, r8.1] rfl (fun | 0, _ => rfl | 1, _ => rfl | n + 2, h => absurd h (by omega)))) .nil) ?_
  refine DW.block ?_
  obtain ⟨hc1, hm⟩ := guard_open hm
  refine DW.rangeO (fun (k1 : Nat) (s1 : Dice) => mkSt [(1, pI p1), (2, pI p2), (7, rr 1304), (8, rr 1064), (c6e6 r6 r8), (49, pI 2), (c6e7 k1)] [(c6e2 r5), (1304, bx (pm (encDice s1))), (c6e1 r6 r8)]) [] hm .refl ?_
  intro k1 s1 n1 hk1 hs1 he1
  refine DW.seq (RD hnt (.no :: []) [] [(51, pB (decide (((k1 : Nat) : Int) < 2)))] [] [] trivial ?_)
  refine DW.seq (condK (decide (((k1 : Nat) : Int) < 2)) ?_ ?_)
  ·intro h519
   have hlt1 : k1 < [r6.1, r8.1].length := by have := of_decide_eq_true h519; have hL : [r6.1, r8.1].length = 2 := rfl; omega
   have hm := hs1 hlt1
   unfold PidsCounts_law10L1 at hm
   refine DW.skip ?_
   refine DW.seq (DW.block ?_)
   refine DW.seq (RD hnt (nn 3 []) [51] [(c6e4 r6 r8 k1)] [] [] (an (nn0 k1) (an (ltc hlt1) (an (by omega : k1 < [r6.1, r8.1].length) trivial))) ?_)
   obtain ⟨r520, hr520, hm⟩ := bind_open hm
   obtain ⟨r521, hr521, hm⟩ := bind_open hm
   refine DW.seq (DW.seq (RD hnt (nn 2 (.call 31 [] true (pB r520) [] [] :: nn 2 (.call 32 [] true (pB r521) [] [] :: .no :: []))) [] [(60, pB (r520 != r521))] [] [] (an (Check_pidsSpec r5.1 ([r6.1, r8.1].getD k1 []) r520 hr520) (an (Check_ref10Spec r5.1 ([r6.1, r8.1].getD k1 []) r521 hr521) trivial)) ?_))
   refine condM hm ?_ ?_
   ·intro h522 hm
    refine DW.seq (RK hnt (.no :: []) [(6, pB false)] [] trivial ?_)
    refine DW.ret ?_
    obtain rfl := Option.some.inj hm
    exact retK [] [] (pB false)
   ·intro h522 hm
    refine DW.skip ?_
    obtain ⟨r523, hr523, hm⟩ := bind_open hm
    obtain ⟨r524, hr524, hm⟩ := bind_open hm
    refine DW.seq (DW.seq (RN hnt (nn 4 (.call 33 [1304] true (pI r523.1) [.box (pm (encDice r523.2))] [] :: nn 3 (.call 33 [1304] true (pI r524.1) [.box (pm (encDice r524.2))] [] :: nn 3 []))) [(1, pI p1), (2, pI p2), (7, rr 1304), (8, rr 1064), (c6e4 r6 r8 k1), (c6e6 r6 r8), (49, pI 2), (c6e7 k1), (c6e8 p1 r523 r524), (71, pI 3), (72, pI 0)] [(c6e2 r5), (1304, bx (pm (encDice r524.2))), (c6e1 r6 r8), (c6e11 p1 r523 r524)] [(70, ow 1560 3)] [(1560, .row 1 3 (cut 1 [vi p1, vi r523.1, vi r524.1]))] (an (Group_Dice_madeSpec s1 r5.1.tree r523 hr523) (an trivial (an (Group_Dice_madeSpec r523.2 r5.1.tree r524 hr524) (an trivial trivial)))) (by kernel_rfl) (.cons rfl (MLe.ownLen (enc := encI) (d := 0) (f := (cut 1 [vi p1, vi r523.1, vi r524.1])) (RowIs.lit (enc := encI) (d := 0) (n := 3) (f := (cut 1 [vi p1, vi r523.1, vi r524.1])) [p1, r523.1, r524.1] rfl (fun | 0, _ => rfl | 1, _ => rfl | 2, _ => rfl | n + 3, h => absurd h (by omega)))) .nil) (.cons rfl (BLe.typed (RowIs.lit (enc := encI) (d := 0) (n := 3) (f := (cut 1 [vi p1, vi r523.1, vi r524.1])) [p1, r523.1, r524.1] rfl (fun | 0, _ => rfl | 1, _ => rfl | 2, _ => rfl | n + 3, h => absurd h (by omega)))) .nil) ?_))
    refine DW.block ?_
    obtain ⟨hc10, hm⟩ := guard_open hm
    refine DW.rangeO (fun (k10 : Nat) (s10 : Dice) => mkSt [(1, pI p1), (2, pI p2), (7, rr 1304), (8, rr 1064), (c6e4 r6 r8 k1), (c6e6 r6 r8), (49, pI 2), (c6e7 k1), (c6e8 p1 r523 r524), (71, pI 3), (c6e9 k10)] [(c6e2 r5), (1304, bx (pm (encDice s10))), (c6e1 r6 r8), (c6e11 p1 r523 r524)]) 0 hm .refl ?_
    intro k10 s10 n10 hk10 hs10 he10
    refine DW.seq (RD hnt (.no :: []) [] [(73, pB (decide (((k10 : Nat) : Int) < 3)))] [] [] trivial ?_)
    refine DW.seq (condK (decide (((k10 : Nat) : Int) < 3)) ?_ ?_)
    ·intro h685
     have hlt10 : k10 < [p1, r523.1, r524.1].length := by have := of_decide_eq_true h685; have hL : [p1, r523.1, r524.1].length = 3 := rfl; omega
     have hm := hs10 hlt10
     unfold PidsCounts_law10L10 at hm
     refine DW.skip ?_
     refine DW.seq (DW.block ?_)
     refine DW.seq (RD hnt (nn 3 []) [73] [(c6e12 p1 r523 r524 k10)] [] [] (an (nn0 k10) (an (ltc hlt10) (an (by omega : k10 < [p1, r523.1, r524.1].length) trivial))) ?_)
     obtain ⟨r686, hr686, hm⟩ := bind_open hm
     refine DW.seq (DW.seq (RN hnt (nn 2 (.call 19 [1304] true (pI r686.1) [.box (pm (encDice r686.2))] [] :: nn 3 [])) [(1, pI p1), (2, pI p2), (7, rr 1304), (8, rr 1064), (c6e4 r6 r8 k1), (c6e12 p1 r523 r524 k10), (c6e6 r6 r8), (49, pI 2), (c6e7 k1), (c6e8 p1 r523 r524), (71, pI 3), (c6e9 k10), (c6e3 p2 r686), (80, pI 3), (81, pI 0)] [(c6e2 r5), (c6e10 r686), (c6e1 r6 r8), (c6e11 p1 r523 r524), (c6e5 p2 r686)] [(79, ow 1632 3)] [(1632, .row 1 3 (cut 1 [vi p2, vi r686.1, vi 4611686018427387904]))] (an (Next_Dice_madeSpec s10 6 r686 hr686) (an trivial trivial)) (by kernel_rfl) (.cons rfl (MLe.ownLen (enc := encI) (d := 0) (f := (cut 1 [vi p2, vi r686.1, vi 4611686018427387904])) (RowIs.lit (enc := encI) (d := 0) (n := 3) (f := (cut 1 [vi p2, vi r686.1, vi 4611686018427387904])) [p2, r686.1, 4611686018427387904] rfl (fun | 0, _ => rfl | 1, _ => rfl | 2, _ => rfl | n + 3, h => absurd h (by omega)))) .nil) (.cons rfl (BLe.typed (RowIs.lit (enc := encI) (d := 0) (n := 3) (f := (cut 1 [vi p2, vi r686.1, vi 4611686018427387904])) [p2, r686.1, 4611686018427387904] rfl (fun | 0, _ => rfl | 1, _ => rfl | 2, _ => rfl | n + 3, h => absurd h (by omega)))) .nil) ?_))
     refine DW.block ?_
     refine DW.forO (fun (k13 : Int) (s13 : Unit) => mkSt [(1, pI p1), (2, pI p2), (7, rr 1304), (8, rr 1064), (c6e4 r6 r8 k1), (c6e12 p1 r523 r524 k10), (c6e6 r6 r8), (49, pI 2), (c6e7 k1), (c6e8 p1 r523 r524), (71, pI 3), (c6e9 k10), (c6e3 p2 r686), (80, pI 3), (81, pI k13)] [(c6e2 r5), (c6e10 r686), (c6e1 r6 r8), (c6e11 p1 r523 r524), (c6e5 p2 r686)]) (lo := 0) (hi := 3) hm .refl ?_
     intro k13 s13 n13 hk13 hs13 he13
     refine DW.seq (RD hnt (.no :: []) [] [(82, pB (decide (k13 < 3)))] [] [] trivial ?_)
     refine DW.seq (condK (decide (k13 < 3)) ?_ ?_)
     ·intro h737
      have hlt13 : k13 < 3 := by have := of_decide_eq_true h737; omega
      have hm := hs13 hlt13
      unfold PidsCounts_law10L13 at hm
      refine DW.skip ?_
      refine DW.seq (DW.block ?_)
      obtain ⟨g738, g739, hm⟩ := go2 hm
      refine DW.seq (RD hnt (nn 3 []) [82] [(15, pI ([p2, r686.1, 4611686018427387904].getD (Int.toNat k13) 0))] [] [] (an g738.1 (an g738.2 (an g739 trivial))) ?_)
      obtain ⟨r740, hr740, hm⟩ := bind_open hm
      refine DW.seq (RD hnt (nn 4 (.call 34 [] true (.tup [ow 0 r740.1.length, pI r740.2]) [] [roCount r740.1] :: nn 5 [])) [] [(16, ow 1720 r740.1.length), (17, pI r740.2)] [] [(1720, ob0 (roCount r740.1))] (an (Limit_pidsSpec r5.1 ([r6.1, r8.1].getD k1 []) ([p1, r523.1, r524.1].getD k10 0) ([p2, r686.1, 4611686018427387904].getD (Int.toNat k13) 0) r740 hr740) trivial) ?_)
      obtain ⟨r741, hr741, hm⟩ := bind_open hm
      refine DW.seq (RD hnt (nn 4 (.call 35 [] true (.tup [ow 0 r741.1.length, pI r741.2]) [] [roCount r741.1] :: nn 5 [])) [] [(18, ow 1784 r741.1.length), (19, pI r741.2)] [] [(1784, ob0 (roCount r741.1))] (an (Limit_ref10Spec r5.1 ([r6.1, r8.1].getD k1 []) ([p1, r523.1, r524.1].getD k10 0) ([p2, r686.1, 4611686018427387904].getD (Int.toNat k13) 0) r741 hr741) trivial) ?_)
      obtain ⟨r742, hr742, hm⟩ := bind_open hm
      refine DW.seq (RD hnt (nn 4 (.call 29 [] true (.tup [ow 0 r742.1.length, pI r742.2]) [] [roCount r742.1] :: nn 5 [])) [] [(20, ow 1848 r742.1.length), (21, pI r742.2)] [] [(1848, ob0 (roCount r742.1))] (an (Charge_pidsSpec r5.1 ([r6.1, r8.1].getD k1 []) ([p1, r523.1, r524.1].getD k10 0) ([p2, r686.1, 4611686018427387904].getD (Int.toNat k13) 0) r742 hr742) trivial) ?_)
      obtain ⟨r743, hr743, hm⟩ := bind_open hm
      refine DW.seq (RD hnt (nn 4 (.call 36 [] true (.tup [ow 0 r743.1.length, pI r743.2]) [] [roCount r743.1] :: nn 5 [])) [] [(22, ow 1912 r743.1.length), (23, pI r743.2)] [] [(1912, ob0 (roCount r743.1))] (an (Charge_ref10Spec r5.1 ([r6.1, r8.1].getD k1 []) ([p1, r523.1, r524.1].getD k10 0) ([p2, r686.1, 4611686018427387904].getD (Int.toNat k13) 0) r743 hr743) trivial) ?_)
      obtain ⟨r744, hr744, hm⟩ := bind_open hm
      refine DW.seq (RD hnt (nn 4 (.call 20 [] true (.tup [ow 0 r744.1.length, pI r744.2]) [] [roCount r744.1] :: nn 5 [])) [] [(24, ow 1976 r744.1.length), (25, pI r744.2)] [] [(1976, ob0 (roCount r744.1))] (an (Refuse_pidsSpec r5.1 ([r6.1, r8.1].getD k1 []) ([p1, r523.1, r524.1].getD k10 0) ([p2, r686.1, 4611686018427387904].getD (Int.toNat k13) 0) r744 hr744) trivial) ?_)
      obtain ⟨r745, hr745, hm⟩ := bind_open hm
      refine DW.seq (RD hnt (nn 4 (.call 37 [] true (.tup [ow 0 r745.1.length, pI r745.2]) [] [roCount r745.1] :: nn 5 [])) [15] [(26, ow 2040 r745.1.length), (27, pI r745.2)] [] [(2040, ob0 (roCount r745.1))] (an (Refuse_ref10Spec r5.1 ([r6.1, r8.1].getD k1 []) ([p1, r523.1, r524.1].getD k10 0) ([p2, r686.1, 4611686018427387904].getD (Int.toNat k13) 0) r745 hr745) trivial) ?_)
      refine DW.seq ?_
      refine DW.join (ι := Bool) (fun (y52 : Bool) => mkSt [(1, pI p1), (2, pI p2), (7, rr 1304), (8, rr 1064), (c6e4 r6 r8 k1), (c6e12 p1 r523 r524 k10), (c6e6 r6 r8), (49, pI 2), (c6e7 k1), (c6e8 p1 r523 r524), (71, pI 3), (c6e9 k10), (c6e3 p2 r686), (80, pI 3), (81, pI k13), (163, pB y52)] [(c6e2 r5), (c6e10 r686), (c6e1 r6 r8), (c6e11 p1 r523 r524), (c6e5 p2 r686)]) (fun y52 => (PidsCounts_law10J52 n13) y52 = some RES) ?_ ?_
      ·intro y52 hm
       unfold PidsCounts_law10J52 at hm
       refine condM hm ?_ ?_
       ·intro h754 hm
        refine DW.seq (RK hnt (.no :: []) [(6, pB false)] [] trivial ?_)
        refine DW.ret ?_
        obtain rfl := Option.some.inj hm
        exact retK [] [] (pB false)
       ·intro h754 hm
        refine DW.skip ?_
        refine DW.done ?_
        show DW _ _ _ _ _
        refine RD hnt (nn 2 []) [163] [(81, pI (w64 (k13 + 1)))] [] [] trivial ?_
        exact joinDone () ⟨hlt13, hm⟩ (Conv.tp [(81, pI (w64 (k13 + 1)))] [] (by kernel_rfl) (.cons rfl (.of_eq (congrArg pI (w64_for (lo := 0) (hi := 3) (by omega) hk13 hlt13 (by omega)))) .nil) .nil)
      ·rcases bt (r740.2 != r741.2) with h746 | h746
       ·replace hm := if_t h746 hm
        refine RK hnt (nn 4 (sk 3 (pT :: .no :: sk 3 (pT :: .no :: sk 4 (pT :: .no :: sk 4 (pT :: .no :: sk 4 (pT :: []))))))) [(1, pI p1), (2, pI p2), (7, rr 1304), (8, rr 1064), (c6e4 r6 r8 k1), (c6e12 p1 r523 r524 k10), (c6e6 r6 r8), (49, pI 2), (c6e7 k1), (c6e8 p1 r523 r524), (71, pI 3), (c6e9 k10), (c6e3 p2 r686), (80, pI 3), (81, pI k13), (163, pB true)] [(c6e2 r5), (c6e10 r686), (c6e1 r6 r8), (c6e11 p1 r523 r524), (c6e5 p2 r686)] (an4 h746 (an tt (an6 tt (an6 tt (an6 tt trivial))))) ?_
        exact joinDone true hm .refl
       ·replace hm := if_f h746 hm
        rcases bt (r742.2 != r743.2) with h747 | h747
        ·replace hm := if_t h747 hm
         refine RK hnt (nn 7 (pF :: .no :: sk 3 (pT :: .no :: sk 4 (pT :: .no :: sk 4 (pT :: .no :: sk 4 (pT :: [])))))) [(1, pI p1), (2, pI p2), (7, rr 1304), (8, rr 1064), (c6e4 r6 r8 k1), (c6e12 p1 r523 r524 k10), (c6e6 r6 r8), (49, pI 2), (c6e7 k1), (c6e8 p1 r523 r524), (71, pI 3), (c6e9 k10), (c6e3 p2 r686), (80, pI 3), (81, pI k13), (163, pB true)] [(c6e2 r5), (c6e10 r686), (c6e1 r6 r8), (c6e11 p1 r523 r524), (c6e5 p2 r686)] (an4 h746 (an4 h747 (an3 tt (an6 tt (an6 tt trivial))))) ?_
         exact joinDone true hm .refl
        ·replace hm := if_f h747 hm
         rcases bt (r744.2 != r745.2) with h748 | h748
         ·replace hm := if_t h748 hm
          refine RK hnt (nn 7 (pF :: nn 4 (pF :: .no :: sk 4 (pT :: .no :: sk 4 (pT :: .no :: sk 4 (pT :: [])))))) [(1, pI p1), (2, pI p2), (7, rr 1304), (8, rr 1064), (c6e4 r6 r8 k1), (c6e12 p1 r523 r524 k10), (c6e6 r6 r8), (49, pI 2), (c6e7 k1), (c6e8 p1 r523 r524), (71, pI 3), (c6e9 k10), (c6e3 p2 r686), (80, pI 3), (81, pI k13), (163, pB true)] [(c6e2 r5), (c6e10 r686), (c6e1 r6 r8), (c6e11 p1 r523 r524), (c6e5 p2 r686)] (an4 h746 (an4 h747 (an5 h748 (an4 tt (an6 tt trivial))))) ?_
          exact joinDone true hm .refl
         ·replace hm := if_f h748 hm
          obtain ⟨r749, hr749, hm⟩ := bind_open hm
          rcases bt (!r749) with h750 | h750
          ·replace hm := if_t h750 hm
           refine RK hnt (nn 7 (pF :: nn 4 (pF :: nn 3 (.call 38 [] true (pB r749) [] [] :: .no :: pF :: .no :: sk 4 (pT :: .no :: sk 4 (pT :: [])))))) [(1, pI p1), (2, pI p2), (7, rr 1304), (8, rr 1064), (c6e4 r6 r8 k1), (c6e12 p1 r523 r524 k10), (c6e6 r6 r8), (49, pI 2), (c6e7 k1), (c6e8 p1 r523 r524), (71, pI 3), (c6e9 k10), (c6e3 p2 r686), (80, pI 3), (81, pI k13), (163, pB true)] [(c6e2 r5), (c6e10 r686), (c6e1 r6 r8), (c6e11 p1 r523 r524), (c6e5 p2 r686)] (an4 h746 (an4 h747 (an3 h748 (an (Same_ref10Spec r740.1 r741.1 r749 hr749) (an2 h748 (an5 h750 (an5 tt trivial))))))) ?_
           exact joinDone true hm .refl
          ·replace hm := if_f h750 hm
           obtain ⟨r751, hr751, hm⟩ := bind_open hm
           rcases bt (!r751) with h752 | h752
           ·replace hm := if_t h752 hm
            refine RK hnt (nn 7 (pF :: nn 4 (pF :: nn 3 (.call 38 [] true (pB r749) [] [] :: .no :: pF :: nn 3 (.call 38 [] true (pB r751) [] [] :: .no :: pF :: .no :: sk 4 (pT :: [])))))) [(1, pI p1), (2, pI p2), (7, rr 1304), (8, rr 1064), (c6e4 r6 r8 k1), (c6e12 p1 r523 r524 k10), (c6e6 r6 r8), (49, pI 2), (c6e7 k1), (c6e8 p1 r523 r524), (71, pI 3), (c6e9 k10), (c6e3 p2 r686), (80, pI 3), (81, pI k13), (163, pB true)] [(c6e2 r5), (c6e10 r686), (c6e1 r6 r8), (c6e11 p1 r523 r524), (c6e5 p2 r686)] (an4 h746 (an4 h747 (an3 h748 (an (Same_ref10Spec r740.1 r741.1 r749 hr749) (an2 h748 (an3 h750 (an (Same_ref10Spec r742.1 r743.1 r751 hr751) (an2 h750 (an5 h752 trivial))))))))) ?_
            exact joinDone true hm .refl
           ·replace hm := if_f h752 hm
            obtain ⟨r753, hr753, hm⟩ := bind_open hm
            refine RK hnt (nn 7 (pF :: nn 4 (pF :: nn 3 (.call 38 [] true (pB r749) [] [] :: .no :: pF :: nn 3 (.call 38 [] true (pB r751) [] [] :: .no :: pF :: nn 3 (.call 38 [] true (pB r753) [] [] :: .no :: pF :: [])))))) [(1, pI p1), (2, pI p2), (7, rr 1304), (8, rr 1064), (c6e4 r6 r8 k1), (c6e12 p1 r523 r524 k10), (c6e6 r6 r8), (49, pI 2), (c6e7 k1), (c6e8 p1 r523 r524), (71, pI 3), (c6e9 k10), (c6e3 p2 r686), (80, pI 3), (81, pI k13), (163, pB (!r753))] [(c6e2 r5), (c6e10 r686), (c6e1 r6 r8), (c6e11 p1 r523 r524), (c6e5 p2 r686)] (an4 h746 (an4 h747 (an3 h748 (an (Same_ref10Spec r740.1 r741.1 r749 hr749) (an2 h748 (an3 h750 (an (Same_ref10Spec r742.1 r743.1 r751 hr751) (an2 h750 (an3 h752 (an (Same_ref10Spec r744.1 r745.1 r753 hr753) (an2 h752 trivial))))))))))) ?_
            exact joinDone (!r753) hm .refl
     ·intro h737
      have hge13 : ¬ k13 < 3 := by have := of_decide_eq_false h737; omega
      have hm := he13 hge13
      unfold PidsCounts_law10D13 at hm
      refine DW.exit ?_
      refine joinQ_exit ?_
      refine KQ_exit ?_
      refine blockQ_exit ?_
      show DW _ _ _ _ _
      obtain ⟨r755, hr755, hm⟩ := bind_open hm
      refine DW.seq (RD hnt (nn 2 (.call 24 [] true (.p (.tup [.agg (encCount r755.1), vb r755.2])) [] [] :: nn 6 [])) [79, 80, 81, 82] [(28, rr 1224), (29, pB r755.2)] [1632] [(1224, bx (pm (encCount r755.1)))] (an (Get_pidsSpec ([r6.1, r8.1].getD k1 []) ([p1, r523.1, r524.1].getD k10 0) r755 hr755) trivial) ?_)
      obtain ⟨r756, hr756, hm⟩ := bind_open hm
      refine DW.seq (RD hnt (nn 2 (.call 22 [] true (.p (.tup [.agg (encCount r756.1), vb r756.2])) [] [] :: nn 6 [])) [] [(30, rr 1240), (31, pB r756.2)] [] [(1240, bx (pm (encCount r756.1)))] (an (Get_ref10Spec ([r6.1, r8.1].getD k1 []) ([p1, r523.1, r524.1].getD k10 0) r756 hr756) trivial) ?_)
      refine DW.seq ?_
      refine DW.join (ι := Bool) (fun (y53 : Bool) => mkSt [(1, pI p1), (2, pI p2), (7, rr 1304), (8, rr 1064), (c6e4 r6 r8 k1), (c6e6 r6 r8), (49, pI 2), (c6e7 k1), (c6e8 p1 r523 r524), (71, pI 3), (c6e9 k10), (195, pB y53)] [(c6e2 r5), (c6e10 r686), (c6e1 r6 r8), (c6e11 p1 r523 r524)]) (fun y53 => (PidsCounts_law10J53 n10 r686) y53 = some RES) ?_ ?_
      ·intro y53 hm
       unfold PidsCounts_law10J53 at hm
       refine condM hm ?_ ?_
       ·intro h761 hm
        refine DW.seq (RK hnt (.no :: []) [(6, pB false)] [] trivial ?_)
        refine DW.ret ?_
        obtain rfl := Option.some.inj hm
        exact retK [] [] (pB false)
       ·intro h761 hm
        refine DW.skip ?_
        refine DW.done ?_
        show DW _ _ _ _ _
        refine RD hnt (nn 2 []) [195] [(72, pI (w64 (((k10 : Nat) : Int) + 1)))] [] [] trivial ?_
        exact joinDone r686.2 ⟨hlt10, hm⟩ (Conv.tp [(72, pI (w64 (((k10 : Nat) : Int) + 1)))] [] (by kernel_rfl) (.cons rfl (.of_eq (congrArg pI (w64_succ hlt10 hc10))) .nil) .nil)
      ·rcases bt (!(eqCount r755.1 r756.1)) with h757 | h757
       ·replace hm := if_t h757 hm
        refine RD hnt (nn 4 (sk 3 (pT :: .no :: sk 9 (pT :: [])))) [13, 28, 29, 30, 31] [(195, pB true)] [1224, 1240] [] (an4 h757 (an4 tt (an6 tt trivial))) ?_
        exact joinDone true hm Conv.eqK
       ·replace hm := if_f h757 hm
        rcases bt (r755.2 != r756.2) with h758 | h758
        ·replace hm := if_t h758 hm
         refine RD hnt (nn 7 (pF :: .no :: sk 9 (pT :: []))) [13, 28, 29, 30, 31] [(195, pB true)] [1224, 1240] [] (an4 h757 (an4 h758 (an6 h758 trivial))) ?_
         exact joinDone true hm Conv.eqK
        ·replace hm := if_f h758 hm
         obtain ⟨r759, hr759, hm⟩ := bind_open hm
         obtain ⟨r760, hr760, hm⟩ := bind_open hm
         refine RD hnt (nn 7 (pF :: nn 4 (.call 23 [] true (pI r759) [] [] :: nn 3 (.call 39 [] true (pI r760) [] [] :: .no :: pF :: [])))) [13, 28, 29, 30, 31] [(195, pB (r759 != r760))] [1224, 1240] [] (an4 h757 (an4 h758 (an (Room_pidsSpec r5.1 ([r6.1, r8.1].getD k1 []) ([p1, r523.1, r524.1].getD k10 0) r759 hr759) (an4 h758 (an (Room_ref10Spec r5.1 ([r6.1, r8.1].getD k1 []) ([p1, r523.1, r524.1].getD k10 0) r760 hr760) (an2 h758 trivial)))))) ?_
         exact joinDone (r759 != r760) hm Conv.eqK
    ·intro h685
     have hge10 : ¬ k10 < [p1, r523.1, r524.1].length := by have := of_decide_eq_false h685; have hL : [p1, r523.1, r524.1].length = 3 := rfl; omega
     have hm := he10 hge10
     unfold PidsCounts_law10D10 at hm
     refine DW.exit ?_
     refine joinQ_exit ?_
     refine KQ_exit ?_
     refine blockQ_exit ?_
     show DW _ _ _ _ _
     obtain ⟨r762, hr762, hm⟩ := bind_open hm
     refine DW.seq (RD hnt (.no :: .call 17 [1304] true (.p (.agg (encHierarchy r762.1))) [.box (pm (encDice r762.2))] [] :: nn 2 []) [70, 71, 72, 73] [(32, rr 1256)] [1560] [(1256, bx (pm (encHierarchy r762.1))), (1304, bx (pm (encDice r762.2)))] (an (Hierarchy_Dice_madeSpec s10 5 6 r762 hr762) (an trivial trivial)) ?_)
     obtain ⟨r763, hr763, hm⟩ := bind_open hm
     obtain ⟨r764, hr764, hm⟩ := bind_open hm
     obtain ⟨r765, hr765, hm⟩ := bind_open hm
     refine DW.seq (RD hnt (nn 2 (.call 25 [] true (ow 0 r763.length) [] [roCount r763] :: nn 2 (.call 40 [] true (ow 0 r764.length) [] [roCount r764] :: .call 38 [] true (pB r765) [] [] :: .no :: []))) [11, 32] [(206, pB (!r765))] [1256] [] (an (Adjust_pidsSpec r762.1 ([r6.1, r8.1].getD k1 []) r763 hr763) (an (Adjust_ref10Spec r762.1 ([r6.1, r8.1].getD k1 []) r764 hr764) (an (Same_ref10Spec r763 r764 r765 hr765) trivial))) ?_)
     refine condM hm ?_ ?_
     ·intro h766 hm
      refine DW.seq (RK hnt (.no :: []) [(6, pB false)] [] trivial ?_)
      refine DW.ret ?_
      obtain rfl := Option.some.inj hm
      exact retK [] [] (pB false)
     ·intro h766 hm
      refine DW.skip ?_
      refine DW.done ?_
      show DW _ _ _ _ _
      refine RD hnt (nn 2 []) [206] [(50, pI (w64 (((k1 : Nat) : Int) + 1)))] [] [] trivial ?_
      exact joinDone r762.2 ⟨hlt1, hm⟩ (Conv.tp [(50, pI (w64 (((k1 : Nat) : Int) + 1)))] [] (by kernel_rfl) (.cons rfl (.of_eq (congrArg pI (w64_succ hlt1 hc1))) .nil) .nil)
  ·intro h519
   have hge1 : ¬ k1 < [r6.1, r8.1].length := by have := of_decide_eq_false h519; have hL : [r6.1, r8.1].length = 2 := rfl; omega
   have hm := he1 hge1
   unfold PidsCounts_law10D1 at hm
   refine DW.exit ?_
   refine joinQ_exit ?_
   refine KQ_exit ?_
   refine blockQ_exit ?_
   show DW _ _ _ _ _
   obtain ⟨r767, hr767, hm⟩ := bind_open hm
   obtain ⟨r768, hr768, hm⟩ := bind_open hm
   obtain ⟨r769, hr769, hm⟩ := bind_open hm
   refine DW.seq ?_
   refine DW.join (ι := Bool) (fun (y54 : Bool) => mkSt [(6, pB y54)] []) (fun y54 => PidsCounts_law10J54 y54 = some RES) ?_ ?_
   ·intro y54 hm
    unfold PidsCounts_law10J54 at hm
    refine DW.ret ?_
    obtain rfl := Option.some.inj hm
    exact retK [] [] (pB y54)
   ·rcases bt r769 with h770 | h770
    ·replace hm := if_t h770 hm
     obtain ⟨r771, hr771, hm⟩ := bind_open hm
     refine RK hnt (.no :: .call 28 [] true (ow 0 r767.length) [] [roCount r767] :: .no :: .call 41 [] true (ow 0 r768.length) [] [roCount r768] :: .call 38 [] true (pB r769) [] [] :: .no :: .call 15 [] true (pB r771) [] [] :: pT :: .no :: []) [(6, pB r771)] [] (an (New_pidsSpec r5.1 r767 hr767) (an (New_ref10Spec r5.1 r768 hr768) (an (Same_ref10Spec r767 r768 r769 hr769) (an h770 (an (sane_law10Spec r771 hr771) (an h770 trivial)))))) ?_
     exact joinDone r771 hm .refl
    ·replace hm := if_f h770 hm
     refine RK hnt (.no :: .call 28 [] true (ow 0 r767.length) [] [roCount r767] :: .no :: .call 41 [] true (ow 0 r768.length) [] [roCount r768] :: .call 38 [] true (pB r769) [] [] :: .no :: .skip :: pF :: .no :: []) [(6, pB false)] [] (an (New_pidsSpec r5.1 r767 hr767) (an (New_ref10Spec r5.1 r768 hr768) (an (Same_ref10Spec r767 r768 r769 hr769) (an2 h770 trivial)))) ?_
     exact joinDone false hm .refl
end Go.Dm

