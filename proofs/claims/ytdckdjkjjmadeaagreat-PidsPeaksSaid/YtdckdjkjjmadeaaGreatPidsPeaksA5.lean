/- Texts of the proof of PidsPeaks: the data machine, the models of the Go functions, their contracts. -/
import Derived.Test.YtdckdjkjjmadeaaGreatPidsPeaksA4
set_option linter.unusedVariables false
set_option linter.unusedSimpArgs false
/- Go functions compute their models, printed by a program. -/
namespace Go.Dm
open Go.Proofs
set_option linter.unusedVariables false
abbrev c134e1 : Nat × Obj := (1032, bx [.p (.sl .nil 0 0 (fun _ => [])), pI 0, .p (.sl .nil 0 0 (fun _ => [])), pI 0])
abbrev c134e2 : Nat × Obj := (1032, bx [ow 100000 0, pI 0, ow 100001 0, pI 0])
abbrev c134e3 : Nat × Obj := (1032, bx [ow 100000 0, pI 0, .p (.sl .nil 0 0 (fun _ => [])), pI 0])
abbrev c134e4 (p0 : Hierarchy) : Nat × Obj := (1016, bx (pm (encHierarchy p0)))
abbrev c134e5 (r14 : Tree) (r13 : Hierarchy) : Nat × Obj := (1080, bx [ow 1560 r14.nodes.length, pI r14.next, ow 1529 r13.tasks.length, pI r13.next])
abbrev c134e6 (r3 : Node × Bool) : Nat × Obj := (1048, bx (pm (encNode r3.1)))
abbrev c134e7 (r13 : Hierarchy) : Nat × Obj := (1529, ob0 (roTask r13.tasks))
theorem Convert_ref8Spec (p0 : Hierarchy) (p1 : Int) (RES : Hierarchy × Int) (hm : Convert_ref8 p0 p1 = some RES) : Spec Tryz.prog 134 [.p (.agg (encHierarchy p0)), pI p1] [] (.tup [.agg [ow 0 RES.1.tree.nodes.length, pI RES.1.tree.next, ow 1 RES.1.tasks.length, pI RES.1.next], pI RES.2]) [] [roNode RES.1.tree.nodes, roTask RES.1.tasks] := by
 unfold Convert_ref8 at hm
 refine spec_of Tgood (T := Tt) Tryz.func134 (by decide) (c := _) rfl rfl (sl := [(0, .p (.agg (encHierarchy p0))), (1, pI p1)]) (ob := []) (Nat.le_of_ble_eq_true rfl) (Nat.le_of_ble_eq_true rfl) (by kernel_rfl) (by kernel_rfl) ?_
 intro cx hnt
 refine DW.start ?_
 refine DW.seq (RK hnt (nn 3 []) [(1, pI p1), (2, rr 1016), (4, rr 1032)] [(c134e4 p0), (c134e1)] trivial (by kernel_rfl) ?_)
 obtain ⟨r1, hr1, hm⟩ := bind_open hm
 refine DW.seq (DW.seq (RK hnt (.no :: .call 129 [] true (pB r1) [] [] :: .no :: []) [(1, pI p1), (2, rr 1016), (4, rr 1032), (13, pB (!r1))] [(c134e4 p0), (c134e1)] (an (Fits_ref8Spec p0 r1 hr1) trivial) (by kernel_rfl) ?_))
 refine DW.cond (!r1) rfl rfl ?_ ?_
 ·
  intro h2
  replace hm := if_t h2 hm
  refine DW.seq (RK hnt (nn 3 []) [(4, rr 1032), (5, pI 1)] [(c134e1)] trivial (by kernel_rfl) ?_)
  refine DW.conv (τ := mkSt [(4, rr 1032), (5, pI 1)] [(c134e2), (100000, ob0 (roNode [])), (100001, ob0 (roTask []))]) (Conv.trans (τ := mkSt [(4, rr 1032), (5, pI 1)] ((100000, ⟨0, .row 6 0 (elems encNode dNode [])⟩) :: [(c134e3)])) (Conv.adopt 100000 6 (elems encNode dNode []) rfl rfl (.rfl _) (.box (.cons (.nil _ _) (.cons (.rfl _) (.cons (.rfl _) (.cons (.rfl _) (.rfl _))))) (.rfl _))) (Conv.trans (τ := mkSt [(4, rr 1032), (5, pI 1)] [(c134e3), (100000, ob0 (roNode []))]) (Conv.tp [] [] (by kernel_rfl) .nil .nil) (Conv.trans (τ := mkSt [(4, rr 1032), (5, pI 1)] ((100001, ⟨0, .row 4 0 (elems encTask dTask [])⟩) :: [(c134e2), (100000, ob0 (roNode []))])) (Conv.adopt 100001 4 (elems encTask dTask []) rfl rfl (.rfl _) (.box (.cons (.rfl _) (.cons (.rfl _) (.cons (.nil _ _) (.cons (.rfl _) (.rfl _))))) (.keep (.rfl _)))) (Conv.trans (τ := mkSt [(4, rr 1032), (5, pI 1)] [(c134e2), (100000, ob0 (roNode [])), (100001, ob0 (roTask []))]) (Conv.tp [] [] (by kernel_rfl) .nil .nil) .refl)))) ?_
  refine DW.ret ?_
  obtain rfl := Option.some.inj hm
  refine retOK (bs' := [roNode [], roTask []]) [100000, 100001] (.tup [.agg [ow 0 0, pI 0, ow 1 0, pI 0], pI 1]) (by kernel_rfl) ?_ ?_
  · rfl
  · rfl
 ·
  intro h2
  replace hm := if_f h2 hm
  refine DW.skip ?_
  obtain ⟨r3, hr3, hm⟩ := bind_open hm
  refine DW.seq (RK hnt (nn 3 (.call 135 [] true (.p (.tup [.agg (encNode r3.1), vb r3.2])) [] [] :: nn 6 [])) [(1, pI p1), (2, rr 1016), (4, rr 1032), (6, rr 1048), (7, pB r3.2)] [(c134e4 p0), (c134e1), (c134e6 r3)] (an (Find_ref5Spec p0.tree p1 r3 hr3) trivial) (by kernel_rfl) ?_)
  refine DW.seq (DW.seq (RK hnt (nn 2 []) [(1, pI p1), (2, rr 1016), (4, rr 1032), (6, rr 1048), (23, pB (!r3.2))] [(c134e4 p0), (c134e1), (c134e6 r3)] trivial (by kernel_rfl) ?_))
  refine DW.cond (!r3.2) rfl rfl ?_ ?_
  ·
   intro h4
   replace hm := if_t h4 hm
   refine DW.seq (RK hnt (nn 3 []) [(4, rr 1032), (5, pI 4)] [(c134e1)] trivial (by kernel_rfl) ?_)
   refine DW.conv (τ := mkSt [(4, rr 1032), (5, pI 4)] [(c134e2), (100000, ob0 (roNode [])), (100001, ob0 (roTask []))]) (Conv.trans (τ := mkSt [(4, rr 1032), (5, pI 4)] ((100000, ⟨0, .row 6 0 (elems encNode dNode [])⟩) :: [(c134e3)])) (Conv.adopt 100000 6 (elems encNode dNode []) rfl rfl (.rfl _) (.box (.cons (.nil _ _) (.cons (.rfl _) (.cons (.rfl _) (.cons (.rfl _) (.rfl _))))) (.rfl _))) (Conv.trans (τ := mkSt [(4, rr 1032), (5, pI 4)] [(c134e3), (100000, ob0 (roNode []))]) (Conv.tp [] [] (by kernel_rfl) .nil .nil) (Conv.trans (τ := mkSt [(4, rr 1032), (5, pI 4)] ((100001, ⟨0, .row 4 0 (elems encTask dTask [])⟩) :: [(c134e2), (100000, ob0 (roNode []))])) (Conv.adopt 100001 4 (elems encTask dTask []) rfl rfl (.rfl _) (.box (.cons (.rfl _) (.cons (.rfl _) (.cons (.nil _ _) (.cons (.rfl _) (.rfl _))))) (.keep (.rfl _)))) (Conv.trans (τ := mkSt [(4, rr 1032), (5, pI 4)] [(c134e2), (100000, ob0 (roNode [])), (100001, ob0 (roTask []))]) (Conv.tp [] [] (by kernel_rfl) .nil .nil) .refl)))) ?_
   refine DW.ret ?_
   obtain rfl := Option.some.inj hm
   refine retOK (bs' := [roNode [], roTask []]) [100000, 100001] (.tup [.agg [ow 0 0, pI 0, ow 1 0, pI 0], pI 4]) (by kernel_rfl) ?_ ?_
   · rfl
   · rfl
  ·
   intro h4
   replace hm := if_f h4 hm
   refine DW.skip ?_
   refine DW.seq (DW.seq (DW.regJ (sl2 := [(1, pI p1), (2, rr 1016), (4, rr 1032), (6, rr 1048), (31, pB ((p1 == 1) || (r3.1.kind == 1)))]) (ob2 := [(c134e4 p0), (c134e1), (c134e6 r3)]) ?_ ?_))
   ·
    rcases bt (p1 == 1) with h5 | h5
    ·
     exact RT hnt (nn 3 (sk 3 (pT :: []))) [(31, pB true)] (an4 h5 trivial) (by kernel_rfl) (.cons rfl (.of_eq (by rw [h5]; try rfl)) .nil)
    ·
     exact RT hnt (nn 6 (pF :: [])) [(31, pB (r3.1.kind == 1))] (an4 h5 trivial) (by kernel_rfl) (.cons rfl (.of_eq (by rw [h5]; try rfl)) .nil)
   ·
    refine DW.cond ((p1 == 1) || (r3.1.kind == 1)) rfl rfl ?_ ?_
    ·
     intro h6
     replace hm := if_t h6 hm
     refine DW.seq (RK hnt (nn 3 []) [(4, rr 1032), (5, pI 9)] [(c134e1)] trivial (by kernel_rfl) ?_)
     refine DW.conv (τ := mkSt [(4, rr 1032), (5, pI 9)] [(c134e2), (100000, ob0 (roNode [])), (100001, ob0 (roTask []))]) (Conv.trans (τ := mkSt [(4, rr 1032), (5, pI 9)] ((100000, ⟨0, .row 6 0 (elems encNode dNode [])⟩) :: [(c134e3)])) (Conv.adopt 100000 6 (elems encNode dNode []) rfl rfl (.rfl _) (.box (.cons (.nil _ _) (.cons (.rfl _) (.cons (.rfl _) (.cons (.rfl _) (.rfl _))))) (.rfl _))) (Conv.trans (τ := mkSt [(4, rr 1032), (5, pI 9)] [(c134e3), (100000, ob0 (roNode []))]) (Conv.tp [] [] (by kernel_rfl) .nil .nil) (Conv.trans (τ := mkSt [(4, rr 1032), (5, pI 9)] ((100001, ⟨0, .row 4 0 (elems encTask dTask [])⟩) :: [(c134e2), (100000, ob0 (roNode []))])) (Conv.adopt 100001 4 (elems encTask dTask []) rfl rfl (.rfl _) (.box (.cons (.rfl _) (.cons (.rfl _) (.cons (.nil _ _) (.cons (.rfl _) (.rfl _))))) (.keep (.rfl _)))) (Conv.trans (τ := mkSt [(4, rr 1032), (5, pI 9)] [(c134e2), (100000, ob0 (roNode [])), (100001, ob0 (roTask []))]) (Conv.tp [] [] (by kernel_rfl) .nil .nil) .refl)))) ?_
     refine DW.ret ?_
     obtain rfl := Option.some.inj hm
     refine retOK (bs' := [roNode [], roTask []]) [100000, 100001] (.tup [.agg [ow 0 0, pI 0, ow 1 0, pI 0], pI 9]) (by kernel_rfl) ?_ ?_
     · rfl
     · rfl
    ·
     intro h6
     replace hm := if_f h6 hm
     refine DW.skip ?_
     obtain ⟨r7, hr7, hm⟩ := bind_open hm
     refine DW.seq (RK hnt (nn 4 (.call 135 [] true (.p (.tup [.agg (encNode r7.1), vb r7.2])) [] [] :: nn 6 [])) [(1, pI p1), (2, rr 1016), (4, rr 1032), (6, rr 1048), (8, rr 1064)] [(c134e4 p0), (c134e1), (c134e6 r3), (1064, bx (pm (encNode r7.1)))] (an (Find_ref5Spec p0.tree r3.1.parent r7 hr7) trivial) (by kernel_rfl) ?_)
     obtain ⟨r8, hr8, hm⟩ := bind_open hm
     refine DW.seq (DW.seq ?_)
     refine DW.join (ι := Bool) (fun (y1 : Bool) => mkSt [(1, pI p1), (2, rr 1016), (4, rr 1032), (6, rr 1048), (57, pB y1)] [(c134e4 p0), (c134e1), (c134e6 r3)]) (fun y1 => (Convert_ref8J1 p0 p1 r3) y1 = some RES) ?_ ?_
     ·
      intro y1 hm
      unfold Convert_ref8J1 at hm
      refine DW.cond y1 rfl rfl ?_ ?_
      ·
       intro h11
       replace hm := if_t h11 hm
       refine DW.seq (RK hnt (nn 3 []) [(4, rr 1032), (5, pI 10)] [(c134e1)] trivial (by kernel_rfl) ?_)
       refine DW.conv (τ := mkSt [(4, rr 1032), (5, pI 10)] [(c134e2), (100000, ob0 (roNode [])), (100001, ob0 (roTask []))]) (Conv.trans (τ := mkSt [(4, rr 1032), (5, pI 10)] ((100000, ⟨0, .row 6 0 (elems encNode dNode [])⟩) :: [(c134e3)])) (Conv.adopt 100000 6 (elems encNode dNode []) rfl rfl (.rfl _) (.box (.cons (.nil _ _) (.cons (.rfl _) (.cons (.rfl _) (.cons (.rfl _) (.rfl _))))) (.rfl _))) (Conv.trans (τ := mkSt [(4, rr 1032), (5, pI 10)] [(c134e3), (100000, ob0 (roNode []))]) (Conv.tp [] [] (by kernel_rfl) .nil .nil) (Conv.trans (τ := mkSt [(4, rr 1032), (5, pI 10)] ((100001, ⟨0, .row 4 0 (elems encTask dTask [])⟩) :: [(c134e2), (100000, ob0 (roNode []))])) (Conv.adopt 100001 4 (elems encTask dTask []) rfl rfl (.rfl _) (.box (.cons (.rfl _) (.cons (.rfl _) (.cons (.nil _ _) (.cons (.rfl _) (.rfl _))))) (.keep (.rfl _)))) (Conv.trans (τ := mkSt [(4, rr 1032), (5, pI 10)] [(c134e2), (100000, ob0 (roNode [])), (100001, ob0 (roTask []))]) (Conv.tp [] [] (by kernel_rfl) .nil .nil) .refl)))) ?_
       refine DW.ret ?_
       obtain rfl := Option.some.inj hm
       refine retOK (bs' := [roNode [], roTask []]) [100000, 100001] (.tup [.agg [ow 0 0, pI 0, ow 1 0, pI 0], pI 10]) (by kernel_rfl) ?_ ?_
       · rfl
       · rfl
      ·
       intro h11
       replace hm := if_f h11 hm
       refine DW.skip ?_
       refine DW.seq (DW.seq (RK hnt (nn 4 []) [(1, pI p1), (2, rr 1016), (4, rr 1032), (6, rr 1048), (62, pB ((kand .i64 r3.1.control 6) != 0))] [(c134e4 p0), (c134e1), (c134e6 r3)] trivial (by kernel_rfl) ?_))
       refine DW.cond ((kand .i64 r3.1.control 6) != 0) rfl rfl ?_ ?_
       ·
        intro h12
        replace hm := if_t h12 hm
        refine DW.seq (RK hnt (nn 3 []) [(4, rr 1032), (5, pI 9)] [(c134e1)] trivial (by kernel_rfl) ?_)
        refine DW.conv (τ := mkSt [(4, rr 1032), (5, pI 9)] [(c134e2), (100000, ob0 (roNode [])), (100001, ob0 (roTask []))]) (Conv.trans (τ := mkSt [(4, rr 1032), (5, pI 9)] ((100000, ⟨0, .row 6 0 (elems encNode dNode [])⟩) :: [(c134e3)])) (Conv.adopt 100000 6 (elems encNode dNode []) rfl rfl (.rfl _) (.box (.cons (.nil _ _) (.cons (.rfl _) (.cons (.rfl _) (.cons (.rfl _) (.rfl _))))) (.rfl _))) (Conv.trans (τ := mkSt [(4, rr 1032), (5, pI 9)] [(c134e3), (100000, ob0 (roNode []))]) (Conv.tp [] [] (by kernel_rfl) .nil .nil) (Conv.trans (τ := mkSt [(4, rr 1032), (5, pI 9)] ((100001, ⟨0, .row 4 0 (elems encTask dTask [])⟩) :: [(c134e2), (100000, ob0 (roNode []))])) (Conv.adopt 100001 4 (elems encTask dTask []) rfl rfl (.rfl _) (.box (.cons (.rfl _) (.cons (.rfl _) (.cons (.nil _ _) (.cons (.rfl _) (.rfl _))))) (.keep (.rfl _)))) (Conv.trans (τ := mkSt [(4, rr 1032), (5, pI 9)] [(c134e2), (100000, ob0 (roNode [])), (100001, ob0 (roTask []))]) (Conv.tp [] [] (by kernel_rfl) .nil .nil) .refl)))) ?_
        refine DW.ret ?_
        obtain rfl := Option.some.inj hm
        refine retOK (bs' := [roNode [], roTask []]) [100000, 100001] (.tup [.agg [ow 0 0, pI 0, ow 1 0, pI 0], pI 9]) (by kernel_rfl) ?_ ?_
        · rfl
        · rfl
       ·
        intro h12
        replace hm := if_f h12 hm
        refine DW.skip ?_
        refine DW.seq (RK hnt (nn 2 []) [(1, pI p1), (2, rr 1016), (4, rr 1032), (6, rr 1048)] [(c134e4 p0), (c134e1), (1048, bx [pI r3.1.id, pI r3.1.parent, pS r3.1.name, pI r3.1.control, pI 1, pI r3.1.owner])] trivial (by kernel_rfl) ?_)
        obtain ⟨r13, hr13, hm⟩ := bind_open hm
        refine DW.seq (RK hnt (.no :: .call 105 [] true (.agg [ow 0 r13.tree.nodes.length, pI r13.tree.next, ow 1 r13.tasks.length, pI r13.next]) [] [roNode r13.tree.nodes, roTask r13.tasks] :: nn 2 []) [(1, pI p1), (2, rr 1016), (4, rr 1032), (6, rr 1048), (10, rr 1080)] [(c134e4 p0), (c134e1), (1048, bx [pI r3.1.id, pI r3.1.parent, pS r3.1.name, pI r3.1.control, pI 1, pI r3.1.owner]), (1080, bx [ow 1528 r13.tree.nodes.length, pI r13.tree.next, ow 1529 r13.tasks.length, pI r13.next]), (1528, ob0 (roNode r13.tree.nodes)), (c134e7 r13)] (an (Copy_ref6Spec p0 r13 hr13) trivial) (by kernel_rfl) ?_)
        obtain ⟨r14, hr14, hm⟩ := bind_open hm
        refine DW.seq (RK hnt (nn 3 (.call 136 [] true (.agg [ow 0 r14.nodes.length, pI r14.next]) [] [roNode r14.nodes] :: nn 2 [])) [(1, pI p1), (2, rr 1016), (4, rr 1032), (10, rr 1080)] [(c134e4 p0), (c134e1), (c134e5 r14 r13), (c134e7 r13), (1560, ob0 (roNode r14.nodes))] (an (Set_ref5Spec p0.tree ({ id := r3.1.id, parent := r3.1.parent, name := r3.1.name, control := r3.1.control, kind := 1, owner := r3.1.owner } : Node) r14 hr14) trivial) (by kernel_rfl) ?_)
        obtain ⟨r15, hr15, hm⟩ := bind_open hm
        refine DW.seq (DW.seq ?_)
        refine DW.join (ι := Bool) (fun (y2 : Bool) => mkSt [(4, rr 1032), (10, rr 1080), (81, pB y2)] [(c134e1), (c134e5 r14 r13), (c134e7 r13), (1560, ob0 (roNode r14.nodes))]) (fun y2 => (Convert_ref8J2 r13 r14) y2 = some RES) ?_ ?_
        ·
         intro y2 hm
         unfold Convert_ref8J2 at hm
         refine DW.cond y2 rfl rfl ?_ ?_
         ·
          intro h18
          replace hm := if_t h18 hm
          refine DW.seq (RK hnt (nn 3 []) [(4, rr 1032), (5, pI 6)] [(c134e1)] trivial (by kernel_rfl) ?_)
          refine DW.conv (τ := mkSt [(4, rr 1032), (5, pI 6)] [(c134e2), (100000, ob0 (roNode [])), (100001, ob0 (roTask []))]) (Conv.trans (τ := mkSt [(4, rr 1032), (5, pI 6)] ((100000, ⟨0, .row 6 0 (elems encNode dNode [])⟩) :: [(c134e3)])) (Conv.adopt 100000 6 (elems encNode dNode []) rfl rfl (.rfl _) (.box (.cons (.nil _ _) (.cons (.rfl _) (.cons (.rfl _) (.cons (.rfl _) (.rfl _))))) (.rfl _))) (Conv.trans (τ := mkSt [(4, rr 1032), (5, pI 6)] [(c134e3), (100000, ob0 (roNode []))]) (Conv.tp [] [] (by kernel_rfl) .nil .nil) (Conv.trans (τ := mkSt [(4, rr 1032), (5, pI 6)] ((100001, ⟨0, .row 4 0 (elems encTask dTask [])⟩) :: [(c134e2), (100000, ob0 (roNode []))])) (Conv.adopt 100001 4 (elems encTask dTask []) rfl rfl (.rfl _) (.box (.cons (.rfl _) (.cons (.rfl _) (.cons (.nil _ _) (.cons (.rfl _) (.rfl _))))) (.keep (.rfl _)))) (Conv.trans (τ := mkSt [(4, rr 1032), (5, pI 6)] [(c134e2), (100000, ob0 (roNode [])), (100001, ob0 (roTask []))]) (Conv.tp [] [] (by kernel_rfl) .nil .nil) .refl)))) ?_
          refine DW.ret ?_
          obtain rfl := Option.some.inj hm
          refine retOK (bs' := [roNode [], roTask []]) [100000, 100001] (.tup [.agg [ow 0 0, pI 0, ow 1 0, pI 0], pI 6]) (by kernel_rfl) ?_ ?_
          · rfl
          · rfl
         ·
          intro h18
          replace hm := if_f h18 hm
          refine DW.skip ?_
          refine DW.seq (RK hnt (nn 3 []) [(4, rr 1032), (5, pI 0)] [(1032, bx [ow 1560 r14.nodes.length, pI r14.next, ow 1529 r13.tasks.length, pI r13.next]), (c134e7 r13), (1560, ob0 (roNode r14.nodes))] trivial (by kernel_rfl) ?_)
          refine DW.ret ?_
          obtain rfl := Option.some.inj hm
          refine retOK (bs' := [roNode r14.nodes, roTask r13.tasks]) [1560, 1529] (.tup [.agg [ow 0 r14.nodes.length, pI r14.next, ow 1 r13.tasks.length, pI r13.next], pI 0]) (by kernel_rfl) ?_ ?_
          · rfl
          · rfl
        ·
         rcases bt (decide (((r15.length : Nat) : Int) > 0)) with h16 | h16
         ·
          replace hm := if_t h16 hm
          refine RK hnt (nn 2 (.call 26 [] true (ow 0 r15.length) [] [roI r15] :: nn 3 (sk 3 (pT :: [])))) [(4, rr 1032), (10, rr 1080), (81, pB true)] [(c134e1), (c134e5 r14 r13), (c134e7 r13), (1560, ob0 (roNode r14.nodes))] (an (Tasks_ref6Spec p0 p1 r15 hr15) (an4 h16 trivial)) (by kernel_rfl) ?_
          exact joinDone true hm .refl
         ·
          replace hm := if_f h16 hm
          obtain ⟨r17, hr17, hm⟩ := bind_open hm
          refine RK hnt (nn 2 (.call 26 [] true (ow 0 r15.length) [] [roI r15] :: nn 4 (.call 129 [] true (pB r17) [] [] :: .no :: pF :: []))) [(4, rr 1032), (10, rr 1080), (81, pB (!r17))] [(c134e1), (c134e5 r14 r13), (c134e7 r13), (1560, ob0 (roNode r14.nodes))] (an (Tasks_ref6Spec p0 p1 r15 hr15) (an2 h16 (an (Fits_ref8Spec ({ tree := r14, tasks := r13.tasks, next := r13.next } : Hierarchy) r17 hr17) (an2 h16 trivial)))) (by kernel_rfl) ?_
          exact joinDone (!r17) hm .refl
     ·
      rcases bt (r8 == 3) with h9 | h9
      ·
       replace hm := if_t h9 hm
       refine RK hnt (nn 4 (.call 130 [] true (pI r8) [] [] :: nn 2 (sk 9 (pT :: [])))) [(1, pI p1), (2, rr 1016), (4, rr 1032), (6, rr 1048), (57, pB true)] [(c134e4 p0), (c134e1), (c134e6 r3)] (an (Type_ref8Spec p0.tree r7.1.id r8 hr8) (an6 h9 trivial)) (by kernel_rfl) ?_
       exact joinDone true hm .refl
      ·
       replace hm := if_f h9 hm
       rcases bt (r7.1.id != 1) with h10 | h10
       ·
        replace hm := if_t h10 hm
        refine RK hnt (nn 4 (.call 130 [] true (pI r8) [] [] :: nn 10 (pT :: pF :: []))) [(1, pI p1), (2, rr 1016), (4, rr 1032), (6, rr 1048), (57, pB ((kand .i64 r7.1.control 6) != 0))] [(c134e4 p0), (c134e1), (c134e6 r3)] (an (Type_ref8Spec p0.tree r7.1.id r8 hr8) (an4 h9 (an4 h10 (an h9 (an h10 (an h9 trivial)))))) (by kernel_rfl) ?_
        exact joinDone ((kand .i64 r7.1.control 6) != 0) hm .refl
       ·
        replace hm := if_f h10 hm
        refine RK hnt (nn 4 (.call 130 [] true (pI r8) [] [] :: nn 6 (sk 4 (pF :: pF :: [])))) [(1, pI p1), (2, rr 1016), (4, rr 1032), (6, rr 1048), (57, pB false)] [(c134e4 p0), (c134e1), (c134e6 r3)] (an (Type_ref8Spec p0.tree r7.1.id r8 hr8) (an4 h9 (an4 h10 (an h9 (an h10 (an h9 trivial)))))) (by kernel_rfl) ?_
        exact joinDone false hm .refl

abbrev c81e1 : Nat × Obj := (1032, bx [.p (.sl .nil 0 0 (fun _ => [])), pI 0, .p (.sl .nil 0 0 (fun _ => [])), pI 0])
abbrev c81e2 (p1 : Hierarchy) : Nat × Obj := (1024, bx (pm (encHierarchy p1)))
abbrev c81e3 (r2 : Int × Dice) : Nat × Obj := (0, bx (pm (encDice r2.2)))
abbrev c81e4 (r6 : Hierarchy × Int) : Nat × Obj := (1048, bx [ow 1208 r6.1.tree.nodes.length, pI r6.1.tree.next, ow 1209 r6.1.tasks.length, pI r6.1.next])
abbrev c81e5 (r9 : Hierarchy × Int) : Nat × Obj := (1064, bx [ow 1296 r9.1.tree.nodes.length, pI r9.1.tree.next, ow 1297 r9.1.tasks.length, pI r9.1.next])
theorem step_Dice_madeSpec (p0 : Dice) (p1 : Hierarchy) (RES : Hierarchy × Dice) (hm : step_Dice_made p0 p1 = some RES) : Spec Tryz.prog 81 [rr 0, .p (.agg (encHierarchy p1))] [.box (pm (encDice p0))] (.p (.agg (encHierarchy RES.1))) [.box (pm (encDice RES.2))] [] := by
 unfold step_Dice_made at hm
 refine spec_of Tgood (T := Tt) Tryz.func81 (by decide) (c := _) rfl rfl (sl := [(0, rr 0), (1, .p (.agg (encHierarchy p1)))]) (ob := [(0, bx (pm (encDice p0)))]) (Nat.le_of_ble_eq_true rfl) (Nat.le_of_ble_eq_true rfl) (by kernel_rfl) (by kernel_rfl) ?_
 intro cx hnt
 refine DW.start ?_
 refine DW.seq (RK hnt (nn 2 []) [(0, rr 0), (3, rr 1024), (4, rr 1032)] [(0, bx (pm (encDice p0))), (c81e2 p1), (c81e1)] trivial (by kernel_rfl) ?_)
 obtain ⟨r1, hr1, hm⟩ := bind_open hm
 refine DW.seq (RK hnt (nn 3 (.call 33 [0] true (pI r1.1) [.box (pm (encDice r1.2))] [] :: .no :: [])) [(0, rr 0), (3, rr 1024), (4, rr 1032), (5, pI r1.1)] [(0, bx (pm (encDice r1.2))), (c81e2 p1), (c81e1)] (an (Group_Dice_madeSpec p0 p1.tree r1 hr1) (an trivial trivial)) (by kernel_rfl) ?_)
 obtain ⟨r2, hr2, hm⟩ := bind_open hm
 refine DW.seq (DW.seq (RK hnt (.no :: .call 19 [0] true (pI r2.1) [.box (pm (encDice r2.2))] [] :: []) [(0, rr 0), (3, rr 1024), (4, rr 1032), (5, pI r1.1), (17, pI r2.1)] [(c81e3 r2), (c81e2 p1), (c81e1)] (an (Next_Dice_madeSpec r1.2 5 r2 hr2) (an trivial trivial)) (by kernel_rfl) ?_))
 refine DW.join (ι := Dice × Hierarchy) (fun (y1 : Dice × Hierarchy) => mkSt [(3, rr 1024), (4, rr 1032)] [(0, bx (pm (encDice y1.1))), (1024, bx (pm (encHierarchy y1.2))), (c81e1)]) (fun y1 => step_Dice_madeJ1 y1 = some RES) ?_ ?_
 ·
  intro y1 hm
  unfold step_Dice_madeJ1 at hm
  refine DW.seq (RK hnt (nn 2 []) [(4, rr 1032)] [(0, bx (pm (encDice y1.1))), (1032, bx (pm (encHierarchy y1.2)))] trivial (by kernel_rfl) ?_)
  refine DW.ret ?_
  obtain rfl := Option.some.inj hm
  refine retOK (bs' := [.box (pm (encDice y1.1))]) [] (.p (.agg (encHierarchy y1.2))) (by kernel_rfl) ?_ ?_
  · rfl
  · rfl
 ·
  refine DW.block ?_
  refine DW.seq (DW.seq (RK hnt (nn 2 []) [(0, rr 0), (3, rr 1024), (4, rr 1032), (5, pI r1.1), (17, pI r2.1), (18, pB (r2.1 == 0))] [(c81e3 r2), (c81e2 p1), (c81e1)] trivial (by kernel_rfl) ?_))
  refine DW.join (ι := Bool) (fun (y2 : Bool) => mkSt [(0, rr 0), (3, rr 1024), (4, rr 1032), (5, pI r1.1), (17, pI r2.1), (18, pB y2)] [(c81e3 r2), (c81e2 p1), (c81e1)]) (fun y2 => (step_Dice_madeJ2 p1 r1 r2) y2 = some RES) ?_ ?_
  ·
   intro y2 hm
   unfold step_Dice_madeJ2 at hm
   refine DW.cond y2 rfl rfl ?_ ?_
   ·
    intro h4
    replace hm := if_t h4 hm
    obtain ⟨r5, hr5, hm⟩ := bind_open hm
    obtain ⟨r6, hr6, hm⟩ := bind_open hm
    refine DW.seq (RK hnt (nn 3 (.call 107 [0] true (pI r5.1) [.box (pm (encDice r5.2))] [] :: .call 133 [] true (.tup [.agg [ow 0 r6.1.tree.nodes.length, pI r6.1.tree.next, ow 1 r6.1.tasks.length, pI r6.1.next], pI r6.2]) [] [roNode r6.1.tree.nodes, roTask r6.1.tasks] :: nn 6 [])) [(3, rr 1024), (4, rr 1032), (6, rr 1048), (7, pI r6.2)] [(0, bx (pm (encDice r5.2))), (c81e2 p1), (c81e1), (c81e4 r6), (1208, ob0 (roNode r6.1.tree.nodes)), (1209, ob0 (roTask r6.1.tasks))] (an (Controllers_Dice_madeSpec r2.2 r5 hr5) (an trivial (an (Enable_ref8Spec p1 r1.1 r5.1 0 r6 hr6) trivial))) (by kernel_rfl) ?_)
    refine DW.seq (RK hnt (nn 2 []) [(3, rr 1024), (4, rr 1032), (6, rr 1048), (30, pB (r6.2 == 0))] [(0, bx (pm (encDice r5.2))), (c81e2 p1), (c81e1), (c81e4 r6), (1208, ob0 (roNode r6.1.tree.nodes)), (1209, ob0 (roTask r6.1.tasks))] trivial (by kernel_rfl) ?_)
    refine DW.cond (r6.2 == 0) rfl rfl ?_ ?_
    ·
     intro h7
     replace hm := if_t h7 hm
     refine DW.seq (RK hnt (nn 2 []) [(4, rr 1032)] [(0, bx (pm (encDice r5.2))), (1032, bx [ow 1208 r6.1.tree.nodes.length, pI r6.1.tree.next, ow 1209 r6.1.tasks.length, pI r6.1.next]), (1208, ob0 (roNode r6.1.tree.nodes)), (1209, ob0 (roTask r6.1.tasks))] trivial (by kernel_rfl) ?_)
     refine DW.ret ?_
     obtain rfl := Option.some.inj hm
     refine retOK (bs' := [.box (pm (encDice r5.2))]) [] (.p (.agg (encHierarchy r6.1))) (by kernel_rfl) ?_ ?_
     · rfl
     · rfl
    ·
     intro h7
     replace hm := if_f h7 hm
     refine DW.skip ?_
     exact blockDone (r5.2, p1) hm (Conv.tp [] [] (by kernel_rfl) .nil .nil)
   ·
    intro h4
    replace hm := if_f h4 hm
    refine DW.seq (RK hnt (nn 2 []) [(0, rr 0), (3, rr 1024), (4, rr 1032), (5, pI r1.1), (17, pI r2.1), (32, pB (r2.1 == 2))] [(c81e3 r2), (c81e2 p1), (c81e1)] trivial (by kernel_rfl) ?_)
    refine DW.cond (r2.1 == 2) rfl rfl ?_ ?_
    ·
     intro h8
     replace hm := if_t h8 hm
     obtain ⟨r9, hr9, hm⟩ := bind_open hm
     refine DW.seq (RK hnt (nn 2 (.call 134 [] true (.tup [.agg [ow 0 r9.1.tree.nodes.length, pI r9.1.tree.next, ow 1 r9.1.tasks.length, pI r9.1.next], pI r9.2]) [] [roNode r9.1.tree.nodes, roTask r9.1.tasks] :: nn 6 [])) [(3, rr 1024), (4, rr 1032), (8, rr 1064), (9, pI r9.2)] [(c81e3 r2), (c81e2 p1), (c81e1), (c81e5 r9), (1296, ob0 (roNode r9.1.tree.nodes)), (1297, ob0 (roTask r9.1.tasks))] (an (Convert_ref8Spec p1 r1.1 r9 hr9) trivial) (by kernel_rfl) ?_)
     refine DW.seq (RK hnt (nn 2 []) [(3, rr 1024), (4, rr 1032), (8, rr 1064), (41, pB (r9.2 == 0))] [(c81e3 r2), (c81e2 p1), (c81e1), (c81e5 r9), (1296, ob0 (roNode r9.1.tree.nodes)), (1297, ob0 (roTask r9.1.tasks))] trivial (by kernel_rfl) ?_)
     refine DW.cond (r9.2 == 0) rfl rfl ?_ ?_
     ·
      intro h10
      replace hm := if_t h10 hm
      refine DW.seq (RK hnt (nn 2 []) [(4, rr 1032)] [(c81e3 r2), (1032, bx [ow 1296 r9.1.tree.nodes.length, pI r9.1.tree.next, ow 1297 r9.1.tasks.length, pI r9.1.next]), (1296, ob0 (roNode r9.1.tree.nodes)), (1297, ob0 (roTask r9.1.tasks))] trivial (by kernel_rfl) ?_)
      refine DW.ret ?_
      obtain rfl := Option.some.inj hm
      refine retOK (bs' := [.box (pm (encDice r2.2))]) [] (.p (.agg (encHierarchy r9.1))) (by kernel_rfl) ?_ ?_
      · rfl
      · rfl
     ·
      intro h10
      replace hm := if_f h10 hm
      refine DW.skip ?_
      exact blockDone (r2.2, p1) hm (Conv.tp [] [] (by kernel_rfl) .nil .nil)
    ·
     intro h8
     replace hm := if_f h8 hm
     refine DW.seq (RK hnt (nn 2 []) [(0, rr 0), (3, rr 1024), (4, rr 1032), (5, pI r1.1), (43, pB (r2.1 == 3))] [(c81e3 r2), (c81e2 p1), (c81e1)] trivial (by kernel_rfl) ?_)
     refine DW.cond (r2.1 == 3) rfl rfl ?_ ?_
     ·
      intro h11
      replace hm := if_t h11 hm
      obtain ⟨r12, hr12, hm⟩ := bind_open hm
      refine DW.seq (RK hnt (nn 3 (.call 135 [] true (.p (.tup [.agg (encNode r12.1), vb r12.2])) [] [] :: nn 6 [])) [(0, rr 0), (3, rr 1024), (4, rr 1032), (5, pI r1.1), (10, rr 1080), (11, pB r12.2)] [(c81e3 r2), (c81e2 p1), (c81e1), (1080, bx (pm (encNode r12.1)))] (an (Find_ref5Spec p1.tree r1.1 r12 hr12) trivial) (by kernel_rfl) ?_)
      refine DW.seq (DW.regJ (sl2 := [(0, rr 0), (3, rr 1024), (4, rr 1032), (10, rr 1080), (56, pB (r12.2 && (r1.1 != 1)))]) (ob2 := [(c81e3 r2), (c81e2 p1), (c81e1), (1080, bx (pm (encNode r12.1)))]) ?_ ?_)
      ·
       rcases bt r12.2 with h13 | h13
       ·
        exact RT hnt (nn 4 (pT :: [])) [(56, pB (r1.1 != 1))] (an3 h13 trivial) (by kernel_rfl) (.cons rfl (.of_eq (by rw [h13]; try rfl)) .nil)
       ·
        exact RT hnt (nn 2 (sk 2 (pF :: []))) [(56, pB false)] (an3 h13 trivial) (by kernel_rfl) (.cons rfl (.of_eq (by rw [h13]; try rfl)) .nil)
      ·
       refine DW.cond (r12.2 && (r1.1 != 1)) rfl rfl ?_ ?_
       ·
        intro h14
        replace hm := if_t h14 hm
        obtain ⟨r15, hr15, hm⟩ := bind_open hm
        refine DW.seq (RK hnt (.no :: .call 19 [0] true (pI r15.1) [.box (pm (encDice r15.2))] [] :: nn 2 []) [(3, rr 1024), (4, rr 1032), (10, rr 1080)] [(0, bx (pm (encDice r15.2))), (c81e2 p1), (c81e1), (1080, bx [pI r12.1.id, pI r12.1.parent, pS r12.1.name, pI r12.1.control, pI r12.1.kind, pI r15.1])] (an (Next_Dice_madeSpec r2.2 3 r15 hr15) (an trivial trivial)) (by kernel_rfl) ?_)
        obtain ⟨r16, hr16, hm⟩ := bind_open hm
        refine RK hnt (nn 3 (.call 136 [] true (.agg [ow 0 r16.nodes.length, pI r16.next]) [] [roNode r16.nodes] :: nn 2 [])) [(3, rr 1024), (4, rr 1032)] [(0, bx (pm (encDice r15.2))), (1024, bx [ow 1504 r16.nodes.length, pI r16.next, .p (slTask p1.tasks), pI p1.next]), (c81e1), (1504, ob0 (roNode r16.nodes))] (an (Set_ref5Spec p1.tree ({ id := r12.1.id, parent := r12.1.parent, name := r12.1.name, control := r12.1.control, kind := r12.1.kind, owner := r15.1 } : Node) r16 hr16) trivial) (by kernel_rfl) ?_
        exact blockDone (r15.2, ({ tree := r16, tasks := p1.tasks, next := p1.next } : Hierarchy)) hm (Conv.trans (τ := mkSt [(3, rr 1024), (4, rr 1032)] [(0, bx (pm (encDice r15.2))), (1024, bx [.p (slNode r16.nodes), pI r16.next, .p (slTask p1.tasks), pI p1.next]), (c81e1)]) (Conv.freezes [1504] (by kernel_rfl)) .refl)
       ·
        intro h14
        replace hm := if_f h14 hm
        refine DW.skip ?_
        exact blockDone (r2.2, p1) hm (Conv.tp [] [] (by kernel_rfl) .nil .nil)
     ·
      intro h11
      replace hm := if_f h11 hm
      refine DW.skip ?_
      exact blockDone (r2.2, p1) hm (Conv.tp [] [] (by kernel_rfl) .nil .nil)
  ·
   refine DW.cond (r2.1 == 0) rfl rfl ?_ ?_
   ·
    intro h3
    replace hm := if_t h3 hm
    refine DW.skip ?_
    exact joinDone (r2.1 == 0) hm .refl
   ·
    intro h3
    replace hm := if_f h3 hm
    refine RK hnt (nn 2 []) [(0, rr 0), (3, rr 1024), (4, rr 1032), (5, pI r1.1), (17, pI r2.1), (18, pB (r2.1 == 1))] [(c81e3 r2), (c81e2 p1), (c81e1)] trivial (by kernel_rfl) ?_
    exact joinDone (r2.1 == 1) hm .refl

theorem Admits_ref8Spec (p0 : Hierarchy) (p1 : Int) (RES : Int) (hm : Admits_ref8 p0 p1 = some RES) : Spec Tryz.prog 82 [.p (.agg (encHierarchy p0)), pI p1] [] (pI RES) [] [] := by
 unfold Admits_ref8 at hm
 refine spec_of Tgood (T := Tt) Tryz.func82 (by decide) (c := _) rfl rfl (sl := [(0, .p (.agg (encHierarchy p0))), (1, pI p1)]) (ob := []) (Nat.le_of_ble_eq_true rfl) (Nat.le_of_ble_eq_true rfl) (by kernel_rfl) (by kernel_rfl) ?_
 intro cx hnt
 refine DW.start ?_
 refine DW.seq (RK hnt (nn 2 []) [(1, pI p1), (2, rr 1016)] [(1016, bx (pm (encHierarchy p0)))] trivial (by kernel_rfl) ?_)
 obtain ⟨r1, hr1, hm⟩ := bind_open hm
 refine DW.seq (DW.seq (RK hnt (.no :: .call 129 [] true (pB r1) [] [] :: .no :: []) [(1, pI p1), (2, rr 1016), (9, pB (!r1))] [(1016, bx (pm (encHierarchy p0)))] (an (Fits_ref8Spec p0 r1 hr1) trivial) (by kernel_rfl) ?_))
 refine DW.cond (!r1) rfl rfl ?_ ?_
 ·
  intro h2
  replace hm := if_t h2 hm
  refine DW.seq (RK hnt (.no :: []) [(4, pI 1)] [] trivial (by kernel_rfl) ?_)
  refine DW.ret ?_
  obtain rfl := Option.some.inj hm
  refine retOK (bs' := []) [] (pI 1) (by kernel_rfl) ?_ ?_
  · rfl
  · rfl
 ·
  intro h2
  replace hm := if_f h2 hm
  refine DW.skip ?_
  obtain ⟨r3, hr3, hm⟩ := bind_open hm
  refine DW.seq (RK hnt (nn 3 (.call 135 [] true (.p (.tup [.agg (encNode r3.1), vb r3.2])) [] [] :: nn 6 [])) [(1, pI p1), (2, rr 1016), (5, rr 1040), (6, pB r3.2)] [(1016, bx (pm (encHierarchy p0))), (1040, bx (pm (encNode r3.1)))] (an (Find_ref5Spec p0.tree p1 r3 hr3) trivial) (by kernel_rfl) ?_)
  refine DW.seq (DW.block ?_)
  refine DW.seq (RK hnt (nn 3 []) [(1, pI p1), (2, rr 1016), (5, rr 1040), (17, pB (!r3.2))] [(1016, bx (pm (encHierarchy p0))), (1040, bx (pm (encNode r3.1)))] trivial (by kernel_rfl) ?_)
  refine DW.cond (!r3.2) rfl rfl ?_ ?_
  ·
   intro h4
   replace hm := if_t h4 hm
   refine DW.seq (RK hnt (.no :: []) [(4, pI 4)] [] trivial (by kernel_rfl) ?_)
   refine DW.ret ?_
   obtain rfl := Option.some.inj hm
   refine retOK (bs' := []) [] (pI 4) (by kernel_rfl) ?_ ?_
   · rfl
   · rfl
  ·
   intro h4
   replace hm := if_f h4 hm
   obtain ⟨r5, hr5, hm⟩ := bind_open hm
   refine DW.seq (RK hnt (nn 3 (.call 130 [] true (pI r5) [] [] :: nn 2 [])) [(1, pI p1), (5, rr 1040), (20, pB (r5 == 3))] [(1040, bx (pm (encNode r3.1)))] (an (Type_ref8Spec p0.tree p1 r5 hr5) trivial) (by kernel_rfl) ?_)
   refine DW.cond (r5 == 3) rfl rfl ?_ ?_
   ·
    intro h6
    replace hm := if_t h6 hm
    refine DW.seq (RK hnt (.no :: []) [(4, pI 10)] [] trivial (by kernel_rfl) ?_)
    refine DW.ret ?_
    obtain rfl := Option.some.inj hm
    refine retOK (bs' := []) [] (pI 10) (by kernel_rfl) ?_ ?_
    · rfl
    · rfl
   ·
    intro h6
    replace hm := if_f h6 hm
    refine DW.seq (DW.regJ (sl2 := [(26, pB ((p1 != 1) && ((kand .i64 r3.1.control 6) != 0)))]) (ob2 := []) ?_ ?_)
    ·
     rcases bt (p1 != 1) with h7 | h7
     ·
      exact RT hnt (nn 7 (pT :: .no :: [])) [(26, pB ((kand .i64 r3.1.control 6) != 0))] (an5 h7 trivial) (by kernel_rfl) (.cons rfl (.of_eq (by rw [h7]; try rfl)) .nil)
     ·
      exact RT hnt (nn 3 (sk 4 (pF :: .no :: []))) [(26, pB false)] (an5 h7 trivial) (by kernel_rfl) (.cons rfl (.of_eq (by rw [h7]; try rfl)) .nil)
    ·
     refine DW.cond ((p1 != 1) && ((kand .i64 r3.1.control 6) != 0)) rfl rfl ?_ ?_
     ·
      intro h8
      replace hm := if_t h8 hm
      refine DW.seq (RK hnt (.no :: []) [(4, pI 6)] [] trivial (by kernel_rfl) ?_)
      refine DW.ret ?_
      obtain rfl := Option.some.inj hm
      refine retOK (bs' := []) [] (pI 6) (by kernel_rfl) ?_ ?_
      · rfl
      · rfl
     ·
      intro h8
      replace hm := if_f h8 hm
      refine DW.skip ?_
      refine DW.done ?_
      show DW _ _ _ _ _
      refine DW.seq (RK hnt (.no :: []) [(4, pI 0)] [] trivial (by kernel_rfl) ?_)
      refine DW.ret ?_
      obtain rfl := Option.some.inj hm
      refine retOK (bs' := []) [] (pI 0) (by kernel_rfl) ?_ ?_
      · rfl
      · rfl

theorem Task_Dice_madeSpec (p0 : Dice) (p1 : Hierarchy) (RES : Int × Dice) (hm : Task_Dice_made p0 p1 = some RES) : Spec Tryz.prog 47 [rr 0, .p (.agg (encHierarchy p1))] [.box (pm (encDice p0))] (pI RES.1) [.box (pm (encDice RES.2))] [] := by
 unfold Task_Dice_made at hm
 refine spec_of Tgood (T := Tt) Tryz.func47 (by decide) (c := _) rfl rfl (sl := [(0, rr 0), (1, .p (.agg (encHierarchy p1)))]) (ob := [(0, bx (pm (encDice p0)))]) (Nat.le_of_ble_eq_true rfl) (Nat.le_of_ble_eq_true rfl) (by kernel_rfl) (by kernel_rfl) ?_
 intro cx hnt
 refine DW.start ?_
 refine DW.seq (RK hnt (nn 2 []) [(0, rr 0), (3, rr 1024)] [(0, bx (pm (encDice p0))), (1024, bx (pm (encHierarchy p1)))] trivial (by kernel_rfl) ?_)
 obtain ⟨r1, hr1, hm⟩ := bind_open hm
 refine DW.seq (DW.seq ?_)
 refine DW.join (ι := Bool) (fun (y1 : Bool) => mkSt [(0, rr 0), (3, rr 1024), (12, pB y1)] [(0, bx (pm (encDice r1.2))), (1024, bx (pm (encHierarchy p1)))]) (fun y1 => (Task_Dice_madeJ1 p1 r1) y1 = some RES) ?_ ?_
 ·
  intro y1 hm
  unfold Task_Dice_madeJ1 at hm
  refine DW.cond y1 rfl rfl ?_ ?_
  ·
   intro h3
   replace hm := if_t h3 hm
   obtain ⟨r4, hr4, hm⟩ := bind_open hm
   refine DW.seq (RK hnt (.no :: .call 19 [0] true (pI r4.1) [.box (pm (encDice r4.2))] [] :: nn 2 []) [(4, pI (w64 (r4.1 - 1)))] [(0, bx (pm (encDice r4.2)))] (an (Next_Dice_madeSpec r1.2 9 r4 hr4) (an trivial trivial)) (by kernel_rfl) ?_)
   refine DW.ret ?_
   obtain rfl := Option.some.inj hm
   refine retOK (bs' := [.box (pm (encDice r4.2))]) [] (pI (w64 (r4.1 - 1))) (by kernel_rfl) ?_ ?_
   · rfl
   · rfl
  ·
   intro h3
   replace hm := if_f h3 hm
   refine DW.skip ?_
   obtain ⟨r5, hr5, hm⟩ := bind_open hm
   obtain ⟨g6, hm⟩ := guard_open hm
   refine DW.seq (RK hnt (nn 6 (.call 19 [0] true (pI r5.1) [.box (pm (encDice r5.2))] [] :: nn 4 [])) [(4, pI (p1.tasks.getD (Int.toNat r5.1) dTask).id)] [(0, bx (pm (encDice r5.2)))] (an (Next_Dice_madeSpec r1.2 ((p1.tasks.length : Nat) : Int) r5 hr5) (an trivial (an g6.1 (an g6.2 trivial)))) (by kernel_rfl) ?_)
   refine DW.ret ?_
   obtain rfl := Option.some.inj hm
   refine retOK (bs' := [.box (pm (encDice r5.2))]) [] (pI (p1.tasks.getD (Int.toNat r5.1) dTask).id) (by kernel_rfl) ?_ ?_
   · rfl
   · rfl
 ·
  rcases bt r1.1 with h2 | h2
  ·
   replace hm := if_t h2 hm
   refine RK hnt (.no :: .call 77 [0] true (pB r1.1) [.box (pm (encDice r1.2))] [] :: .no :: sk 4 (pT :: [])) [(0, rr 0), (3, rr 1024), (12, pB true)] [(0, bx (pm (encDice r1.2))), (1024, bx (pm (encHierarchy p1)))] (an (Bool_Dice_madeSpec p0 15 r1 hr1) (an trivial (an5 h2 trivial))) (by kernel_rfl) ?_
   exact joinDone true hm .refl
  ·
   replace hm := if_f h2 hm
   refine RK hnt (.no :: .call 77 [0] true (pB r1.1) [.box (pm (encDice r1.2))] [] :: nn 5 (pF :: [])) [(0, rr 0), (3, rr 1024), (12, pB (((p1.tasks.length : Nat) : Int) == 0))] [(0, bx (pm (encDice r1.2))), (1024, bx (pm (encHierarchy p1)))] (an (Bool_Dice_madeSpec p0 15 r1 hr1) (an trivial (an5 h2 trivial))) (by kernel_rfl) ?_
   exact joinDone (((p1.tasks.length : Nat) : Int) == 0) hm .refl

abbrev c67e1 : Nat × Obj := (1032, bx [.p (.sl .nil 0 0 (fun _ => [])), pI 0, .p (.sl .nil 0 0 (fun _ => [])), pI 0])
abbrev c67e2 : Nat × Obj := (1032, bx [ow 100000 0, pI 0, ow 100001 0, pI 0])
abbrev c67e3 : Nat × Obj := (1032, bx [ow 100000 0, pI 0, .p (.sl .nil 0 0 (fun _ => [])), pI 0])
theorem Clone_ref6Spec (p0 : Hierarchy) (p1 : Int) (RES : Hierarchy × Int × Int) (hm : Clone_ref6 p0 p1 = some RES) : Spec Tryz.prog 67 [.p (.agg (encHierarchy p0)), pI p1] [] (.tup [.agg [ow 0 RES.1.tree.nodes.length, pI RES.1.tree.next, ow 1 RES.1.tasks.length, pI RES.1.next], pI RES.2.1, pI RES.2.2]) [] [roNode RES.1.tree.nodes, roTask RES.1.tasks] := by
 unfold Clone_ref6 at hm
 refine spec_of Tgood (T := Tt) Tryz.func67 (by decide) (c := _) rfl rfl (sl := [(0, .p (.agg (encHierarchy p0))), (1, pI p1)]) (ob := []) (Nat.le_of_ble_eq_true rfl) (Nat.le_of_ble_eq_true rfl) (by kernel_rfl) (by kernel_rfl) ?_
 intro cx hnt
 refine DW.start ?_
 refine DW.seq (RK hnt (nn 4 []) [(1, pI p1), (2, rr 1016), (4, rr 1032)] [(1016, bx (pm (encHierarchy p0))), (c67e1)] trivial (by kernel_rfl) ?_)
 obtain ⟨r1, hr1, hm⟩ := bind_open hm
 refine DW.seq (DW.seq (RK hnt (.no :: .call 52 [] true (pB r1) [] [] :: .no :: []) [(1, pI p1), (2, rr 1016), (4, rr 1032), (11, pB (!r1))] [(1016, bx (pm (encHierarchy p0))), (c67e1)] (an (Check_ref6Spec p0 r1 hr1) trivial) (by kernel_rfl) ?_))
 refine DW.cond (!r1) rfl rfl ?_ ?_
 ·
  intro h2
  replace hm := if_t h2 hm
  refine DW.seq (RK hnt (nn 4 []) [(4, rr 1032), (5, pI 0), (6, pI 1)] [(c67e1)] trivial (by kernel_rfl) ?_)
  refine DW.conv (τ := mkSt [(4, rr 1032), (5, pI 0), (6, pI 1)] [(c67e2), (100000, ob0 (roNode [])), (100001, ob0 (roTask []))]) (Conv.trans (τ := mkSt [(4, rr 1032), (5, pI 0), (6, pI 1)] ((100000, ⟨0, .row 6 0 (elems encNode dNode [])⟩) :: [(c67e3)])) (Conv.adopt 100000 6 (elems encNode dNode []) rfl rfl (.rfl _) (.box (.cons (.nil _ _) (.cons (.rfl _) (.cons (.rfl _) (.cons (.rfl _) (.rfl _))))) (.rfl _))) (Conv.trans (τ := mkSt [(4, rr 1032), (5, pI 0), (6, pI 1)] [(c67e3), (100000, ob0 (roNode []))]) (Conv.tp [] [] (by kernel_rfl) .nil .nil) (Conv.trans (τ := mkSt [(4, rr 1032), (5, pI 0), (6, pI 1)] ((100001, ⟨0, .row 4 0 (elems encTask dTask [])⟩) :: [(c67e2), (100000, ob0 (roNode []))])) (Conv.adopt 100001 4 (elems encTask dTask []) rfl rfl (.rfl _) (.box (.cons (.rfl _) (.cons (.rfl _) (.cons (.nil _ _) (.cons (.rfl _) (.rfl _))))) (.keep (.rfl _)))) (Conv.trans (τ := mkSt [(4, rr 1032), (5, pI 0), (6, pI 1)] [(c67e2), (100000, ob0 (roNode [])), (100001, ob0 (roTask []))]) (Conv.tp [] [] (by kernel_rfl) .nil .nil) .refl)))) ?_
  refine DW.ret ?_
  obtain rfl := Option.some.inj hm
  refine retOK (bs' := [roNode [], roTask []]) [100000, 100001] (.tup [.agg [ow 0 0, pI 0, ow 1 0, pI 0], pI 0, pI 1]) (by kernel_rfl) ?_ ?_
  · rfl
  · rfl
 ·
  intro h2
  replace hm := if_f h2 hm
  refine DW.skip ?_
  obtain ⟨r3, hr3, hm⟩ := bind_open hm
  refine DW.seq (RK hnt (nn 2 (.call 53 [] true (.p (.tup [.agg (encTask r3.1), vb r3.2])) [] [] :: nn 6 [])) [(2, rr 1016), (4, rr 1032), (7, rr 1056), (8, pB r3.2)] [(1016, bx (pm (encHierarchy p0))), (c67e1), (1056, bx (pm (encTask r3.1)))] (an (Find_ref6Spec p0 p1 r3 hr3) trivial) (by kernel_rfl) ?_)
  refine DW.seq (DW.seq (RK hnt (nn 2 []) [(2, rr 1016), (4, rr 1032), (7, rr 1056), (20, pB (!r3.2))] [(1016, bx (pm (encHierarchy p0))), (c67e1), (1056, bx (pm (encTask r3.1)))] trivial (by kernel_rfl) ?_))
  refine DW.cond (!r3.2) rfl rfl ?_ ?_
  ·
   intro h4
   replace hm := if_t h4 hm
   refine DW.seq (RK hnt (nn 4 []) [(4, rr 1032), (5, pI 0), (6, pI 4)] [(c67e1)] trivial (by kernel_rfl) ?_)
   refine DW.conv (τ := mkSt [(4, rr 1032), (5, pI 0), (6, pI 4)] [(c67e2), (100000, ob0 (roNode [])), (100001, ob0 (roTask []))]) (Conv.trans (τ := mkSt [(4, rr 1032), (5, pI 0), (6, pI 4)] ((100000, ⟨0, .row 6 0 (elems encNode dNode [])⟩) :: [(c67e3)])) (Conv.adopt 100000 6 (elems encNode dNode []) rfl rfl (.rfl _) (.box (.cons (.nil _ _) (.cons (.rfl _) (.cons (.rfl _) (.cons (.rfl _) (.rfl _))))) (.rfl _))) (Conv.trans (τ := mkSt [(4, rr 1032), (5, pI 0), (6, pI 4)] [(c67e3), (100000, ob0 (roNode []))]) (Conv.tp [] [] (by kernel_rfl) .nil .nil) (Conv.trans (τ := mkSt [(4, rr 1032), (5, pI 0), (6, pI 4)] ((100001, ⟨0, .row 4 0 (elems encTask dTask [])⟩) :: [(c67e2), (100000, ob0 (roNode []))])) (Conv.adopt 100001 4 (elems encTask dTask []) rfl rfl (.rfl _) (.box (.cons (.rfl _) (.cons (.rfl _) (.cons (.nil _ _) (.cons (.rfl _) (.rfl _))))) (.keep (.rfl _)))) (Conv.trans (τ := mkSt [(4, rr 1032), (5, pI 0), (6, pI 4)] [(c67e2), (100000, ob0 (roNode [])), (100001, ob0 (roTask []))]) (Conv.tp [] [] (by kernel_rfl) .nil .nil) .refl)))) ?_
   refine DW.ret ?_
   obtain rfl := Option.some.inj hm
   refine retOK (bs' := [roNode [], roTask []]) [100000, 100001] (.tup [.agg [ow 0 0, pI 0, ow 1 0, pI 0], pI 0, pI 4]) (by kernel_rfl) ?_ ?_
   · rfl
   · rfl
  ·
   intro h4
   replace hm := if_f h4 hm
   refine DW.skip ?_
   obtain ⟨r5, hr5, hm⟩ := bind_open hm
   refine DW.seq (RK hnt (nn 2 (.call 121 [] true (.tup [.agg [ow 0 r5.1.tree.nodes.length, pI r5.1.tree.next, ow 1 r5.1.tasks.length, pI r5.1.next], pI r5.2.1, pI r5.2.2]) [] [roNode r5.1.tree.nodes, roTask r5.1.tasks] :: nn 6 [])) [(4, rr 1032), (5, pI r5.2.1), (6, pI r5.2.2)] [(1032, bx [ow 1192 r5.1.tree.nodes.length, pI r5.1.tree.next, ow 1193 r5.1.tasks.length, pI r5.1.next]), (1192, ob0 (roNode r5.1.tree.nodes)), (1193, ob0 (roTask r5.1.tasks))] (an (add_ref6Spec p0 r3.1 r5 hr5) trivial) (by kernel_rfl) ?_)
   refine DW.ret ?_
   obtain rfl := Option.some.inj hm
   refine retOK (bs' := [roNode r5.1.tree.nodes, roTask r5.1.tasks]) [1192, 1193] (.tup [.agg [ow 0 r5.1.tree.nodes.length, pI r5.1.tree.next, ow 1 r5.1.tasks.length, pI r5.1.next], pI r5.2.1, pI r5.2.2]) (by kernel_rfl) ?_ ?_
   · rfl
   · rfl

abbrev c70e1 : Nat × Obj := (1048, bx [.p (.sl .nil 0 0 (fun _ => [])), pI 0, .p (.sl .nil 0 0 (fun _ => [])), pI 0])
abbrev c70e2 : Nat × Obj := (1048, bx [ow 100000 0, pI 0, ow 100001 0, pI 0])
abbrev c70e3 : Nat × Obj := (1048, bx [ow 100000 0, pI 0, .p (.sl .nil 0 0 (fun _ => [])), pI 0])
abbrev c70e4 (r7 : Hierarchy) : Nat × Obj := (1264, ob0 (roNode r7.tree.nodes))
abbrev c70e5 (p0 : Hierarchy) : Nat × Obj := (1024, bx (pm (encHierarchy p0)))
abbrev c70e6 (r7 : Hierarchy) : Nat × Obj := (1080, bx [ow 1264 r7.tree.nodes.length, pI r7.tree.next, ow 1265 r7.tasks.length, pI r7.next])
theorem Place_ref6Spec (p0 : Hierarchy) (p1 : Int) (p2 : Int) (RES : Hierarchy × Int) (hm : Place_ref6 p0 p1 p2 = some RES) : Spec Tryz.prog 70 [.p (.agg (encHierarchy p0)), pI p1, pI p2] [] (.tup [.agg [ow 0 RES.1.tree.nodes.length, pI RES.1.tree.next, ow 1 RES.1.tasks.length, pI RES.1.next], pI RES.2]) [] [roNode RES.1.tree.nodes, roTask RES.1.tasks] := by
 unfold Place_ref6 at hm
 refine spec_of Tgood (T := Tt) Tryz.func70 (by decide) (c := _) rfl rfl (sl := [(0, .p (.agg (encHierarchy p0))), (1, pI p1), (2, pI p2)]) (ob := []) (Nat.le_of_ble_eq_true rfl) (Nat.le_of_ble_eq_true rfl) (by kernel_rfl) (by kernel_rfl) ?_
 intro cx hnt
 refine DW.start ?_
 refine DW.seq (RK hnt (nn 3 []) [(1, pI p1), (2, pI p2), (3, rr 1024), (6, rr 1048)] [(c70e5 p0), (c70e1)] trivial (by kernel_rfl) ?_)
 obtain ⟨r1, hr1, hm⟩ := bind_open hm
 refine DW.seq (DW.seq (RK hnt (.no :: .call 52 [] true (pB r1) [] [] :: .no :: []) [(1, pI p1), (2, pI p2), (3, rr 1024), (6, rr 1048), (14, pB (!r1))] [(c70e5 p0), (c70e1)] (an (Check_ref6Spec p0 r1 hr1) trivial) (by kernel_rfl) ?_))
 refine DW.cond (!r1) rfl rfl ?_ ?_
 ·
  intro h2
  replace hm := if_t h2 hm
  refine DW.seq (RK hnt (nn 3 []) [(6, rr 1048), (7, pI 1)] [(c70e1)] trivial (by kernel_rfl) ?_)
  refine DW.conv (τ := mkSt [(6, rr 1048), (7, pI 1)] [(c70e2), (100000, ob0 (roNode [])), (100001, ob0 (roTask []))]) (Conv.trans (τ := mkSt [(6, rr 1048), (7, pI 1)] ((100000, ⟨0, .row 6 0 (elems encNode dNode [])⟩) :: [(c70e3)])) (Conv.adopt 100000 6 (elems encNode dNode []) rfl rfl (.rfl _) (.box (.cons (.nil _ _) (.cons (.rfl _) (.cons (.rfl _) (.cons (.rfl _) (.rfl _))))) (.rfl _))) (Conv.trans (τ := mkSt [(6, rr 1048), (7, pI 1)] [(c70e3), (100000, ob0 (roNode []))]) (Conv.tp [] [] (by kernel_rfl) .nil .nil) (Conv.trans (τ := mkSt [(6, rr 1048), (7, pI 1)] ((100001, ⟨0, .row 4 0 (elems encTask dTask [])⟩) :: [(c70e2), (100000, ob0 (roNode []))])) (Conv.adopt 100001 4 (elems encTask dTask []) rfl rfl (.rfl _) (.box (.cons (.rfl _) (.cons (.rfl _) (.cons (.nil _ _) (.cons (.rfl _) (.rfl _))))) (.keep (.rfl _)))) (Conv.trans (τ := mkSt [(6, rr 1048), (7, pI 1)] [(c70e2), (100000, ob0 (roNode [])), (100001, ob0 (roTask []))]) (Conv.tp [] [] (by kernel_rfl) .nil .nil) .refl)))) ?_
  refine DW.ret ?_
  obtain rfl := Option.some.inj hm
  refine retOK (bs' := [roNode [], roTask []]) [100000, 100001] (.tup [.agg [ow 0 0, pI 0, ow 1 0, pI 0], pI 1]) (by kernel_rfl) ?_ ?_
  · rfl
  · rfl
 ·
  intro h2
  replace hm := if_f h2 hm
  refine DW.skip ?_
  obtain ⟨r3, hr3, hm⟩ := bind_open hm
  refine DW.seq (DW.seq (RK hnt (nn 2 (.call 53 [] true (.p (.tup [.agg (encTask r3.1), vb r3.2])) [] [] :: nn 6 [])) [(1, pI p1), (2, pI p2), (3, rr 1024), (6, rr 1048), (9, pB r3.2)] [(c70e5 p0), (c70e1)] (an (Find_ref6Spec p0 p1 r3 hr3) trivial) (by kernel_rfl) ?_))
  refine DW.seq ?_
  refine DW.join (ι := Bool) (fun (y1 : Bool) => mkSt [(1, pI p1), (2, pI p2), (3, rr 1024), (6, rr 1048), (30, pB y1)] [(c70e5 p0), (c70e1)]) (fun y1 => (Place_ref6J1 p0 p1 p2) y1 = some RES) ?_ ?_
  ·
   intro y1 hm
   unfold Place_ref6J1 at hm
   refine DW.cond y1 rfl rfl ?_ ?_
   ·
    intro h6
    replace hm := if_t h6 hm
    refine DW.seq (RK hnt (nn 3 []) [(6, rr 1048), (7, pI 4)] [(c70e1)] trivial (by kernel_rfl) ?_)
    refine DW.conv (τ := mkSt [(6, rr 1048), (7, pI 4)] [(c70e2), (100000, ob0 (roNode [])), (100001, ob0 (roTask []))]) (Conv.trans (τ := mkSt [(6, rr 1048), (7, pI 4)] ((100000, ⟨0, .row 6 0 (elems encNode dNode [])⟩) :: [(c70e3)])) (Conv.adopt 100000 6 (elems encNode dNode []) rfl rfl (.rfl _) (.box (.cons (.nil _ _) (.cons (.rfl _) (.cons (.rfl _) (.cons (.rfl _) (.rfl _))))) (.rfl _))) (Conv.trans (τ := mkSt [(6, rr 1048), (7, pI 4)] [(c70e3), (100000, ob0 (roNode []))]) (Conv.tp [] [] (by kernel_rfl) .nil .nil) (Conv.trans (τ := mkSt [(6, rr 1048), (7, pI 4)] ((100001, ⟨0, .row 4 0 (elems encTask dTask [])⟩) :: [(c70e2), (100000, ob0 (roNode []))])) (Conv.adopt 100001 4 (elems encTask dTask []) rfl rfl (.rfl _) (.box (.cons (.rfl _) (.cons (.rfl _) (.cons (.nil _ _) (.cons (.rfl _) (.rfl _))))) (.keep (.rfl _)))) (Conv.trans (τ := mkSt [(6, rr 1048), (7, pI 4)] [(c70e2), (100000, ob0 (roNode [])), (100001, ob0 (roTask []))]) (Conv.tp [] [] (by kernel_rfl) .nil .nil) .refl)))) ?_
    refine DW.ret ?_
    obtain rfl := Option.some.inj hm
    refine retOK (bs' := [roNode [], roTask []]) [100000, 100001] (.tup [.agg [ow 0 0, pI 0, ow 1 0, pI 0], pI 4]) (by kernel_rfl) ?_ ?_
    · rfl
    · rfl
   ·
    intro h6
    replace hm := if_f h6 hm
    refine DW.skip ?_
    obtain ⟨r7, hr7, hm⟩ := bind_open hm
    refine DW.seq (RK hnt (.no :: .call 105 [] true (.agg [ow 0 r7.tree.nodes.length, pI r7.tree.next, ow 1 r7.tasks.length, pI r7.next]) [] [roNode r7.tree.nodes, roTask r7.tasks] :: nn 2 []) [(1, pI p1), (2, pI p2), (6, rr 1048), (10, rr 1080)] [(c70e1), (c70e6 r7), (c70e4 r7), (1265, ob0 (roTask r7.tasks))] (an (Copy_ref6Spec p0 r7 hr7) trivial) (by kernel_rfl) ?_)
    refine DW.seq (DW.seq (RK hnt (.no :: []) [(1, pI p1), (2, pI p2), (6, rr 1048), (10, rr 1080), (11, pI 0)] [(c70e1), (c70e6 r7), (c70e4 r7), (1265, ob0 (roTask r7.tasks))] trivial (by kernel_rfl) ?_))
    refine DW.block ?_
    refine DW.whileO (fun (s1 : (List Task) × Int) => mkSt [(1, pI p1), (2, pI p2), (6, rr 1048), (10, rr 1080), (11, pI s1.2)] [(c70e1), (1080, bx [ow 1264 r7.tree.nodes.length, pI r7.tree.next, ow 1265 s1.1.length, pI r7.next]), (c70e4 r7), (1265, ob0 (roTask s1.1))]) hm .refl ?_
    intro s1 n1 hm
    unfold Place_ref6L1 at hm
    refine DW.seq (DW.seq (RK hnt (nn 5 []) [(1, pI p1), (2, pI p2), (6, rr 1048), (10, rr 1080), (11, pI s1.2), (38, pB (decide (s1.2 < ((s1.1.length : Nat) : Int))))] [(c70e1), (1080, bx [ow 1264 r7.tree.nodes.length, pI r7.tree.next, ow 1265 s1.1.length, pI r7.next]), (c70e4 r7), (1265, ob0 (roTask s1.1))] trivial (by kernel_rfl) ?_))
    refine DW.cond (decide (s1.2 < ((s1.1.length : Nat) : Int))) rfl rfl ?_ ?_
    ·
     intro h14
     replace hm := if_t h14 hm
     refine DW.skip ?_
     refine DW.seq ?_
     refine DW.join (ι := List Task) (fun (y3 : List Task) => mkSt [(1, pI p1), (2, pI p2), (6, rr 1048), (10, rr 1080), (11, pI s1.2)] [(c70e1), (1080, bx [ow 1264 r7.tree.nodes.length, pI r7.tree.next, ow 1265 y3.length, pI r7.next]), (c70e4 r7), (1265, ob0 (roTask y3))]) (fun y3 => (Place_ref6J3 s1 n1) y3 = some RES) ?_ ?_
     ·
      intro y3 hm
      unfold Place_ref6J3 at hm
      refine RK hnt (nn 3 []) [(1, pI p1), (2, pI p2), (6, rr 1048), (10, rr 1080), (11, pI (w64 (s1.2 + 1)))] [(c70e1), (1080, bx [ow 1264 r7.tree.nodes.length, pI r7.tree.next, ow 1265 y3.length, pI r7.next]), (c70e4 r7), (1265, ob0 (roTask y3))] trivial (by kernel_rfl) ?_
      exact joinDone (y3, (w64 (s1.2 + 1))) hm .refl
     ·
      refine DW.block ?_
      obtain ⟨g15, hm⟩ := guard_open hm
      obtain ⟨g16, hm⟩ := guard_open hm
      refine DW.seq (RK hnt (nn 8 []) [(1, pI p1), (2, pI p2), (6, rr 1048), (10, rr 1080), (11, pI s1.2), (48, pB ((s1.1.getD (Int.toNat s1.2) dTask).id == p1))] [(c70e1), (1080, bx [ow 1264 r7.tree.nodes.length, pI r7.tree.next, ow 1265 s1.1.length, pI r7.next]), (c70e4 r7), (1265, ob0 (roTask s1.1))] (an g15.1 (an g15.2 (an g16 trivial))) (by kernel_rfl) ?_)
      refine DW.cond ((s1.1.getD (Int.toNat s1.2) dTask).id == p1) rfl rfl ?_ ?_
      ·
       intro h17
       replace hm := if_t h17 hm
       obtain ⟨g18, hm⟩ := guard_open hm
       obtain ⟨g19, hm⟩ := guard_open hm
       refine RN hnt (nn 7 []) [(1, pI p1), (2, pI p2), (6, rr 1048), (10, rr 1080), (11, pI s1.2)] [(c70e1), (1080, bx [ow 1264 r7.tree.nodes.length, pI r7.tree.next, ow 1265 (s1.1.set (Int.toNat s1.2) ({ id := (s1.1.getD (Int.toNat s1.2) dTask).id, process := (s1.1.getD (Int.toNat s1.2) dTask).process, group := p2, user := (s1.1.getD (Int.toNat s1.2) dTask).user } : Task)).length, pI r7.next]), (c70e4 r7), (1265, ob0 (roTask (s1.1.set (Int.toNat s1.2) ({ id := (s1.1.getD (Int.toNat s1.2) dTask).id, process := (s1.1.getD (Int.toNat s1.2) dTask).process, group := p2, user := (s1.1.getD (Int.toNat s1.2) dTask).user } : Task))))] [] [(1080, .box [ow 1264 r7.tree.nodes.length, pI r7.tree.next, ow 1265 s1.1.length, pI r7.next]), (1265, .row 4 s1.1.length (updF (elTask s1.1) (Int.toNat s1.2) [vi (s1.1.getD (Int.toNat s1.2) dTask).id, vi (s1.1.getD (Int.toNat s1.2) dTask).process, vi p2, vi (s1.1.getD (Int.toNat s1.2) dTask).user]))] (an g18.1 (an g18.2 (an g19 trivial))) (by kernel_rfl) .nil (.cons rfl (.box (.cons .rfl (.cons .rfl (.cons (MLe.ownLen (enc := encTask) (d := dTask) (f := (updF (elTask s1.1) (Int.toNat s1.2) [vi (s1.1.getD (Int.toNat s1.2) dTask).id, vi (s1.1.getD (Int.toNat s1.2) dTask).process, vi p2, vi (s1.1.getD (Int.toNat s1.2) dTask).user])) (RowIs.upd RowIs.elems ({ id := (s1.1.getD (Int.toNat s1.2) dTask).id, process := (s1.1.getD (Int.toNat s1.2) dTask).process, group := p2, user := (s1.1.getD (Int.toNat s1.2) dTask).user } : Task) rfl)) (.cons .rfl .nil))))) (.cons rfl (BLe.typed (RowIs.upd RowIs.elems ({ id := (s1.1.getD (Int.toNat s1.2) dTask).id, process := (s1.1.getD (Int.toNat s1.2) dTask).process, group := p2, user := (s1.1.getD (Int.toNat s1.2) dTask).user } : Task) rfl)) .nil)) ?_
       exact blockDone (s1.1.set (Int.toNat s1.2) ({ id := (s1.1.getD (Int.toNat s1.2) dTask).id, process := (s1.1.getD (Int.toNat s1.2) dTask).process, group := p2, user := (s1.1.getD (Int.toNat s1.2) dTask).user } : Task)) hm .refl
      ·
       intro h17
       replace hm := if_f h17 hm
       refine DW.skip ?_
       exact blockDone s1.1 hm (Conv.tp [] [] (by kernel_rfl) .nil .nil)
    ·
     intro h14
     replace hm := if_f h14 hm
     refine DW.exit ?_
     refine joinQ_exit ?_
     refine KQ_exit ?_
     refine blockQ_exit ?_
     show DW _ _ _ _ _
     refine DW.seq (RK hnt (nn 3 []) [(6, rr 1048), (7, pI 0)] [(1048, bx [ow 1264 r7.tree.nodes.length, pI r7.tree.next, ow 1265 s1.1.length, pI r7.next]), (c70e4 r7), (1265, ob0 (roTask s1.1))] trivial (by kernel_rfl) ?_)
     refine DW.ret ?_
     obtain rfl := Option.some.inj hm
     refine retOK (bs' := [roNode r7.tree.nodes, roTask s1.1]) [1264, 1265] (.tup [.agg [ow 0 r7.tree.nodes.length, pI r7.tree.next, ow 1 s1.1.length, pI r7.next], pI 0]) (by kernel_rfl) ?_ ?_
     · rfl
     · rfl
  ·
   rcases bt (!r3.2) with h4 | h4
   ·
    replace hm := if_t h4 hm
    refine RK hnt (nn 3 (sk 5 (pT :: []))) [(1, pI p1), (2, pI p2), (3, rr 1024), (6, rr 1048), (30, pB true)] [(c70e5 p0), (c70e1)] (an6 h4 trivial) (by kernel_rfl) ?_
    exact joinDone true hm .refl
   ·
    replace hm := if_f h4 hm
    obtain ⟨r5, hr5, hm⟩ := bind_open hm
    refine RK hnt (nn 6 (.call 88 [] true (pB r5) [] [] :: .no :: pF :: [])) [(1, pI p1), (2, pI p2), (3, rr 1024), (6, rr 1048), (30, pB (!r5))] [(c70e5 p0), (c70e1)] (an4 h4 (an (Has_ref5Spec p0.tree p2 r5 hr5) (an2 h4 trivial))) (by kernel_rfl) ?_
    exact joinDone (!r5) hm .refl

abbrev c83e1 : Nat × Obj := (1048, bx [.p (.sl .nil 0 0 (fun _ => [])), pI 0, .p (.sl .nil 0 0 (fun _ => [])), pI 0])
abbrev c83e2 : Nat × Obj := (1048, bx [ow 100000 0, pI 0, ow 100001 0, pI 0])
abbrev c83e3 : Nat × Obj := (1048, bx [ow 100000 0, pI 0, .p (.sl .nil 0 0 (fun _ => [])), pI 0])
abbrev c83e4 (p0 : Hierarchy) : Nat × Obj := (1024, bx (pm (encHierarchy p0)))
abbrev c83e5 (r3 : Task × Bool) : Nat × Obj := (1064, bx (pm (encTask r3.1)))
theorem AttachThread_ref8Spec (p0 : Hierarchy) (p1 : Int) (p2 : Int) (RES : Hierarchy × Int) (hm : AttachThread_ref8 p0 p1 p2 = some RES) : Spec Tryz.prog 83 [.p (.agg (encHierarchy p0)), pI p1, pI p2] [] (.tup [.agg [ow 0 RES.1.tree.nodes.length, pI RES.1.tree.next, ow 1 RES.1.tasks.length, pI RES.1.next], pI RES.2]) [] [roNode RES.1.tree.nodes, roTask RES.1.tasks] := by
 unfold AttachThread_ref8 at hm
 refine spec_of Tgood (T := Tt) Tryz.func83 (by decide) (c := _) rfl rfl (sl := [(0, .p (.agg (encHierarchy p0))), (1, pI p1), (2, pI p2)]) (ob := []) (Nat.le_of_ble_eq_true rfl) (Nat.le_of_ble_eq_true rfl) (by kernel_rfl) (by kernel_rfl) ?_
 intro cx hnt
 refine DW.start ?_
 refine DW.seq (RK hnt (nn 3 []) [(1, pI p1), (2, pI p2), (3, rr 1024), (6, rr 1048)] [(c83e4 p0), (c83e1)] trivial (by kernel_rfl) ?_)
 obtain ⟨r1, hr1, hm⟩ := bind_open hm
 refine DW.seq (DW.seq (RK hnt (.no :: .call 129 [] true (pB r1) [] [] :: .no :: []) [(1, pI p1), (2, pI p2), (3, rr 1024), (6, rr 1048), (17, pB (!r1))] [(c83e4 p0), (c83e1)] (an (Fits_ref8Spec p0 r1 hr1) trivial) (by kernel_rfl) ?_))
 refine DW.cond (!r1) rfl rfl ?_ ?_
 ·
  intro h2
  replace hm := if_t h2 hm
  refine DW.seq (RK hnt (nn 3 []) [(6, rr 1048), (7, pI 1)] [(c83e1)] trivial (by kernel_rfl) ?_)
  refine DW.conv (τ := mkSt [(6, rr 1048), (7, pI 1)] [(c83e2), (100000, ob0 (roNode [])), (100001, ob0 (roTask []))]) (Conv.trans (τ := mkSt [(6, rr 1048), (7, pI 1)] ((100000, ⟨0, .row 6 0 (elems encNode dNode [])⟩) :: [(c83e3)])) (Conv.adopt 100000 6 (elems encNode dNode []) rfl rfl (.rfl _) (.box (.cons (.nil _ _) (.cons (.rfl _) (.cons (.rfl _) (.cons (.rfl _) (.rfl _))))) (.rfl _))) (Conv.trans (τ := mkSt [(6, rr 1048), (7, pI 1)] [(c83e3), (100000, ob0 (roNode []))]) (Conv.tp [] [] (by kernel_rfl) .nil .nil) (Conv.trans (τ := mkSt [(6, rr 1048), (7, pI 1)] ((100001, ⟨0, .row 4 0 (elems encTask dTask [])⟩) :: [(c83e2), (100000, ob0 (roNode []))])) (Conv.adopt 100001 4 (elems encTask dTask []) rfl rfl (.rfl _) (.box (.cons (.rfl _) (.cons (.rfl _) (.cons (.nil _ _) (.cons (.rfl _) (.rfl _))))) (.keep (.rfl _)))) (Conv.trans (τ := mkSt [(6, rr 1048), (7, pI 1)] [(c83e2), (100000, ob0 (roNode [])), (100001, ob0 (roTask []))]) (Conv.tp [] [] (by kernel_rfl) .nil .nil) .refl)))) ?_
  refine DW.ret ?_
  obtain rfl := Option.some.inj hm
  refine retOK (bs' := [roNode [], roTask []]) [100000, 100001] (.tup [.agg [ow 0 0, pI 0, ow 1 0, pI 0], pI 1]) (by kernel_rfl) ?_ ?_
  · rfl
  · rfl
 ·
  intro h2
  replace hm := if_f h2 hm
  refine DW.skip ?_
  obtain ⟨r3, hr3, hm⟩ := bind_open hm
  refine DW.seq (RK hnt (nn 2 (.call 53 [] true (.p (.tup [.agg (encTask r3.1), vb r3.2])) [] [] :: nn 6 [])) [(1, pI p1), (2, pI p2), (3, rr 1024), (6, rr 1048), (8, rr 1064), (9, pB r3.2)] [(c83e4 p0), (c83e1), (c83e5 r3)] (an (Find_ref6Spec p0 p1 r3 hr3) trivial) (by kernel_rfl) ?_)
  refine DW.seq (DW.seq ?_)
  refine DW.join (ι := Bool) (fun (y1 : Bool) => mkSt [(1, pI p1), (2, pI p2), (3, rr 1024), (6, rr 1048), (8, rr 1064), (33, pB y1)] [(c83e4 p0), (c83e1), (c83e5 r3)]) (fun y1 => (AttachThread_ref8J1 p0 p1 p2 r3) y1 = some RES) ?_ ?_
  ·
   intro y1 hm
   unfold AttachThread_ref8J1 at hm
   refine DW.cond y1 rfl rfl ?_ ?_
   ·
    intro h6
    replace hm := if_t h6 hm
    refine DW.seq (RK hnt (nn 3 []) [(6, rr 1048), (7, pI 4)] [(c83e1)] trivial (by kernel_rfl) ?_)
    refine DW.conv (τ := mkSt [(6, rr 1048), (7, pI 4)] [(c83e2), (100000, ob0 (roNode [])), (100001, ob0 (roTask []))]) (Conv.trans (τ := mkSt [(6, rr 1048), (7, pI 4)] ((100000, ⟨0, .row 6 0 (elems encNode dNode [])⟩) :: [(c83e3)])) (Conv.adopt 100000 6 (elems encNode dNode []) rfl rfl (.rfl _) (.box (.cons (.nil _ _) (.cons (.rfl _) (.cons (.rfl _) (.cons (.rfl _) (.rfl _))))) (.rfl _))) (Conv.trans (τ := mkSt [(6, rr 1048), (7, pI 4)] [(c83e3), (100000, ob0 (roNode []))]) (Conv.tp [] [] (by kernel_rfl) .nil .nil) (Conv.trans (τ := mkSt [(6, rr 1048), (7, pI 4)] ((100001, ⟨0, .row 4 0 (elems encTask dTask [])⟩) :: [(c83e2), (100000, ob0 (roNode []))])) (Conv.adopt 100001 4 (elems encTask dTask []) rfl rfl (.rfl _) (.box (.cons (.rfl _) (.cons (.rfl _) (.cons (.nil _ _) (.cons (.rfl _) (.rfl _))))) (.keep (.rfl _)))) (Conv.trans (τ := mkSt [(6, rr 1048), (7, pI 4)] [(c83e2), (100000, ob0 (roNode [])), (100001, ob0 (roTask []))]) (Conv.tp [] [] (by kernel_rfl) .nil .nil) .refl)))) ?_
    refine DW.ret ?_
    obtain rfl := Option.some.inj hm
    refine retOK (bs' := [roNode [], roTask []]) [100000, 100001] (.tup [.agg [ow 0 0, pI 0, ow 1 0, pI 0], pI 4]) (by kernel_rfl) ?_ ?_
    · rfl
    · rfl
   ·
    intro h6
    replace hm := if_f h6 hm
    refine DW.skip ?_
    obtain ⟨r7, hr7, hm⟩ := bind_open hm
    refine DW.seq (DW.seq (RK hnt (nn 2 (.call 82 [] true (pI r7) [] [] :: .no :: [])) [(1, pI p1), (2, pI p2), (3, rr 1024), (6, rr 1048), (8, rr 1064), (10, pI r7)] [(c83e4 p0), (c83e1), (c83e5 r3)] (an (Admits_ref8Spec p0 p2 r7 hr7) trivial) (by kernel_rfl) ?_))
    refine DW.seq (RK hnt (nn 2 []) [(1, pI p1), (2, pI p2), (3, rr 1024), (6, rr 1048), (8, rr 1064), (10, pI r7), (39, pB (r7 != 0))] [(c83e4 p0), (c83e1), (c83e5 r3)] trivial (by kernel_rfl) ?_)
    refine DW.cond (r7 != 0) rfl rfl ?_ ?_
    ·
     intro h8
     replace hm := if_t h8 hm
     refine DW.seq (RK hnt (nn 4 []) [(6, rr 1048), (7, pI r7)] [(c83e1)] trivial (by kernel_rfl) ?_)
     refine DW.conv (τ := mkSt [(6, rr 1048), (7, pI r7)] [(c83e2), (100000, ob0 (roNode [])), (100001, ob0 (roTask []))]) (Conv.trans (τ := mkSt [(6, rr 1048), (7, pI r7)] ((100000, ⟨0, .row 6 0 (elems encNode dNode [])⟩) :: [(c83e3)])) (Conv.adopt 100000 6 (elems encNode dNode []) rfl rfl (.rfl _) (.box (.cons (.nil _ _) (.cons (.rfl _) (.cons (.rfl _) (.cons (.rfl _) (.rfl _))))) (.rfl _))) (Conv.trans (τ := mkSt [(6, rr 1048), (7, pI r7)] [(c83e3), (100000, ob0 (roNode []))]) (Conv.tp [] [] (by kernel_rfl) .nil .nil) (Conv.trans (τ := mkSt [(6, rr 1048), (7, pI r7)] ((100001, ⟨0, .row 4 0 (elems encTask dTask [])⟩) :: [(c83e2), (100000, ob0 (roNode []))])) (Conv.adopt 100001 4 (elems encTask dTask []) rfl rfl (.rfl _) (.box (.cons (.rfl _) (.cons (.rfl _) (.cons (.nil _ _) (.cons (.rfl _) (.rfl _))))) (.keep (.rfl _)))) (Conv.trans (τ := mkSt [(6, rr 1048), (7, pI r7)] [(c83e2), (100000, ob0 (roNode [])), (100001, ob0 (roTask []))]) (Conv.tp [] [] (by kernel_rfl) .nil .nil) .refl)))) ?_
     refine DW.ret ?_
     obtain rfl := Option.some.inj hm
     refine retOK (bs' := [roNode [], roTask []]) [100000, 100001] (.tup [.agg [ow 0 0, pI 0, ow 1 0, pI 0], pI r7]) (by kernel_rfl) ?_ ?_
     · rfl
     · rfl
    ·
     intro h8
     replace hm := if_f h8 hm
     refine DW.skip ?_
     obtain ⟨r9, hr9, hm⟩ := bind_open hm
     refine DW.seq (RK hnt (nn 3 (.call 137 [] true (.p (.tup [vi r9.1, vb r9.2])) [] [] :: nn 5 [])) [(1, pI p1), (2, pI p2), (3, rr 1024), (6, rr 1048), (8, rr 1064), (11, pI r9.1)] [(c83e4 p0), (c83e1), (c83e5 r3)] (an (Domain_ref8Spec p0.tree p2 r9 hr9) trivial) (by kernel_rfl) ?_)
     obtain ⟨r10, hr10, hm⟩ := bind_open hm
     refine DW.seq (DW.seq (RK hnt (nn 4 (.call 137 [] true (.p (.tup [vi r10.1, vb r10.2])) [] [] :: nn 5 [])) [(1, pI p1), (2, pI p2), (3, rr 1024), (6, rr 1048), (11, pI r9.1), (13, pI r10.1)] [(c83e4 p0), (c83e1)] (an (Domain_ref8Spec p0.tree r3.1.group r10 hr10) trivial) (by kernel_rfl) ?_))
     refine DW.seq (RK hnt (nn 3 []) [(1, pI p1), (2, pI p2), (3, rr 1024), (6, rr 1048), (59, pB (r9.1 != r10.1))] [(c83e4 p0), (c83e1)] trivial (by kernel_rfl) ?_)
     refine DW.cond (r9.1 != r10.1) rfl rfl ?_ ?_
     ·
      intro h11
      replace hm := if_t h11 hm
      refine DW.seq (RK hnt (nn 3 []) [(6, rr 1048), (7, pI 9)] [(c83e1)] trivial (by kernel_rfl) ?_)
      refine DW.conv (τ := mkSt [(6, rr 1048), (7, pI 9)] [(c83e2), (100000, ob0 (roNode [])), (100001, ob0 (roTask []))]) (Conv.trans (τ := mkSt [(6, rr 1048), (7, pI 9)] ((100000, ⟨0, .row 6 0 (elems encNode dNode [])⟩) :: [(c83e3)])) (Conv.adopt 100000 6 (elems encNode dNode []) rfl rfl (.rfl _) (.box (.cons (.nil _ _) (.cons (.rfl _) (.cons (.rfl _) (.cons (.rfl _) (.rfl _))))) (.rfl _))) (Conv.trans (τ := mkSt [(6, rr 1048), (7, pI 9)] [(c83e3), (100000, ob0 (roNode []))]) (Conv.tp [] [] (by kernel_rfl) .nil .nil) (Conv.trans (τ := mkSt [(6, rr 1048), (7, pI 9)] ((100001, ⟨0, .row 4 0 (elems encTask dTask [])⟩) :: [(c83e2), (100000, ob0 (roNode []))])) (Conv.adopt 100001 4 (elems encTask dTask []) rfl rfl (.rfl _) (.box (.cons (.rfl _) (.cons (.rfl _) (.cons (.nil _ _) (.cons (.rfl _) (.rfl _))))) (.keep (.rfl _)))) (Conv.trans (τ := mkSt [(6, rr 1048), (7, pI 9)] [(c83e2), (100000, ob0 (roNode [])), (100001, ob0 (roTask []))]) (Conv.tp [] [] (by kernel_rfl) .nil .nil) .refl)))) ?_
      refine DW.ret ?_
      obtain rfl := Option.some.inj hm
      refine retOK (bs' := [roNode [], roTask []]) [100000, 100001] (.tup [.agg [ow 0 0, pI 0, ow 1 0, pI 0], pI 9]) (by kernel_rfl) ?_ ?_
      · rfl
      · rfl
     ·
      intro h11
      replace hm := if_f h11 hm
      refine DW.skip ?_
      obtain ⟨r12, hr12, hm⟩ := bind_open hm
      refine DW.seq (RK hnt (nn 3 (.call 70 [] true (.tup [.agg [ow 0 r12.1.tree.nodes.length, pI r12.1.tree.next, ow 1 r12.1.tasks.length, pI r12.1.next], pI r12.2]) [] [roNode r12.1.tree.nodes, roTask r12.1.tasks] :: nn 4 [])) [(6, rr 1048), (7, pI r12.2)] [(1048, bx [ow 1512 r12.1.tree.nodes.length, pI r12.1.tree.next, ow 1513 r12.1.tasks.length, pI r12.1.next]), (1512, ob0 (roNode r12.1.tree.nodes)), (1513, ob0 (roTask r12.1.tasks))] (an (Place_ref6Spec p0 p1 p2 r12 hr12) trivial) (by kernel_rfl) ?_)
      refine DW.ret ?_
      obtain rfl := Option.some.inj hm
      refine retOK (bs' := [roNode r12.1.tree.nodes, roTask r12.1.tasks]) [1512, 1513] (.tup [.agg [ow 0 r12.1.tree.nodes.length, pI r12.1.tree.next, ow 1 r12.1.tasks.length, pI r12.1.next], pI r12.2]) (by kernel_rfl) ?_ ?_
      · rfl
      · rfl
  ·
   rcases bt (!r3.2) with h4 | h4
   ·
    replace hm := if_t h4 hm
    refine RK hnt (nn 3 (sk 5 (pT :: []))) [(1, pI p1), (2, pI p2), (3, rr 1024), (6, rr 1048), (8, rr 1064), (33, pB true)] [(c83e4 p0), (c83e1), (c83e5 r3)] (an6 h4 trivial) (by kernel_rfl) ?_
    exact joinDone true hm .refl
   ·
    replace hm := if_f h4 hm
    obtain ⟨r5, hr5, hm⟩ := bind_open hm
    refine RK hnt (nn 6 (.call 88 [] true (pB r5) [] [] :: .no :: pF :: [])) [(1, pI p1), (2, pI p2), (3, rr 1024), (6, rr 1048), (8, rr 1064), (33, pB (!r5))] [(c83e4 p0), (c83e1), (c83e5 r3)] (an4 h4 (an (Has_ref5Spec p0.tree p2 r5 hr5) (an2 h4 trivial))) (by kernel_rfl) ?_
    exact joinDone (!r5) hm .refl

abbrev c68e1 : Nat × Obj := (1032, bx [.p (.sl .nil 0 0 (fun _ => [])), pI 0, .p (.sl .nil 0 0 (fun _ => [])), pI 0])
abbrev c68e2 (p0 : Hierarchy) (k1 : Nat) := (p0.tasks.getD k1 (default : Task))
abbrev c68e3 (p0 : Hierarchy) : Nat × Obj := (1016, bx (pm (encHierarchy p0)))
abbrev c68e4 : Nat × Obj := (1032, bx [ow 100000 0, pI 0, ow 100001 0, pI 0])
abbrev c68e5 (r5 : Tree) : Nat × Obj := (1208, ob0 (roNode r5.nodes))
abbrev c68e6 : Nat × Obj := (1032, bx [ow 100000 0, pI 0, .p (.sl .nil 0 0 (fun _ => [])), pI 0])
abbrev c68e7 (k1 : Nat) : Nat × MV := (9, pI ((k1 : Nat) : Int))
theorem Exit_ref6Spec (p0 : Hierarchy) (p1 : Int) (RES : Hierarchy × Int) (hm : Exit_ref6 p0 p1 = some RES) : Spec Tryz.prog 68 [.p (.agg (encHierarchy p0)), pI p1] [] (.tup [.agg [ow 0 RES.1.tree.nodes.length, pI RES.1.tree.next, ow 1 RES.1.tasks.length, pI RES.1.next], pI RES.2]) [] [roNode RES.1.tree.nodes, roTask RES.1.tasks] := by
 unfold Exit_ref6 at hm
 refine spec_of Tgood (T := Tt) Tryz.func68 (by decide) (c := _) rfl rfl (sl := [(0, .p (.agg (encHierarchy p0))), (1, pI p1)]) (ob := []) (Nat.le_of_ble_eq_true rfl) (Nat.le_of_ble_eq_true rfl) (by kernel_rfl) (by kernel_rfl) ?_
 intro cx hnt
 refine DW.start ?_
 refine DW.seq (RK hnt (nn 3 []) [(1, pI p1), (2, rr 1016), (4, rr 1032)] [(c68e3 p0), (c68e1)] trivial (by kernel_rfl) ?_)
 obtain ⟨r1, hr1, hm⟩ := bind_open hm
 refine DW.seq (DW.seq (RK hnt (.no :: .call 52 [] true (pB r1) [] [] :: .no :: []) [(1, pI p1), (2, rr 1016), (4, rr 1032), (13, pB (!r1))] [(c68e3 p0), (c68e1)] (an (Check_ref6Spec p0 r1 hr1) trivial) (by kernel_rfl) ?_))
 refine DW.cond (!r1) rfl rfl ?_ ?_
 ·
  intro h2
  replace hm := if_t h2 hm
  refine DW.seq (RK hnt (nn 3 []) [(4, rr 1032), (5, pI 1)] [(c68e1)] trivial (by kernel_rfl) ?_)
  refine DW.conv (τ := mkSt [(4, rr 1032), (5, pI 1)] [(c68e4), (100000, ob0 (roNode [])), (100001, ob0 (roTask []))]) (Conv.trans (τ := mkSt [(4, rr 1032), (5, pI 1)] ((100000, ⟨0, .row 6 0 (elems encNode dNode [])⟩) :: [(c68e6)])) (Conv.adopt 100000 6 (elems encNode dNode []) rfl rfl (.rfl _) (.box (.cons (.nil _ _) (.cons (.rfl _) (.cons (.rfl _) (.cons (.rfl _) (.rfl _))))) (.rfl _))) (Conv.trans (τ := mkSt [(4, rr 1032), (5, pI 1)] [(c68e6), (100000, ob0 (roNode []))]) (Conv.tp [] [] (by kernel_rfl) .nil .nil) (Conv.trans (τ := mkSt [(4, rr 1032), (5, pI 1)] ((100001, ⟨0, .row 4 0 (elems encTask dTask [])⟩) :: [(c68e4), (100000, ob0 (roNode []))])) (Conv.adopt 100001 4 (elems encTask dTask []) rfl rfl (.rfl _) (.box (.cons (.rfl _) (.cons (.rfl _) (.cons (.nil _ _) (.cons (.rfl _) (.rfl _))))) (.keep (.rfl _)))) (Conv.trans (τ := mkSt [(4, rr 1032), (5, pI 1)] [(c68e4), (100000, ob0 (roNode [])), (100001, ob0 (roTask []))]) (Conv.tp [] [] (by kernel_rfl) .nil .nil) .refl)))) ?_
  refine DW.ret ?_
  obtain rfl := Option.some.inj hm
  refine retOK (bs' := [roNode [], roTask []]) [100000, 100001] (.tup [.agg [ow 0 0, pI 0, ow 1 0, pI 0], pI 1]) (by kernel_rfl) ?_ ?_
  · rfl
  · rfl
 ·
  intro h2
  replace hm := if_f h2 hm
  refine DW.skip ?_
  obtain ⟨r3, hr3, hm⟩ := bind_open hm
  refine DW.seq (DW.seq (RK hnt (nn 2 (.call 53 [] true (.p (.tup [.agg (encTask r3.1), vb r3.2])) [] [] :: nn 6 [])) [(1, pI p1), (2, rr 1016), (4, rr 1032), (7, pB r3.2)] [(c68e3 p0), (c68e1)] (an (Find_ref6Spec p0 p1 r3 hr3) trivial) (by kernel_rfl) ?_))
  refine DW.seq (RK hnt (nn 2 []) [(1, pI p1), (2, rr 1016), (4, rr 1032), (22, pB (!r3.2))] [(c68e3 p0), (c68e1)] trivial (by kernel_rfl) ?_)
  refine DW.cond (!r3.2) rfl rfl ?_ ?_
  ·
   intro h4
   replace hm := if_t h4 hm
   refine DW.seq (RK hnt (nn 3 []) [(4, rr 1032), (5, pI 4)] [(c68e1)] trivial (by kernel_rfl) ?_)
   refine DW.conv (τ := mkSt [(4, rr 1032), (5, pI 4)] [(c68e4), (100000, ob0 (roNode [])), (100001, ob0 (roTask []))]) (Conv.trans (τ := mkSt [(4, rr 1032), (5, pI 4)] ((100000, ⟨0, .row 6 0 (elems encNode dNode [])⟩) :: [(c68e6)])) (Conv.adopt 100000 6 (elems encNode dNode []) rfl rfl (.rfl _) (.box (.cons (.nil _ _) (.cons (.rfl _) (.cons (.rfl _) (.cons (.rfl _) (.rfl _))))) (.rfl _))) (Conv.trans (τ := mkSt [(4, rr 1032), (5, pI 4)] [(c68e6), (100000, ob0 (roNode []))]) (Conv.tp [] [] (by kernel_rfl) .nil .nil) (Conv.trans (τ := mkSt [(4, rr 1032), (5, pI 4)] ((100001, ⟨0, .row 4 0 (elems encTask dTask [])⟩) :: [(c68e4), (100000, ob0 (roNode []))])) (Conv.adopt 100001 4 (elems encTask dTask []) rfl rfl (.rfl _) (.box (.cons (.rfl _) (.cons (.rfl _) (.cons (.nil _ _) (.cons (.rfl _) (.rfl _))))) (.keep (.rfl _)))) (Conv.trans (τ := mkSt [(4, rr 1032), (5, pI 4)] [(c68e4), (100000, ob0 (roNode [])), (100001, ob0 (roTask []))]) (Conv.tp [] [] (by kernel_rfl) .nil .nil) .refl)))) ?_
   refine DW.ret ?_
   obtain rfl := Option.some.inj hm
   refine retOK (bs' := [roNode [], roTask []]) [100000, 100001] (.tup [.agg [ow 0 0, pI 0, ow 1 0, pI 0], pI 4]) (by kernel_rfl) ?_ ?_
   · rfl
   · rfl
  ·
   intro h4
   replace hm := if_f h4 hm
   refine DW.skip ?_
   obtain ⟨r5, hr5, hm⟩ := bind_open hm
   refine DW.seq (RK hnt (nn 2 (.call 122 [] true (.agg [ow 0 r5.nodes.length, pI r5.next]) [] [roNode r5.nodes] :: nn 5 [])) [(1, pI p1), (2, rr 1016), (4, rr 1032), (8, rr 1064)] [(c68e3 p0), (c68e1), (1064, bx [ow 1208 r5.nodes.length, pI r5.next, .p (.sl .nil 0 0 (fun _ => [])), pI p0.next]), (c68e5 r5)] (an (Copy_ref5Spec p0.tree r5 hr5) trivial) (by kernel_rfl) ?_)
   refine DW.seq (DW.seq (RK hnt (.no :: []) [(1, pI p1), (2, rr 1016), (4, rr 1032), (8, rr 1064), (9, pI 0)] [(c68e3 p0), (c68e1), (1064, bx [ow 1208 r5.nodes.length, pI r5.next, .p (.sl .nil 0 0 (fun _ => [])), pI p0.next]), (c68e5 r5)] trivial (by kernel_rfl) ?_))
   refine DW.block ?_
   obtain ⟨hc1, hm⟩ := guard_open hm
   refine DW.rangeO (fun (k1 : Nat) (s1 : List Task) => mkSt [(1, pI p1), (2, rr 1016), (4, rr 1032), (8, rr 1064), (c68e7 k1)] [(c68e3 p0), (c68e1), (1064, bx [ow 1208 r5.nodes.length, pI r5.next, ow 1448 s1.length, pI p0.next]), (c68e5 r5), (1448, ob0 (roTask s1))]) dTask hm (Conv.trans (τ := mkSt [(1, pI p1), (2, rr 1016), (4, rr 1032), (8, rr 1064), (9, pI 0)] ((1448, ⟨0, .row 4 0 (elems encTask dTask [])⟩) :: [(c68e3 p0), (c68e1), (1064, bx [ow 1208 r5.nodes.length, pI r5.next, ow 1448 0, pI p0.next]), (c68e5 r5)])) (Conv.adopt 1448 4 (elems encTask dTask []) rfl rfl (.rfl _) (.keep (.keep (.box (.cons (.rfl _) (.cons (.rfl _) (.cons (.nil _ _) (.cons (.rfl _) (.rfl _))))) (.keep (.rfl _)))))) (Conv.trans (τ := mkSt [(1, pI p1), (2, rr 1016), (4, rr 1032), (8, rr 1064), (9, pI 0)] [(c68e3 p0), (c68e1), (1064, bx [ow 1208 r5.nodes.length, pI r5.next, ow 1448 0, pI p0.next]), (c68e5 r5), (1448, ob0 (roTask []))]) (Conv.tp [] [] (by kernel_rfl) .nil .nil) .refl)) ?_
   intro k1 s1 n1 hk1 hs1 he1
   refine DW.seq (DW.seq (RK hnt (nn 5 []) [(1, pI p1), (2, rr 1016), (4, rr 1032), (8, rr 1064), (c68e7 k1), (34, pB (decide (((k1 : Nat) : Int) < ((p0.tasks.length : Nat) : Int))))] [(c68e3 p0), (c68e1), (1064, bx [ow 1208 r5.nodes.length, pI r5.next, ow 1448 s1.length, pI p0.next]), (c68e5 r5), (1448, ob0 (roTask s1))] trivial (by kernel_rfl) ?_))
   refine DW.cond (decide (((k1 : Nat) : Int) < ((p0.tasks.length : Nat) : Int))) rfl rfl ?_ ?_
   ·
    intro h15
    have hlt1 : k1 < p0.tasks.length := by have := of_decide_eq_true h15; omega
    have hm := hs1 hlt1
    unfold Exit_ref6L1 at hm
    refine DW.skip ?_
    refine DW.seq ?_
    refine DW.join (ι := List Task) (fun (y3 : List Task) => mkSt [(1, pI p1), (2, rr 1016), (4, rr 1032), (8, rr 1064), (c68e7 k1)] [(c68e3 p0), (c68e1), (1064, bx [ow 1208 r5.nodes.length, pI r5.next, ow 1448 y3.length, pI p0.next]), (c68e5 r5), (1448, ob0 (roTask y3))]) (fun y3 => (Exit_ref6J3 n1) y3 = some RES) ?_ ?_
    ·
     intro y3 hm
     unfold Exit_ref6J3 at hm
     refine RK hnt (nn 3 []) [(1, pI p1), (2, rr 1016), (4, rr 1032), (8, rr 1064), (9, pI (w64 (((k1 : Nat) : Int) + 1)))] [(c68e3 p0), (c68e1), (1064, bx [ow 1208 r5.nodes.length, pI r5.next, ow 1448 y3.length, pI p0.next]), (c68e5 r5), (1448, ob0 (roTask y3))] trivial (by kernel_rfl) ?_
     exact joinDone y3 ⟨hlt1, hm⟩ (Conv.tp [(9, pI (w64 (((k1 : Nat) : Int) + 1)))] [] (by kernel_rfl) (.cons rfl (.of_eq (congrArg pI (w64_succ hlt1 hc1))) .nil) .nil)
    ·
     refine DW.block ?_
     refine DW.seq (RK hnt (nn 7 []) [(1, pI p1), (2, rr 1016), (4, rr 1032), (8, rr 1064), (c68e7 k1), (10, rr 1080)] [(c68e3 p0), (c68e1), (1064, bx [ow 1208 r5.nodes.length, pI r5.next, ow 1448 s1.length, pI p0.next]), (1080, bx (pm (encTask (c68e2 p0 k1)))), (c68e5 r5), (1448, ob0 (roTask s1))] (an (nn0 k1) (an (ltc hlt1) trivial)) (by kernel_rfl) ?_)
     refine DW.seq (DW.regJ (sl2 := [(1, pI p1), (2, rr 1016), (4, rr 1032), (8, rr 1064), (c68e7 k1), (10, rr 1080), (51, pB (((c68e2 p0 k1).id != p1) && ((c68e2 p0 k1).process != p1)))]) (ob2 := [(c68e3 p0), (c68e1), (1064, bx [ow 1208 r5.nodes.length, pI r5.next, ow 1448 s1.length, pI p0.next]), (1080, bx (pm (encTask (c68e2 p0 k1)))), (c68e5 r5), (1448, ob0 (roTask s1))]) ?_ ?_)
     ·
      rcases bt ((c68e2 p0 k1).id != p1) with h16 | h16
      ·
       exact RT hnt (nn 9 (pT :: [])) [(51, pB ((c68e2 p0 k1).process != p1))] (an5 h16 trivial) (by kernel_rfl) (.cons rfl (.of_eq (by rw [h16]; try rfl)) .nil)
      ·
       exact RT hnt (nn 5 (sk 4 (pF :: []))) [(51, pB false)] (an5 h16 trivial) (by kernel_rfl) (.cons rfl (.of_eq (by rw [h16]; try rfl)) .nil)
     ·
      refine DW.cond (((c68e2 p0 k1).id != p1) && ((c68e2 p0 k1).process != p1)) rfl rfl ?_ ?_
      ·
       intro h17
       replace hm := if_t h17 hm
       obtain ⟨g18, hm⟩ := guard_open hm
       refine RN hnt (nn 7 []) [(1, pI p1), (2, rr 1016), (4, rr 1032), (8, rr 1064), (c68e7 k1)] [(c68e3 p0), (c68e1), (1064, bx [ow 1208 r5.nodes.length, pI r5.next, ow 1448 (s1 ++ [(c68e2 p0 k1)]).length, pI p0.next]), (c68e5 r5), (1448, ob0 (roTask (s1 ++ [(c68e2 p0 k1)])))] [] [(1064, .box [ow 1208 r5.nodes.length, pI r5.next, ow 1448 (s1.length + 1), pI p0.next]), (1448, .row 4 (s1.length + 1) (catF s1.length (elTask s1) (cut 4 [vi (c68e2 p0 k1).id, vi (c68e2 p0 k1).process, vi (c68e2 p0 k1).group, vi (c68e2 p0 k1).user])))] (an (by omega : (s1.length + 1) * 32 ≤ 140737488355328) trivial) (by kernel_rfl) .nil (.cons rfl (.box (.cons .rfl (.cons .rfl (.cons (MLe.ownLen (enc := encTask) (d := dTask) (f := (catF s1.length (elTask s1) (cut 4 [vi (c68e2 p0 k1).id, vi (c68e2 p0 k1).process, vi (c68e2 p0 k1).group, vi (c68e2 p0 k1).user]))) (RowIs.cat RowIs.elems (RowIs.lit (enc := encTask) (d := dTask) (n := 1) (f := (cut 4 [vi (c68e2 p0 k1).id, vi (c68e2 p0 k1).process, vi (c68e2 p0 k1).group, vi (c68e2 p0 k1).user])) [(c68e2 p0 k1)] rfl (fun | 0, _ => rfl | n + 1, h => absurd h (by omega))))) (.cons .rfl .nil))))) (.cons rfl (BLe.typed (RowIs.cat RowIs.elems (RowIs.lit (enc := encTask) (d := dTask) (n := 1) (f := (cut 4 [vi (c68e2 p0 k1).id, vi (c68e2 p0 k1).process, vi (c68e2 p0 k1).group, vi (c68e2 p0 k1).user])) [(c68e2 p0 k1)] rfl (fun | 0, _ => rfl | n + 1, h => absurd h (by omega))))) .nil)) ?_
       exact blockDone (s1 ++ [(c68e2 p0 k1)]) hm .refl
      ·
       intro h17
       replace hm := if_f h17 hm
       refine DW.skip ?_
       exact blockDone s1 hm (Conv.tp [] [] (by kernel_rfl) .nil .nil)
   ·
    intro h15
    have hge1 : ¬ k1 < p0.tasks.length := by have := of_decide_eq_false h15; omega
    have hm := he1 hge1
    unfold Exit_ref6D1 at hm
    refine DW.exit ?_
    refine joinQ_exit ?_
    refine KQ_exit ?_
    refine blockQ_exit ?_
    show DW _ _ _ _ _
    refine DW.seq (RK hnt (nn 3 []) [(4, rr 1032), (5, pI 0)] [(1032, bx [ow 1208 r5.nodes.length, pI r5.next, ow 1448 s1.length, pI p0.next]), (c68e5 r5), (1448, ob0 (roTask s1))] trivial (by kernel_rfl) ?_)
    refine DW.ret ?_
    obtain rfl := Option.some.inj hm
    refine retOK (bs' := [roNode r5.nodes, roTask s1]) [1208, 1448] (.tup [.agg [ow 0 r5.nodes.length, pI r5.next, ow 1 s1.length, pI p0.next], pI 0]) (by kernel_rfl) ?_ ?_
    · rfl
    · rfl

abbrev c17e1 : Nat × Obj := (1048, bx [.p (.sl .nil 0 0 (fun _ => [])), pI 0, .p (.sl .nil 0 0 (fun _ => [])), pI 0])
abbrev c17e2 (r103 : Hierarchy × Int) : Nat × Obj := (1152, bx [ow 1824 r103.1.tree.nodes.length, pI r103.1.tree.next, ow 1825 r103.1.tasks.length, pI r103.1.next])
abbrev c17e3 (r98 : Hierarchy × Int) : Nat × Obj := (1136, bx [ow 1720 r98.1.tree.nodes.length, pI r98.1.tree.next, ow 1721 r98.1.tasks.length, pI r98.1.next])
abbrev c17e4 (r87 : Hierarchy × Int × Int) : Nat × Obj := (1088, bx [ow 1464 r87.1.tree.nodes.length, pI r87.1.tree.next, ow 1465 r87.1.tasks.length, pI r87.1.next])
abbrev c17e5 (r92 : Hierarchy × Int × Int) : Nat × Obj := (1112, bx [ow 1576 r92.1.tree.nodes.length, pI r92.1.tree.next, ow 1577 r92.1.tasks.length, pI r92.1.next])
theorem Hierarchy_Dice_madeSpec (p0 : Dice) (p1 : Int) (p2 : Int) (RES : Hierarchy × Dice) (hm : Hierarchy_Dice_made p0 p1 p2 = some RES) : Spec Tryz.prog 17 [rr 0, pI p1, pI p2] [.box (pm (encDice p0))] (.p (.agg (encHierarchy RES.1))) [.box (pm (encDice RES.2))] [] := by
 unfold Hierarchy_Dice_made at hm
 refine spec_of Tgood (T := Tt) Tryz.func17 (by decide) (c := _) rfl rfl (sl := [(0, rr 0), (1, pI p1), (2, pI p2)]) (ob := [(0, bx (pm (encDice p0)))]) (Nat.le_of_ble_eq_true rfl) (Nat.le_of_ble_eq_true rfl) (by kernel_rfl) (by kernel_rfl) ?_
 intro cx hnt
 refine DW.start ?_
 refine DW.seq (RK hnt (.no :: []) [(0, rr 0), (1, pI p1), (2, pI p2), (6, rr 1048)] [(0, bx (pm (encDice p0))), (c17e1)] trivial (by kernel_rfl) ?_)
 obtain ⟨r1, hr1, hm⟩ := bind_open hm
 refine DW.seq (RK hnt (.call 64 [] true (.agg [ow 0 r1.tree.nodes.length, pI r1.tree.next, ow 1 r1.tasks.length, pI r1.next]) [] [roNode r1.tree.nodes, roTask r1.tasks] :: nn 2 []) [(0, rr 0), (1, pI p1), (2, pI p2), (6, rr 1048), (7, rr 1056)] [(0, bx (pm (encDice p0))), (c17e1), (1056, bx [ow 1168 r1.tree.nodes.length, pI r1.tree.next, ow 1169 r1.tasks.length, pI r1.next]), (1168, ob0 (roNode r1.tree.nodes)), (1169, ob0 (roTask r1.tasks))] (an (New_ref6Spec r1 hr1) trivial) (by kernel_rfl) ?_)
 obtain ⟨r2, hr2, hm⟩ := bind_open hm
 refine DW.seq (RK hnt (nn 2 (.call 80 [0] true (.p (.agg (encTree r2.1))) [.box (pm (encDice r2.2))] [] :: nn 2 [])) [(0, rr 0), (1, pI p1), (2, pI p2), (6, rr 1048), (7, rr 1056)] [(0, bx (pm (encDice r2.2))), (c17e1), (1056, bx [.p (slNode r2.1.nodes), pI r2.1.next, ow 1169 r1.tasks.length, pI r1.next]), (1169, ob0 (roTask r1.tasks))] (an (Tree_Dice_madeSpec p0 p1 r2 hr2) (an trivial trivial)) (by kernel_rfl) ?_)
 obtain ⟨r3, hr3, hm⟩ := bind_open hm
 refine DW.seq (DW.seq (RK hnt (nn 3 (.call 19 [0] true (pI r3.1) [.box (pm (encDice r3.2))] [] :: .no :: [])) [(0, rr 0), (2, pI p2), (6, rr 1048), (7, rr 1056), (8, pI r3.1)] [(0, bx (pm (encDice r3.2))), (c17e1), (1056, bx [.p (slNode r2.1.nodes), pI r2.1.next, ow 1169 r1.tasks.length, pI r1.next]), (1169, ob0 (roTask r1.tasks))] (an (Next_Dice_madeSpec r2.2 (w64 (p1 + 3)) r3 hr3) (an trivial trivial)) (by kernel_rfl) ?_))
 refine DW.block ?_
 refine DW.whileO (fun (s1 : Dice × Hierarchy × Int) => mkSt [(0, rr 0), (2, pI p2), (6, rr 1048), (7, rr 1056), (8, pI s1.2.2)] [(0, bx (pm (encDice s1.1))), (c17e1), (1056, bx (pm (encHierarchy s1.2.1)))]) hm (Conv.trans (τ := mkSt [(0, rr 0), (2, pI p2), (6, rr 1048), (7, rr 1056), (8, pI r3.1)] [(0, bx (pm (encDice r3.2))), (c17e1), (1056, bx [.p (slNode r2.1.nodes), pI r2.1.next, .p (slTask r1.tasks), pI r1.next])]) (Conv.freezes [1169] (by kernel_rfl)) .refl) ?_
 intro s1 n1 hm
 unfold Hierarchy_Dice_madeL1 at hm
 refine DW.seq (DW.seq (RK hnt (nn 2 []) [(0, rr 0), (2, pI p2), (6, rr 1048), (7, rr 1056), (8, pI s1.2.2), (31, pB (decide (s1.2.2 > 0)))] [(0, bx (pm (encDice s1.1))), (c17e1), (1056, bx (pm (encHierarchy s1.2.1)))] trivial (by kernel_rfl) ?_))
 refine DW.cond (decide (s1.2.2 > 0)) rfl rfl ?_ ?_
 ·
  intro h56
  replace hm := if_t h56 hm
  refine DW.skip ?_
  refine DW.seq (DW.block ?_)
  obtain ⟨r57, hr57, hm⟩ := bind_open hm
  refine RK hnt (nn 2 (.call 81 [0] true (.p (.agg (encHierarchy r57.1))) [.box (pm (encDice r57.2))] [] :: .no :: [])) [(0, rr 0), (2, pI p2), (6, rr 1048), (7, rr 1056), (8, pI s1.2.2)] [(0, bx (pm (encDice r57.2))), (c17e1), (1056, bx (pm (encHierarchy r57.1)))] (an (step_Dice_madeSpec s1.1 s1.2.1 r57 hr57) (an trivial trivial)) (by kernel_rfl) ?_
  refine DW.done ?_
  show DW _ _ _ _ _
  refine RK hnt (nn 3 []) [(0, rr 0), (2, pI p2), (6, rr 1048), (7, rr 1056), (8, pI (w64 (s1.2.2 - 1)))] [(0, bx (pm (encDice r57.2))), (c17e1), (1056, bx (pm (encHierarchy r57.1)))] trivial (by kernel_rfl) ?_
  exact joinDone (r57.2, r57.1, (w64 (s1.2.2 - 1))) hm .refl
 ·
  intro h56
  replace hm := if_f h56 hm
  refine DW.exit ?_
  refine joinQ_exit ?_
  refine KQ_exit ?_
  refine blockQ_exit ?_
  show DW _ _ _ _ _
  obtain ⟨r58, hr58, hm⟩ := bind_open hm
  refine DW.seq (DW.seq (RK hnt (nn 3 (.call 19 [0] true (pI r58.1) [.box (pm (encDice r58.2))] [] :: .no :: [])) [(0, rr 0), (6, rr 1048), (7, rr 1056), (9, pI r58.1)] [(0, bx (pm (encDice r58.2))), (c17e1), (1056, bx (pm (encHierarchy s1.2.1)))] (an (Next_Dice_madeSpec s1.1 (w64 (p2 + 1)) r58 hr58) (an trivial trivial)) (by kernel_rfl) ?_))
  refine DW.block ?_
  refine DW.whileO (fun (s3 : Dice × Hierarchy × Int) => mkSt [(0, rr 0), (6, rr 1048), (7, rr 1056), (9, pI s3.2.2)] [(0, bx (pm (encDice s3.1))), (c17e1), (1056, bx (pm (encHierarchy s3.2.1)))]) hm .refl ?_
  intro s3 n3 hm
  unfold Hierarchy_Dice_madeL3 at hm
  refine DW.seq (DW.seq (RK hnt (nn 2 []) [(0, rr 0), (6, rr 1048), (7, rr 1056), (9, pI s3.2.2), (42, pB (decide (s3.2.2 > 0)))] [(0, bx (pm (encDice s3.1))), (c17e1), (1056, bx (pm (encHierarchy s3.2.1)))] trivial (by kernel_rfl) ?_))
  refine DW.cond (decide (s3.2.2 > 0)) rfl rfl ?_ ?_
  ·
   intro h82
   replace hm := if_t h82 hm
   refine DW.skip ?_
   refine DW.seq ?_
   refine DW.join (ι := Dice × Hierarchy) (fun (y13 : Dice × Hierarchy) => mkSt [(0, rr 0), (6, rr 1048), (7, rr 1056), (9, pI s3.2.2)] [(0, bx (pm (encDice y13.1))), (c17e1), (1056, bx (pm (encHierarchy y13.2)))]) (fun y13 => (Hierarchy_Dice_madeJ13 s3 n3) y13 = some RES) ?_ ?_
   ·
    intro y13 hm
    unfold Hierarchy_Dice_madeJ13 at hm
    refine RK hnt (nn 3 []) [(0, rr 0), (6, rr 1048), (7, rr 1056), (9, pI (w64 (s3.2.2 - 1)))] [(0, bx (pm (encDice y13.1))), (c17e1), (1056, bx (pm (encHierarchy y13.2)))] trivial (by kernel_rfl) ?_
    exact joinDone (y13.1, y13.2, (w64 (s3.2.2 - 1))) hm .refl
   ·
    refine DW.block ?_
    obtain ⟨r83, hr83, hm⟩ := bind_open hm
    refine DW.seq (RK hnt (nn 3 (.call 33 [0] true (pI r83.1) [.box (pm (encDice r83.2))] [] :: .no :: [])) [(0, rr 0), (6, rr 1048), (7, rr 1056), (9, pI s3.2.2), (10, pI r83.1)] [(0, bx (pm (encDice r83.2))), (c17e1), (1056, bx (pm (encHierarchy s3.2.1)))] (an (Group_Dice_madeSpec s3.1 s3.2.1.tree r83 hr83) (an trivial trivial)) (by kernel_rfl) ?_)
    obtain ⟨r84, hr84, hm⟩ := bind_open hm
    refine DW.seq (DW.seq (RK hnt (nn 2 (.call 82 [] true (pI r84) [] [] :: .no :: [])) [(0, rr 0), (6, rr 1048), (7, rr 1056), (9, pI s3.2.2), (10, pI r83.1), (52, pB (r84 != 0))] [(0, bx (pm (encDice r83.2))), (c17e1), (1056, bx (pm (encHierarchy s3.2.1)))] (an (Admits_ref8Spec s3.2.1 r83.1 r84 hr84) trivial) (by kernel_rfl) ?_))
    refine DW.cond (r84 != 0) rfl rfl ?_ ?_
    ·
     intro h85
     replace hm := if_t h85 hm
     refine DW.exit ?_
     exact blockQ_exit (joinKQ (r83.2, s3.2.1) hm (Conv.tp [] [] (by kernel_rfl) .nil .nil))
    ·
     intro h85
     replace hm := if_f h85 hm
     refine DW.skip ?_
     obtain ⟨r86, hr86, hm⟩ := bind_open hm
     obtain ⟨r87, hr87, hm⟩ := bind_open hm
     refine DW.seq (DW.seq (RK hnt (nn 3 (.call 19 [0] true (pI r86.1) [.box (pm (encDice r86.2))] [] :: .call 66 [] true (.tup [.agg [ow 0 r87.1.tree.nodes.length, pI r87.1.tree.next, ow 1 r87.1.tasks.length, pI r87.1.next], pI r87.2.1, pI r87.2.2]) [] [roNode r87.1.tree.nodes, roTask r87.1.tasks] :: nn 8 [])) [(0, rr 0), (6, rr 1048), (7, rr 1056), (9, pI s3.2.2), (11, rr 1088), (13, pI r87.2.2)] [(0, bx (pm (encDice r86.2))), (c17e1), (1056, bx (pm (encHierarchy s3.2.1))), (c17e4 r87), (1464, ob0 (roNode r87.1.tree.nodes)), (1465, ob0 (roTask r87.1.tasks))] (an (Next_Dice_madeSpec r83.2 3 r86 hr86) (an trivial (an (Spawn_ref6Spec s3.2.1 r83.1 r86.1 r87 hr87) trivial))) (by kernel_rfl) ?_))
     refine DW.seq (RK hnt (nn 2 []) [(0, rr 0), (6, rr 1048), (7, rr 1056), (9, pI s3.2.2), (11, rr 1088), (63, pB (r87.2.2 == 0))] [(0, bx (pm (encDice r86.2))), (c17e1), (1056, bx (pm (encHierarchy s3.2.1))), (c17e4 r87), (1464, ob0 (roNode r87.1.tree.nodes)), (1465, ob0 (roTask r87.1.tasks))] trivial (by kernel_rfl) ?_)
     refine DW.join (ι := Hierarchy) (fun (y14 : Hierarchy) => mkSt [(0, rr 0), (6, rr 1048), (7, rr 1056), (9, pI s3.2.2)] [(0, bx (pm (encDice r86.2))), (c17e1), (1056, bx (pm (encHierarchy y14)))]) (fun y14 => (Hierarchy_Dice_madeJ14 s3 n3 r86) y14 = some RES) ?_ ?_
     ·
      intro y14 hm
      unfold Hierarchy_Dice_madeJ14 at hm
      obtain ⟨r89, hr89, hm⟩ := bind_open hm
      refine DW.seq (DW.seq (RK hnt (.no :: .call 77 [0] true (pB r89.1) [.box (pm (encDice r89.2))] [] :: []) [(0, rr 0), (6, rr 1048), (7, rr 1056), (9, pI s3.2.2), (66, pB r89.1)] [(0, bx (pm (encDice r89.2))), (c17e1), (1056, bx (pm (encHierarchy y14)))] (an (Bool_Dice_madeSpec r86.2 3 r89 hr89) (an trivial trivial)) (by kernel_rfl) ?_))
      refine DW.join (ι := Dice × Hierarchy) (fun (y15 : Dice × Hierarchy) => mkSt [(0, rr 0), (6, rr 1048), (7, rr 1056), (9, pI s3.2.2)] [(0, bx (pm (encDice y15.1))), (c17e1), (1056, bx (pm (encHierarchy y15.2)))]) (fun y15 => (Hierarchy_Dice_madeJ15 s3 n3) y15 = some RES) ?_ ?_
      ·
       intro y15 hm
       unfold Hierarchy_Dice_madeJ15 at hm
       obtain ⟨r94, hr94, hm⟩ := bind_open hm
       refine DW.seq (DW.seq (RK hnt (.no :: .call 77 [0] true (pB r94.1) [.box (pm (encDice r94.2))] [] :: []) [(0, rr 0), (6, rr 1048), (7, rr 1056), (9, pI s3.2.2), (80, pB r94.1)] [(0, bx (pm (encDice r94.2))), (c17e1), (1056, bx (pm (encHierarchy y15.2)))] (an (Bool_Dice_madeSpec y15.1 4 r94 hr94) (an trivial trivial)) (by kernel_rfl) ?_))
       refine DW.join (ι := Dice × Hierarchy) (fun (y16 : Dice × Hierarchy) => mkSt [(0, rr 0), (6, rr 1048), (7, rr 1056), (9, pI s3.2.2)] [(0, bx (pm (encDice y16.1))), (c17e1), (1056, bx (pm (encHierarchy y16.2)))]) (fun y16 => (Hierarchy_Dice_madeJ16 s3 n3) y16 = some RES) ?_ ?_
       ·
        intro y16 hm
        unfold Hierarchy_Dice_madeJ16 at hm
        obtain ⟨r100, hr100, hm⟩ := bind_open hm
        refine DW.seq (RK hnt (.no :: .call 77 [0] true (pB r100.1) [.box (pm (encDice r100.2))] [] :: []) [(0, rr 0), (6, rr 1048), (7, rr 1056), (9, pI s3.2.2), (97, pB r100.1)] [(0, bx (pm (encDice r100.2))), (c17e1), (1056, bx (pm (encHierarchy y16.2)))] (an (Bool_Dice_madeSpec y16.1 8 r100 hr100) (an trivial trivial)) (by kernel_rfl) ?_)
        refine DW.cond r100.1 rfl rfl ?_ ?_
        ·
         intro h101
         replace hm := if_t h101 hm
         obtain ⟨r102, hr102, hm⟩ := bind_open hm
         obtain ⟨r103, hr103, hm⟩ := bind_open hm
         refine DW.seq (RK hnt (nn 3 (.call 47 [0] true (pI r102.1) [.box (pm (encDice r102.2))] [] :: .call 68 [] true (.tup [.agg [ow 0 r103.1.tree.nodes.length, pI r103.1.tree.next, ow 1 r103.1.tasks.length, pI r103.1.next], pI r103.2]) [] [roNode r103.1.tree.nodes, roTask r103.1.tasks] :: nn 6 [])) [(0, rr 0), (6, rr 1048), (7, rr 1056), (9, pI s3.2.2), (19, rr 1152), (20, pI r103.2)] [(0, bx (pm (encDice r102.2))), (c17e1), (1056, bx (pm (encHierarchy y16.2))), (c17e2 r103), (1824, ob0 (roNode r103.1.tree.nodes)), (1825, ob0 (roTask r103.1.tasks))] (an (Task_Dice_madeSpec r100.2 y16.2 r102 hr102) (an trivial (an (Exit_ref6Spec y16.2 r102.1 r103 hr103) trivial))) (by kernel_rfl) ?_)
         refine DW.seq (RK hnt (nn 2 []) [(0, rr 0), (6, rr 1048), (7, rr 1056), (9, pI s3.2.2), (19, rr 1152), (107, pB (r103.2 == 0))] [(0, bx (pm (encDice r102.2))), (c17e1), (1056, bx (pm (encHierarchy y16.2))), (c17e2 r103), (1824, ob0 (roNode r103.1.tree.nodes)), (1825, ob0 (roTask r103.1.tasks))] trivial (by kernel_rfl) ?_)
         refine DW.cond (r103.2 == 0) rfl rfl ?_ ?_
         ·
          intro h104
          replace hm := if_t h104 hm
          refine RK hnt (nn 2 []) [(0, rr 0), (6, rr 1048), (7, rr 1056), (9, pI s3.2.2)] [(0, bx (pm (encDice r102.2))), (c17e1), (1056, bx [ow 1824 r103.1.tree.nodes.length, pI r103.1.tree.next, ow 1825 r103.1.tasks.length, pI r103.1.next]), (1824, ob0 (roNode r103.1.tree.nodes)), (1825, ob0 (roTask r103.1.tasks))] trivial (by kernel_rfl) ?_
          exact blockDone (r102.2, r103.1) hm (Conv.trans (τ := mkSt [(0, rr 0), (6, rr 1048), (7, rr 1056), (9, pI s3.2.2)] [(0, bx (pm (encDice r102.2))), (c17e1), (1056, bx (pm (encHierarchy r103.1)))]) (Conv.freezes [1824, 1825] (by kernel_rfl)) .refl)
         ·
          intro h104
          replace hm := if_f h104 hm
          refine DW.skip ?_
          exact blockDone (r102.2, y16.2) hm (Conv.tp [] [] (by kernel_rfl) .nil .nil)
        ·
         intro h101
         replace hm := if_f h101 hm
         refine DW.skip ?_
         exact blockDone (r100.2, y16.2) hm (Conv.tp [] [] (by kernel_rfl) .nil .nil)
       ·
        refine DW.cond r94.1 rfl rfl ?_ ?_
        ·
         intro h95
         replace hm := if_t h95 hm
         obtain ⟨r96, hr96, hm⟩ := bind_open hm
         obtain ⟨r97, hr97, hm⟩ := bind_open hm
         obtain ⟨r98, hr98, hm⟩ := bind_open hm
         refine DW.seq (RK hnt (nn 3 (.call 47 [0] true (pI r96.1) [.box (pm (encDice r96.2))] [] :: nn 3 (.call 33 [0] true (pI r97.1) [.box (pm (encDice r97.2))] [] :: .call 83 [] true (.tup [.agg [ow 0 r98.1.tree.nodes.length, pI r98.1.tree.next, ow 1 r98.1.tasks.length, pI r98.1.next], pI r98.2]) [] [roNode r98.1.tree.nodes, roTask r98.1.tasks] :: nn 6 []))) [(0, rr 0), (6, rr 1048), (7, rr 1056), (9, pI s3.2.2), (17, rr 1136), (18, pI r98.2)] [(0, bx (pm (encDice r97.2))), (c17e1), (1056, bx (pm (encHierarchy y15.2))), (c17e3 r98), (1720, ob0 (roNode r98.1.tree.nodes)), (1721, ob0 (roTask r98.1.tasks))] (an (Task_Dice_madeSpec r94.2 y15.2 r96 hr96) (an trivial (an (Group_Dice_madeSpec r96.2 y15.2.tree r97 hr97) (an trivial (an (AttachThread_ref8Spec y15.2 r96.1 r97.1 r98 hr98) trivial))))) (by kernel_rfl) ?_)
         refine DW.seq (RK hnt (nn 2 []) [(0, rr 0), (6, rr 1048), (7, rr 1056), (9, pI s3.2.2), (17, rr 1136), (94, pB (r98.2 == 0))] [(0, bx (pm (encDice r97.2))), (c17e1), (1056, bx (pm (encHierarchy y15.2))), (c17e3 r98), (1720, ob0 (roNode r98.1.tree.nodes)), (1721, ob0 (roTask r98.1.tasks))] trivial (by kernel_rfl) ?_)
         refine DW.cond (r98.2 == 0) rfl rfl ?_ ?_
         ·
          intro h99
          replace hm := if_t h99 hm
          refine RK hnt (nn 2 []) [(0, rr 0), (6, rr 1048), (7, rr 1056), (9, pI s3.2.2)] [(0, bx (pm (encDice r97.2))), (c17e1), (1056, bx [ow 1720 r98.1.tree.nodes.length, pI r98.1.tree.next, ow 1721 r98.1.tasks.length, pI r98.1.next]), (1720, ob0 (roNode r98.1.tree.nodes)), (1721, ob0 (roTask r98.1.tasks))] trivial (by kernel_rfl) ?_
          exact joinDone (r97.2, r98.1) hm (Conv.trans (τ := mkSt [(0, rr 0), (6, rr 1048), (7, rr 1056), (9, pI s3.2.2)] [(0, bx (pm (encDice r97.2))), (c17e1), (1056, bx (pm (encHierarchy r98.1)))]) (Conv.freezes [1720, 1721] (by kernel_rfl)) .refl)
         ·
          intro h99
          replace hm := if_f h99 hm
          refine DW.skip ?_
          exact joinDone (r97.2, y15.2) hm (Conv.tp [] [] (by kernel_rfl) .nil .nil)
        ·
         intro h95
         replace hm := if_f h95 hm
         refine DW.skip ?_
         exact joinDone (r94.2, y15.2) hm (Conv.tp [] [] (by kernel_rfl) .nil .nil)
      ·
       refine DW.cond r89.1 rfl rfl ?_ ?_
       ·
        intro h90
        replace hm := if_t h90 hm
        obtain ⟨r91, hr91, hm⟩ := bind_open hm
        obtain ⟨r92, hr92, hm⟩ := bind_open hm
        refine DW.seq (RK hnt (nn 3 (.call 47 [0] true (pI r91.1) [.box (pm (encDice r91.2))] [] :: .call 67 [] true (.tup [.agg [ow 0 r92.1.tree.nodes.length, pI r92.1.tree.next, ow 1 r92.1.tasks.length, pI r92.1.next], pI r92.2.1, pI r92.2.2]) [] [roNode r92.1.tree.nodes, roTask r92.1.tasks] :: nn 8 [])) [(0, rr 0), (6, rr 1048), (7, rr 1056), (9, pI s3.2.2), (14, rr 1112), (16, pI r92.2.2)] [(0, bx (pm (encDice r91.2))), (c17e1), (1056, bx (pm (encHierarchy y14))), (c17e5 r92), (1576, ob0 (roNode r92.1.tree.nodes)), (1577, ob0 (roTask r92.1.tasks))] (an (Task_Dice_madeSpec r89.2 y14 r91 hr91) (an trivial (an (Clone_ref6Spec y14 r91.1 r92 hr92) trivial))) (by kernel_rfl) ?_)
        refine DW.seq (RK hnt (nn 2 []) [(0, rr 0), (6, rr 1048), (7, rr 1056), (9, pI s3.2.2), (14, rr 1112), (77, pB (r92.2.2 == 0))] [(0, bx (pm (encDice r91.2))), (c17e1), (1056, bx (pm (encHierarchy y14))), (c17e5 r92), (1576, ob0 (roNode r92.1.tree.nodes)), (1577, ob0 (roTask r92.1.tasks))] trivial (by kernel_rfl) ?_)
        refine DW.cond (r92.2.2 == 0) rfl rfl ?_ ?_
        ·
         intro h93
         replace hm := if_t h93 hm
         refine RK hnt (nn 2 []) [(0, rr 0), (6, rr 1048), (7, rr 1056), (9, pI s3.2.2)] [(0, bx (pm (encDice r91.2))), (c17e1), (1056, bx [ow 1576 r92.1.tree.nodes.length, pI r92.1.tree.next, ow 1577 r92.1.tasks.length, pI r92.1.next]), (1576, ob0 (roNode r92.1.tree.nodes)), (1577, ob0 (roTask r92.1.tasks))] trivial (by kernel_rfl) ?_
         exact joinDone (r91.2, r92.1) hm (Conv.trans (τ := mkSt [(0, rr 0), (6, rr 1048), (7, rr 1056), (9, pI s3.2.2)] [(0, bx (pm (encDice r91.2))), (c17e1), (1056, bx (pm (encHierarchy r92.1)))]) (Conv.freezes [1576, 1577] (by kernel_rfl)) .refl)
        ·
         intro h93
         replace hm := if_f h93 hm
         refine DW.skip ?_
         exact joinDone (r91.2, y14) hm (Conv.tp [] [] (by kernel_rfl) .nil .nil)
       ·
        intro h90
        replace hm := if_f h90 hm
        refine DW.skip ?_
        exact joinDone (r89.2, y14) hm (Conv.tp [] [] (by kernel_rfl) .nil .nil)
     ·
      refine DW.cond (r87.2.2 == 0) rfl rfl ?_ ?_
      ·
       intro h88
       replace hm := if_t h88 hm
       refine RK hnt (nn 2 []) [(0, rr 0), (6, rr 1048), (7, rr 1056), (9, pI s3.2.2)] [(0, bx (pm (encDice r86.2))), (c17e1), (1056, bx [ow 1464 r87.1.tree.nodes.length, pI r87.1.tree.next, ow 1465 r87.1.tasks.length, pI r87.1.next]), (1464, ob0 (roNode r87.1.tree.nodes)), (1465, ob0 (roTask r87.1.tasks))] trivial (by kernel_rfl) ?_
       exact joinDone r87.1 hm (Conv.trans (τ := mkSt [(0, rr 0), (6, rr 1048), (7, rr 1056), (9, pI s3.2.2)] [(0, bx (pm (encDice r86.2))), (c17e1), (1056, bx (pm (encHierarchy r87.1)))]) (Conv.freezes [1464, 1465] (by kernel_rfl)) .refl)
      ·
       intro h88
       replace hm := if_f h88 hm
       refine DW.skip ?_
       exact joinDone s3.2.1 hm (Conv.tp [] [] (by kernel_rfl) .nil .nil)
  ·
   intro h82
   replace hm := if_f h82 hm
   refine DW.exit ?_
   refine joinQ_exit ?_
   refine KQ_exit ?_
   refine blockQ_exit ?_
   show DW _ _ _ _ _
   refine DW.seq (RK hnt (nn 2 []) [(6, rr 1048)] [(0, bx (pm (encDice s3.1))), (1048, bx (pm (encHierarchy s3.2.1)))] trivial (by kernel_rfl) ?_)
   refine DW.ret ?_
   obtain rfl := Option.some.inj hm
   refine retOK (bs' := [.box (pm (encDice s3.1))]) [] (.p (.agg (encHierarchy s3.2.1))) (by kernel_rfl) ?_ ?_
   · rfl
   · rfl

abbrev c22e1 : Nat × Obj := (1032, bx [pI 0, pI 0, pI 0, pI 0, pI 0])
theorem Get_ref10Spec (p0 : List Count) (p1 : Int) (RES : Count × Bool) (hm : Get_ref10 p0 p1 = some RES) : Spec Tryz.prog 22 [.p (slCount p0), pI p1] [] (.p (.tup [.agg (encCount RES.1), vb RES.2])) [] [] := by
 unfold Get_ref10 at hm
 refine spec_of Tgood (T := Tt) Tryz.func22 (by decide) (c := _) rfl rfl (sl := [(0, .p (slCount p0)), (1, pI p1)]) (ob := []) (Nat.le_of_ble_eq_true rfl) (Nat.le_of_ble_eq_true rfl) (by kernel_rfl) (by kernel_rfl) ?_
 intro cx hnt
 refine DW.start ?_
 refine DW.seq (RK hnt (nn 2 []) [(0, .p (slCount p0)), (1, pI p1), (4, rr 1032)] [(c22e1)] trivial (by kernel_rfl) ?_)
 refine DW.seq (DW.seq (RK hnt (.no :: []) [(0, .p (slCount p0)), (1, pI p1), (4, rr 1032), (6, pI 0)] [(c22e1)] trivial (by kernel_rfl) ?_))
 refine DW.block ?_
 obtain ⟨hc1, hm⟩ := guard_open hm
 refine DW.rangeO (fun (k1 : Nat) (s1 : Unit) => mkSt [(0, .p (slCount p0)), (1, pI p1), (4, rr 1032), (6, pI ((k1 : Nat) : Int))] [(c22e1)]) dCount hm .refl ?_
 intro k1 s1 n1 hk1 hs1 he1
 refine DW.seq (DW.seq (RK hnt (nn 4 []) [(0, .p (slCount p0)), (1, pI p1), (4, rr 1032), (6, pI ((k1 : Nat) : Int)), (10, pB (decide (((k1 : Nat) : Int) < ((p0.length : Nat) : Int))))] [(c22e1)] trivial (by kernel_rfl) ?_))
 refine DW.cond (decide (((k1 : Nat) : Int) < ((p0.length : Nat) : Int))) rfl rfl ?_ ?_
 ·
  intro h9
  have hlt1 : k1 < p0.length := by have := of_decide_eq_true h9; omega
  have hm := hs1 hlt1
  unfold Get_ref10L1 at hm
  refine DW.skip ?_
  refine DW.seq (DW.block ?_)
  refine DW.seq (RK hnt (nn 7 []) [(0, .p (slCount p0)), (1, pI p1), (4, rr 1032), (6, pI ((k1 : Nat) : Int)), (19, pB ((p0.getD k1 (default : Count)).group == p1))] [(c22e1)] (an (nn0 k1) (an (ltc hlt1) trivial)) (by kernel_rfl) ?_)
  refine DW.cond ((p0.getD k1 (default : Count)).group == p1) rfl rfl ?_ ?_
  ·
   intro h10
   replace hm := if_t h10 hm
   refine DW.seq (RK hnt (nn 6 []) [(4, rr 1032), (5, pB true)] [(1032, bx (pm (encCount (p0.getD k1 (default : Count)))))] (an (nn0 k1) (an (ltc hlt1) trivial)) (by kernel_rfl) ?_)
   refine DW.ret ?_
   obtain rfl := Option.some.inj hm
   refine retOK (bs' := []) [] (.p (.tup [.agg (encCount (p0.getD k1 (default : Count))), vb true])) (by kernel_rfl) ?_ ?_
   · rfl
   · rfl
  ·
   intro h10
   replace hm := if_f h10 hm
   refine DW.skip ?_
   refine DW.done ?_
   show DW _ _ _ _ _
   refine RK hnt (nn 3 []) [(0, .p (slCount p0)), (1, pI p1), (4, rr 1032), (6, pI (w64 (((k1 : Nat) : Int) + 1)))] [(c22e1)] trivial (by kernel_rfl) ?_
   exact joinDone () ⟨hlt1, hm⟩ (Conv.tp [(6, pI (w64 (((k1 : Nat) : Int) + 1)))] [] (by kernel_rfl) (.cons rfl (.of_eq (congrArg pI (w64_succ hlt1 hc1))) .nil) .nil)
 ·
  intro h9
  have hge1 : ¬ k1 < p0.length := by have := of_decide_eq_false h9; omega
  have hm := he1 hge1
  unfold Get_ref10D1 at hm
  refine DW.exit ?_
  refine joinQ_exit ?_
  refine KQ_exit ?_
  refine blockQ_exit ?_
  show DW _ _ _ _ _
  refine DW.seq (RK hnt (nn 3 []) [(4, rr 1032), (5, pB false)] [(c22e1)] trivial (by kernel_rfl) ?_)
  refine DW.ret ?_
  obtain rfl := Option.some.inj hm
  refine retOK (bs' := []) [] (.p (.tup [.agg [vi 0, vi 0, vi 0, vi 0, vi 0], vb false])) (by kernel_rfl) ?_ ?_
  · rfl
  · rfl

abbrev c116e1 (p0 : Tree) : Nat × Obj := (1016, bx (pm (encTree p0)))
theorem Subtree_ref5BSpec (rec : Tree → Int → Option (List Int)) (ih : ∀ (p0 : Tree) (p1 : Int) (RES : List Int), rec p0 p1 = some RES → Spec Tryz.prog 116 [.p (.agg (encTree p0)), pI p1] [] (ow 0 RES.length) [] [roI RES]) (p0 : Tree) (p1 : Int) (RES : List Int) (hm : Subtree_ref5B rec p0 p1 = some RES) : Spec Tryz.prog 116 [.p (.agg (encTree p0)), pI p1] [] (ow 0 RES.length) [] [roI RES] := by
 unfold Subtree_ref5B at hm
 refine spec_of Tgood (T := Tt) Tryz.func116 (by decide) (c := _) rfl rfl (sl := [(0, .p (.agg (encTree p0))), (1, pI p1)]) (ob := []) (Nat.le_of_ble_eq_true rfl) (Nat.le_of_ble_eq_true rfl) (by kernel_rfl) (by kernel_rfl) ?_
 intro cx hnt
 refine DW.start ?_
 refine DW.seq (RK hnt (nn 2 []) [(1, pI p1), (2, rr 1016)] [(c116e1 p0)] trivial (by kernel_rfl) ?_)
 obtain ⟨r1, hr1, hm⟩ := bind_open hm
 refine DW.seq (DW.seq (RK hnt (nn 2 (.call 88 [] true (pB r1) [] [] :: .no :: [])) [(1, pI p1), (2, rr 1016), (11, pB (!r1))] [(c116e1 p0)] (an (Has_ref5Spec p0 p1 r1 hr1) trivial) (by kernel_rfl) ?_))
 refine DW.cond (!r1) rfl rfl ?_ ?_
 ·
  intro h2
  replace hm := if_t h2 hm
  refine DW.seq (RK hnt (.no :: []) [(4, .p (.sl .nil 0 0 (fun _ => [])))] [] trivial (by kernel_rfl) ?_)
  refine DW.conv (τ := mkSt [(4, ow 100000 0)] [(100000, ob0 (roI []))]) (Conv.trans (τ := mkSt [(4, ow 100000 0)] ((100000, ⟨0, .row 1 0 (elems encI 0 [])⟩) :: [])) (Conv.adopt 100000 1 (elems encI 0 []) rfl rfl (.cons (.one (.nil _ _)) (.rfl _)) (.rfl _)) (Conv.trans (τ := mkSt [(4, ow 100000 0)] [(100000, ob0 (roI []))]) (Conv.tp [] [] (by kernel_rfl) .nil .nil) .refl)) ?_
  refine DW.ret ?_
  obtain rfl := Option.some.inj hm
  refine retOK (bs' := [roI []]) [100000] (ow 0 0) (by kernel_rfl) ?_ ?_
  · rfl
  · rfl
 ·
  intro h2
  replace hm := if_f h2 hm
  refine DW.skip ?_
  refine DW.seq (RN hnt (nn 3 []) [(1, pI p1), (2, rr 1016), (5, ow 1104 [p1].length)] [(c116e1 p0), (1104, ob0 (roI [p1]))] [(5, ow 1104 1)] [(1104, .row 1 1 (cut 1 [vi p1]))] trivial (by kernel_rfl) (.cons rfl (MLe.ownLen (enc := encI) (d := 0) (f := (cut 1 [vi p1])) (RowIs.lit (enc := encI) (d := 0) (n := 1) (f := (cut 1 [vi p1])) [p1] rfl (fun | 0, _ => rfl | n + 1, h => absurd h (by omega)))) .nil) (.cons rfl (BLe.typed (RowIs.lit (enc := encI) (d := 0) (n := 1) (f := (cut 1 [vi p1])) [p1] rfl (fun | 0, _ => rfl | n + 1, h => absurd h (by omega)))) .nil) ?_)
  obtain ⟨r3, hr3, hm⟩ := bind_open hm
  refine DW.seq (RK hnt (nn 2 (.call 27 [] true (ow 0 r3.length) [] [roI r3] :: .no :: [])) [(2, rr 1016), (5, ow 1104 [p1].length), (6, ow 1128 r3.length)] [(c116e1 p0), (1104, ob0 (roI [p1])), (1128, ob0 (roI r3))] (an (Children_ref5Spec p0 p1 r3 hr3) trivial) (by kernel_rfl) ?_)
  refine DW.seq (DW.seq (RK hnt (.no :: []) [(2, rr 1016), (5, ow 1104 [p1].length), (6, ow 1128 r3.length), (7, pI 0)] [(c116e1 p0), (1104, ob0 (roI [p1])), (1128, ob0 (roI r3))] trivial (by kernel_rfl) ?_))
  refine DW.block ?_
  obtain ⟨hc1, hm⟩ := guard_open hm
  refine DW.rangeO (fun (k1 : Nat) (s1 : List Int) => mkSt [(2, rr 1016), (5, ow 1104 s1.length), (6, ow 1128 r3.length), (7, pI ((k1 : Nat) : Int))] [(c116e1 p0), (1104, ob0 (roI s1)), (1128, ob0 (roI r3))]) 0 hm .refl ?_
  intro k1 s1 n1 hk1 hs1 he1
  refine DW.seq (DW.seq (RK hnt (nn 4 []) [(2, rr 1016), (5, ow 1104 s1.length), (6, ow 1128 r3.length), (7, pI ((k1 : Nat) : Int)), (20, pB (decide (((k1 : Nat) : Int) < ((r3.length : Nat) : Int))))] [(c116e1 p0), (1104, ob0 (roI s1)), (1128, ob0 (roI r3))] trivial (by kernel_rfl) ?_))
  refine DW.cond (decide (((k1 : Nat) : Int) < ((r3.length : Nat) : Int))) rfl rfl ?_ ?_
  ·
   intro h14
   have hlt1 : k1 < r3.length := by have := of_decide_eq_true h14; omega
   have hm := hs1 hlt1
   unfold Subtree_ref5L1 at hm
   refine DW.skip ?_
   refine DW.seq (DW.block ?_)
   obtain ⟨r15, hr15, hm⟩ := bind_open hm
   obtain ⟨g16, hm⟩ := guard_open hm
   refine RN hnt (nn 6 (.call 116 [] true (ow 0 r15.length) [] [roI r15] :: nn 2 [])) [(2, rr 1016), (5, ow 1104 (s1 ++ r15).length), (6, ow 1128 r3.length), (7, pI ((k1 : Nat) : Int))] [(c116e1 p0), (1104, ob0 (roI (s1 ++ r15))), (1128, ob0 (roI r3))] [(5, ow 1104 (s1.length + r15.length))] [(1104, .row 1 (s1.length + r15.length) (catF s1.length (elI s1) (elI r15)))] (an (nn0 k1) (an (ltc hlt1) (an (by omega : k1 < r3.length) (an (ih p0 (r3.getD k1 0) r15 hr15) (an (by omega : (s1.length + r15.length) * 8 ≤ 140737488355328) trivial))))) (by kernel_rfl) (.cons rfl (MLe.ownLen (enc := encI) (d := 0) (f := (catF s1.length (elI s1) (elI r15))) (RowIs.cat RowIs.elems RowIs.elems)) .nil) (.cons rfl (BLe.typed (RowIs.cat RowIs.elems RowIs.elems)) .nil) ?_
   refine DW.done ?_
   show DW _ _ _ _ _
   refine RK hnt (nn 3 []) [(2, rr 1016), (5, ow 1104 (s1 ++ r15).length), (6, ow 1128 r3.length), (7, pI (w64 (((k1 : Nat) : Int) + 1)))] [(c116e1 p0), (1104, ob0 (roI (s1 ++ r15))), (1128, ob0 (roI r3))] trivial (by kernel_rfl) ?_
   exact joinDone (s1 ++ r15) ⟨hlt1, hm⟩ (Conv.tp [(7, pI (w64 (((k1 : Nat) : Int) + 1)))] [] (by kernel_rfl) (.cons rfl (.of_eq (congrArg pI (w64_succ hlt1 hc1))) .nil) .nil)
  ·
   intro h14
   have hge1 : ¬ k1 < r3.length := by have := of_decide_eq_false h14; omega
   have hm := he1 hge1
   unfold Subtree_ref5D1 at hm
   refine DW.exit ?_
   refine joinQ_exit ?_
   refine KQ_exit ?_
   refine blockQ_exit ?_
   show DW _ _ _ _ _
   refine DW.seq (RK hnt (nn 2 []) [(4, ow 1104 s1.length)] [(1104, ob0 (roI s1))] trivial (by kernel_rfl) ?_)
   refine DW.ret ?_
   obtain rfl := Option.some.inj hm
   refine retOK (bs' := [roI s1]) [1104] (ow 0 s1.length) (by kernel_rfl) ?_ ?_
   · rfl
   · rfl
theorem Subtree_ref5FSpec : ∀ (n : Nat) (p0 : Tree) (p1 : Int) (RES : List Int), Subtree_ref5F n p0 p1 = some RES → Spec Tryz.prog 116 [.p (.agg (encTree p0)), pI p1] [] (ow 0 RES.length) [] [roI RES]
  | 0, p0, p1, RES, hm => by simp [Subtree_ref5F] at hm
  | n + 1, p0, p1, RES, hm => Subtree_ref5BSpec (Subtree_ref5F n) (Subtree_ref5FSpec n) p0 p1 RES hm
theorem Subtree_ref5Spec (p0 : Tree) (p1 : Int) (RES : List Int) (hm : Subtree_ref5 p0 p1 = some RES) : Spec Tryz.prog 116 [.p (.agg (encTree p0)), pI p1] [] (ow 0 RES.length) [] [roI RES] := Subtree_ref5FSpec FUEL p0 p1 RES hm

theorem Has_ref3Spec (p0 : List Int) (p1 : Int) (RES : Bool) (hm : Has_ref3 p0 p1 = some RES) : Spec Tryz.prog 117 [.p (slI p0), pI p1] [] (pB RES) [] [] := by
 unfold Has_ref3 at hm
 refine spec_of Tgood (T := Tt) Tryz.func117 (by decide) (c := _) rfl rfl (sl := [(0, .p (slI p0)), (1, pI p1)]) (ob := []) (Nat.le_of_ble_eq_true rfl) (Nat.le_of_ble_eq_true rfl) (by kernel_rfl) (by kernel_rfl) ?_
 intro cx hnt
 refine DW.start ?_
 refine DW.seq (RK hnt (.no :: []) [(0, .p (slI p0)), (1, pI p1)] [] trivial (by kernel_rfl) ?_)
 refine DW.seq (DW.seq (RK hnt (.no :: []) [(0, .p (slI p0)), (1, pI p1), (5, pI 0)] [] trivial (by kernel_rfl) ?_))
 refine DW.block ?_
 obtain ⟨hc1, hm⟩ := guard_open hm
 refine DW.rangeO (fun (k1 : Nat) (s1 : Unit) => mkSt [(0, .p (slI p0)), (1, pI p1), (5, pI ((k1 : Nat) : Int))] []) 0 hm .refl ?_
 intro k1 s1 n1 hk1 hs1 he1
 refine DW.seq (DW.seq (RK hnt (nn 4 []) [(0, .p (slI p0)), (1, pI p1), (5, pI ((k1 : Nat) : Int)), (9, pB (decide (((k1 : Nat) : Int) < ((p0.length : Nat) : Int))))] [] trivial (by kernel_rfl) ?_))
 refine DW.cond (decide (((k1 : Nat) : Int) < ((p0.length : Nat) : Int))) rfl rfl ?_ ?_
 ·
  intro h7
  have hlt1 : k1 < p0.length := by have := of_decide_eq_true h7; omega
  have hm := hs1 hlt1
  unfold Has_ref3L1 at hm
  refine DW.skip ?_
  refine DW.seq (DW.block ?_)
  refine DW.seq (RK hnt (nn 6 []) [(0, .p (slI p0)), (1, pI p1), (5, pI ((k1 : Nat) : Int)), (17, pB ((p0.getD k1 0) == p1))] [] (an (nn0 k1) (an (ltc hlt1) trivial)) (by kernel_rfl) ?_)
  refine DW.cond ((p0.getD k1 0) == p1) rfl rfl ?_ ?_
  ·
   intro h8
   replace hm := if_t h8 hm
   refine DW.seq (RK hnt (.no :: []) [(4, pB true)] [] trivial (by kernel_rfl) ?_)
   refine DW.ret ?_
   obtain rfl := Option.some.inj hm
   refine retOK (bs' := []) [] (pB true) (by kernel_rfl) ?_ ?_
   · rfl
   · rfl
  ·
   intro h8
   replace hm := if_f h8 hm
   refine DW.skip ?_
   refine DW.done ?_
   show DW _ _ _ _ _
   refine RK hnt (nn 3 []) [(0, .p (slI p0)), (1, pI p1), (5, pI (w64 (((k1 : Nat) : Int) + 1)))] [] trivial (by kernel_rfl) ?_
   exact joinDone () ⟨hlt1, hm⟩ (Conv.tp [(5, pI (w64 (((k1 : Nat) : Int) + 1)))] [] (by kernel_rfl) (.cons rfl (.of_eq (congrArg pI (w64_succ hlt1 hc1))) .nil) .nil)
 ·
  intro h7
  have hge1 : ¬ k1 < p0.length := by have := of_decide_eq_false h7; omega
  have hm := he1 hge1
  unfold Has_ref3D1 at hm
  refine DW.exit ?_
  refine joinQ_exit ?_
  refine KQ_exit ?_
  refine blockQ_exit ?_
  show DW _ _ _ _ _
  refine DW.seq (RK hnt (.no :: []) [(4, pB false)] [] trivial (by kernel_rfl) ?_)
  refine DW.ret ?_
  obtain rfl := Option.some.inj hm
  refine retOK (bs' := []) [] (pB false) (by kernel_rfl) ?_ ?_
  · rfl
  · rfl

abbrev c59e1 (p0 : Hierarchy) : Nat × Obj := (1016, bx (pm (encHierarchy p0)))
theorem Count_ref6Spec (p0 : Hierarchy) (p1 : Int) (RES : Int) (hm : Count_ref6 p0 p1 = some RES) : Spec Tryz.prog 59 [.p (.agg (encHierarchy p0)), pI p1] [] (pI RES) [] [] := by
 unfold Count_ref6 at hm
 refine spec_of Tgood (T := Tt) Tryz.func59 (by decide) (c := _) rfl rfl (sl := [(0, .p (.agg (encHierarchy p0))), (1, pI p1)]) (ob := []) (Nat.le_of_ble_eq_true rfl) (Nat.le_of_ble_eq_true rfl) (by kernel_rfl) (by kernel_rfl) ?_
 intro cx hnt
 refine DW.start ?_
 refine DW.seq (RK hnt (nn 2 []) [(1, pI p1), (2, rr 1016)] [(c59e1 p0)] trivial (by kernel_rfl) ?_)
 obtain ⟨r1, hr1, hm⟩ := bind_open hm
 refine DW.seq (DW.seq (RK hnt (.no :: .call 52 [] true (pB r1) [] [] :: .no :: []) [(1, pI p1), (2, rr 1016), (10, pB (!r1))] [(c59e1 p0)] (an (Check_ref6Spec p0 r1 hr1) trivial) (by kernel_rfl) ?_))
 refine DW.cond (!r1) rfl rfl ?_ ?_
 ·
  intro h2
  replace hm := if_t h2 hm
  refine DW.seq (RK hnt (.no :: []) [(4, pI 0)] [] trivial (by kernel_rfl) ?_)
  refine DW.ret ?_
  obtain rfl := Option.some.inj hm
  refine retOK (bs' := []) [] (pI 0) (by kernel_rfl) ?_ ?_
  · rfl
  · rfl
 ·
  intro h2
  replace hm := if_f h2 hm
  refine DW.skip ?_
  refine DW.seq (RK hnt (.no :: []) [(1, pI p1), (2, rr 1016), (5, pI 0)] [(c59e1 p0)] trivial (by kernel_rfl) ?_)
  obtain ⟨r3, hr3, hm⟩ := bind_open hm
  refine DW.seq (RK hnt (nn 3 (.call 116 [] true (ow 0 r3.length) [] [roI r3] :: .no :: [])) [(2, rr 1016), (5, pI 0), (6, ow 1112 r3.length)] [(c59e1 p0), (1112, ob0 (roI r3))] (an (Subtree_ref5Spec p0.tree p1 r3 hr3) trivial) (by kernel_rfl) ?_)
  refine DW.seq (DW.seq (RK hnt (.no :: []) [(2, rr 1016), (5, pI 0), (6, ow 1112 r3.length), (7, pI 0)] [(c59e1 p0), (1112, ob0 (roI r3))] trivial (by kernel_rfl) ?_))
  refine DW.block ?_
  obtain ⟨hc1, hm⟩ := guard_open hm
  refine DW.rangeO (fun (k1 : Nat) (s1 : Int) => mkSt [(2, rr 1016), (5, pI s1), (6, ow 1112 r3.length), (7, pI ((k1 : Nat) : Int))] [(c59e1 p0), (1112, ob0 (roI r3))]) dTask hm .refl ?_
  intro k1 s1 n1 hk1 hs1 he1
  refine DW.seq (DW.seq (RK hnt (nn 5 []) [(2, rr 1016), (5, pI s1), (6, ow 1112 r3.length), (7, pI ((k1 : Nat) : Int)), (19, pB (decide (((k1 : Nat) : Int) < ((p0.tasks.length : Nat) : Int))))] [(c59e1 p0), (1112, ob0 (roI r3))] trivial (by kernel_rfl) ?_))
  refine DW.cond (decide (((k1 : Nat) : Int) < ((p0.tasks.length : Nat) : Int))) rfl rfl ?_ ?_
  ·
   intro h12
   have hlt1 : k1 < p0.tasks.length := by have := of_decide_eq_true h12; omega
   have hm := hs1 hlt1
   unfold Count_ref6L1 at hm
   refine DW.skip ?_
   refine DW.seq ?_
   refine DW.join (ι := Int) (fun (y3 : Int) => mkSt [(2, rr 1016), (5, pI y3), (6, ow 1112 r3.length), (7, pI ((k1 : Nat) : Int))] [(c59e1 p0), (1112, ob0 (roI r3))]) (fun y3 => (Count_ref6J3 n1) y3 = some RES) ?_ ?_
   ·
    intro y3 hm
    unfold Count_ref6J3 at hm
    refine RK hnt (nn 3 []) [(2, rr 1016), (5, pI y3), (6, ow 1112 r3.length), (7, pI (w64 (((k1 : Nat) : Int) + 1)))] [(c59e1 p0), (1112, ob0 (roI r3))] trivial (by kernel_rfl) ?_
    exact joinDone y3 ⟨hlt1, hm⟩ (Conv.tp [(7, pI (w64 (((k1 : Nat) : Int) + 1)))] [] (by kernel_rfl) (.cons rfl (.of_eq (congrArg pI (w64_succ hlt1 hc1))) .nil) .nil)
   ·
    refine DW.block ?_
    obtain ⟨r13, hr13, hm⟩ := bind_open hm
    refine DW.seq (RK hnt (nn 7 (.call 117 [] true (pB r13) [] [] :: [])) [(2, rr 1016), (5, pI s1), (6, ow 1112 r3.length), (7, pI ((k1 : Nat) : Int)), (29, pB r13)] [(c59e1 p0), (1112, ob0 (roI r3))] (an (nn0 k1) (an (ltc hlt1) (an (Has_ref3Spec r3 (p0.tasks.getD k1 (default : Task)).group r13 hr13) trivial))) (by kernel_rfl) ?_)
    refine DW.cond r13 rfl rfl ?_ ?_
    ·
     intro h14
     replace hm := if_t h14 hm
     refine RK hnt (nn 3 []) [(2, rr 1016), (5, pI (w64 (s1 + 1))), (6, ow 1112 r3.length), (7, pI ((k1 : Nat) : Int))] [(c59e1 p0), (1112, ob0 (roI r3))] trivial (by kernel_rfl) ?_
     exact blockDone (w64 (s1 + 1)) hm .refl
    ·
     intro h14
     replace hm := if_f h14 hm
     refine DW.skip ?_
     exact blockDone s1 hm (Conv.tp [] [] (by kernel_rfl) .nil .nil)
  ·
   intro h12
   have hge1 : ¬ k1 < p0.tasks.length := by have := of_decide_eq_false h12; omega
   have hm := he1 hge1
   unfold Count_ref6D1 at hm
   refine DW.exit ?_
   refine joinQ_exit ?_
   refine KQ_exit ?_
   refine blockQ_exit ?_
   show DW _ _ _ _ _
   refine DW.seq (RK hnt (nn 2 []) [(4, pI s1)] [] trivial (by kernel_rfl) ?_)
   refine DW.ret ?_
   obtain rfl := Option.some.inj hm
   refine retOK (bs' := []) [] (pI s1) (by kernel_rfl) ?_ ?_
   · rfl
   · rfl
end Go.Dm


/- Go functions compute their models, printed by a program. -/
namespace Go.Dm
open Go.Proofs
set_option linter.unusedVariables false
abbrev c40e1 (y3 : Count) (r17 : Int) := ({ group := y3.group, now := r17, limit := y3.limit, peak := (maxI y3.peak r17), events := y3.events } : Count)
abbrev c40e2 (p0 : Hierarchy) : Nat × Obj := (1016, bx (pm (encHierarchy p0)))
abbrev c40e3 (p0 : Hierarchy) (k1 : Nat) := (p0.tree.nodes.getD k1 (default : Node))
abbrev c40e4 (k1 : Nat) : Nat × MV := (6, pI ((k1 : Nat) : Int))
theorem Adjust_ref10Spec (p0 : Hierarchy) (p1 : List Count) (RES : List Count) (hm : Adjust_ref10 p0 p1 = some RES) : Spec Tryz.prog 40 [.p (.agg (encHierarchy p0)), .p (slCount p1)] [] (ow 0 RES.length) [] [roCount RES] := by
 unfold Adjust_ref10 at hm
 refine spec_of Tgood (T := Tt) Tryz.func40 (by decide) (c := _) rfl rfl (sl := [(0, .p (.agg (encHierarchy p0))), (1, .p (slCount p1))]) (ob := []) (Nat.le_of_ble_eq_true rfl) (Nat.le_of_ble_eq_true rfl) (by kernel_rfl) (by kernel_rfl) ?_
 intro cx hnt
 refine DW.start ?_
 refine DW.seq (RK hnt (nn 2 []) [(1, .p (slCount p1)), (2, rr 1016)] [(c40e2 p0)] trivial (by kernel_rfl) ?_)
 obtain ⟨r1, hr1, hm⟩ := bind_open hm
 refine DW.seq (DW.seq (RK hnt (.no :: .call 52 [] true (pB r1) [] [] :: .no :: []) [(1, .p (slCount p1)), (2, rr 1016), (12, pB (!r1))] [(c40e2 p0)] (an (Check_ref6Spec p0 r1 hr1) trivial) (by kernel_rfl) ?_))
 refine DW.cond (!r1) rfl rfl ?_ ?_
 ·
  intro h2
  replace hm := if_t h2 hm
  refine DW.seq (RK hnt (.no :: []) [(4, .p (.sl .nil 0 0 (fun _ => [])))] [] trivial (by kernel_rfl) ?_)
  refine DW.conv (τ := mkSt [(4, ow 100000 0)] [(100000, ob0 (roCount []))]) (Conv.trans (τ := mkSt [(4, ow 100000 0)] ((100000, ⟨0, .row 5 0 (elems encCount dCount [])⟩) :: [])) (Conv.adopt 100000 5 (elems encCount dCount []) rfl rfl (.cons (.one (.nil _ _)) (.rfl _)) (.rfl _)) (Conv.trans (τ := mkSt [(4, ow 100000 0)] [(100000, ob0 (roCount []))]) (Conv.tp [] [] (by kernel_rfl) .nil .nil) .refl)) ?_
  refine DW.ret ?_
  obtain rfl := Option.some.inj hm
  refine retOK (bs' := [roCount []]) [100000] (ow 0 0) (by kernel_rfl) ?_ ?_
  · rfl
  · rfl
 ·
  intro h2
  replace hm := if_f h2 hm
  refine DW.skip ?_
  refine DW.seq (RK hnt (.no :: []) [(1, .p (slCount p1)), (2, rr 1016), (5, .p (.sl .nil 0 0 (fun _ => [])))] [(c40e2 p0)] trivial (by kernel_rfl) ?_)
  refine DW.seq (DW.seq (RK hnt (.no :: []) [(1, .p (slCount p1)), (2, rr 1016), (5, .p (.sl .nil 0 0 (fun _ => []))), (6, pI 0)] [(c40e2 p0)] trivial (by kernel_rfl) ?_))
  refine DW.block ?_
  obtain ⟨hc1, hm⟩ := guard_open hm
  refine DW.rangeO (fun (k1 : Nat) (s1 : List Count) => mkSt [(1, .p (slCount p1)), (2, rr 1016), (5, ow 1408 s1.length), (c40e4 k1)] [(c40e2 p0), (1408, ob0 (roCount s1))]) dNode hm (Conv.trans (τ := mkSt [(1, .p (slCount p1)), (2, rr 1016), (5, ow 1408 0), (6, pI 0)] ((1408, ⟨0, .row 5 0 (elems encCount dCount [])⟩) :: [(c40e2 p0)])) (Conv.adopt 1408 5 (elems encCount dCount []) rfl rfl (.cons (.one (.rfl _)) (.cons (.one (.rfl _)) (.cons (.one (.nil _ _)) (.cons (.one (.rfl _)) (.rfl _))))) (.rfl _)) (Conv.trans (τ := mkSt [(1, .p (slCount p1)), (2, rr 1016), (5, ow 1408 0), (6, pI 0)] [(c40e2 p0), (1408, ob0 (roCount []))]) (Conv.tp [] [] (by kernel_rfl) .nil .nil) .refl)) ?_
  intro k1 s1 n1 hk1 hs1 he1
  refine DW.seq (DW.seq (RK hnt (nn 6 []) [(1, .p (slCount p1)), (2, rr 1016), (5, ow 1408 s1.length), (c40e4 k1), (18, pB (decide (((k1 : Nat) : Int) < ((p0.tree.nodes.length : Nat) : Int))))] [(c40e2 p0), (1408, ob0 (roCount s1))] trivial (by kernel_rfl) ?_))
  refine DW.cond (decide (((k1 : Nat) : Int) < ((p0.tree.nodes.length : Nat) : Int))) rfl rfl ?_ ?_
  ·
   intro h14
   have hlt1 : k1 < p0.tree.nodes.length := by have := of_decide_eq_true h14; omega
   have hm := hs1 hlt1
   unfold Adjust_ref10L1 at hm
   refine DW.skip ?_
   refine DW.seq (DW.block ?_)
   refine DW.seq (RK hnt (nn 8 []) [(1, .p (slCount p1)), (2, rr 1016), (5, ow 1408 s1.length), (c40e4 k1), (7, pI (c40e3 p0 k1).id)] [(c40e2 p0), (1408, ob0 (roCount s1))] (an (nn0 k1) (an (ltc hlt1) trivial)) (by kernel_rfl) ?_)
   obtain ⟨r15, hr15, hm⟩ := bind_open hm
   refine DW.seq (RK hnt (nn 2 (.call 22 [] true (.p (.tup [.agg (encCount r15.1), vb r15.2])) [] [] :: nn 6 [])) [(1, .p (slCount p1)), (2, rr 1016), (5, ow 1408 s1.length), (c40e4 k1), (7, pI (c40e3 p0 k1).id), (8, rr 1064), (9, pB r15.2)] [(c40e2 p0), (1064, bx (pm (encCount r15.1))), (1408, ob0 (roCount s1))] (an (Get_ref10Spec p1 (c40e3 p0 k1).id r15 hr15) trivial) (by kernel_rfl) ?_)
   refine DW.seq (DW.seq (RK hnt (nn 2 []) [(1, .p (slCount p1)), (2, rr 1016), (5, ow 1408 s1.length), (c40e4 k1), (7, pI (c40e3 p0 k1).id), (8, rr 1064), (35, pB (!r15.2))] [(c40e2 p0), (1064, bx (pm (encCount r15.1))), (1408, ob0 (roCount s1))] trivial (by kernel_rfl) ?_))
   refine DW.join (ι := Count) (fun (y3 : Count) => mkSt [(1, .p (slCount p1)), (2, rr 1016), (5, ow 1408 s1.length), (c40e4 k1), (7, pI (c40e3 p0 k1).id), (8, rr 1064)] [(c40e2 p0), (1064, bx (pm (encCount y3))), (1408, ob0 (roCount s1))]) (fun y3 => (Adjust_ref10J3 p0 (c40e3 p0 k1) s1 n1) y3 = some RES) ?_ ?_
   ·
    intro y3 hm
    unfold Adjust_ref10J3 at hm
    obtain ⟨r17, hr17, hm⟩ := bind_open hm
    refine DW.seq (RK hnt (nn 2 (.call 59 [] true (pI r17) [] [] :: nn 2 [])) [(1, .p (slCount p1)), (2, rr 1016), (5, ow 1408 s1.length), (c40e4 k1), (8, rr 1064)] [(c40e2 p0), (1064, bx [pI y3.group, pI r17, pI y3.limit, pI y3.peak, pI y3.events]), (1408, ob0 (roCount s1))] (an (Count_ref6Spec p0 (c40e3 p0 k1).id r17 hr17) trivial) (by kernel_rfl) ?_)
    refine DW.seq (RK hnt (nn 7 []) [(1, .p (slCount p1)), (2, rr 1016), (5, ow 1408 s1.length), (c40e4 k1), (8, rr 1064)] [(c40e2 p0), (1064, bx [pI y3.group, pI r17, pI y3.limit, pI (maxI y3.peak r17), pI y3.events]), (1408, ob0 (roCount s1))] trivial (by kernel_rfl) ?_)
    obtain ⟨g18, hm⟩ := guard_open hm
    refine RN hnt (nn 5 []) [(1, .p (slCount p1)), (2, rr 1016), (5, ow 1408 (s1 ++ [(c40e1 y3 r17)]).length), (c40e4 k1)] [(c40e2 p0), (1408, ob0 (roCount (s1 ++ [(c40e1 y3 r17)])))] [(5, ow 1408 (s1.length + 1))] [(1408, .row 5 (s1.length + 1) (catF s1.length (elCount s1) (cut 5 [vi y3.group, vi r17, vi y3.limit, vi (maxI y3.peak r17), vi y3.events])))] (an (by omega : (s1.length + 1) * 40 ≤ 140737488355328) trivial) (by kernel_rfl) (.cons rfl (MLe.ownLen (enc := encCount) (d := dCount) (f := (catF s1.length (elCount s1) (cut 5 [vi y3.group, vi r17, vi y3.limit, vi (maxI y3.peak r17), vi y3.events]))) (RowIs.cat RowIs.elems (RowIs.lit (enc := encCount) (d := dCount) (n := 1) (f := (cut 5 [vi y3.group, vi r17, vi y3.limit, vi (maxI y3.peak r17), vi y3.events])) [(c40e1 y3 r17)] rfl (fun | 0, _ => rfl | n + 1, h => absurd h (by omega))))) .nil) (.cons rfl (BLe.typed (RowIs.cat RowIs.elems (RowIs.lit (enc := encCount) (d := dCount) (n := 1) (f := (cut 5 [vi y3.group, vi r17, vi y3.limit, vi (maxI y3.peak r17), vi y3.events])) [(c40e1 y3 r17)] rfl (fun | 0, _ => rfl | n + 1, h => absurd h (by omega))))) .nil) ?_
    refine DW.done ?_
    show DW _ _ _ _ _
    refine RK hnt (nn 3 []) [(1, .p (slCount p1)), (2, rr 1016), (5, ow 1408 (s1 ++ [(c40e1 y3 r17)]).length), (6, pI (w64 (((k1 : Nat) : Int) + 1)))] [(c40e2 p0), (1408, ob0 (roCount (s1 ++ [(c40e1 y3 r17)])))] trivial (by kernel_rfl) ?_
    exact joinDone (s1 ++ [(c40e1 y3 r17)]) ⟨hlt1, hm⟩ (Conv.tp [(6, pI (w64 (((k1 : Nat) : Int) + 1)))] [] (by kernel_rfl) (.cons rfl (.of_eq (congrArg pI (w64_succ hlt1 hc1))) .nil) .nil)
   ·
    refine DW.cond (!r15.2) rfl rfl ?_ ?_
    ·
     intro h16
     replace hm := if_t h16 hm
     refine RK hnt (nn 3 []) [(1, .p (slCount p1)), (2, rr 1016), (5, ow 1408 s1.length), (c40e4 k1), (7, pI (c40e3 p0 k1).id), (8, rr 1064)] [(c40e2 p0), (1064, bx [pI (c40e3 p0 k1).id, pI 0, pI 4611686018427387904, pI 0, pI 0]), (1408, ob0 (roCount s1))] trivial (by kernel_rfl) ?_
     exact joinDone ({ group := (c40e3 p0 k1).id, now := 0, limit := 4611686018427387904, peak := 0, events := 0 } : Count) hm .refl
    ·
     intro h16
     replace hm := if_f h16 hm
     refine DW.skip ?_
     exact joinDone r15.1 hm (Conv.tp [] [] (by kernel_rfl) .nil .nil)
  ·
   intro h14
   have hge1 : ¬ k1 < p0.tree.nodes.length := by have := of_decide_eq_false h14; omega
   have hm := he1 hge1
   unfold Adjust_ref10D1 at hm
   refine DW.exit ?_
   refine joinQ_exit ?_
   refine KQ_exit ?_
   refine blockQ_exit ?_
   show DW _ _ _ _ _
   refine DW.seq (RK hnt (nn 2 []) [(4, ow 1408 s1.length)] [(1408, ob0 (roCount s1))] trivial (by kernel_rfl) ?_)
   refine DW.ret ?_
   obtain rfl := Option.some.inj hm
   refine retOK (bs' := [roCount s1]) [1408] (ow 0 s1.length) (by kernel_rfl) ?_ ?_
   · rfl
   · rfl

theorem New_ref10Spec (p0 : Hierarchy) (RES : List Count) (hm : New_ref10 p0 = some RES) : Spec Tryz.prog 41 [.p (.agg (encHierarchy p0))] [] (ow 0 RES.length) [] [roCount RES] := by
 unfold New_ref10 at hm
 refine spec_of Tgood (T := Tt) Tryz.func41 (by decide) (c := _) rfl rfl (sl := [(0, .p (.agg (encHierarchy p0)))]) (ob := []) (Nat.le_of_ble_eq_true rfl) (Nat.le_of_ble_eq_true rfl) (by kernel_rfl) (by kernel_rfl) ?_
 intro cx hnt
 refine DW.start ?_
 refine DW.seq (RK hnt (nn 2 []) [(1, rr 1008)] [(1008, bx (pm (encHierarchy p0)))] trivial (by kernel_rfl) ?_)
 obtain ⟨r1, hr1, hm⟩ := bind_open hm
 refine DW.seq (RK hnt (.no :: .call 40 [] true (ow 0 r1.length) [] [roCount r1] :: .no :: []) [(2, ow 1032 r1.length)] [(1032, ob0 (roCount r1))] (an (Spec.args (xs := [.p (.agg (encHierarchy p0)), .p (.sl .nil 0 0 (fun _ => []))]) (Adjust_ref10Spec p0 [] r1 hr1) (.cons .rfl (.cons (.p PLe.nilL) .nil))) trivial) (by kernel_rfl) ?_)
 refine DW.ret ?_
 obtain rfl := Option.some.inj hm
 refine retOK (bs' := [roCount r1]) [1032] (ow 0 r1.length) (by kernel_rfl) ?_ ?_
 · rfl
 · rfl

abbrev c18e1 (y3 : Dice × (List Count)) (k1 : Int) := (y3.2.getD (Int.toNat k1) dCount)
abbrev c18e2 (r1 : List Count) : Nat × MV := (10, pI ((r1.length : Nat) : Int))
theorem counts_law10Spec (p0 : Dice) (p1 : Hierarchy) (RES : (List Count) × Dice) (hm : counts_law10 p0 p1 = some RES) : Spec Tryz.prog 18 [rr 0, .p (.agg (encHierarchy p1))] [.box (pm (encDice p0))] (ow 1 RES.1.length) [.box (pm (encDice RES.2))] [roCount RES.1] := by
 unfold counts_law10 at hm
 refine spec_of Tgood (T := Tt) Tryz.func18 (by decide) (c := _) rfl rfl (sl := [(0, rr 0), (1, .p (.agg (encHierarchy p1)))]) (ob := [(0, bx (pm (encDice p0)))]) (Nat.le_of_ble_eq_true rfl) (Nat.le_of_ble_eq_true rfl) (by kernel_rfl) (by kernel_rfl) ?_
 intro cx hnt
 refine DW.start ?_
 refine DW.seq (RK hnt (nn 2 []) [(0, rr 0), (3, rr 1024)] [(0, bx (pm (encDice p0))), (1024, bx (pm (encHierarchy p1)))] trivial (by kernel_rfl) ?_)
 obtain ⟨r1, hr1, hm⟩ := bind_open hm
 refine DW.seq (RK hnt (.no :: .call 41 [] true (ow 0 r1.length) [] [roCount r1] :: .no :: []) [(0, rr 0), (5, ow 1064 r1.length)] [(0, bx (pm (encDice p0))), (1064, ob0 (roCount r1))] (an (New_ref10Spec p1 r1 hr1) trivial) (by kernel_rfl) ?_)
 refine DW.seq (DW.seq (RK hnt (nn 3 []) [(0, rr 0), (5, ow 1064 r1.length), (c18e2 r1), (11, pI 0)] [(0, bx (pm (encDice p0))), (1064, ob0 (roCount r1))] trivial (by kernel_rfl) ?_))
 refine DW.block ?_
 obtain ⟨hc1, hm⟩ := guard_open hm
 refine DW.forO (fun (k1 : Int) (s1 : Dice × (List Count)) => mkSt [(0, rr 0), (5, ow 1064 s1.2.length), (c18e2 r1), (11, pI k1)] [(0, bx (pm (encDice s1.1))), (1064, ob0 (roCount s1.2))]) (lo := 0) (hi := ((r1.length : Nat) : Int)) hm .refl ?_
 intro k1 s1 n1 hk1 hs1 he1
 refine DW.seq (RK hnt (.no :: []) [(0, rr 0), (5, ow 1064 s1.2.length), (c18e2 r1), (11, pI k1), (12, pB (decide (k1 < ((r1.length : Nat) : Int))))] [(0, bx (pm (encDice s1.1))), (1064, ob0 (roCount s1.2))] trivial (by kernel_rfl) ?_)
 refine DW.seq (DW.cond (decide (k1 < ((r1.length : Nat) : Int))) rfl rfl ?_ ?_)
 ·
  intro h30
  have hlt1 : k1 < ((r1.length : Nat) : Int) := by have := of_decide_eq_true h30; omega
  have hm := hs1 hlt1
  unfold counts_law10L1 at hm
  refine DW.skip ?_
  refine DW.seq (DW.block ?_)
  refine DW.seq (RK hnt (nn 2 []) [(0, rr 0), (5, ow 1064 s1.2.length), (6, pI k1), (c18e2 r1), (11, pI k1)] [(0, bx (pm (encDice s1.1))), (1064, ob0 (roCount s1.2))] trivial (by kernel_rfl) ?_)
  obtain ⟨r31, hr31, hm⟩ := bind_open hm
  refine DW.seq (DW.seq (RK hnt (.no :: .call 77 [0] true (pB r31.1) [.box (pm (encDice r31.2))] [] :: []) [(0, rr 0), (5, ow 1064 s1.2.length), (6, pI k1), (c18e2 r1), (11, pI k1), (15, pB r31.1)] [(0, bx (pm (encDice r31.2))), (1064, ob0 (roCount s1.2))] (an (Bool_Dice_madeSpec s1.1 2 r31 hr31) (an trivial trivial)) (by kernel_rfl) ?_))
  refine DW.join (ι := Dice × (List Count)) (fun (y3 : Dice × (List Count)) => mkSt [(0, rr 0), (5, ow 1064 y3.2.length), (6, pI k1), (c18e2 r1), (11, pI k1)] [(0, bx (pm (encDice y3.1))), (1064, ob0 (roCount y3.2))]) (fun y3 => (counts_law10J3 k1 n1) y3 = some RES) ?_ ?_
  ·
   intro y3 hm
   unfold counts_law10J3 at hm
   obtain ⟨g36, hm⟩ := guard_open hm
   obtain ⟨g37, hm⟩ := guard_open hm
   obtain ⟨r38, hr38, hm⟩ := bind_open hm
   obtain ⟨g39, hm⟩ := guard_open hm
   obtain ⟨g40, hm⟩ := guard_open hm
   refine DW.seq (RN hnt (nn 8 (.call 19 [0] true (pI r38.1) [.box (pm (encDice r38.2))] [] :: nn 5 [])) [(0, rr 0), (5, ow 1064 (y3.2.set (Int.toNat k1) ({ group := (c18e1 y3 k1).group, now := (c18e1 y3 k1).now, limit := (c18e1 y3 k1).limit, peak := (minI (w64 ((c18e1 y3 k1).peak + r38.1)) 128), events := (c18e1 y3 k1).events } : Count)).length), (6, pI k1), (c18e2 r1), (11, pI k1)] [(0, bx (pm (encDice r38.2))), (1064, ob0 (roCount (y3.2.set (Int.toNat k1) ({ group := (c18e1 y3 k1).group, now := (c18e1 y3 k1).now, limit := (c18e1 y3 k1).limit, peak := (minI (w64 ((c18e1 y3 k1).peak + r38.1)) 128), events := (c18e1 y3 k1).events } : Count))))] [(5, ow 1064 y3.2.length)] [(1064, .row 5 y3.2.length (updF (elCount y3.2) (Int.toNat k1) [vi (c18e1 y3 k1).group, vi (c18e1 y3 k1).now, vi (c18e1 y3 k1).limit, vi (minI (w64 ((c18e1 y3 k1).peak + r38.1)) 128), vi (c18e1 y3 k1).events]))] (an g36.1 (an g36.2 (an g37 (an (Next_Dice_madeSpec y3.1 3 r38 hr38) (an trivial (an g39.1 (an g39.2 (an g40 trivial)))))))) (by kernel_rfl) (.cons rfl (MLe.ownLen (enc := encCount) (d := dCount) (f := (updF (elCount y3.2) (Int.toNat k1) [vi (c18e1 y3 k1).group, vi (c18e1 y3 k1).now, vi (c18e1 y3 k1).limit, vi (minI (w64 ((c18e1 y3 k1).peak + r38.1)) 128), vi (c18e1 y3 k1).events])) (RowIs.upd RowIs.elems ({ group := (c18e1 y3 k1).group, now := (c18e1 y3 k1).now, limit := (c18e1 y3 k1).limit, peak := (minI (w64 ((c18e1 y3 k1).peak + r38.1)) 128), events := (c18e1 y3 k1).events } : Count) rfl)) .nil) (.cons rfl (BLe.typed (RowIs.upd RowIs.elems ({ group := (c18e1 y3 k1).group, now := (c18e1 y3 k1).now, limit := (c18e1 y3 k1).limit, peak := (minI (w64 ((c18e1 y3 k1).peak + r38.1)) 128), events := (c18e1 y3 k1).events } : Count) rfl)) .nil) ?_)
   obtain ⟨r41, hr41, hm⟩ := bind_open hm
   obtain ⟨g42, hm⟩ := guard_open hm
   obtain ⟨g43, hm⟩ := guard_open hm
   refine RN hnt (nn 3 (.call 19 [0] true (pI r41.1) [.box (pm (encDice r41.2))] [] :: nn 3 [])) [(0, rr 0), (5, ow 1064 ((y3.2.set (Int.toNat k1) ({ group := (c18e1 y3 k1).group, now := (c18e1 y3 k1).now, limit := (c18e1 y3 k1).limit, peak := (minI (w64 ((c18e1 y3 k1).peak + r38.1)) 128), events := (c18e1 y3 k1).events } : Count)).set (Int.toNat k1) ({ group := ((y3.2.set (Int.toNat k1) ({ group := (c18e1 y3 k1).group, now := (c18e1 y3 k1).now, limit := (c18e1 y3 k1).limit, peak := (minI (w64 ((c18e1 y3 k1).peak + r38.1)) 128), events := (c18e1 y3 k1).events } : Count)).getD (Int.toNat k1) dCount).group, now := ((y3.2.set (Int.toNat k1) ({ group := (c18e1 y3 k1).group, now := (c18e1 y3 k1).now, limit := (c18e1 y3 k1).limit, peak := (minI (w64 ((c18e1 y3 k1).peak + r38.1)) 128), events := (c18e1 y3 k1).events } : Count)).getD (Int.toNat k1) dCount).now, limit := ((y3.2.set (Int.toNat k1) ({ group := (c18e1 y3 k1).group, now := (c18e1 y3 k1).now, limit := (c18e1 y3 k1).limit, peak := (minI (w64 ((c18e1 y3 k1).peak + r38.1)) 128), events := (c18e1 y3 k1).events } : Count)).getD (Int.toNat k1) dCount).limit, peak := ((y3.2.set (Int.toNat k1) ({ group := (c18e1 y3 k1).group, now := (c18e1 y3 k1).now, limit := (c18e1 y3 k1).limit, peak := (minI (w64 ((c18e1 y3 k1).peak + r38.1)) 128), events := (c18e1 y3 k1).events } : Count)).getD (Int.toNat k1) dCount).peak, events := r41.1 } : Count)).length), (c18e2 r1), (11, pI k1)] [(0, bx (pm (encDice r41.2))), (1064, ob0 (roCount ((y3.2.set (Int.toNat k1) ({ group := (c18e1 y3 k1).group, now := (c18e1 y3 k1).now, limit := (c18e1 y3 k1).limit, peak := (minI (w64 ((c18e1 y3 k1).peak + r38.1)) 128), events := (c18e1 y3 k1).events } : Count)).set (Int.toNat k1) ({ group := ((y3.2.set (Int.toNat k1) ({ group := (c18e1 y3 k1).group, now := (c18e1 y3 k1).now, limit := (c18e1 y3 k1).limit, peak := (minI (w64 ((c18e1 y3 k1).peak + r38.1)) 128), events := (c18e1 y3 k1).events } : Count)).getD (Int.toNat k1) dCount).group, now := ((y3.2.set (Int.toNat k1) ({ group := (c18e1 y3 k1).group, now := (c18e1 y3 k1).now, limit := (c18e1 y3 k1).limit, peak := (minI (w64 ((c18e1 y3 k1).peak + r38.1)) 128), events := (c18e1 y3 k1).events } : Count)).getD (Int.toNat k1) dCount).now, limit := ((y3.2.set (Int.toNat k1) ({ group := (c18e1 y3 k1).group, now := (c18e1 y3 k1).now, limit := (c18e1 y3 k1).limit, peak := (minI (w64 ((c18e1 y3 k1).peak + r38.1)) 128), events := (c18e1 y3 k1).events } : Count)).getD (Int.toNat k1) dCount).limit, peak := ((y3.2.set (Int.toNat k1) ({ group := (c18e1 y3 k1).group, now := (c18e1 y3 k1).now, limit := (c18e1 y3 k1).limit, peak := (minI (w64 ((c18e1 y3 k1).peak + r38.1)) 128), events := (c18e1 y3 k1).events } : Count)).getD (Int.toNat k1) dCount).peak, events := r41.1 } : Count))))] [(5, ow 1064 (y3.2.set (Int.toNat k1) ({ group := (c18e1 y3 k1).group, now := (c18e1 y3 k1).now, limit := (c18e1 y3 k1).limit, peak := (minI (w64 ((c18e1 y3 k1).peak + r38.1)) 128), events := (c18e1 y3 k1).events } : Count)).length)] [(1064, .row 5 (y3.2.set (Int.toNat k1) ({ group := (c18e1 y3 k1).group, now := (c18e1 y3 k1).now, limit := (c18e1 y3 k1).limit, peak := (minI (w64 ((c18e1 y3 k1).peak + r38.1)) 128), events := (c18e1 y3 k1).events } : Count)).length (updF (elCount (y3.2.set (Int.toNat k1) ({ group := (c18e1 y3 k1).group, now := (c18e1 y3 k1).now, limit := (c18e1 y3 k1).limit, peak := (minI (w64 ((c18e1 y3 k1).peak + r38.1)) 128), events := (c18e1 y3 k1).events } : Count))) (Int.toNat k1) [vi ((y3.2.set (Int.toNat k1) ({ group := (c18e1 y3 k1).group, now := (c18e1 y3 k1).now, limit := (c18e1 y3 k1).limit, peak := (minI (w64 ((c18e1 y3 k1).peak + r38.1)) 128), events := (c18e1 y3 k1).events } : Count)).getD (Int.toNat k1) dCount).group, vi ((y3.2.set (Int.toNat k1) ({ group := (c18e1 y3 k1).group, now := (c18e1 y3 k1).now, limit := (c18e1 y3 k1).limit, peak := (minI (w64 ((c18e1 y3 k1).peak + r38.1)) 128), events := (c18e1 y3 k1).events } : Count)).getD (Int.toNat k1) dCount).now, vi ((y3.2.set (Int.toNat k1) ({ group := (c18e1 y3 k1).group, now := (c18e1 y3 k1).now, limit := (c18e1 y3 k1).limit, peak := (minI (w64 ((c18e1 y3 k1).peak + r38.1)) 128), events := (c18e1 y3 k1).events } : Count)).getD (Int.toNat k1) dCount).limit, vi ((y3.2.set (Int.toNat k1) ({ group := (c18e1 y3 k1).group, now := (c18e1 y3 k1).now, limit := (c18e1 y3 k1).limit, peak := (minI (w64 ((c18e1 y3 k1).peak + r38.1)) 128), events := (c18e1 y3 k1).events } : Count)).getD (Int.toNat k1) dCount).peak, vi r41.1]))] (an (Next_Dice_madeSpec r38.2 3 r41 hr41) (an trivial (an g42.1 (an g42.2 (an g43 trivial))))) (by kernel_rfl) (.cons rfl (MLe.ownLen (enc := encCount) (d := dCount) (f := (updF (elCount (y3.2.set (Int.toNat k1) ({ group := (c18e1 y3 k1).group, now := (c18e1 y3 k1).now, limit := (c18e1 y3 k1).limit, peak := (minI (w64 ((c18e1 y3 k1).peak + r38.1)) 128), events := (c18e1 y3 k1).events } : Count))) (Int.toNat k1) [vi ((y3.2.set (Int.toNat k1) ({ group := (c18e1 y3 k1).group, now := (c18e1 y3 k1).now, limit := (c18e1 y3 k1).limit, peak := (minI (w64 ((c18e1 y3 k1).peak + r38.1)) 128), events := (c18e1 y3 k1).events } : Count)).getD (Int.toNat k1) dCount).group, vi ((y3.2.set (Int.toNat k1) ({ group := (c18e1 y3 k1).group, now := (c18e1 y3 k1).now, limit := (c18e1 y3 k1).limit, peak := (minI (w64 ((c18e1 y3 k1).peak + r38.1)) 128), events := (c18e1 y3 k1).events } : Count)).getD (Int.toNat k1) dCount).now, vi ((y3.2.set (Int.toNat k1) ({ group := (c18e1 y3 k1).group, now := (c18e1 y3 k1).now, limit := (c18e1 y3 k1).limit, peak := (minI (w64 ((c18e1 y3 k1).peak + r38.1)) 128), events := (c18e1 y3 k1).events } : Count)).getD (Int.toNat k1) dCount).limit, vi ((y3.2.set (Int.toNat k1) ({ group := (c18e1 y3 k1).group, now := (c18e1 y3 k1).now, limit := (c18e1 y3 k1).limit, peak := (minI (w64 ((c18e1 y3 k1).peak + r38.1)) 128), events := (c18e1 y3 k1).events } : Count)).getD (Int.toNat k1) dCount).peak, vi r41.1])) (RowIs.upd RowIs.elems ({ group := ((y3.2.set (Int.toNat k1) ({ group := (c18e1 y3 k1).group, now := (c18e1 y3 k1).now, limit := (c18e1 y3 k1).limit, peak := (minI (w64 ((c18e1 y3 k1).peak + r38.1)) 128), events := (c18e1 y3 k1).events } : Count)).getD (Int.toNat k1) dCount).group, now := ((y3.2.set (Int.toNat k1) ({ group := (c18e1 y3 k1).group, now := (c18e1 y3 k1).now, limit := (c18e1 y3 k1).limit, peak := (minI (w64 ((c18e1 y3 k1).peak + r38.1)) 128), events := (c18e1 y3 k1).events } : Count)).getD (Int.toNat k1) dCount).now, limit := ((y3.2.set (Int.toNat k1) ({ group := (c18e1 y3 k1).group, now := (c18e1 y3 k1).now, limit := (c18e1 y3 k1).limit, peak := (minI (w64 ((c18e1 y3 k1).peak + r38.1)) 128), events := (c18e1 y3 k1).events } : Count)).getD (Int.toNat k1) dCount).limit, peak := ((y3.2.set (Int.toNat k1) ({ group := (c18e1 y3 k1).group, now := (c18e1 y3 k1).now, limit := (c18e1 y3 k1).limit, peak := (minI (w64 ((c18e1 y3 k1).peak + r38.1)) 128), events := (c18e1 y3 k1).events } : Count)).getD (Int.toNat k1) dCount).peak, events := r41.1 } : Count) rfl)) .nil) (.cons rfl (BLe.typed (RowIs.upd RowIs.elems ({ group := ((y3.2.set (Int.toNat k1) ({ group := (c18e1 y3 k1).group, now := (c18e1 y3 k1).now, limit := (c18e1 y3 k1).limit, peak := (minI (w64 ((c18e1 y3 k1).peak + r38.1)) 128), events := (c18e1 y3 k1).events } : Count)).getD (Int.toNat k1) dCount).group, now := ((y3.2.set (Int.toNat k1) ({ group := (c18e1 y3 k1).group, now := (c18e1 y3 k1).now, limit := (c18e1 y3 k1).limit, peak := (minI (w64 ((c18e1 y3 k1).peak + r38.1)) 128), events := (c18e1 y3 k1).events } : Count)).getD (Int.toNat k1) dCount).now, limit := ((y3.2.set (Int.toNat k1) ({ group := (c18e1 y3 k1).group, now := (c18e1 y3 k1).now, limit := (c18e1 y3 k1).limit, peak := (minI (w64 ((c18e1 y3 k1).peak + r38.1)) 128), events := (c18e1 y3 k1).events } : Count)).getD (Int.toNat k1) dCount).limit, peak := ((y3.2.set (Int.toNat k1) ({ group := (c18e1 y3 k1).group, now := (c18e1 y3 k1).now, limit := (c18e1 y3 k1).limit, peak := (minI (w64 ((c18e1 y3 k1).peak + r38.1)) 128), events := (c18e1 y3 k1).events } : Count)).getD (Int.toNat k1) dCount).peak, events := r41.1 } : Count) rfl)) .nil) ?_
   refine DW.done ?_
   show DW _ _ _ _ _
   refine RK hnt (nn 2 []) [(0, rr 0), (5, ow 1064 ((y3.2.set (Int.toNat k1) ({ group := (c18e1 y3 k1).group, now := (c18e1 y3 k1).now, limit := (c18e1 y3 k1).limit, peak := (minI (w64 ((c18e1 y3 k1).peak + r38.1)) 128), events := (c18e1 y3 k1).events } : Count)).set (Int.toNat k1) ({ group := ((y3.2.set (Int.toNat k1) ({ group := (c18e1 y3 k1).group, now := (c18e1 y3 k1).now, limit := (c18e1 y3 k1).limit, peak := (minI (w64 ((c18e1 y3 k1).peak + r38.1)) 128), events := (c18e1 y3 k1).events } : Count)).getD (Int.toNat k1) dCount).group, now := ((y3.2.set (Int.toNat k1) ({ group := (c18e1 y3 k1).group, now := (c18e1 y3 k1).now, limit := (c18e1 y3 k1).limit, peak := (minI (w64 ((c18e1 y3 k1).peak + r38.1)) 128), events := (c18e1 y3 k1).events } : Count)).getD (Int.toNat k1) dCount).now, limit := ((y3.2.set (Int.toNat k1) ({ group := (c18e1 y3 k1).group, now := (c18e1 y3 k1).now, limit := (c18e1 y3 k1).limit, peak := (minI (w64 ((c18e1 y3 k1).peak + r38.1)) 128), events := (c18e1 y3 k1).events } : Count)).getD (Int.toNat k1) dCount).limit, peak := ((y3.2.set (Int.toNat k1) ({ group := (c18e1 y3 k1).group, now := (c18e1 y3 k1).now, limit := (c18e1 y3 k1).limit, peak := (minI (w64 ((c18e1 y3 k1).peak + r38.1)) 128), events := (c18e1 y3 k1).events } : Count)).getD (Int.toNat k1) dCount).peak, events := r41.1 } : Count)).length), (c18e2 r1), (11, pI (w64 (k1 + 1)))] [(0, bx (pm (encDice r41.2))), (1064, ob0 (roCount ((y3.2.set (Int.toNat k1) ({ group := (c18e1 y3 k1).group, now := (c18e1 y3 k1).now, limit := (c18e1 y3 k1).limit, peak := (minI (w64 ((c18e1 y3 k1).peak + r38.1)) 128), events := (c18e1 y3 k1).events } : Count)).set (Int.toNat k1) ({ group := ((y3.2.set (Int.toNat k1) ({ group := (c18e1 y3 k1).group, now := (c18e1 y3 k1).now, limit := (c18e1 y3 k1).limit, peak := (minI (w64 ((c18e1 y3 k1).peak + r38.1)) 128), events := (c18e1 y3 k1).events } : Count)).getD (Int.toNat k1) dCount).group, now := ((y3.2.set (Int.toNat k1) ({ group := (c18e1 y3 k1).group, now := (c18e1 y3 k1).now, limit := (c18e1 y3 k1).limit, peak := (minI (w64 ((c18e1 y3 k1).peak + r38.1)) 128), events := (c18e1 y3 k1).events } : Count)).getD (Int.toNat k1) dCount).now, limit := ((y3.2.set (Int.toNat k1) ({ group := (c18e1 y3 k1).group, now := (c18e1 y3 k1).now, limit := (c18e1 y3 k1).limit, peak := (minI (w64 ((c18e1 y3 k1).peak + r38.1)) 128), events := (c18e1 y3 k1).events } : Count)).getD (Int.toNat k1) dCount).limit, peak := ((y3.2.set (Int.toNat k1) ({ group := (c18e1 y3 k1).group, now := (c18e1 y3 k1).now, limit := (c18e1 y3 k1).limit, peak := (minI (w64 ((c18e1 y3 k1).peak + r38.1)) 128), events := (c18e1 y3 k1).events } : Count)).getD (Int.toNat k1) dCount).peak, events := r41.1 } : Count))))] trivial (by kernel_rfl) ?_
   exact joinDone (r41.2, ((y3.2.set (Int.toNat k1) ({ group := (c18e1 y3 k1).group, now := (c18e1 y3 k1).now, limit := (c18e1 y3 k1).limit, peak := (minI (w64 ((c18e1 y3 k1).peak + r38.1)) 128), events := (c18e1 y3 k1).events } : Count)).set (Int.toNat k1) ({ group := ((y3.2.set (Int.toNat k1) ({ group := (c18e1 y3 k1).group, now := (c18e1 y3 k1).now, limit := (c18e1 y3 k1).limit, peak := (minI (w64 ((c18e1 y3 k1).peak + r38.1)) 128), events := (c18e1 y3 k1).events } : Count)).getD (Int.toNat k1) dCount).group, now := ((y3.2.set (Int.toNat k1) ({ group := (c18e1 y3 k1).group, now := (c18e1 y3 k1).now, limit := (c18e1 y3 k1).limit, peak := (minI (w64 ((c18e1 y3 k1).peak + r38.1)) 128), events := (c18e1 y3 k1).events } : Count)).getD (Int.toNat k1) dCount).now, limit := ((y3.2.set (Int.toNat k1) ({ group := (c18e1 y3 k1).group, now := (c18e1 y3 k1).now, limit := (c18e1 y3 k1).limit, peak := (minI (w64 ((c18e1 y3 k1).peak + r38.1)) 128), events := (c18e1 y3 k1).events } : Count)).getD (Int.toNat k1) dCount).limit, peak := ((y3.2.set (Int.toNat k1) ({ group := (c18e1 y3 k1).group, now := (c18e1 y3 k1).now, limit := (c18e1 y3 k1).limit, peak := (minI (w64 ((c18e1 y3 k1).peak + r38.1)) 128), events := (c18e1 y3 k1).events } : Count)).getD (Int.toNat k1) dCount).peak, events := r41.1 } : Count))) ⟨hlt1, hm⟩ (Conv.tp [(11, pI (w64 (k1 + 1)))] [] (by kernel_rfl) (.cons rfl (.of_eq (congrArg pI (w64_for (lo := 0) (hi := ((r1.length : Nat) : Int)) (by omega) hk1 hlt1 (by omega)))) .nil) .nil)
  ·
   refine DW.cond r31.1 rfl rfl ?_ ?_
   ·
    intro h32
    replace hm := if_t h32 hm
    obtain ⟨r33, hr33, hm⟩ := bind_open hm
    obtain ⟨g34, hm⟩ := guard_open hm
    obtain ⟨g35, hm⟩ := guard_open hm
    refine RN hnt (nn 3 (.call 19 [0] true (pI r33.1) [.box (pm (encDice r33.2))] [] :: nn 3 [])) [(0, rr 0), (5, ow 1064 (s1.2.set (Int.toNat k1) ({ group := (s1.2.getD (Int.toNat k1) dCount).group, now := (s1.2.getD (Int.toNat k1) dCount).now, limit := r33.1, peak := (s1.2.getD (Int.toNat k1) dCount).peak, events := (s1.2.getD (Int.toNat k1) dCount).events } : Count)).length), (6, pI k1), (c18e2 r1), (11, pI k1)] [(0, bx (pm (encDice r33.2))), (1064, ob0 (roCount (s1.2.set (Int.toNat k1) ({ group := (s1.2.getD (Int.toNat k1) dCount).group, now := (s1.2.getD (Int.toNat k1) dCount).now, limit := r33.1, peak := (s1.2.getD (Int.toNat k1) dCount).peak, events := (s1.2.getD (Int.toNat k1) dCount).events } : Count))))] [(5, ow 1064 s1.2.length)] [(1064, .row 5 s1.2.length (updF (elCount s1.2) (Int.toNat k1) [vi (s1.2.getD (Int.toNat k1) dCount).group, vi (s1.2.getD (Int.toNat k1) dCount).now, vi r33.1, vi (s1.2.getD (Int.toNat k1) dCount).peak, vi (s1.2.getD (Int.toNat k1) dCount).events]))] (an (Next_Dice_madeSpec r31.2 6 r33 hr33) (an trivial (an g34.1 (an g34.2 (an g35 trivial))))) (by kernel_rfl) (.cons rfl (MLe.ownLen (enc := encCount) (d := dCount) (f := (updF (elCount s1.2) (Int.toNat k1) [vi (s1.2.getD (Int.toNat k1) dCount).group, vi (s1.2.getD (Int.toNat k1) dCount).now, vi r33.1, vi (s1.2.getD (Int.toNat k1) dCount).peak, vi (s1.2.getD (Int.toNat k1) dCount).events])) (RowIs.upd RowIs.elems ({ group := (s1.2.getD (Int.toNat k1) dCount).group, now := (s1.2.getD (Int.toNat k1) dCount).now, limit := r33.1, peak := (s1.2.getD (Int.toNat k1) dCount).peak, events := (s1.2.getD (Int.toNat k1) dCount).events } : Count) rfl)) .nil) (.cons rfl (BLe.typed (RowIs.upd RowIs.elems ({ group := (s1.2.getD (Int.toNat k1) dCount).group, now := (s1.2.getD (Int.toNat k1) dCount).now, limit := r33.1, peak := (s1.2.getD (Int.toNat k1) dCount).peak, events := (s1.2.getD (Int.toNat k1) dCount).events } : Count) rfl)) .nil) ?_
    exact joinDone (r33.2, (s1.2.set (Int.toNat k1) ({ group := (s1.2.getD (Int.toNat k1) dCount).group, now := (s1.2.getD (Int.toNat k1) dCount).now, limit := r33.1, peak := (s1.2.getD (Int.toNat k1) dCount).peak, events := (s1.2.getD (Int.toNat k1) dCount).events } : Count))) hm .refl
   ·
    intro h32
    replace hm := if_f h32 hm
    refine DW.skip ?_
    exact joinDone (r31.2, s1.2) hm (Conv.tp [] [] (by kernel_rfl) .nil .nil)
 ·
  intro h30
  have hge1 : ¬ k1 < ((r1.length : Nat) : Int) := by have := of_decide_eq_false h30; omega
  have hm := he1 hge1
  unfold counts_law10D1 at hm
  refine DW.exit ?_
  refine joinQ_exit ?_
  refine KQ_exit ?_
  refine blockQ_exit ?_
  show DW _ _ _ _ _
  refine DW.seq (RK hnt (nn 2 []) [(4, ow 1064 s1.2.length)] [(0, bx (pm (encDice s1.1))), (1064, ob0 (roCount s1.2))] trivial (by kernel_rfl) ?_)
  refine DW.ret ?_
  obtain rfl := Option.some.inj hm
  refine retOK (bs' := [.box (pm (encDice s1.1)), roCount s1.2]) [1064] (ow 1 s1.2.length) (by kernel_rfl) ?_ ?_
  · rfl
  · rfl

theorem Room_pidsSpec (p0 : Hierarchy) (p1 : List Count) (p2 : Int) (RES : Int) (hm : Room_pids p0 p1 p2 = some RES) : Spec Tryz.prog 23 [.p (.agg (encHierarchy p0)), .p (slCount p1), pI p2] [] (pI RES) [] [] := by
 unfold Room_pids at hm
 refine spec_of Tgood (T := Tt) Tryz.func23 (by decide) (c := _) rfl rfl (sl := [(0, .p (.agg (encHierarchy p0))), (1, .p (slCount p1)), (2, pI p2)]) (ob := []) (Nat.le_of_ble_eq_true rfl) (Nat.le_of_ble_eq_true rfl) (by kernel_rfl) (by kernel_rfl) ?_
 intro cx hnt
 refine DW.start ?_
 refine DW.seq (RK hnt (nn 2 []) [(1, .p (slCount p1)), (2, pI p2), (3, rr 1024)] [(1024, bx (pm (encHierarchy p0)))] trivial (by kernel_rfl) ?_)
 obtain ⟨r1, hr1, hm⟩ := bind_open hm
 refine DW.seq (DW.seq ?_)
 refine DW.join (ι := Bool) (fun (y1 : Bool) => mkSt [(1, .p (slCount p1)), (2, pI p2), (3, rr 1024), (16, pB y1)] [(1024, bx (pm (encHierarchy p0)))]) (fun y1 => (Room_pidsJ1 p0 p1 p2) y1 = some RES) ?_ ?_
 ·
  intro y1 hm
  unfold Room_pidsJ1 at hm
  refine DW.cond y1 rfl rfl ?_ ?_
  ·
   intro h4
   replace hm := if_t h4 hm
   refine DW.seq (RK hnt (.no :: []) [(6, pI 0)] [] trivial (by kernel_rfl) ?_)
   refine DW.ret ?_
   obtain rfl := Option.some.inj hm
   refine retOK (bs' := []) [] (pI 0) (by kernel_rfl) ?_ ?_
   · rfl
   · rfl
  ·
   intro h4
   replace hm := if_f h4 hm
   refine DW.skip ?_
   obtain ⟨r5, hr5, hm⟩ := bind_open hm
   refine DW.seq (RK hnt (nn 3 (.call 90 [] true (pI r5) [] [] :: .no :: [])) [(6, pI r5)] [] (an (least_pidsSpec p0 p1 p2 r5 hr5) trivial) (by kernel_rfl) ?_)
   refine DW.ret ?_
   obtain rfl := Option.some.inj hm
   refine retOK (bs' := []) [] (pI r5) (by kernel_rfl) ?_ ?_
   · rfl
   · rfl
 ·
  rcases bt (!r1) with h2 | h2
  ·
   replace hm := if_t h2 hm
   refine RK hnt (nn 2 (.call 31 [] true (pB r1) [] [] :: nn 2 (sk 4 (pT :: [])))) [(1, .p (slCount p1)), (2, pI p2), (3, rr 1024), (16, pB true)] [(1024, bx (pm (encHierarchy p0)))] (an (Check_pidsSpec p0 p1 r1 hr1) (an5 h2 trivial)) (by kernel_rfl) ?_
   exact joinDone true hm .refl
  ·
   replace hm := if_f h2 hm
   obtain ⟨r3, hr3, hm⟩ := bind_open hm
   refine RK hnt (nn 2 (.call 31 [] true (pB r1) [] [] :: nn 4 (.call 86 [] true (pI r3) [] [] :: .no :: pF :: []))) [(1, .p (slCount p1)), (2, pI p2), (3, rr 1024), (16, pB (decide (r3 < 0)))] [(1024, bx (pm (encHierarchy p0)))] (an (Check_pidsSpec p0 p1 r1 hr1) (an3 h2 (an (at_pidsSpec p1 p2 r3 hr3) (an2 h2 trivial)))) (by kernel_rfl) ?_
   exact joinDone (decide (r3 < 0)) hm .refl

abbrev c29e1 (p0 : Hierarchy) : Nat × Obj := (1032, bx (pm (encHierarchy p0)))
abbrev c29e2 : Nat × Obj := (100000, ob0 (roCount []))
abbrev c29e3 : Nat × MV := (8, .p (.sl .nil 0 0 (fun _ => [])))
theorem Charge_pidsSpec (p0 : Hierarchy) (p1 : List Count) (p2 : Int) (p3 : Int) (RES : (List Count) × Int) (hm : Charge_pids p0 p1 p2 p3 = some RES) : Spec Tryz.prog 29 [.p (.agg (encHierarchy p0)), .p (slCount p1), pI p2, pI p3] [] (.tup [ow 0 RES.1.length, pI RES.2]) [] [roCount RES.1] := by
 unfold Charge_pids at hm
 refine spec_of Tgood (T := Tt) Tryz.func29 (by decide) (c := _) rfl rfl (sl := [(0, .p (.agg (encHierarchy p0))), (1, .p (slCount p1)), (2, pI p2), (3, pI p3)]) (ob := []) (Nat.le_of_ble_eq_true rfl) (Nat.le_of_ble_eq_true rfl) (by kernel_rfl) (by kernel_rfl) ?_
 intro cx hnt
 refine DW.start ?_
 refine DW.seq (RK hnt (nn 3 []) [(1, .p (slCount p1)), (2, pI p2), (3, pI p3), (4, rr 1032)] [(c29e1 p0)] trivial (by kernel_rfl) ?_)
 refine DW.seq (DW.block ?_)
 obtain ⟨r1, hr1, hm⟩ := bind_open hm
 refine DW.seq ?_
 refine DW.join (ι := Bool) (fun (y1 : Bool) => mkSt [(1, .p (slCount p1)), (2, pI p2), (3, pI p3), (4, rr 1032), (10, pB y1)] [(c29e1 p0)]) (fun y1 => (Charge_pidsJ1 p0 p1 p2 p3) y1 = some RES) ?_ ?_
 ·
  intro y1 hm
  unfold Charge_pidsJ1 at hm
  refine DW.cond y1 rfl rfl ?_ ?_
  ·
   intro h4
   replace hm := if_t h4 hm
   refine DW.seq (RK hnt (nn 2 []) [(c29e3), (9, pI 1)] [] trivial (by kernel_rfl) ?_)
   refine DW.conv (τ := mkSt [(8, ow 100000 0), (9, pI 1)] [(c29e2)]) (Conv.trans (τ := mkSt [(8, ow 100000 0), (9, pI 1)] ((100000, ⟨0, .row 5 0 (elems encCount dCount [])⟩) :: [])) (Conv.adopt 100000 5 (elems encCount dCount []) rfl rfl (.cons (.one (.nil _ _)) (.cons (.one (.rfl _)) (.rfl _))) (.rfl _)) (Conv.trans (τ := mkSt [(8, ow 100000 0), (9, pI 1)] [(c29e2)]) (Conv.tp [] [] (by kernel_rfl) .nil .nil) .refl)) ?_
   refine DW.ret ?_
   obtain rfl := Option.some.inj hm
   refine retOK (bs' := [roCount []]) [100000] (.tup [ow 0 0, pI 1]) (by kernel_rfl) ?_ ?_
   · rfl
   · rfl
  ·
   intro h4
   replace hm := if_f h4 hm
   obtain ⟨r5, hr5, hm⟩ := bind_open hm
   refine DW.seq (RK hnt (nn 2 (.call 86 [] true (pI r5) [] [] :: nn 2 [])) [(1, .p (slCount p1)), (2, pI p2), (3, pI p3), (4, rr 1032), (23, pB (decide (r5 < 0)))] [(c29e1 p0)] (an (at_pidsSpec p1 p2 r5 hr5) trivial) (by kernel_rfl) ?_)
   refine DW.cond (decide (r5 < 0)) rfl rfl ?_ ?_
   ·
    intro h6
    replace hm := if_t h6 hm
    refine DW.seq (RK hnt (nn 2 []) [(c29e3), (9, pI 4)] [] trivial (by kernel_rfl) ?_)
    refine DW.conv (τ := mkSt [(8, ow 100000 0), (9, pI 4)] [(c29e2)]) (Conv.trans (τ := mkSt [(8, ow 100000 0), (9, pI 4)] ((100000, ⟨0, .row 5 0 (elems encCount dCount [])⟩) :: [])) (Conv.adopt 100000 5 (elems encCount dCount []) rfl rfl (.cons (.one (.nil _ _)) (.cons (.one (.rfl _)) (.rfl _))) (.rfl _)) (Conv.trans (τ := mkSt [(8, ow 100000 0), (9, pI 4)] [(c29e2)]) (Conv.tp [] [] (by kernel_rfl) .nil .nil) .refl)) ?_
    refine DW.ret ?_
    obtain rfl := Option.some.inj hm
    refine retOK (bs' := [roCount []]) [100000] (.tup [ow 0 0, pI 4]) (by kernel_rfl) ?_ ?_
    · rfl
    · rfl
   ·
    intro h6
    replace hm := if_f h6 hm
    obtain ⟨r7, hr7, hm⟩ := bind_open hm
    refine DW.seq (RK hnt (nn 3 (.call 90 [] true (pI r7) [] [] :: nn 3 [])) [(1, .p (slCount p1)), (2, pI p2), (3, pI p3), (4, rr 1032), (28, pB (decide (r7 < p3)))] [(c29e1 p0)] (an (least_pidsSpec p0 p1 p2 r7 hr7) trivial) (by kernel_rfl) ?_)
    refine DW.cond (decide (r7 < p3)) rfl rfl ?_ ?_
    ·
     intro h8
     replace hm := if_t h8 hm
     refine DW.seq (RK hnt (nn 2 []) [(c29e3), (9, pI 11)] [] trivial (by kernel_rfl) ?_)
     refine DW.conv (τ := mkSt [(8, ow 100000 0), (9, pI 11)] [(c29e2)]) (Conv.trans (τ := mkSt [(8, ow 100000 0), (9, pI 11)] ((100000, ⟨0, .row 5 0 (elems encCount dCount [])⟩) :: [])) (Conv.adopt 100000 5 (elems encCount dCount []) rfl rfl (.cons (.one (.nil _ _)) (.cons (.one (.rfl _)) (.rfl _))) (.rfl _)) (Conv.trans (τ := mkSt [(8, ow 100000 0), (9, pI 11)] [(c29e2)]) (Conv.tp [] [] (by kernel_rfl) .nil .nil) .refl)) ?_
     refine DW.ret ?_
     obtain rfl := Option.some.inj hm
     refine retOK (bs' := [roCount []]) [100000] (.tup [ow 0 0, pI 11]) (by kernel_rfl) ?_ ?_
     · rfl
     · rfl
    ·
     intro h8
     replace hm := if_f h8 hm
     refine DW.skip ?_
     refine DW.done ?_
     show DW _ _ _ _ _
     obtain ⟨r9, hr9, hm⟩ := bind_open hm
     refine DW.seq (RK hnt (nn 4 (.call 92 [] true (ow 0 r9.length) [] [roCount r9] :: nn 2 [])) [(8, ow 1312 r9.length), (9, pI 0)] [(1312, ob0 (roCount r9))] (an (charged_pidsSpec p0 p1 p2 p3 r9 hr9) trivial) (by kernel_rfl) ?_)
     refine DW.ret ?_
     obtain rfl := Option.some.inj hm
     refine retOK (bs' := [roCount r9]) [1312] (.tup [ow 0 r9.length, pI 0]) (by kernel_rfl) ?_ ?_
     · rfl
     · rfl
 ·
  rcases bt (!r1) with h2 | h2
  ·
   replace hm := if_t h2 hm
   refine RK hnt (nn 2 (.call 31 [] true (pB r1) [] [] :: nn 2 (sk 2 (pT :: .no :: sk 2 (pT :: .no :: []))))) [(1, .p (slCount p1)), (2, pI p2), (3, pI p3), (4, rr 1032), (10, pB true)] [(c29e1 p0)] (an (Check_pidsSpec p0 p1 r1 hr1) (an3 h2 (an3 tt trivial))) (by kernel_rfl) ?_
   exact joinDone true hm .refl
  ·
   replace hm := if_f h2 hm
   rcases bt (decide (p3 < 0)) with h3 | h3
   ·
    replace hm := if_t h3 hm
    refine RK hnt (nn 2 (.call 31 [] true (pB r1) [] [] :: nn 4 (pF :: .no :: sk 2 (pT :: .no :: [])))) [(1, .p (slCount p1)), (2, pI p2), (3, pI p3), (4, rr 1032), (10, pB true)] [(c29e1 p0)] (an (Check_pidsSpec p0 p1 r1 hr1) (an3 h2 (an3 h3 trivial))) (by kernel_rfl) ?_
    exact joinDone true hm .refl
   ·
    replace hm := if_f h3 hm
    refine RK hnt (nn 2 (.call 31 [] true (pB r1) [] [] :: nn 4 (pF :: nn 3 (pF :: .no :: [])))) [(1, .p (slCount p1)), (2, pI p2), (3, pI p3), (4, rr 1032), (10, pB (decide (p3 > 128)))] [(c29e1 p0)] (an (Check_pidsSpec p0 p1 r1 hr1) (an3 h2 (an3 h3 trivial))) (by kernel_rfl) ?_
    exact joinDone (decide (p3 > 128)) hm .refl

abbrev c5e1 (r5 : Hierarchy × Dice) (r7 : Int × Dice) : Nat × MV := (8, pI (r5.1.tree.nodes.getD (Int.toNat r7.1) dNode).id)
abbrev c5e2 (r5 : Hierarchy × Dice) : Nat × Obj := (1048, bx (pm (encHierarchy r5.1)))
abbrev c5e3 (r6 : (List Count) × Dice) : Nat × MV := (74, pI ((r6.1.length : Nat) : Int))
abbrev c5e4 (r11 : (List Count) × Int) : Nat × Obj := (1416, ob0 (roCount r11.1))
abbrev c5e5 (r11 : (List Count) × Int) : Nat × MV := (11, ow 1416 r11.1.length)
abbrev c5e6 (k1 : Nat) : Nat × MV := (75, pI ((k1 : Nat) : Int))
abbrev c5e7 (r170 : List Int) : Nat × MV := (82, pI ((r170.length : Nat) : Int))
abbrev c5e8 (k1 : Nat) : Nat × MV := (13, pI ((k1 : Nat) : Int))
abbrev c5e9 (k4 : Nat) : Nat × MV := (83, pI ((k4 : Nat) : Int))
theorem PidsPeaks_law10Spec (p0 : List Int) (p1 : Int) (RES : Bool) (hm : PidsPeaks_law10 p0 p1 = some RES) : Spec Tryz.prog 5 [.p (slI p0), .p (vk .u8 p1)] [] (pB RES) [] [] := by
 unfold PidsPeaks_law10 at hm
 refine spec_of Tgood (T := Tt) Tryz.func5 (by decide) (c := _) rfl rfl (sl := [(0, .p (slI p0)), (1, .p (vk .u8 p1))]) (ob := []) (Nat.le_of_ble_eq_true rfl) (Nat.le_of_ble_eq_true rfl) (by kernel_rfl) (by kernel_rfl) ?_
 intro cx hnt
 refine DW.start ?_
 refine DW.seq (RK hnt (.no :: []) [(0, .p (slI p0)), (1, .p (vk .u8 p1))] [] trivial (by kernel_rfl) ?_)
 obtain ⟨r1, hr1, hm⟩ := bind_open hm
 refine DW.seq (DW.seq (RK hnt (.no :: .call 14 [] true (pB r1) [] [] :: .no :: []) [(0, .p (slI p0)), (1, .p (vk .u8 p1)), (19, pB (!r1))] [] (an (Light_madeSpec p0 r1 hr1) trivial) (by kernel_rfl) ?_))
 refine DW.cond (!r1) rfl rfl ?_ ?_
 ·
  intro h2
  replace hm := if_t h2 hm
  obtain ⟨r3, hr3, hm⟩ := bind_open hm
  refine DW.seq (RK hnt (.call 15 [] true (pB r3) [] [] :: .no :: []) [(4, pB r3)] [] (an (sane_law10Spec r3 hr3) trivial) (by kernel_rfl) ?_)
  refine DW.ret ?_
  obtain rfl := Option.some.inj hm
  refine retOK (bs' := []) [] (pB r3) (by kernel_rfl) ?_ ?_
  · rfl
  · rfl
 ·
  intro h2
  replace hm := if_f h2 hm
  refine DW.skip ?_
  obtain ⟨r4, hr4, hm⟩ := bind_open hm
  refine DW.seq (RK hnt (.no :: .call 16 [] true (rr 0) [] [.box (pm (encDice r4))] :: .no :: []) [(1, .p (vk .u8 p1)), (5, rr 1176)] [(1176, bx (pm (encDice r4)))] (an (Roll_madeSpec p0 r4 hr4) trivial) (by kernel_rfl) ?_)
  obtain ⟨r5, hr5, hm⟩ := bind_open hm
  refine DW.seq (RK hnt (.no :: .call 17 [1176] true (.p (.agg (encHierarchy r5.1))) [.box (pm (encDice r5.2))] [] :: nn 2 []) [(1, .p (vk .u8 p1)), (5, rr 1176), (6, rr 1048)] [(c5e2 r5), (1176, bx (pm (encDice r5.2)))] (an (Hierarchy_Dice_madeSpec r4 6 8 r5 hr5) (an trivial trivial)) (by kernel_rfl) ?_)
  obtain ⟨r6, hr6, hm⟩ := bind_open hm
  refine DW.seq (RK hnt (nn 2 (.call 18 [1176] true (ow 1 r6.1.length) [.box (pm (encDice r6.2))] [roCount r6.1] :: .no :: [])) [(1, .p (vk .u8 p1)), (5, rr 1176), (6, rr 1048), (7, ow 1216 r6.1.length)] [(c5e2 r5), (1176, bx (pm (encDice r6.2))), (1216, ob0 (roCount r6.1))] (an (counts_law10Spec r5.2 r5.1 r6 hr6) (an trivial trivial)) (by kernel_rfl) ?_)
  obtain ⟨r7, hr7, hm⟩ := bind_open hm
  obtain ⟨g8, hm⟩ := guard_open hm
  refine DW.seq (RK hnt (nn 8 (.call 19 [1176] true (pI r7.1) [.box (pm (encDice r7.2))] [] :: nn 4 [])) [(1, .p (vk .u8 p1)), (6, rr 1048), (7, ow 1216 r6.1.length), (c5e1 r5 r7)] [(c5e2 r5), (1216, ob0 (roCount r6.1))] (an (Next_Dice_madeSpec r6.2 ((r5.1.tree.nodes.length : Nat) : Int) r7 hr7) (an trivial (an g8.1 (an g8.2 trivial)))) (by kernel_rfl) ?_)
  refine DW.seq (RK hnt (nn 4 []) [(6, rr 1048), (7, ow 1216 r6.1.length), (c5e1 r5 r7), (9, pI (w64 (Int.tmod p1 6)))] [(c5e2 r5), (1216, ob0 (roCount r6.1))] (an (by decide : (6 : Int) ≠ 0) trivial) (by kernel_rfl) ?_)
  obtain ⟨r9, hr9, hm⟩ := bind_open hm
  refine DW.seq (RK hnt (nn 3 (.call 23 [] true (pI r9) [] [] :: .no :: [])) [(6, rr 1048), (7, ow 1216 r6.1.length), (c5e1 r5 r7), (9, pI (w64 (Int.tmod p1 6))), (10, pI r9)] [(c5e2 r5), (1216, ob0 (roCount r6.1))] (an (Room_pidsSpec r5.1 r6.1 (r5.1.tree.nodes.getD (Int.toNat r7.1) dNode).id r9 hr9) trivial) (by kernel_rfl) ?_)
  refine DW.seq (DW.conv (τ := mkSt [(6, rr 1048), (7, .p (slCount r6.1)), (c5e1 r5 r7), (9, pI (w64 (Int.tmod p1 6))), (10, pI r9)] [(c5e2 r5)]) (Conv.trans (τ := mkSt [(6, rr 1048), (7, .p (slCount r6.1)), (c5e1 r5 r7), (9, pI (w64 (Int.tmod p1 6))), (10, pI r9)] [(c5e2 r5)]) (Conv.freezes [1216] (by kernel_rfl)) .refl) ?_)
  obtain ⟨r11, hr11, hm⟩ := bind_open hm
  refine RK hnt (nn 4 (.call 29 [] true (.tup [ow 0 r11.1.length, pI r11.2]) [] [roCount r11.1] :: nn 5 [])) [(6, rr 1048), (7, .p (slCount r6.1)), (c5e1 r5 r7), (9, pI (w64 (Int.tmod p1 6))), (10, pI r9), (c5e5 r11), (12, pI r11.2)] [(c5e2 r5), (c5e4 r11)] (an (Charge_pidsSpec r5.1 r6.1 (r5.1.tree.nodes.getD (Int.toNat r7.1) dNode).id (w64 (Int.tmod p1 6)) r11 hr11) trivial) (by kernel_rfl) ?_
  refine DW.seq (DW.seq (RK hnt (nn 6 []) [(6, rr 1048), (7, .p (slCount r6.1)), (c5e1 r5 r7), (9, pI (w64 (Int.tmod p1 6))), (c5e5 r11), (12, pI r11.2), (60, pB ((r11.2 == 0) != (decide ((w64 (Int.tmod p1 6)) ≤ r9))))] [(c5e2 r5), (c5e4 r11)] trivial (by kernel_rfl) ?_))
  refine DW.cond ((r11.2 == 0) != (decide ((w64 (Int.tmod p1 6)) ≤ r9))) rfl rfl ?_ ?_
  ·
   intro h12
   replace hm := if_t h12 hm
   refine DW.seq (RK hnt (.no :: []) [(4, pB false)] [] trivial (by kernel_rfl) ?_)
   refine DW.ret ?_
   obtain rfl := Option.some.inj hm
   refine retOK (bs' := []) [] (pB false) (by kernel_rfl) ?_ ?_
   · rfl
   · rfl
  ·
   intro h12
   replace hm := if_f h12 hm
   refine DW.skip ?_
   refine DW.seq (DW.seq (RK hnt (nn 2 []) [(6, rr 1048), (7, .p (slCount r6.1)), (c5e1 r5 r7), (9, pI (w64 (Int.tmod p1 6))), (c5e5 r11), (12, pI r11.2), (62, pB (r11.2 != 0))] [(c5e2 r5), (c5e4 r11)] trivial (by kernel_rfl) ?_))
   refine DW.cond (r11.2 != 0) rfl rfl ?_ ?_
   ·
    intro h13
    replace hm := if_t h13 hm
    refine DW.seq ?_
    refine DW.join (ι := Bool) (fun (y1 : Bool) => mkSt [(4, pB y1)] []) (fun y1 => PidsPeaks_law10J1 y1 = some RES) ?_ ?_
    ·
     intro y1 hm
     unfold PidsPeaks_law10J1 at hm
     refine DW.ret ?_
     obtain rfl := Option.some.inj hm
     refine retOK (bs' := []) [] (pB y1) (by kernel_rfl) ?_ ?_
     · rfl
     · rfl
    ·
     rcases bt (r11.2 == 11) with h14 | h14
     ·
      replace hm := if_t h14 hm
      rcases bt (((r11.1.length : Nat) : Int) == 0) with h15 | h15
      ·
       replace hm := if_t h15 hm
       obtain ⟨r16, hr16, hm⟩ := bind_open hm
       refine RK hnt (nn 6 (pT :: .no :: .call 15 [] true (pB r16) [] [] :: pT :: .no :: [])) [(4, pB r16)] [] (an4 h14 (an h15 (an (sane_law10Spec r16 hr16) (an h15 trivial)))) (by kernel_rfl) ?_
       exact joinDone r16 hm .refl
      ·
       replace hm := if_f h15 hm
       refine RK hnt (nn 6 (pT :: .no :: .skip :: pF :: .no :: [])) [(4, pB false)] [] (an4 h14 (an2 h15 trivial)) (by kernel_rfl) ?_
       exact joinDone false hm .refl
     ·
      replace hm := if_f h14 hm
      refine RK hnt (nn 3 (sk 3 (pF :: .no :: .skip :: pF :: .no :: []))) [(4, pB false)] [] (an4 h14 (an2 ff trivial)) (by kernel_rfl) ?_
      exact joinDone false hm .refl
   ·
    intro h13
    replace hm := if_f h13 hm
    refine DW.skip ?_
    refine DW.seq (DW.seq (RK hnt (nn 3 []) [(6, rr 1048), (7, .p (slCount r6.1)), (c5e1 r5 r7), (9, pI (w64 (Int.tmod p1 6))), (c5e5 r11), (c5e3 r6), (75, pI 0)] [(c5e2 r5), (c5e4 r11)] trivial (by kernel_rfl) ?_))
    refine DW.block ?_
    obtain ⟨hc1, hm⟩ := guard_open hm
    refine DW.rangeO (fun (k1 : Nat) (s1 : Unit) => mkSt [(6, rr 1048), (7, .p (slCount r6.1)), (c5e1 r5 r7), (9, pI (w64 (Int.tmod p1 6))), (c5e5 r11), (c5e3 r6), (c5e6 k1)] [(c5e2 r5), (c5e4 r11)]) dCount hm .refl ?_
    intro k1 s1 n1 hk1 hs1 he1
    refine DW.seq (RK hnt (.no :: []) [(6, rr 1048), (7, .p (slCount r6.1)), (c5e1 r5 r7), (9, pI (w64 (Int.tmod p1 6))), (c5e5 r11), (c5e3 r6), (c5e6 k1), (76, pB (decide (((k1 : Nat) : Int) < ((r6.1.length : Nat) : Int))))] [(c5e2 r5), (c5e4 r11)] trivial (by kernel_rfl) ?_)
    refine DW.seq (DW.cond (decide (((k1 : Nat) : Int) < ((r6.1.length : Nat) : Int))) rfl rfl ?_ ?_)
    ·
     intro h169
     have hlt1 : k1 < r6.1.length := by have := of_decide_eq_true h169; omega
     have hm := hs1 hlt1
     unfold PidsPeaks_law10L1 at hm
     refine DW.skip ?_
     refine DW.seq (DW.block ?_)
     refine DW.seq (RK hnt (nn 2 []) [(6, rr 1048), (7, .p (slCount r6.1)), (c5e1 r5 r7), (9, pI (w64 (Int.tmod p1 6))), (c5e5 r11), (c5e8 k1), (c5e3 r6), (c5e6 k1)] [(c5e2 r5), (c5e4 r11)] trivial (by kernel_rfl) ?_)
     refine DW.seq (RK hnt (.no :: []) [(6, rr 1048), (7, .p (slCount r6.1)), (c5e1 r5 r7), (9, pI (w64 (Int.tmod p1 6))), (c5e5 r11), (c5e8 k1), (14, pI 0), (c5e3 r6), (c5e6 k1)] [(c5e2 r5), (c5e4 r11)] trivial (by kernel_rfl) ?_)
     obtain ⟨r170, hr170, hm⟩ := bind_open hm
     refine DW.seq (DW.seq (RK hnt (nn 3 (.call 21 [] true (ow 0 r170.length) [] [roI r170] :: nn 2 [])) [(6, rr 1048), (7, .p (slCount r6.1)), (c5e1 r5 r7), (9, pI (w64 (Int.tmod p1 6))), (c5e5 r11), (c5e8 k1), (14, pI 0), (c5e3 r6), (c5e6 k1), (81, ow 1648 r170.length), (c5e7 r170), (83, pI 0)] [(c5e2 r5), (c5e4 r11), (1648, ob0 (roI r170))] (an (Ancestors_ref5Spec r5.1.tree (r5.1.tree.nodes.getD (Int.toNat r7.1) dNode).id r170 hr170) trivial) (by kernel_rfl) ?_))
     refine DW.block ?_
     obtain ⟨hc4, hm⟩ := guard_open hm
     refine DW.rangeO (fun (k4 : Nat) (s4 : Int) => mkSt [(6, rr 1048), (7, .p (slCount r6.1)), (c5e1 r5 r7), (9, pI (w64 (Int.tmod p1 6))), (c5e5 r11), (c5e8 k1), (14, pI s4), (c5e3 r6), (c5e6 k1), (81, ow 1648 r170.length), (c5e7 r170), (c5e9 k4)] [(c5e2 r5), (c5e4 r11), (1648, ob0 (roI r170))]) 0 hm .refl ?_
     intro k4 s4 n4 hk4 hs4 he4
     refine DW.seq (RK hnt (.no :: []) [(6, rr 1048), (7, .p (slCount r6.1)), (c5e1 r5 r7), (9, pI (w64 (Int.tmod p1 6))), (c5e5 r11), (c5e8 k1), (14, pI s4), (c5e3 r6), (c5e6 k1), (81, ow 1648 r170.length), (c5e7 r170), (c5e9 k4), (84, pB (decide (((k4 : Nat) : Int) < ((r170.length : Nat) : Int))))] [(c5e2 r5), (c5e4 r11), (1648, ob0 (roI r170))] trivial (by kernel_rfl) ?_)
     refine DW.seq (DW.cond (decide (((k4 : Nat) : Int) < ((r170.length : Nat) : Int))) rfl rfl ?_ ?_)
     ·
      intro h213
      have hlt4 : k4 < r170.length := by have := of_decide_eq_true h213; omega
      have hm := hs4 hlt4
      unfold PidsPeaks_law10L4 at hm
      refine DW.skip ?_
      refine DW.seq ?_
      refine DW.join (ι := Int) (fun (y18 : Int) => mkSt [(6, rr 1048), (7, .p (slCount r6.1)), (c5e1 r5 r7), (9, pI (w64 (Int.tmod p1 6))), (c5e5 r11), (c5e8 k1), (14, pI y18), (c5e3 r6), (c5e6 k1), (81, ow 1648 r170.length), (c5e7 r170), (c5e9 k4)] [(c5e2 r5), (c5e4 r11), (1648, ob0 (roI r170))]) (fun y18 => (PidsPeaks_law10J18 n4) y18 = some RES) ?_ ?_
      ·
       intro y18 hm
       unfold PidsPeaks_law10J18 at hm
       refine RK hnt (nn 2 []) [(6, rr 1048), (7, .p (slCount r6.1)), (c5e1 r5 r7), (9, pI (w64 (Int.tmod p1 6))), (c5e5 r11), (c5e8 k1), (14, pI y18), (c5e3 r6), (c5e6 k1), (81, ow 1648 r170.length), (c5e7 r170), (83, pI (w64 (((k4 : Nat) : Int) + 1)))] [(c5e2 r5), (c5e4 r11), (1648, ob0 (roI r170))] trivial (by kernel_rfl) ?_
       exact joinDone y18 ⟨hlt4, hm⟩ (Conv.tp [(83, pI (w64 (((k4 : Nat) : Int) + 1)))] [] (by kernel_rfl) (.cons rfl (.of_eq (congrArg pI (w64_succ hlt4 hc4))) .nil) .nil)
      ·
       refine DW.block ?_
       refine DW.seq (RK hnt (nn 3 []) [(6, rr 1048), (7, .p (slCount r6.1)), (c5e1 r5 r7), (9, pI (w64 (Int.tmod p1 6))), (c5e5 r11), (c5e8 k1), (14, pI s4), (16, pI (r170.getD k4 0)), (c5e3 r6), (c5e6 k1), (81, ow 1648 r170.length), (c5e7 r170), (c5e9 k4)] [(c5e2 r5), (c5e4 r11), (1648, ob0 (roI r170))] (an (nn0 k4) (an (ltc hlt4) (an (by omega : k4 < r170.length) trivial))) (by kernel_rfl) ?_)
       refine DW.seq (RK hnt (nn 7 []) [(6, rr 1048), (7, .p (slCount r6.1)), (c5e1 r5 r7), (9, pI (w64 (Int.tmod p1 6))), (c5e5 r11), (c5e8 k1), (14, pI s4), (c5e3 r6), (c5e6 k1), (81, ow 1648 r170.length), (c5e7 r170), (c5e9 k4), (93, pB ((r170.getD k4 0) == (r6.1.getD k1 (default : Count)).group))] [(c5e2 r5), (c5e4 r11), (1648, ob0 (roI r170))] (an (nn0 k1) (an (ltc hlt1) trivial)) (by kernel_rfl) ?_)
       refine DW.cond ((r170.getD k4 0) == (r6.1.getD k1 (default : Count)).group) rfl rfl ?_ ?_
       ·
        intro h214
        replace hm := if_t h214 hm
        refine RK hnt (nn 2 []) [(6, rr 1048), (7, .p (slCount r6.1)), (c5e1 r5 r7), (9, pI (w64 (Int.tmod p1 6))), (c5e5 r11), (c5e8 k1), (14, pI (w64 (Int.tmod p1 6))), (c5e3 r6), (c5e6 k1), (81, ow 1648 r170.length), (c5e7 r170), (c5e9 k4)] [(c5e2 r5), (c5e4 r11), (1648, ob0 (roI r170))] trivial (by kernel_rfl) ?_
        exact blockDone (w64 (Int.tmod p1 6)) hm .refl
       ·
        intro h214
        replace hm := if_f h214 hm
        refine DW.skip ?_
        exact blockDone s4 hm (Conv.tp [] [] (by kernel_rfl) .nil .nil)
     ·
      intro h213
      have hge4 : ¬ k4 < r170.length := by have := of_decide_eq_false h213; omega
      have hm := he4 hge4
      unfold PidsPeaks_law10D4 at hm
      refine DW.exit ?_
      refine joinQ_exit ?_
      refine KQ_exit ?_
      refine blockQ_exit ?_
      show DW _ _ _ _ _
      obtain ⟨g215, hm⟩ := guard_open hm
      obtain ⟨g216, hm⟩ := guard_open hm
      refine DW.seq ?_
      refine DW.join (ι := Bool) (fun (y19 : Bool) => mkSt [(6, rr 1048), (7, .p (slCount r6.1)), (c5e1 r5 r7), (9, pI (w64 (Int.tmod p1 6))), (c5e5 r11), (c5e3 r6), (c5e6 k1), (157, pB y19)] [(c5e2 r5), (c5e4 r11)]) (fun y19 => (PidsPeaks_law10J19 n1) y19 = some RES) ?_ ?_
      ·
       intro y19 hm
       unfold PidsPeaks_law10J19 at hm
       refine DW.cond y19 rfl rfl ?_ ?_
       ·
        intro h231
        replace hm := if_t h231 hm
        refine DW.seq (RK hnt (.no :: []) [(4, pB false)] [] trivial (by kernel_rfl) ?_)
        refine DW.ret ?_
        obtain rfl := Option.some.inj hm
        refine retOK (bs' := []) [] (pB false) (by kernel_rfl) ?_ ?_
        · rfl
        · rfl
       ·
        intro h231
        replace hm := if_f h231 hm
        refine DW.skip ?_
        refine DW.done ?_
        show DW _ _ _ _ _
        refine RK hnt (nn 2 []) [(6, rr 1048), (7, .p (slCount r6.1)), (c5e1 r5 r7), (9, pI (w64 (Int.tmod p1 6))), (c5e5 r11), (c5e3 r6), (75, pI (w64 (((k1 : Nat) : Int) + 1)))] [(c5e2 r5), (c5e4 r11)] trivial (by kernel_rfl) ?_
        exact joinDone () ⟨hlt1, hm⟩ (Conv.tp [(75, pI (w64 (((k1 : Nat) : Int) + 1)))] [] (by kernel_rfl) (.cons rfl (.of_eq (congrArg pI (w64_succ hlt1 hc1))) .nil) .nil)
      ·
       rcases bt ((r11.1.getD k1 dCount).now != (w64 ((r6.1.getD k1 (default : Count)).now + s4))) with h217 | h217
       ·
        replace hm := if_t h217 hm
        refine RK hnt (nn 14 (sk 17 (pT :: .no :: sk 11 (pT :: .no :: sk 15 (pT :: []))))) [(6, rr 1048), (7, .p (slCount r6.1)), (c5e1 r5 r7), (9, pI (w64 (Int.tmod p1 6))), (c5e5 r11), (c5e3 r6), (c5e6 k1), (157, pB true)] [(c5e2 r5), (c5e4 r11)] (an (nn0 k1) (an (ltc g215) (an g216 (an (nn0 k1) (an (ltc hlt1) (an6 h217 (an6 h217 (an6 h217 (an5 tt (an6 tt (an6 tt trivial))))))))))) (by kernel_rfl) ?_
        exact joinDone true hm .refl
       ·
        replace hm := if_f h217 hm
        obtain ⟨g218, hm⟩ := guard_open hm
        obtain ⟨g219, hm⟩ := guard_open hm
        obtain ⟨g220, hm⟩ := guard_open hm
        obtain ⟨g221, hm⟩ := guard_open hm
        rcases bt ((r11.1.getD k1 dCount).peak != (maxI (r6.1.getD k1 (default : Count)).peak (r11.1.getD k1 dCount).now)) with h222 | h222
        ·
         replace hm := if_t h222 hm
         refine RK hnt (nn 31 (pF :: .no :: sk 11 (pT :: .no :: sk 15 (pT :: [])))) [(6, rr 1048), (7, .p (slCount r6.1)), (c5e1 r5 r7), (9, pI (w64 (Int.tmod p1 6))), (c5e5 r11), (c5e3 r6), (c5e6 k1), (157, pB true)] [(c5e2 r5), (c5e4 r11)] (an (nn0 k1) (an (ltc g215) (an g216 (an (nn0 k1) (an (ltc hlt1) (an3 h217 (an (nn0 k1) (an (ltc g218) (an2 h217 (an g219 (an3 h217 (an (nn0 k1) (an (ltc hlt1) (an5 h217 (an (nn0 k1) (an (ltc g220) (an2 h217 (an g221 (an3 h217 (an6 h222 (an6 h222 (an5 tt trivial)))))))))))))))))))))) (by kernel_rfl) ?_
         exact joinDone true hm .refl
        ·
         replace hm := if_f h222 hm
         obtain ⟨g223, hm⟩ := guard_open hm
         obtain ⟨g224, hm⟩ := guard_open hm
         rcases bt ((r11.1.getD k1 dCount).limit != (r6.1.getD k1 (default : Count)).limit) with h225 | h225
         ·
          replace hm := if_t h225 hm
          refine RK hnt (nn 31 (pF :: nn 12 (pF :: .no :: sk 15 (pT :: [])))) [(6, rr 1048), (7, .p (slCount r6.1)), (c5e1 r5 r7), (9, pI (w64 (Int.tmod p1 6))), (c5e5 r11), (c5e3 r6), (c5e6 k1), (157, pB true)] [(c5e2 r5), (c5e4 r11)] (an (nn0 k1) (an (ltc g215) (an g216 (an (nn0 k1) (an (ltc hlt1) (an3 h217 (an (nn0 k1) (an (ltc g218) (an2 h217 (an g219 (an3 h217 (an (nn0 k1) (an (ltc hlt1) (an5 h217 (an (nn0 k1) (an (ltc g220) (an2 h217 (an g221 (an3 h217 (an3 h222 (an (nn0 k1) (an (ltc g223) (an2 h222 (an g224 (an3 h222 (an (nn0 k1) (an (ltc hlt1) (an4 h222 (an5 h225 trivial))))))))))))))))))))))))))))) (by kernel_rfl) ?_
          exact joinDone true hm .refl
         ·
          replace hm := if_f h225 hm
          rcases bt (decide (s4 > 0)) with h226 | h226
          ·
           replace hm := if_t h226 hm
           obtain ⟨g227, hm⟩ := guard_open hm
           obtain ⟨g228, hm⟩ := guard_open hm
           obtain ⟨g229, hm⟩ := guard_open hm
           obtain ⟨g230, hm⟩ := guard_open hm
           refine RK hnt (nn 31 (pF :: nn 12 (pF :: nn 15 (pT :: pF :: [])))) [(6, rr 1048), (7, .p (slCount r6.1)), (c5e1 r5 r7), (9, pI (w64 (Int.tmod p1 6))), (c5e5 r11), (c5e3 r6), (c5e6 k1), (157, pB (decide ((r11.1.getD k1 dCount).now > (r11.1.getD k1 dCount).limit)))] [(c5e2 r5), (c5e4 r11)] (an (nn0 k1) (an (ltc g215) (an g216 (an (nn0 k1) (an (ltc hlt1) (an3 h217 (an (nn0 k1) (an (ltc g218) (an2 h217 (an g219 (an3 h217 (an (nn0 k1) (an (ltc hlt1) (an5 h217 (an (nn0 k1) (an (ltc g220) (an2 h217 (an g221 (an3 h217 (an3 h222 (an (nn0 k1) (an (ltc g223) (an2 h222 (an g224 (an3 h222 (an (nn0 k1) (an (ltc hlt1) (an4 h222 (an3 h225 (an3 h226 (an (nn0 k1) (an (ltc g227) (an2 h226 (an g228 (an3 h226 (an (nn0 k1) (an (ltc g229) (an2 h226 (an g230 (an h226 (an h225 (an h226 (an h225 trivial))))))))))))))))))))))))))))))))))))))))))) (by kernel_rfl) ?_
           exact joinDone (decide ((r11.1.getD k1 dCount).now > (r11.1.getD k1 dCount).limit)) hm .refl
          ·
           replace hm := if_f h226 hm
           refine RK hnt (nn 31 (pF :: nn 12 (pF :: nn 4 (sk 11 (pF :: pF :: []))))) [(6, rr 1048), (7, .p (slCount r6.1)), (c5e1 r5 r7), (9, pI (w64 (Int.tmod p1 6))), (c5e5 r11), (c5e3 r6), (c5e6 k1), (157, pB false)] [(c5e2 r5), (c5e4 r11)] (an (nn0 k1) (an (ltc g215) (an g216 (an (nn0 k1) (an (ltc hlt1) (an3 h217 (an (nn0 k1) (an (ltc g218) (an2 h217 (an g219 (an3 h217 (an (nn0 k1) (an (ltc hlt1) (an5 h217 (an (nn0 k1) (an (ltc g220) (an2 h217 (an g221 (an3 h217 (an3 h222 (an (nn0 k1) (an (ltc g223) (an2 h222 (an g224 (an3 h222 (an (nn0 k1) (an (ltc hlt1) (an4 h222 (an3 h225 (an5 h226 (an6 h226 (an h225 (an h226 (an h225 trivial)))))))))))))))))))))))))))))))))) (by kernel_rfl) ?_
           exact joinDone false hm .refl
    ·
     intro h169
     have hge1 : ¬ k1 < r6.1.length := by have := of_decide_eq_false h169; omega
     have hm := he1 hge1
     unfold PidsPeaks_law10D1 at hm
     refine DW.exit ?_
     refine joinQ_exit ?_
     refine KQ_exit ?_
     refine blockQ_exit ?_
     show DW _ _ _ _ _
     obtain ⟨r232, hr232, hm⟩ := bind_open hm
     refine DW.seq (RK hnt (.call 15 [] true (pB r232) [] [] :: .no :: []) [(4, pB r232)] [] (an (sane_law10Spec r232 hr232) trivial) (by kernel_rfl) ?_)
     refine DW.ret ?_
     obtain rfl := Option.some.inj hm
     refine retOK (bs' := []) [] (pB r232) (by kernel_rfl) ?_ ?_
     · rfl
     · rfl
end Go.Dm

