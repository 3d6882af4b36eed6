/- Texts of the proof of PidsCounts: the data machine, the models of the Go functions, their contracts. -/
import Derived.Test.YtdckdjkjjmadeaaGreatPidsCountsA3
set_option linter.unusedVariables false
set_option linter.unusedSimpArgs false
/- Go functions compute their models, printed by a program. -/
namespace Go.Dm
open Go.Proofs
set_option linter.unusedVariables false
abbrev c121e1 : Nat × Obj := (1032, bx [.p (.sl .nil 0 0 (fun _ => [])), pI 0, .p (.sl .nil 0 0 (fun _ => [])), pI 0])
abbrev c121e2 (r3 : Hierarchy) : Nat × Obj := (1056, bx [ow 1152 r3.tree.nodes.length, pI r3.tree.next, ow 1153 r3.tasks.length, pI r3.next])
abbrev c121e3 : Nat × Obj := (1032, bx [ow 100000 0, pI 0, .p (.sl .nil 0 0 (fun _ => [])), pI 0])
theorem add_ref6Spec (p0 : Hierarchy) (p1 : Task) (RES : Hierarchy × Int × Int) (hm : add_ref6 p0 p1 = some RES) : Spec Tryz.prog 121 [.p (.agg (encHierarchy p0)), .p (.agg (encTask p1))] [] (.tup [.agg [ow 0 RES.1.tree.nodes.length, pI RES.1.tree.next, ow 1 RES.1.tasks.length, pI RES.1.next], pI RES.2.1, pI RES.2.2]) [] [roNode RES.1.tree.nodes, roTask RES.1.tasks] := by
 unfold add_ref6 at hm
 refine SO Tryz.func121 rfl rfl [(0, .p (.agg (encHierarchy p0))), (1, .p (.agg (encTask p1)))] [] ?_
 intro cx hnt
 refine DW.seq (RK hnt (nn 5 []) [(2, rr 1016), (3, rr 1024), (4, rr 1032)] [(1016, bx (pm (encHierarchy p0))), (1024, bx (pm (encTask p1))), (c121e1)] trivial ?_)
 refine DW.seq (DW.seq (DW.regJ (sl2 := [(2, rr 1016), (3, rr 1024), (4, rr 1032), (16, pB ((decide (((p0.tasks.length : Nat) : Int) ≥ 128)) || (decide (p0.next > 2147483647))))]) (ob2 := [(1016, bx (pm (encHierarchy p0))), (1024, bx (pm (encTask p1))), (c121e1)]) ?_ ?_))
 ·rcases bt (decide (((p0.tasks.length : Nat) : Int) ≥ 128)) with h1 | h1
  ·exact RT hnt (nn 5 (sk 3 (pT :: []))) [(16, pB true)] (an4 h1 trivial) (by kernel_rfl) (.cons rfl (.of_eq (by rw [h1]; try rfl)) .nil)
  ·exact RT hnt (nn 8 (pF :: [])) [(16, pB (decide (p0.next > 2147483647)))] (an4 h1 trivial) (by kernel_rfl) (.cons rfl (.of_eq (by rw [h1]; try rfl)) .nil)
 ·refine condM hm ?_ ?_
  ·intro h2 hm
   refine DW.seq (RD hnt (nn 4 []) [2, 3, 16] [(5, pI 0), (6, pI 7)] [1016, 1024] [] trivial ?_)
   refine DW.conv (τ := mkSt [(4, rr 1032), (5, pI 0), (6, pI 7)] [(1032, bx [ow 100000 0, pI 0, ow 100001 0, pI 0]), (100000, ob0 (roNode [])), (100001, ob0 (roTask []))]) (Conv.trans (τ := mkSt [(4, rr 1032), (5, pI 0), (6, pI 7)] [(c121e1)]) Conv.eqK (Conv.trans (τ := mkSt [(4, rr 1032), (5, pI 0), (6, pI 7)] ((100000, ⟨0, .row 6 0 (elems encNode dNode [])⟩) :: [(c121e3)])) (Conv.adopt 100000 6 (elems encNode dNode []) rfl rfl (.rfl _) (.box (.cons (.nil _ _) (.cons (.rfl _) (.cons (.rfl _) (.cons (.rfl _) (.rfl _))))) (.rfl _))) (Conv.trans (τ := mkSt [(4, rr 1032), (5, pI 0), (6, pI 7)] [(c121e3), (100000, ob0 (roNode []))]) Conv.t0 (Conv.trans (τ := mkSt [(4, rr 1032), (5, pI 0), (6, pI 7)] ((100001, ⟨0, .row 4 0 (elems encTask dTask [])⟩) :: [(1032, bx [ow 100000 0, pI 0, ow 100001 0, pI 0]), (100000, ob0 (roNode []))])) (Conv.adopt 100001 4 (elems encTask dTask []) rfl rfl (.rfl _) (.box (.cons (.rfl _) (.cons (.rfl _) (.cons (.nil _ _) (.cons (.rfl _) (.rfl _))))) (.keep (.rfl _)))) Conv.t0)))) ?_
   refine DW.ret ?_
   obtain rfl := Option.some.inj hm
   exact retK [roNode [], roTask []] [100000, 100001] (.tup [.agg [ow 0 0, pI 0, ow 1 0, pI 0], pI 0, pI 7])
  ·intro h2 hm
   refine DW.skip ?_
   obtain ⟨r3, hr3, hm⟩ := bind_open hm
   refine DW.seq (RD hnt (.no :: .call 105 [] true (.agg [ow 0 r3.tree.nodes.length, pI r3.tree.next, ow 1 r3.tasks.length, pI r3.next]) [] [roNode r3.tree.nodes, roTask r3.tasks] :: nn 2 []) [16] [(7, rr 1056)] [] [(c121e2 r3), (1152, ob0 (roNode r3.tree.nodes)), (1153, ob0 (roTask r3.tasks))] (an (Copy_ref6Spec p0 r3 hr3) trivial) ?_)
   refine DW.seq (RD hnt (nn 4 []) [2] [] [1016] [(1024, bx [pI p0.next, pI p1.process, pI p1.group, pI p1.user])] trivial ?_)
   refine DW.seq (DW.seq (RD hnt (nn 3 []) [] [(25, pB (p1.process == 0))] [] [] trivial ?_))
   refine DW.join (ι := Task) (fun (y1 : Task) => mkSt [(3, rr 1024), (4, rr 1032), (7, rr 1056)] [(1024, bx (pm (encTask y1))), (c121e1), (c121e2 r3), (1152, ob0 (roNode r3.tree.nodes)), (1153, ob0 (roTask r3.tasks))]) (fun y1 => (add_ref6J1 r3) y1 = some RES) ?_ ?_
   ·intro y1 hm
    unfold add_ref6J1 at hm
    obtain ⟨g5, hm⟩ := guard_open hm
    refine DW.seq (RN hnt (nn 7 []) [(3, rr 1024), (4, rr 1032), (7, rr 1056)] [(1024, bx (pm (encTask y1))), (c121e1), (1056, bx [ow 1152 r3.tree.nodes.length, pI r3.tree.next, ow 1153 (r3.tasks ++ [y1]).length, pI r3.next]), (1152, ob0 (roNode r3.tree.nodes)), (1153, ob0 (roTask (r3.tasks ++ [y1])))] [] [(1056, .box [ow 1152 r3.tree.nodes.length, pI r3.tree.next, ow 1153 (r3.tasks.length + 1), pI r3.next]), (1153, .row 4 (r3.tasks.length + 1) (catF r3.tasks.length (elTask r3.tasks) (cut 4 [vi y1.id, vi y1.process, vi y1.group, vi y1.user])))] (an (by omega : (r3.tasks.length + 1) * 32 ≤ 140737488355328) trivial) (by kernel_rfl) .nil (.cons rfl (.box (.cons .rfl (.cons .rfl (.cons (MLe.ownLen (enc := encTask) (d := dTask) (f := (catF r3.tasks.length (elTask r3.tasks) (cut 4 [vi y1.id, vi y1.process, vi y1.group, vi y1.user]))) (RowIs.cat RowIs.elems (RowIs.lit (enc := encTask) (d := dTask) (n := 1) (f := (cut 4 [vi y1.id, vi y1.process, vi y1.group, vi y1.user])) [y1] rfl (fun | 0, _ => rfl | n + 1, h => absurd h (by omega))))) (.cons .rfl .nil))))) (.cons rfl (BLe.typed (RowIs.cat RowIs.elems (RowIs.lit (enc := encTask) (d := dTask) (n := 1) (f := (cut 4 [vi y1.id, vi y1.process, vi y1.group, vi y1.user])) [y1] rfl (fun | 0, _ => rfl | n + 1, h => absurd h (by omega))))) .nil)) ?_)
    refine DW.seq (RD hnt (nn 5 []) [] [] [] [(1056, bx [ow 1152 r3.tree.nodes.length, pI r3.tree.next, ow 1153 (r3.tasks ++ [y1]).length, pI (w64 (r3.next + 1))])] trivial ?_)
    refine DW.seq (RD hnt (nn 6 []) [3, 7] [(5, pI y1.id), (6, pI 0)] [1024, 1056] [(1032, bx [ow 1152 r3.tree.nodes.length, pI r3.tree.next, ow 1153 (r3.tasks ++ [y1]).length, pI (w64 (r3.next + 1))])] trivial ?_)
    refine DW.ret ?_
    obtain rfl := Option.some.inj hm
    exact retK [roNode r3.tree.nodes, roTask (r3.tasks ++ [y1])] [1152, 1153] (.tup [.agg [ow 0 r3.tree.nodes.length, pI r3.tree.next, ow 1 (r3.tasks ++ [y1]).length, pI (w64 (r3.next + 1))], pI y1.id, pI 0])
   ·refine condM hm ?_ ?_
    ·intro h4 hm
     refine RD hnt (nn 4 []) [25] [] [] [(1024, bx [pI p0.next, pI p0.next, pI p1.group, pI p1.user])] trivial ?_
     exact joinDone ({ id := p0.next, process := p0.next, group := p1.group, user := p1.user } : Task) hm Conv.eqK
    ·intro h4 hm
     refine DW.skip ?_
     exact joinDone ({ id := p0.next, process := p1.process, group := p1.group, user := p1.user } : Task) hm Conv.t0

abbrev c66e1 : Nat × Obj := (1048, bx [.p (.sl .nil 0 0 (fun _ => [])), pI 0, .p (.sl .nil 0 0 (fun _ => [])), pI 0])
abbrev c66e2 : Nat × Obj := (1048, bx [ow 100000 0, pI 0, .p (.sl .nil 0 0 (fun _ => [])), pI 0])
abbrev c66e3 : Nat × Obj := (1048, bx [ow 100000 0, pI 0, ow 100001 0, pI 0])
theorem Spawn_ref6Spec (p0 : Hierarchy) (p1 : Int) (p2 : Int) (RES : Hierarchy × Int × Int) (hm : Spawn_ref6 p0 p1 p2 = some RES) : Spec Tryz.prog 66 [.p (.agg (encHierarchy p0)), pI p1, pI p2] [] (.tup [.agg [ow 0 RES.1.tree.nodes.length, pI RES.1.tree.next, ow 1 RES.1.tasks.length, pI RES.1.next], pI RES.2.1, pI RES.2.2]) [] [roNode RES.1.tree.nodes, roTask RES.1.tasks] := by
 unfold Spawn_ref6 at hm
 refine SO Tryz.func66 rfl rfl [(0, .p (.agg (encHierarchy p0))), (1, pI p1), (2, pI p2)] [] ?_
 intro cx hnt
 refine DW.seq (RD hnt (nn 4 []) [0] [(3, rr 1024), (6, rr 1048)] [] [(1024, bx (pm (encHierarchy p0))), (c66e1)] trivial ?_)
 obtain ⟨r1, hr1, hm⟩ := bind_open hm
 refine DW.seq (DW.seq ?_)
 refine DW.join (ι := Bool) (fun (y1 : Bool) => mkSt [(1, pI p1), (2, pI p2), (3, rr 1024), (6, rr 1048), (19, pB y1)] [(1024, bx (pm (encHierarchy p0))), (c66e1)]) (fun y1 => (Spawn_ref6J1 p0 p1 p2) y1 = some RES) ?_ ?_
 ·intro y1 hm
  unfold Spawn_ref6J1 at hm
  refine condM hm ?_ ?_
  ·intro h4 hm
   refine DW.seq (RD hnt (nn 4 []) [1, 2, 3, 19] [(7, pI 0), (8, pI 1)] [1024] [] trivial ?_)
   refine DW.conv (τ := mkSt [(6, rr 1048), (7, pI 0), (8, pI 1)] [(c66e3), (100000, ob0 (roNode [])), (100001, ob0 (roTask []))]) (Conv.trans (τ := mkSt [(6, rr 1048), (7, pI 0), (8, pI 1)] [(c66e1)]) Conv.eqK (Conv.trans (τ := mkSt [(6, rr 1048), (7, pI 0), (8, pI 1)] ((100000, ⟨0, .row 6 0 (elems encNode dNode [])⟩) :: [(c66e2)])) (Conv.adopt 100000 6 (elems encNode dNode []) rfl rfl (.rfl _) (.box (.cons (.nil _ _) (.cons (.rfl _) (.cons (.rfl _) (.cons (.rfl _) (.rfl _))))) (.rfl _))) (Conv.trans (τ := mkSt [(6, rr 1048), (7, pI 0), (8, pI 1)] [(c66e2), (100000, ob0 (roNode []))]) Conv.t0 (Conv.trans (τ := mkSt [(6, rr 1048), (7, pI 0), (8, pI 1)] ((100001, ⟨0, .row 4 0 (elems encTask dTask [])⟩) :: [(c66e3), (100000, ob0 (roNode []))])) (Conv.adopt 100001 4 (elems encTask dTask []) rfl rfl (.rfl _) (.box (.cons (.rfl _) (.cons (.rfl _) (.cons (.nil _ _) (.cons (.rfl _) (.rfl _))))) (.keep (.rfl _)))) Conv.t0)))) ?_
   refine DW.ret ?_
   obtain rfl := Option.some.inj hm
   exact retK [roNode [], roTask []] [100000, 100001] (.tup [.agg [ow 0 0, pI 0, ow 1 0, pI 0], pI 0, pI 1])
  ·intro h4 hm
   refine DW.skip ?_
   obtain ⟨r5, hr5, hm⟩ := bind_open hm
   refine DW.seq (DW.seq (RD hnt (nn 3 (.call 88 [] true (pB r5) [] [] :: .no :: [])) [19] [(25, pB (!r5))] [] [] (an (Has_ref5Spec p0.tree p1 r5 hr5) trivial) ?_))
   refine condM hm ?_ ?_
   ·intro h6 hm
    refine DW.seq (RD hnt (nn 4 []) [1, 2, 3, 25] [(7, pI 0), (8, pI 4)] [1024] [] trivial ?_)
    refine DW.conv (τ := mkSt [(6, rr 1048), (7, pI 0), (8, pI 4)] [(c66e3), (100000, ob0 (roNode [])), (100001, ob0 (roTask []))]) (Conv.trans (τ := mkSt [(6, rr 1048), (7, pI 0), (8, pI 4)] [(c66e1)]) Conv.eqK (Conv.trans (τ := mkSt [(6, rr 1048), (7, pI 0), (8, pI 4)] ((100000, ⟨0, .row 6 0 (elems encNode dNode [])⟩) :: [(c66e2)])) (Conv.adopt 100000 6 (elems encNode dNode []) rfl rfl (.rfl _) (.box (.cons (.nil _ _) (.cons (.rfl _) (.cons (.rfl _) (.cons (.rfl _) (.rfl _))))) (.rfl _))) (Conv.trans (τ := mkSt [(6, rr 1048), (7, pI 0), (8, pI 4)] [(c66e2), (100000, ob0 (roNode []))]) Conv.t0 (Conv.trans (τ := mkSt [(6, rr 1048), (7, pI 0), (8, pI 4)] ((100001, ⟨0, .row 4 0 (elems encTask dTask [])⟩) :: [(c66e3), (100000, ob0 (roNode []))])) (Conv.adopt 100001 4 (elems encTask dTask []) rfl rfl (.rfl _) (.box (.cons (.rfl _) (.cons (.rfl _) (.cons (.nil _ _) (.cons (.rfl _) (.rfl _))))) (.keep (.rfl _)))) Conv.t0)))) ?_
    refine DW.ret ?_
    obtain rfl := Option.some.inj hm
    exact retK [roNode [], roTask []] [100000, 100001] (.tup [.agg [ow 0 0, pI 0, ow 1 0, pI 0], pI 0, pI 4])
   ·intro h6 hm
    refine DW.skip ?_
    obtain ⟨r7, hr7, hm⟩ := bind_open hm
    refine DW.seq (RK hnt (nn 4 (.call 121 [] true (.tup [.agg [ow 0 r7.1.tree.nodes.length, pI r7.1.tree.next, ow 1 r7.1.tasks.length, pI r7.1.next], pI r7.2.1, pI r7.2.2]) [] [roNode r7.1.tree.nodes, roTask r7.1.tasks] :: nn 6 [])) [(6, rr 1048), (7, pI r7.2.1), (8, pI r7.2.2)] [(1048, bx [ow 1248 r7.1.tree.nodes.length, pI r7.1.tree.next, ow 1249 r7.1.tasks.length, pI r7.1.next]), (1248, ob0 (roNode r7.1.tree.nodes)), (1249, ob0 (roTask r7.1.tasks))] (an (add_ref6Spec p0 ({ id := 0, process := 0, group := p1, user := p2 } : Task) r7 hr7) trivial) ?_)
    refine DW.ret ?_
    obtain rfl := Option.some.inj hm
    exact retK [roNode r7.1.tree.nodes, roTask r7.1.tasks] [1248, 1249] (.tup [.agg [ow 0 r7.1.tree.nodes.length, pI r7.1.tree.next, ow 1 r7.1.tasks.length, pI r7.1.next], pI r7.2.1, pI r7.2.2])
 ·rcases bt (!r1) with h2 | h2
  ·replace hm := if_t h2 hm
   refine RD hnt (.no :: .call 52 [] true (pB r1) [] [] :: nn 2 (sk 2 (pT :: .no :: sk 2 (pT :: [])))) [] [(19, pB true)] [] [] (an (Check_ref6Spec p0 r1 hr1) (an3 h2 (an3 tt trivial))) ?_
   exact joinDone true hm Conv.eqK
  ·replace hm := if_f h2 hm
   rcases bt (decide (p2 < 0)) with h3 | h3
   ·replace hm := if_t h3 hm
    refine RD hnt (.no :: .call 52 [] true (pB r1) [] [] :: nn 4 (pF :: .no :: sk 2 (pT :: []))) [] [(19, pB true)] [] [] (an (Check_ref6Spec p0 r1 hr1) (an3 h2 (an3 h3 trivial))) ?_
    exact joinDone true hm Conv.eqK
   ·replace hm := if_f h3 hm
    refine RD hnt (.no :: .call 52 [] true (pB r1) [] [] :: nn 4 (pF :: nn 3 (pF :: []))) [] [(19, pB (decide (p2 > 1048576)))] [] [] (an (Check_ref6Spec p0 r1 hr1) (an3 h2 (an3 h3 trivial))) ?_
    exact joinDone (decide (p2 > 1048576)) hm Conv.eqK

theorem root_treeSpec (p0 : Node) (RES : Bool) (hm : root_tree p0 = some RES) : Spec Tryz.prog 152 [.p (.agg (encNode p0))] [] (pB RES) [] [] := by
 unfold root_tree at hm
 refine SO Tryz.func152 rfl rfl [(0, .p (.agg (encNode p0)))] [] ?_
 intro cx hnt
 refine DW.seq (RK hnt (nn 2 []) [(1, rr 1008)] [(1008, bx (pm (encNode p0)))] trivial ?_)
 refine DW.seq (DW.regJ (sl2 := [(2, pB ((((p0.id == 1) && (p0.parent == 0)) && (beqS p0.name ByteArray.empty)) && (p0.kind == 0)))]) (ob2 := []) ?_ ?_)
 ·rcases bt (p0.id == 1) with h1 | h1
  ·rcases bt (p0.parent == 0) with h2 | h2
   ·rcases bt (beqS p0.name ByteArray.empty) with h3 | h3
    ·exact RT hnt (nn 7 (pT :: nn 4 (pT :: nn 4 (pT :: .no :: [])))) [(2, pB (p0.kind == 0))] (an4 h1 (an4 h2 (an4 h3 trivial))) (by kernel_rfl) (.cons rfl (.of_eq (by rw [h1, h2, h3]; try rfl)) .nil)
    ·exact RT hnt (nn 7 (pT :: nn 4 (pT :: .no :: sk 3 (pF :: .no :: [])))) [(2, pB false)] (an4 h1 (an4 h2 (an4 h3 trivial))) (by kernel_rfl) (.cons rfl (.of_eq (by rw [h1, h2, h3]; try rfl)) .nil)
   ·exact RT hnt (nn 7 (pT :: .no :: sk 3 (pF :: .no :: sk 3 (pF :: .no :: [])))) [(2, pB false)] (an4 h1 (an4 h2 (an4 ff trivial))) (by kernel_rfl) (.cons rfl (.of_eq (by rw [h1, h2]; try rfl)) .nil)
  ·exact RT hnt (nn 4 (sk 3 (pF :: .no :: sk 3 (pF :: .no :: sk 3 (pF :: .no :: []))))) [(2, pB false)] (an4 h1 (an2 ff (an6 ff trivial))) (by kernel_rfl) (.cons rfl (.of_eq (by rw [h1]; try rfl)) .nil)
 ·refine DW.ret ?_
  obtain rfl := Option.some.inj hm
  exact retK [] [] (pB ((((p0.id == 1) && (p0.parent == 0)) && (beqS p0.name ByteArray.empty)) && (p0.kind == 0)))

theorem inner_nameSpec (p0 : Int) (RES : Bool) (hm : inner_name p0 = some RES) : Spec Tryz.prog 176 [.p (vk .u8 p0)] [] (pB RES) [] [] := by
 unfold inner_name at hm
 refine SO Tryz.func176 rfl rfl [(0, .p (vk .u8 p0))] [] ?_
 intro cx hnt
 refine DW.seq (RD hnt (.no :: []) [] [] [] [] trivial ?_)
 refine DW.seq (DW.regJ (sl2 := [(2, pB ((((((decide (p0 ≥ 97)) && (decide (p0 ≤ 122))) || ((decide (p0 ≥ 65)) && (decide (p0 ≤ 90)))) || ((decide (p0 ≥ 48)) && (decide (p0 ≤ 57)))) || (p0 == 95)) || (p0 == 45)))]) (ob2 := []) ?_ ?_)
 ·rcases bt (decide (p0 ≥ 97)) with h1 | h1
  ·rcases bt (decide (p0 ≤ 122)) with h2 | h2
   ·exact RT hnt (nn 5 (pT :: .no :: sk 6 (pT :: .no :: sk 6 (pT :: .no :: sk 2 (pT :: .no :: sk 2 (pT :: .no :: [])))))) [(2, pB true)] (an3 h1 (an5 h2 (an5 tt (an6 tt trivial)))) (by kernel_rfl) (.cons rfl (.of_eq (by rw [h1, h2]; try rfl)) .nil)
   ·rcases bt (decide (p0 ≥ 65)) with h3 | h3
    ·rcases bt (decide (p0 ≤ 90)) with h4 | h4
     ·exact RT hnt (nn 5 (pT :: nn 6 (pT :: pF :: .no :: sk 6 (pT :: .no :: sk 2 (pT :: .no :: sk 2 (pT :: .no :: [])))))) [(2, pB true)] (an3 h1 (an3 h2 (an2 h3 (an h2 (an h3 (an h2 (an5 h4 (an6 tt trivial)))))))) (by kernel_rfl) (.cons rfl (.of_eq (by rw [h1, h2, h3, h4]; try rfl)) .nil)
     ·rcases bt (decide (p0 ≥ 48)) with h5 | h5
      ·rcases bt (decide (p0 ≤ 57)) with h6 | h6
       ·exact RT hnt (nn 5 (pT :: nn 6 (pT :: pF :: nn 6 (pT :: pF :: .no :: sk 2 (pT :: .no :: sk 2 (pT :: .no :: [])))))) [(2, pB true)] (an3 h1 (an3 h2 (an2 h3 (an h2 (an h3 (an h2 (an3 h4 (an2 h5 (an h4 (an h5 (an h4 (an3 h6 (an3 tt trivial))))))))))))) (by kernel_rfl) (.cons rfl (.of_eq (by rw [h1, h2, h3, h4, h5, h6]; try rfl)) .nil)
       ·rcases bt (p0 == 95) with h7 | h7
        ·exact RT hnt (nn 5 (pT :: nn 6 (pT :: pF :: nn 6 (pT :: pF :: nn 3 (pF :: .no :: sk 2 (pT :: .no :: [])))))) [(2, pB true)] (an3 h1 (an3 h2 (an2 h3 (an h2 (an h3 (an h2 (an3 h4 (an2 h5 (an h4 (an h5 (an h4 (an3 h6 (an3 h7 trivial))))))))))))) (by kernel_rfl) (.cons rfl (.of_eq (by rw [h1, h2, h3, h4, h5, h6, h7]; try rfl)) .nil)
        ·exact RT hnt (nn 5 (pT :: nn 6 (pT :: pF :: nn 6 (pT :: pF :: nn 3 (pF :: nn 3 (pF :: .no :: [])))))) [(2, pB (p0 == 45))] (an3 h1 (an3 h2 (an2 h3 (an h2 (an h3 (an h2 (an3 h4 (an2 h5 (an h4 (an h5 (an h4 (an3 h6 (an3 h7 trivial))))))))))))) (by kernel_rfl) (.cons rfl (.of_eq (by rw [h1, h2, h3, h4, h5, h6, h7]; try rfl)) .nil)
      ·rcases bt (p0 == 95) with h8 | h8
       ·exact RT hnt (nn 5 (pT :: nn 6 (pT :: pF :: nn 4 (sk 2 (pF :: pF :: nn 3 (pF :: .no :: sk 2 (pT :: .no :: []))))))) [(2, pB true)] (an3 h1 (an3 h2 (an2 h3 (an h2 (an h3 (an h2 (an3 h4 (an2 h5 (an h4 (an h5 (an h4 (an3 ff (an3 h8 trivial))))))))))))) (by kernel_rfl) (.cons rfl (.of_eq (by rw [h1, h2, h3, h4, h5, h8]; try rfl)) .nil)
       ·exact RT hnt (nn 5 (pT :: nn 6 (pT :: pF :: nn 4 (sk 2 (pF :: pF :: nn 3 (pF :: nn 3 (pF :: .no :: []))))))) [(2, pB (p0 == 45))] (an3 h1 (an3 h2 (an2 h3 (an h2 (an h3 (an h2 (an3 h4 (an2 h5 (an h4 (an h5 (an h4 (an3 ff (an3 h8 trivial))))))))))))) (by kernel_rfl) (.cons rfl (.of_eq (by rw [h1, h2, h3, h4, h5, h8]; try rfl)) .nil)
    ·rcases bt (decide (p0 ≥ 48)) with h9 | h9
     ·rcases bt (decide (p0 ≤ 57)) with h10 | h10
      ·exact RT hnt (nn 5 (pT :: nn 4 (sk 2 (pF :: pF :: nn 6 (pT :: pF :: .no :: sk 2 (pT :: .no :: sk 2 (pT :: .no :: []))))))) [(2, pB true)] (an3 h1 (an3 h2 (an2 h3 (an h2 (an h3 (an h2 (an3 ff (an2 h9 (an ff (an h9 (an ff (an3 h10 (an3 tt trivial))))))))))))) (by kernel_rfl) (.cons rfl (.of_eq (by rw [h1, h2, h3, h9, h10]; try rfl)) .nil)
      ·rcases bt (p0 == 95) with h11 | h11
       ·exact RT hnt (nn 5 (pT :: nn 4 (sk 2 (pF :: pF :: nn 6 (pT :: pF :: nn 3 (pF :: .no :: sk 2 (pT :: .no :: []))))))) [(2, pB true)] (an3 h1 (an3 h2 (an2 h3 (an h2 (an h3 (an h2 (an3 ff (an2 h9 (an ff (an h9 (an ff (an3 h10 (an3 h11 trivial))))))))))))) (by kernel_rfl) (.cons rfl (.of_eq (by rw [h1, h2, h3, h9, h10, h11]; try rfl)) .nil)
       ·exact RT hnt (nn 5 (pT :: nn 4 (sk 2 (pF :: pF :: nn 6 (pT :: pF :: nn 3 (pF :: nn 3 (pF :: .no :: []))))))) [(2, pB (p0 == 45))] (an3 h1 (an3 h2 (an2 h3 (an h2 (an h3 (an h2 (an3 ff (an2 h9 (an ff (an h9 (an ff (an3 h10 (an3 h11 trivial))))))))))))) (by kernel_rfl) (.cons rfl (.of_eq (by rw [h1, h2, h3, h9, h10, h11]; try rfl)) .nil)
     ·rcases bt (p0 == 95) with h12 | h12
      ·exact RT hnt (nn 5 (pT :: nn 4 (sk 2 (pF :: pF :: nn 4 (sk 2 (pF :: pF :: nn 3 (pF :: .no :: sk 2 (pT :: .no :: [])))))))) [(2, pB true)] (an3 h1 (an3 h2 (an2 h3 (an h2 (an h3 (an h2 (an3 ff (an2 h9 (an ff (an h9 (an4 ff (an3 h12 trivial)))))))))))) (by kernel_rfl) (.cons rfl (.of_eq (by rw [h1, h2, h3, h9, h12]; try rfl)) .nil)
      ·exact RT hnt (nn 5 (pT :: nn 4 (sk 2 (pF :: pF :: nn 4 (sk 2 (pF :: pF :: nn 3 (pF :: nn 3 (pF :: .no :: [])))))))) [(2, pB (p0 == 45))] (an3 h1 (an3 h2 (an2 h3 (an h2 (an h3 (an h2 (an3 ff (an2 h9 (an ff (an h9 (an4 ff (an3 h12 trivial)))))))))))) (by kernel_rfl) (.cons rfl (.of_eq (by rw [h1, h2, h3, h9, h12]; try rfl)) .nil)
  ·rcases bt (decide (p0 ≥ 65)) with h13 | h13
   ·rcases bt (decide (p0 ≤ 90)) with h14 | h14
    ·exact RT hnt (nn 3 (sk 2 (pF :: nn 6 (pT :: pF :: .no :: sk 6 (pT :: .no :: sk 2 (pT :: .no :: sk 2 (pT :: .no :: []))))))) [(2, pB true)] (an3 h1 (an3 ff (an2 h13 (an ff (an h13 (an ff (an5 h14 (an6 tt trivial)))))))) (by kernel_rfl) (.cons rfl (.of_eq (by rw [h1, h13, h14]; try rfl)) .nil)
    ·rcases bt (decide (p0 ≥ 48)) with h15 | h15
     ·rcases bt (decide (p0 ≤ 57)) with h16 | h16
      ·exact RT hnt (nn 3 (sk 2 (pF :: nn 6 (pT :: pF :: nn 6 (pT :: pF :: .no :: sk 2 (pT :: .no :: sk 2 (pT :: .no :: []))))))) [(2, pB true)] (an3 h1 (an3 ff (an2 h13 (an ff (an h13 (an ff (an3 h14 (an2 h15 (an h14 (an h15 (an h14 (an3 h16 (an3 tt trivial))))))))))))) (by kernel_rfl) (.cons rfl (.of_eq (by rw [h1, h13, h14, h15, h16]; try rfl)) .nil)
      ·rcases bt (p0 == 95) with h17 | h17
       ·exact RT hnt (nn 3 (sk 2 (pF :: nn 6 (pT :: pF :: nn 6 (pT :: pF :: nn 3 (pF :: .no :: sk 2 (pT :: .no :: []))))))) [(2, pB true)] (an3 h1 (an3 ff (an2 h13 (an ff (an h13 (an ff (an3 h14 (an2 h15 (an h14 (an h15 (an h14 (an3 h16 (an3 h17 trivial))))))))))))) (by kernel_rfl) (.cons rfl (.of_eq (by rw [h1, h13, h14, h15, h16, h17]; try rfl)) .nil)
       ·exact RT hnt (nn 3 (sk 2 (pF :: nn 6 (pT :: pF :: nn 6 (pT :: pF :: nn 3 (pF :: nn 3 (pF :: .no :: []))))))) [(2, pB (p0 == 45))] (an3 h1 (an3 ff (an2 h13 (an ff (an h13 (an ff (an3 h14 (an2 h15 (an h14 (an h15 (an h14 (an3 h16 (an3 h17 trivial))))))))))))) (by kernel_rfl) (.cons rfl (.of_eq (by rw [h1, h13, h14, h15, h16, h17]; try rfl)) .nil)
     ·rcases bt (p0 == 95) with h18 | h18
      ·exact RT hnt (nn 3 (sk 2 (pF :: nn 6 (pT :: pF :: nn 4 (sk 2 (pF :: pF :: nn 3 (pF :: .no :: sk 2 (pT :: .no :: [])))))))) [(2, pB true)] (an3 h1 (an3 ff (an2 h13 (an ff (an h13 (an ff (an3 h14 (an2 h15 (an h14 (an h15 (an h14 (an3 ff (an3 h18 trivial))))))))))))) (by kernel_rfl) (.cons rfl (.of_eq (by rw [h1, h13, h14, h15, h18]; try rfl)) .nil)
      ·exact RT hnt (nn 3 (sk 2 (pF :: nn 6 (pT :: pF :: nn 4 (sk 2 (pF :: pF :: nn 3 (pF :: nn 3 (pF :: .no :: [])))))))) [(2, pB (p0 == 45))] (an3 h1 (an3 ff (an2 h13 (an ff (an h13 (an ff (an3 h14 (an2 h15 (an h14 (an h15 (an h14 (an3 ff (an3 h18 trivial))))))))))))) (by kernel_rfl) (.cons rfl (.of_eq (by rw [h1, h13, h14, h15, h18]; try rfl)) .nil)
   ·rcases bt (decide (p0 ≥ 48)) with h19 | h19
    ·rcases bt (decide (p0 ≤ 57)) with h20 | h20
     ·exact RT hnt (nn 3 (sk 2 (pF :: nn 4 (sk 2 (pF :: pF :: nn 6 (pT :: pF :: .no :: sk 2 (pT :: .no :: sk 2 (pT :: .no :: [])))))))) [(2, pB true)] (an3 h1 (an3 ff (an2 h13 (an ff (an h13 (an4 ff (an2 h19 (an ff (an h19 (an ff (an3 h20 (an3 tt trivial)))))))))))) (by kernel_rfl) (.cons rfl (.of_eq (by rw [h1, h13, h19, h20]; try rfl)) .nil)
     ·rcases bt (p0 == 95) with h21 | h21
      ·exact RT hnt (nn 3 (sk 2 (pF :: nn 4 (sk 2 (pF :: pF :: nn 6 (pT :: pF :: nn 3 (pF :: .no :: sk 2 (pT :: .no :: [])))))))) [(2, pB true)] (an3 h1 (an3 ff (an2 h13 (an ff (an h13 (an4 ff (an2 h19 (an ff (an h19 (an ff (an3 h20 (an3 h21 trivial)))))))))))) (by kernel_rfl) (.cons rfl (.of_eq (by rw [h1, h13, h19, h20, h21]; try rfl)) .nil)
      ·exact RT hnt (nn 3 (sk 2 (pF :: nn 4 (sk 2 (pF :: pF :: nn 6 (pT :: pF :: nn 3 (pF :: nn 3 (pF :: .no :: [])))))))) [(2, pB (p0 == 45))] (an3 h1 (an3 ff (an2 h13 (an ff (an h13 (an4 ff (an2 h19 (an ff (an h19 (an ff (an3 h20 (an3 h21 trivial)))))))))))) (by kernel_rfl) (.cons rfl (.of_eq (by rw [h1, h13, h19, h20, h21]; try rfl)) .nil)
    ·rcases bt (p0 == 95) with h22 | h22
     ·exact RT hnt (nn 3 (sk 2 (pF :: nn 4 (sk 2 (pF :: pF :: nn 4 (sk 2 (pF :: pF :: nn 3 (pF :: .no :: sk 2 (pT :: .no :: []))))))))) [(2, pB true)] (an3 h1 (an3 ff (an2 h13 (an ff (an h13 (an4 ff (an2 h19 (an ff (an h19 (an4 ff (an3 h22 trivial))))))))))) (by kernel_rfl) (.cons rfl (.of_eq (by rw [h1, h13, h19, h22]; try rfl)) .nil)
     ·exact RT hnt (nn 3 (sk 2 (pF :: nn 4 (sk 2 (pF :: pF :: nn 4 (sk 2 (pF :: pF :: nn 3 (pF :: nn 3 (pF :: .no :: []))))))))) [(2, pB (p0 == 45))] (an3 h1 (an3 ff (an2 h13 (an ff (an h13 (an4 ff (an2 h19 (an ff (an h19 (an4 ff (an3 h22 trivial))))))))))) (by kernel_rfl) (.cons rfl (.of_eq (by rw [h1, h13, h19, h22]; try rfl)) .nil)
 ·refine DW.ret ?_
  obtain rfl := Option.some.inj hm
  exact retK [] [] (pB ((((((decide (p0 ≥ 97)) && (decide (p0 ≤ 122))) || ((decide (p0 ≥ 65)) && (decide (p0 ≤ 90)))) || ((decide (p0 ≥ 48)) && (decide (p0 ≤ 57)))) || (p0 == 95)) || (p0 == 45)))

theorem Valid_nameSpec (p0 : ByteArray) (RES : Bool) (hm : Valid_name p0 = some RES) : Spec Tryz.prog 167 [pS p0] [] (pB RES) [] [] := by
 unfold Valid_name at hm
 refine SO Tryz.func167 rfl rfl [(0, pS p0)] [] ?_
 intro cx hnt
 refine DW.seq (RK hnt (.no :: []) [(0, pS p0)] [] trivial ?_)
 refine DW.seq (DW.seq (RN hnt (nn 4 []) [(0, pS p0), (6, .p (slOf 1 (encK .u8) 0 (bytesL p0))), (7, pI ((p0.size : Nat) : Int)), (8, pI 0)] [] [(6, .p (.sl .unk 1 p0.size (bytesF p0)))] [] trivial (by kernel_rfl) (.cons rfl (MLe.typed RowIs.bytes) .nil) .nil ?_))
 refine DW.block ?_
 obtain ⟨hc1, hm⟩ := guard_open hm
 refine DW.rangeO (fun (k1 : Nat) (s1 : Unit) => mkSt [(0, pS p0), (6, .p (slOf 1 (encK .u8) 0 (bytesL p0))), (7, pI ((p0.size : Nat) : Int)), (8, pI ((k1 : Nat) : Int))] []) 0 hm .refl ?_
 intro k1 s1 n1 hk1 hs1 he1
 refine DW.seq (RD hnt (.no :: []) [] [(9, pB (decide (((k1 : Nat) : Int) < ((p0.size : Nat) : Int))))] [] [] trivial ?_)
 refine DW.seq (condK (decide (((k1 : Nat) : Int) < ((p0.size : Nat) : Int))) ?_ ?_)
 ·intro h15
  have hlt1 : k1 < (bytesL p0).length := by have := of_decide_eq_true h15; have := bytesL_length p0; omega
  have hm := hs1 hlt1
  unfold Valid_nameL1 at hm
  refine DW.skip ?_
  refine DW.seq (DW.block ?_)
  refine DW.seq (RD hnt (nn 3 []) [9] [(4, .p (vk .u8 ((bytesL p0).getD k1 0)))] [] [] (an (nn0 k1) (an (ltc hlt1) trivial)) ?_)
  obtain ⟨r16, hr16, hm⟩ := bind_open hm
  refine DW.seq (RD hnt (.no :: .call 176 [] true (pB r16) [] [] :: .no :: []) [4] [(14, pB (!r16))] [] [] (an (inner_nameSpec ((bytesL p0).getD k1 0) r16 hr16) trivial) ?_)
  refine condM hm ?_ ?_
  ·intro h17 hm
   refine DW.seq (RK hnt (.no :: []) [(2, pB false)] [] trivial ?_)
   refine DW.ret ?_
   obtain rfl := Option.some.inj hm
   exact retK [] [] (pB false)
  ·intro h17 hm
   refine DW.skip ?_
   refine DW.done ?_
   show DW _ _ _ _ _
   refine RD hnt (nn 2 []) [14] [(8, pI (w64 (((k1 : Nat) : Int) + 1)))] [] [] trivial ?_
   exact joinDone () ⟨hlt1, hm⟩ (Conv.tp [(8, pI (w64 (((k1 : Nat) : Int) + 1)))] [] (by kernel_rfl) (.cons rfl (.of_eq (congrArg pI (w64_succ hlt1 hc1))) .nil) .nil)
 ·intro h15
  have hge1 : ¬ k1 < (bytesL p0).length := by have := of_decide_eq_false h15; have := bytesL_length p0; omega
  have hm := he1 hge1
  unfold Valid_nameD1 at hm
  refine DW.exit ?_
  refine joinQ_exit ?_
  refine KQ_exit ?_
  refine blockQ_exit ?_
  show DW _ _ _ _ _
  refine DW.seq ?_
  refine DW.join (ι := Bool) (fun (y3 : Bool) => mkSt [(2, pB y3)] []) (fun y3 => Valid_nameJ3 y3 = some RES) ?_ ?_
  ·intro y3 hm
   unfold Valid_nameJ3 at hm
   refine DW.ret ?_
   obtain rfl := Option.some.inj hm
   exact retK [] [] (pB y3)
  ·rcases bt (!(beqS p0 ByteArray.empty)) with h18 | h18
   ·replace hm := if_t h18 hm
    rcases bt (decide (((p0.size : Nat) : Int) ≤ 32)) with h19 | h19
    ·replace hm := if_t h19 hm
     obtain ⟨g20, hm⟩ := guard_open hm
     refine RK hnt (nn 6 (pT :: nn 4 (pT :: .no :: []))) [(2, pB ((((byteAt p0 0) : Nat) : Int) != 45))] [] (an4 h18 (an2 h19 (an (nn0 0) (an (ltc g20) (an2 h19 trivial))))) ?_
     exact joinDone ((((byteAt p0 0) : Nat) : Int) != 45) hm .refl
    ·replace hm := if_f h19 hm
     refine RK hnt (nn 6 (pT :: .no :: sk 3 (pF :: .no :: []))) [(2, pB false)] [] (an4 h18 (an4 h19 trivial)) ?_
     exact joinDone false hm .refl
   ·replace hm := if_f h18 hm
    refine RK hnt (nn 3 (sk 3 (pF :: .no :: sk 3 (pF :: .no :: [])))) [(2, pB false)] [] (an4 h18 (an4 ff trivial)) ?_
    exact joinDone false hm .refl

abbrev c153e1 (p0 : List Node) (k1 : Nat) := (p0.getD k1 (default : Node))
theorem fine_treeSpec (p0 : List Node) (p1 : Node) (RES : Bool) (hm : fine_tree p0 p1 = some RES) : Spec Tryz.prog 153 [.p (slNode p0), .p (.agg (encNode p1))] [] (pB RES) [] [] := by
 unfold fine_tree at hm
 refine SO Tryz.func153 rfl rfl [(0, .p (slNode p0)), (1, .p (.agg (encNode p1)))] [] ?_
 intro cx hnt
 refine DW.seq (RD hnt (nn 2 []) [1] [(3, rr 1024)] [] [(1024, bx (pm (encNode p1)))] trivial ?_)
 obtain ⟨g1, hm⟩ := guard_open hm
 refine DW.seq (DW.seq ?_)
 refine DW.join (ι := Bool) (fun (y1 : Bool) => mkSt [(0, .p (slNode p0)), (3, rr 1024), (33, pB y1)] [(1024, bx (pm (encNode p1)))]) (fun y1 => (fine_treeJ1 p0 p1) y1 = some RES) ?_ ?_
 ·intro y1 hm
  unfold fine_treeJ1 at hm
  refine condM hm ?_ ?_
  ·intro h6 hm
   refine DW.seq (RK hnt (.no :: []) [(4, pB false)] [] trivial ?_)
   refine DW.ret ?_
   obtain rfl := Option.some.inj hm
   exact retK [] [] (pB false)
  ·intro h6 hm
   refine DW.skip ?_
   refine DW.seq (RD hnt (.no :: []) [33] [(5, pB false)] [] [] trivial ?_)
   refine DW.seq (DW.seq (RD hnt (nn 3 []) [0] [(34, .p (slNode p0)), (35, pI ((p0.length : Nat) : Int)), (36, pI 0)] [] [] trivial ?_))
   refine DW.block ?_
   obtain ⟨hc1, hm⟩ := guard_open hm
   refine DW.rangeO (fun (k1 : Nat) (s1 : Bool) => mkSt [(3, rr 1024), (5, pB s1), (34, .p (slNode p0)), (35, pI ((p0.length : Nat) : Int)), (36, pI ((k1 : Nat) : Int))] [(1024, bx (pm (encNode p1)))]) dNode hm Conv.eqK ?_
   intro k1 s1 n1 hk1 hs1 he1
   refine DW.seq (RD hnt (.no :: []) [] [(37, pB (decide (((k1 : Nat) : Int) < ((p0.length : Nat) : Int))))] [] [] trivial ?_)
   refine DW.seq (condK (decide (((k1 : Nat) : Int) < ((p0.length : Nat) : Int))) ?_ ?_)
   ·intro h16
    have hlt1 : k1 < p0.length := by have := of_decide_eq_true h16; omega
    have hm := hs1 hlt1
    unfold fine_treeL1 at hm
    refine DW.skip ?_
    refine DW.seq (DW.block ?_)
    refine DW.seq (RD hnt (nn 4 []) [37] [(7, rr 1056)] [] [(1056, bx (pm (encNode (c153e1 p0 k1))))] (an (nn0 k1) (an (ltc hlt1) trivial)) ?_)
    refine DW.seq (DW.regJ (sl2 := [(3, rr 1024), (5, pB (s1 || ((c153e1 p0 k1).id == p1.parent))), (7, rr 1056), (34, .p (slNode p0)), (35, pI ((p0.length : Nat) : Int)), (36, pI ((k1 : Nat) : Int))]) (ob2 := [(1024, bx (pm (encNode p1))), (1056, bx (pm (encNode (c153e1 p0 k1))))]) ?_ ?_)
    ·rcases bt s1 with h17 | h17
     ·exact RT hnt (nn 2 (sk 5 (pT :: .no :: []))) [(5, pB true)] (an6 h17 trivial) (by kernel_rfl) (.cons rfl (.of_eq (by rw [h17]; try rfl)) .nil)
     ·exact RT hnt (nn 7 (pF :: .no :: [])) [(5, pB ((c153e1 p0 k1).id == p1.parent))] (an6 h17 trivial) (by kernel_rfl) (.cons rfl (.of_eq (by rw [h17]; try rfl)) .nil)
    ·refine DW.seq (DW.regJ (sl2 := [(3, rr 1024), (5, pB (s1 || ((c153e1 p0 k1).id == p1.parent))), (34, .p (slNode p0)), (35, pI ((p0.length : Nat) : Int)), (36, pI ((k1 : Nat) : Int)), (59, pB (((c153e1 p0 k1).parent == p1.parent) && (beqS (c153e1 p0 k1).name p1.name)))]) (ob2 := [(1024, bx (pm (encNode p1)))]) ?_ ?_)
     ·rcases bt ((c153e1 p0 k1).parent == p1.parent) with h18 | h18
      ·exact RT hnt (nn 11 (pT :: [])) [(59, pB (beqS (c153e1 p0 k1).name p1.name))] (an6 h18 trivial) (by kernel_rfl) (.cons rfl (.of_eq (by rw [h18]; try rfl)) .nil)
      ·exact RT hnt (nn 6 (sk 5 (pF :: []))) [(59, pB false)] (an6 h18 trivial) (by kernel_rfl) (.cons rfl (.of_eq (by rw [h18]; try rfl)) .nil)
     ·refine condM hm ?_ ?_
      ·intro h19 hm
       refine DW.seq (RK hnt (.no :: []) [(4, pB false)] [] trivial ?_)
       refine DW.ret ?_
       obtain rfl := Option.some.inj hm
       exact retK [] [] (pB false)
      ·intro h19 hm
       refine DW.skip ?_
       refine DW.done ?_
       show DW _ _ _ _ _
       refine RD hnt (nn 2 []) [59] [(36, pI (w64 (((k1 : Nat) : Int) + 1)))] [] [] trivial ?_
       exact joinDone (s1 || ((c153e1 p0 k1).id == p1.parent)) ⟨hlt1, hm⟩ (Conv.tp [(36, pI (w64 (((k1 : Nat) : Int) + 1)))] [] (by kernel_rfl) (.cons rfl (.of_eq (congrArg pI (w64_succ hlt1 hc1))) .nil) .nil)
   ·intro h16
    have hge1 : ¬ k1 < p0.length := by have := of_decide_eq_false h16; omega
    have hm := he1 hge1
    unfold fine_treeD1 at hm
    refine DW.exit ?_
    refine joinQ_exit ?_
    refine KQ_exit ?_
    refine blockQ_exit ?_
    show DW _ _ _ _ _
    refine DW.seq (RK hnt (nn 2 []) [(4, pB s1)] [] trivial ?_)
    refine DW.ret ?_
    obtain rfl := Option.some.inj hm
    exact retK [] [] (pB s1)
 ·rcases bt (decide (p1.id ≤ (p0.getD (Int.toNat (w64 (((p0.length : Nat) : Int) - 1))) dNode).id)) with h2 | h2
  ·replace hm := if_t h2 hm
   refine RD hnt (nn 11 (sk 4 (pT :: .no :: sk 8 (pT :: [])))) [] [(33, pB true)] [] [] (an g1.1 (an g1.2 (an5 h2 (an6 tt trivial)))) ?_
   exact joinDone true hm Conv.eqK
  ·replace hm := if_f h2 hm
   obtain ⟨r3, hr3, hm⟩ := bind_open hm
   rcases bt (!r3) with h4 | h4
   ·replace hm := if_t h4 hm
    refine RD hnt (nn 13 (.call 167 [] true (pB r3) [] [] :: .no :: pF :: .no :: sk 8 (pT :: []))) [] [(33, pB true)] [] [] (an g1.1 (an g1.2 (an3 h2 (an (Valid_nameSpec p1.name r3 hr3) (an2 h2 (an6 h4 trivial)))))) ?_
    exact joinDone true hm Conv.eqK
   ·replace hm := if_f h4 hm
    rcases bt (p1.kind != 0) with h5 | h5
    ·replace hm := if_t h5 hm
     refine RD hnt (nn 13 (.call 167 [] true (pB r3) [] [] :: .no :: pF :: nn 8 (pT :: pF :: []))) [] [(33, pB (p1.kind != 1))] [] [] (an g1.1 (an g1.2 (an3 h2 (an (Valid_nameSpec p1.name r3 hr3) (an2 h2 (an4 h4 (an3 h5 (an h4 (an h5 (an h4 trivial)))))))))) ?_
     exact joinDone (p1.kind != 1) hm Conv.eqK
    ·replace hm := if_f h5 hm
     refine RD hnt (nn 13 (.call 167 [] true (pB r3) [] [] :: .no :: pF :: nn 5 (sk 3 (pF :: pF :: [])))) [] [(33, pB false)] [] [] (an g1.1 (an g1.2 (an3 h2 (an (Valid_nameSpec p1.name r3 hr3) (an2 h2 (an4 h4 (an3 h5 (an h4 (an h5 (an h4 trivial)))))))))) ?_
     exact joinDone false hm Conv.eqK

abbrev c108e1 (p0 : Tree) (k1 : Nat) := (p0.nodes.getD k1 (default : Node))
abbrev c108e2 (p0 : Tree) : Nat × MV := (27, pI ((p0.nodes.length : Nat) : Int))
abbrev c108e3 (p0 : Tree) : Nat × Obj := (1008, bx (pm (encTree p0)))
theorem Check_treeSpec (p0 : Tree) (RES : Bool) (hm : Check_tree p0 = some RES) : Spec Tryz.prog 108 [.p (.agg (encTree p0))] [] (pB RES) [] [] := by
 unfold Check_tree at hm
 refine SO Tryz.func108 rfl rfl [(0, .p (.agg (encTree p0)))] [] ?_
 intro cx hnt
 refine DW.seq (RK hnt (nn 2 []) [(1, rr 1008)] [(c108e3 p0)] trivial ?_)
 refine DW.seq (DW.seq ?_)
 refine DW.join (ι := Bool) (fun (y1 : Bool) => mkSt [(1, rr 1008), (23, pB y1)] [(c108e3 p0)]) (fun y1 => (Check_treeJ1 p0) y1 = some RES) ?_ ?_
 ·intro y1 hm
  unfold Check_treeJ1 at hm
  refine condM hm ?_ ?_
  ·intro h5 hm
   refine DW.seq (RK hnt (.no :: []) [(2, pB false)] [] trivial ?_)
   refine DW.ret ?_
   obtain rfl := Option.some.inj hm
   exact retK [] [] (pB false)
  ·intro h5 hm
   refine DW.skip ?_
   refine DW.seq (RD hnt (nn 2 []) [23] [(3, .mref 1192 0)] [] [(1192, ob0 (mapOf vi (vi 0) (IMap.empty 0)))] trivial ?_)
   refine DW.seq (DW.seq (RD hnt (nn 4 []) [] [(26, .p (slNode p0.nodes)), (c108e2 p0), (28, pI 0)] [] [] trivial ?_))
   refine DW.block ?_
   obtain ⟨hc1, hm⟩ := guard_open hm
   refine DW.rangeO (fun (k1 : Nat) (s1 : IMap Int) => mkSt [(1, rr 1008), (3, .mref 1192 0), (26, .p (slNode p0.nodes)), (c108e2 p0), (28, pI ((k1 : Nat) : Int))] [(c108e3 p0), (1192, ob0 (mapOf vi (vi 0) s1))]) dNode hm Conv.eqK ?_
   intro k1 s1 n1 hk1 hs1 he1
   refine DW.seq (RD hnt (.no :: []) [] [(29, pB (decide (((k1 : Nat) : Int) < ((p0.nodes.length : Nat) : Int))))] [] [] trivial ?_)
   refine DW.seq (condK (decide (((k1 : Nat) : Int) < ((p0.nodes.length : Nat) : Int))) ?_ ?_)
   ·intro h36
    have hlt1 : k1 < p0.nodes.length := by have := of_decide_eq_true h36; omega
    have hm := hs1 hlt1
    unfold Check_treeL1 at hm
    refine DW.skip ?_
    refine DW.seq (DW.block ?_)
    refine DW.seq (RD hnt (nn 6 []) [29] [(4, pI ((k1 : Nat) : Int)), (5, rr 1040)] [] [(1040, bx (pm (encNode (c108e1 p0 k1))))] (an (nn0 k1) (an (ltc hlt1) trivial)) ?_)
    refine DW.seq (DW.seq ?_)
    refine DW.join (ι := Bool) (fun (y8 : Bool) => mkSt [(1, rr 1008), (3, .mref 1192 0), (4, pI ((k1 : Nat) : Int)), (5, rr 1040), (26, .p (slNode p0.nodes)), (c108e2 p0), (28, pI ((k1 : Nat) : Int)), (64, pB y8)] [(c108e3 p0), (1040, bx (pm (encNode (c108e1 p0 k1)))), (1192, ob0 (mapOf vi (vi 0) s1))]) (fun y8 => (Check_treeJ8 k1 (c108e1 p0 k1) s1 n1) y8 = some RES) ?_ ?_
    ·intro y8 hm
     unfold Check_treeJ8 at hm
     refine condM hm ?_ ?_
     ·intro h44 hm
      refine DW.seq (RK hnt (.no :: []) [(2, pB false)] [] trivial ?_)
      refine DW.ret ?_
      obtain rfl := Option.some.inj hm
      exact retK [] [] (pB false)
     ·intro h44 hm
      refine DW.skip ?_
      refine DW.seq (DW.seq (RD hnt (nn 2 []) [4, 64] [(66, pB (decide (((k1 : Nat) : Int) > 0)))] [] [] trivial ?_))
      refine DW.join (ι := IMap Int) (fun (y9 : IMap Int) => mkSt [(1, rr 1008), (3, .mref 1192 0), (5, rr 1040), (26, .p (slNode p0.nodes)), (c108e2 p0), (28, pI ((k1 : Nat) : Int))] [(c108e3 p0), (1040, bx (pm (encNode (c108e1 p0 k1)))), (1192, ob0 (mapOf vi (vi 0) y9))]) (fun y9 => (Check_treeJ9 (c108e1 p0 k1) n1) y9 = some RES) ?_ ?_
      ·intro y9 hm
       unfold Check_treeJ9 at hm
       refine DW.seq (RD hnt (nn 5 []) [5] [(79, pB (decide ((y9.get (c108e1 p0 k1).id) > 8)))] [1040] [] (an (rfl : vi 0 = vi 0) trivial) ?_)
       refine condM hm ?_ ?_
       ·intro h46 hm
        refine DW.seq (RK hnt (.no :: []) [(2, pB false)] [] trivial ?_)
        refine DW.ret ?_
        obtain rfl := Option.some.inj hm
        exact retK [] [] (pB false)
       ·intro h46 hm
        refine DW.skip ?_
        refine DW.done ?_
        show DW _ _ _ _ _
        refine RD hnt (nn 2 []) [79] [(28, pI (w64 (((k1 : Nat) : Int) + 1)))] [] [] trivial ?_
        exact joinDone y9 ⟨hlt1, hm⟩ (Conv.tp [(28, pI (w64 (((k1 : Nat) : Int) + 1)))] [] (by kernel_rfl) (.cons rfl (.of_eq (congrArg pI (w64_succ hlt1 hc1))) .nil) .nil)
      ·refine condM hm ?_ ?_
       ·intro h45 hm
        refine RN hnt (nn 9 []) [(1, rr 1008), (3, .mref 1192 0), (5, rr 1040), (26, .p (slNode p0.nodes)), (c108e2 p0), (28, pI ((k1 : Nat) : Int))] [(c108e3 p0), (1040, bx (pm (encNode (c108e1 p0 k1)))), (1192, ob0 (mapOf vi (vi 0) (s1.set (c108e1 p0 k1).id (w64 ((s1.get (c108e1 p0 k1).parent) + 1)))))] [] [(1192, .mp (vi 0) (updI s1.has (c108e1 p0 k1).id true) (updI (fun j => vi (s1.get j)) (c108e1 p0 k1).id (vi (w64 ((s1.get (c108e1 p0 k1).parent) + 1)))))] (an (rfl : vi 0 = vi 0) trivial) (by kernel_rfl) .nil (.cons rfl (map_set (w64 ((s1.get (c108e1 p0 k1).parent) + 1)) rfl) .nil) ?_
        exact joinDone (s1.set (c108e1 p0 k1).id (w64 ((s1.get (c108e1 p0 k1).parent) + 1))) hm .refl
       ·intro h45 hm
        refine DW.skip ?_
        exact joinDone s1 hm Conv.t0
    ·rcases bt (decide ((c108e1 p0 k1).control < 0)) with h37 | h37
     ·replace hm := if_t h37 hm
      refine RD hnt (nn 4 (sk 4 (pT :: .no :: sk 3 (pT :: .no :: sk 3 (pT :: .no :: sk 11 (pT :: [])))))) [] [(64, pB true)] [] [] (an5 h37 (an tt (an6 tt (an6 tt trivial)))) ?_
      exact joinDone true hm Conv.eqK
     ·replace hm := if_f h37 hm
      rcases bt ((kandNot .i64 (c108e1 p0 k1).control 31) != 0) with h38 | h38
      ·replace hm := if_t h38 hm
       refine RD hnt (nn 8 (pF :: .no :: sk 3 (pT :: .no :: sk 3 (pT :: .no :: sk 11 (pT :: []))))) [] [(64, pB true)] [] [] (an5 h37 (an4 h38 (an3 tt (an6 tt trivial)))) ?_
       exact joinDone true hm Conv.eqK
      ·replace hm := if_f h38 hm
       rcases bt (decide ((c108e1 p0 k1).owner < 0)) with h39 | h39
       ·replace hm := if_t h39 hm
        refine RD hnt (nn 8 (pF :: nn 4 (pF :: .no :: sk 3 (pT :: .no :: sk 11 (pT :: []))))) [] [(64, pB true)] [] [] (an5 h37 (an4 h38 (an4 h39 (an5 tt trivial)))) ?_
        exact joinDone true hm Conv.eqK
       ·replace hm := if_f h39 hm
        rcases bt (decide ((c108e1 p0 k1).owner > 1048576)) with h40 | h40
        ·replace hm := if_t h40 hm
         refine RD hnt (nn 8 (pF :: nn 4 (pF :: nn 4 (pF :: .no :: sk 11 (pT :: []))))) [] [(64, pB true)] [] [] (an5 h37 (an4 h38 (an4 h39 (an5 h40 trivial)))) ?_
         exact joinDone true hm Conv.eqK
        ·replace hm := if_f h40 hm
         rcases bt (decide (((k1 : Nat) : Int) > 0)) with h41 | h41
         ·replace hm := if_t h41 hm
          obtain ⟨g42, hm⟩ := guard_open hm
          obtain ⟨r43, hr43, hm⟩ := bind_open hm
          refine RD hnt (nn 8 (pF :: nn 4 (pF :: nn 4 (pF :: nn 9 (.call 153 [] true (pB r43) [] [] :: .no :: pT :: pF :: []))))) [] [(64, pB (!r43))] [] [] (an5 h37 (an4 h38 (an4 h39 (an3 h40 (an4 h41 (an (by omega : (0 : Int) ≤ 0) (an (by omega : (0 : Int) ≤ ((k1 : Nat) : Int)) (an (by omega : ((k1 : Nat) : Int) ≤ ((p0.nodes.length : Nat) : Int)) (an2 h41 (an (Spec.args (xs := [.p (.sl .unk 6 k1 (elNode p0.nodes)), .p (.agg (encNode (c108e1 p0 k1)))]) (fine_treeSpec (p0.nodes.take k1) (c108e1 p0 k1) r43 hr43) (.cons (.p (PLe.typed (RowIs.elems.take (by omega)))) (.cons .rfl .nil))) (an h41 (an h40 (an h41 (an h40 trivial)))))))))))))) ?_
          exact joinDone (!r43) hm Conv.eqK
         ·replace hm := if_f h41 hm
          refine RD hnt (nn 8 (pF :: nn 4 (pF :: nn 4 (pF :: nn 4 (sk 7 (pF :: pF :: [])))))) [] [(64, pB false)] [] [] (an5 h37 (an4 h38 (an4 h39 (an3 h40 (an h41 (an6 h41 (an h40 (an h41 (an h40 trivial))))))))) ?_
          exact joinDone false hm Conv.eqK
   ·intro h36
    have hge1 : ¬ k1 < p0.nodes.length := by have := of_decide_eq_false h36; omega
    have hm := he1 hge1
    unfold Check_treeD1 at hm
    refine DW.exit ?_
    refine joinQ_exit ?_
    refine KQ_exit ?_
    refine blockQ_exit ?_
    show DW _ _ _ _ _
    obtain ⟨g47, hm⟩ := guard_open hm
    refine DW.seq ?_
    refine DW.join (ι := Bool) (fun (y10 : Bool) => mkSt [(2, pB y10)] []) (fun y10 => Check_treeJ10 y10 = some RES) ?_ ?_
    ·intro y10 hm
     unfold Check_treeJ10 at hm
     refine DW.ret ?_
     obtain rfl := Option.some.inj hm
     exact retK [] [] (pB y10)
    ·rcases bt (decide (p0.next > (p0.nodes.getD (Int.toNat (w64 (((p0.nodes.length : Nat) : Int) - 1))) dNode).id)) with h48 | h48
     ·replace hm := if_t h48 hm
      refine RK hnt (nn 16 (pT :: .no :: [])) [(2, pB (decide (p0.next ≤ 2147483648)))] [] (an g47.1 (an g47.2 (an4 h48 trivial))) ?_
      exact joinDone (decide (p0.next ≤ 2147483648)) hm .refl
     ·replace hm := if_f h48 hm
      refine RK hnt (nn 13 (sk 3 (pF :: .no :: []))) [(2, pB false)] [] (an g47.1 (an g47.2 (an4 h48 trivial))) ?_
      exact joinDone false hm .refl
 ·rcases bt (decide (((p0.nodes.length : Nat) : Int) < 1)) with h1 | h1
  ·replace hm := if_t h1 hm
   refine RD hnt (nn 5 (sk 4 (pT :: .no :: sk 6 (pT :: [])))) [] [(23, pB true)] [] [] (an5 h1 (an tt (an6 tt trivial))) ?_
   exact joinDone true hm Conv.eqK
  ·replace hm := if_f h1 hm
   rcases bt (decide (((p0.nodes.length : Nat) : Int) > 64)) with h2 | h2
   ·replace hm := if_t h2 hm
    refine RD hnt (nn 9 (pF :: .no :: sk 6 (pT :: []))) [] [(23, pB true)] [] [] (an5 h1 (an h2 (an6 h2 trivial))) ?_
    exact joinDone true hm Conv.eqK
   ·replace hm := if_f h2 hm
    obtain ⟨g3, hm⟩ := guard_open hm
    obtain ⟨r4, hr4, hm⟩ := bind_open hm
    refine RD hnt (nn 9 (pF :: nn 5 (.call 152 [] true (pB r4) [] [] :: .no :: pF :: []))) [] [(23, pB (!r4))] [] [] (an5 h1 (an3 h2 (an (nn0 0) (an (ltc g3) (an2 h2 (an (root_treeSpec (p0.nodes.getD 0 dNode) r4 hr4) (an2 h2 trivial))))))) ?_
    exact joinDone (!r4) hm Conv.eqK

theorem AtFa_crewSpec (p0 : Task) (p1 : Int) (RES : Bool) (hm : AtFa_crew p0 p1 = some RES) : Spec Tryz.prog 144 [.p (.agg (encTask p0)), rr 0] [.box [pI p1]] (pB RES) [.box [pI p1]] [] := by
 unfold AtFa_crew at hm
 refine SO Tryz.func144 rfl rfl [(0, .p (.agg (encTask p0))), (1, rr 0)] [(0, bx [pI p1])] ?_
 intro cx hnt
 refine DW.seq (RD hnt (nn 2 []) [0] [(2, rr 1016)] [] [(1016, bx (pm (encTask p0)))] trivial ?_)
 refine DW.seq (RK hnt (nn 5 []) [(3, pB (p0.id == p1))] [(0, bx [pI p1])] trivial ?_)
 refine DW.ret ?_
 obtain rfl := Option.some.inj hm
 exact retK [.box [pI p1]] [] (pB (p0.id == p1))

theorem IndexFunc_slices_TaskQAtFa_crewSpec (p0 : List Task) (p1c0 : Int) (RES : Int) (hm : IndexFunc_slices_TaskQAtFa_crew p0 p1c0 = some RES) : Spec Tryz.prog 143 [.p (slTask p0), .fn 144 [rr 0]] [.box [pI p1c0]] (pI RES) [.box [pI p1c0]] [] := by
 unfold IndexFunc_slices_TaskQAtFa_crew at hm
 refine SO Tryz.func143 rfl rfl [(0, .p (slTask p0)), (1, .fn 144 [rr 0])] [(0, bx [pI p1c0])] ?_
 intro cx hnt
 refine DW.seq (RD hnt (.no :: []) [] [] [] [] trivial ?_)
 refine DW.seq (DW.seq (RD hnt (nn 3 []) [] [(7, pI ((p0.length : Nat) : Int)), (8, pI 0)] [] [] trivial ?_))
 refine DW.block ?_
 obtain ⟨hc1, hm⟩ := guard_open hm
 refine DW.rangeO (fun (k1 : Nat) (s1 : Unit) => mkSt [(0, .p (slTask p0)), (1, .fn 144 [rr 0]), (7, pI ((p0.length : Nat) : Int)), (8, pI ((k1 : Nat) : Int))] [(0, bx [pI p1c0])]) dTask hm Conv.eqK ?_
 intro k1 s1 n1 hk1 hs1 he1
 refine DW.seq (RD hnt (.no :: []) [] [(9, pB (decide (((k1 : Nat) : Int) < ((p0.length : Nat) : Int))))] [] [] trivial ?_)
 refine DW.seq (condK (decide (((k1 : Nat) : Int) < ((p0.length : Nat) : Int))) ?_ ?_)
 ·intro h9
  have hlt1 : k1 < p0.length := by have := of_decide_eq_true h9; omega
  have hm := hs1 hlt1
  unfold IndexFunc_slices_TaskQAtFa_crewL1 at hm
  refine DW.skip ?_
  refine DW.seq (DW.block ?_)
  refine DW.seq (RD hnt (nn 2 []) [9] [(5, pI ((k1 : Nat) : Int))] [] [] trivial ?_)
  obtain ⟨r10, hr10, hm⟩ := bind_open hm
  refine DW.seq (RD hnt (nn 5 (.call 144 [0] true (pB r10) [.box [pI p1c0]] [] :: [])) [] [(16, pB r10)] [] [] (an (nn0 k1) (an (ltc hlt1) (an (AtFa_crewSpec (p0.getD k1 (default : Task)) p1c0 r10 hr10) (an trivial trivial)))) ?_)
  refine condM hm ?_ ?_
  ·intro h11 hm
   refine DW.seq (RK hnt (nn 2 []) [(4, pI ((k1 : Nat) : Int))] [(0, bx [pI p1c0])] trivial ?_)
   refine DW.ret ?_
   obtain rfl := Option.some.inj hm
   exact retK [.box [pI p1c0]] [] (pI ((k1 : Nat) : Int))
  ·intro h11 hm
   refine DW.skip ?_
   refine DW.done ?_
   show DW _ _ _ _ _
   refine RD hnt (nn 2 []) [5, 16] [(8, pI (w64 (((k1 : Nat) : Int) + 1)))] [] [] trivial ?_
   exact joinDone () ⟨hlt1, hm⟩ (Conv.tp [(8, pI (w64 (((k1 : Nat) : Int) + 1)))] [] (by kernel_rfl) (.cons rfl (.of_eq (congrArg pI (w64_succ hlt1 hc1))) .nil) .nil)
 ·intro h9
  have hge1 : ¬ k1 < p0.length := by have := of_decide_eq_false h9; omega
  have hm := he1 hge1
  unfold IndexFunc_slices_TaskQAtFa_crewD1 at hm
  refine DW.exit ?_
  refine joinQ_exit ?_
  refine KQ_exit ?_
  refine blockQ_exit ?_
  show DW _ _ _ _ _
  refine DW.seq (RK hnt (.no :: []) [(4, pI (-1))] [(0, bx [pI p1c0])] trivial ?_)
  refine DW.ret ?_
  obtain rfl := Option.some.inj hm
  exact retK [.box [pI p1c0]] [] (pI (-1))

theorem At_crewSpec (p0 : Hierarchy) (p1 : Int) (RES : Int) (hm : At_crew p0 p1 = some RES) : Spec Tryz.prog 95 [.p (.agg (encHierarchy p0)), pI p1] [] (pI RES) [] [] := by
 unfold At_crew at hm
 refine SO Tryz.func95 rfl rfl [(0, .p (.agg (encHierarchy p0))), (1, pI p1)] [] ?_
 intro cx hnt
 refine DW.seq (RK hnt (nn 3 []) [(2, rr 1016), (3, rr 1024)] [(1016, bx (pm (encHierarchy p0))), (1024, bx [pI p1])] trivial ?_)
 obtain ⟨r1, hr1, hm⟩ := bind_open hm
 refine DW.seq (RK hnt (nn 3 (.call 143 [1024] true (pI r1) [.box [pI p1]] [] :: .no :: [])) [(4, pI r1)] [] (an (IndexFunc_slices_TaskQAtFa_crewSpec p0.tasks p1 r1 hr1) (an trivial trivial)) ?_)
 refine DW.ret ?_
 obtain rfl := Option.some.inj hm
 exact retK [] [] (pI r1)

theorem Find_crewSpec (p0 : Hierarchy) (p1 : Int) (RES : Task × Bool) (hm : Find_crew p0 p1 = some RES) : Spec Tryz.prog 104 [.p (.agg (encHierarchy p0)), pI p1] [] (.p (.tup [.agg (encTask RES.1), vb RES.2])) [] [] := by
 unfold Find_crew at hm
 refine SO Tryz.func104 rfl rfl [(0, .p (.agg (encHierarchy p0))), (1, pI p1)] [] ?_
 intro cx hnt
 refine DW.seq (RK hnt (nn 3 []) [(1, pI p1), (2, rr 1016), (4, rr 1032)] [(1016, bx (pm (encHierarchy p0))), (1032, bx [pI 0, pI 0, pI 0, pI 0])] trivial ?_)
 obtain ⟨r1, hr1, hm⟩ := bind_open hm
 refine DW.seq (RD hnt (nn 2 (.call 95 [] true (pI r1) [] [] :: .no :: [])) [1] [(6, pI r1)] [] [] (an (At_crewSpec p0 p1 r1 hr1) trivial) ?_)
 refine DW.seq (DW.seq (RD hnt (nn 2 []) [] [(11, pB (decide (r1 < 0)))] [] [] trivial ?_))
 refine condM hm ?_ ?_
 ·intro h2 hm
  refine DW.seq (RD hnt (nn 3 []) [2, 6, 11] [(5, pB false)] [1016] [] trivial ?_)
  refine DW.ret ?_
  obtain rfl := Option.some.inj hm
  exact retK [] [] (.p (.tup [.agg [vi 0, vi 0, vi 0, vi 0], vb false]))
 ·intro h2 hm
  refine DW.skip ?_
  obtain ⟨g3, hm⟩ := guard_open hm
  refine DW.seq (RK hnt (nn 7 []) [(4, rr 1032), (5, pB true)] [(1032, bx (pm (encTask (p0.tasks.getD (Int.toNat r1) dTask))))] (an g3.1 (an g3.2 trivial)) ?_)
  refine DW.ret ?_
  obtain rfl := Option.some.inj hm
  exact retK [] [] (.p (.tup [.agg (encTask (p0.tasks.getD (Int.toNat r1) dTask)), vb true]))

theorem AtFa_forestSpec (p0 : Node) (p1 : Int) (RES : Bool) (hm : AtFa_forest p0 p1 = some RES) : Spec Tryz.prog 150 [.p (.agg (encNode p0)), rr 0] [.box [pI p1]] (pB RES) [.box [pI p1]] [] := by
 unfold AtFa_forest at hm
 refine SO Tryz.func150 rfl rfl [(0, .p (.agg (encNode p0))), (1, rr 0)] [(0, bx [pI p1])] ?_
 intro cx hnt
 refine DW.seq (RD hnt (nn 2 []) [0] [(2, rr 1016)] [] [(1016, bx (pm (encNode p0)))] trivial ?_)
 refine DW.seq (RK hnt (nn 5 []) [(3, pB (p0.id == p1))] [(0, bx [pI p1])] trivial ?_)
 refine DW.ret ?_
 obtain rfl := Option.some.inj hm
 exact retK [.box [pI p1]] [] (pB (p0.id == p1))

theorem IndexFunc_slices_NodeQAtFa_forestSpec (p0 : List Node) (p1c0 : Int) (RES : Int) (hm : IndexFunc_slices_NodeQAtFa_forest p0 p1c0 = some RES) : Spec Tryz.prog 149 [.p (slNode p0), .fn 150 [rr 0]] [.box [pI p1c0]] (pI RES) [.box [pI p1c0]] [] := by
 unfold IndexFunc_slices_NodeQAtFa_forest at hm
 refine SO Tryz.func149 rfl rfl [(0, .p (slNode p0)), (1, .fn 150 [rr 0])] [(0, bx [pI p1c0])] ?_
 intro cx hnt
 refine DW.seq (RD hnt (.no :: []) [] [] [] [] trivial ?_)
 refine DW.seq (DW.seq (RD hnt (nn 3 []) [] [(7, pI ((p0.length : Nat) : Int)), (8, pI 0)] [] [] trivial ?_))
 refine DW.block ?_
 obtain ⟨hc1, hm⟩ := guard_open hm
 refine DW.rangeO (fun (k1 : Nat) (s1 : Unit) => mkSt [(0, .p (slNode p0)), (1, .fn 150 [rr 0]), (7, pI ((p0.length : Nat) : Int)), (8, pI ((k1 : Nat) : Int))] [(0, bx [pI p1c0])]) dNode hm Conv.eqK ?_
 intro k1 s1 n1 hk1 hs1 he1
 refine DW.seq (RD hnt (.no :: []) [] [(9, pB (decide (((k1 : Nat) : Int) < ((p0.length : Nat) : Int))))] [] [] trivial ?_)
 refine DW.seq (condK (decide (((k1 : Nat) : Int) < ((p0.length : Nat) : Int))) ?_ ?_)
 ·intro h9
  have hlt1 : k1 < p0.length := by have := of_decide_eq_true h9; omega
  have hm := hs1 hlt1
  unfold IndexFunc_slices_NodeQAtFa_forestL1 at hm
  refine DW.skip ?_
  refine DW.seq (DW.block ?_)
  refine DW.seq (RD hnt (nn 2 []) [9] [(5, pI ((k1 : Nat) : Int))] [] [] trivial ?_)
  obtain ⟨r10, hr10, hm⟩ := bind_open hm
  refine DW.seq (RD hnt (nn 5 (.call 150 [0] true (pB r10) [.box [pI p1c0]] [] :: [])) [] [(16, pB r10)] [] [] (an (nn0 k1) (an (ltc hlt1) (an (AtFa_forestSpec (p0.getD k1 (default : Node)) p1c0 r10 hr10) (an trivial trivial)))) ?_)
  refine condM hm ?_ ?_
  ·intro h11 hm
   refine DW.seq (RK hnt (nn 2 []) [(4, pI ((k1 : Nat) : Int))] [(0, bx [pI p1c0])] trivial ?_)
   refine DW.ret ?_
   obtain rfl := Option.some.inj hm
   exact retK [.box [pI p1c0]] [] (pI ((k1 : Nat) : Int))
  ·intro h11 hm
   refine DW.skip ?_
   refine DW.done ?_
   show DW _ _ _ _ _
   refine RD hnt (nn 2 []) [5, 16] [(8, pI (w64 (((k1 : Nat) : Int) + 1)))] [] [] trivial ?_
   exact joinDone () ⟨hlt1, hm⟩ (Conv.tp [(8, pI (w64 (((k1 : Nat) : Int) + 1)))] [] (by kernel_rfl) (.cons rfl (.of_eq (congrArg pI (w64_succ hlt1 hc1))) .nil) .nil)
 ·intro h9
  have hge1 : ¬ k1 < p0.length := by have := of_decide_eq_false h9; omega
  have hm := he1 hge1
  unfold IndexFunc_slices_NodeQAtFa_forestD1 at hm
  refine DW.exit ?_
  refine joinQ_exit ?_
  refine KQ_exit ?_
  refine blockQ_exit ?_
  show DW _ _ _ _ _
  refine DW.seq (RK hnt (.no :: []) [(4, pI (-1))] [(0, bx [pI p1c0])] trivial ?_)
  refine DW.ret ?_
  obtain rfl := Option.some.inj hm
  exact retK [.box [pI p1c0]] [] (pI (-1))

theorem At_forestSpec (p0 : Tree) (p1 : Int) (RES : Int) (hm : At_forest p0 p1 = some RES) : Spec Tryz.prog 101 [.p (.agg (encTree p0)), pI p1] [] (pI RES) [] [] := by
 unfold At_forest at hm
 refine SO Tryz.func101 rfl rfl [(0, .p (.agg (encTree p0))), (1, pI p1)] [] ?_
 intro cx hnt
 refine DW.seq (RK hnt (nn 3 []) [(2, rr 1016), (3, rr 1024)] [(1016, bx (pm (encTree p0))), (1024, bx [pI p1])] trivial ?_)
 obtain ⟨r1, hr1, hm⟩ := bind_open hm
 refine DW.seq (RK hnt (nn 3 (.call 149 [1024] true (pI r1) [.box [pI p1]] [] :: .no :: [])) [(4, pI r1)] [] (an (IndexFunc_slices_NodeQAtFa_forestSpec p0.nodes p1 r1 hr1) (an trivial trivial)) ?_)
 refine DW.ret ?_
 obtain rfl := Option.some.inj hm
 exact retK [] [] (pI r1)

theorem fine_memberSpec (p0 : Hierarchy) (p1 : Task) (RES : Bool) (hm : fine_member p0 p1 = some RES) : Spec Tryz.prog 109 [.p (.agg (encHierarchy p0)), .p (.agg (encTask p1))] [] (pB RES) [] [] := by
 unfold fine_member at hm
 refine SO Tryz.func109 rfl rfl [(0, .p (.agg (encHierarchy p0))), (1, .p (.agg (encTask p1)))] [] ?_
 intro cx hnt
 refine DW.seq (RK hnt (nn 3 []) [(2, rr 1016), (3, rr 1024)] [(1016, bx (pm (encHierarchy p0))), (1024, bx (pm (encTask p1)))] trivial ?_)
 obtain ⟨r1, hr1, hm⟩ := bind_open hm
 refine DW.seq (RD hnt (nn 3 (.call 104 [] true (.p (.tup [.agg (encTask r1.1), vb r1.2])) [] [] :: nn 6 [])) [] [(5, rr 1040), (6, pB r1.2)] [] [(1040, bx (pm (encTask r1.1)))] (an (Find_crewSpec p0 p1.process r1 hr1) trivial) ?_)
 refine DW.seq ?_
 refine DW.join (ι := Bool) (fun (y1 : Bool) => mkSt [(4, pB y1)] []) (fun y1 => fine_memberJ1 y1 = some RES) ?_ ?_
 ·intro y1 hm
  unfold fine_memberJ1 at hm
  refine DW.ret ?_
  obtain rfl := Option.some.inj hm
  exact retK [] [] (pB y1)
 ·rcases bt (decide (p1.user ≥ 0)) with h2 | h2
  ·replace hm := if_t h2 hm
   rcases bt (decide (p1.user ≤ 1048576)) with h3 | h3
   ·replace hm := if_t h3 hm
    rcases bt r1.2 with h4 | h4
    ·replace hm := if_t h4 hm
     rcases bt (r1.1.process == r1.1.id) with h5 | h5
     ·replace hm := if_t h5 hm
      rcases bt (r1.1.user == p1.user) with h6 | h6
      ·replace hm := if_t h6 hm
       obtain ⟨r7, hr7, hm⟩ := bind_open hm
       refine RK hnt (nn 7 (pT :: nn 2 (pT :: nn 6 (pT :: nn 6 (pT :: nn 5 (.call 101 [] true (pI r7) [] [] :: .no :: pT :: .no :: [])))))) [(4, pB (decide (r7 ≥ 0)))] [] (an4 h2 (an2 h3 (an6 h4 (an6 h5 (an5 h6 (an (At_forestSpec p0.tree p1.group r7 hr7) (an2 h6 trivial))))))) ?_
       exact joinDone (decide (r7 ≥ 0)) hm .refl
      ·replace hm := if_f h6 hm
       refine RK hnt (nn 7 (pT :: nn 2 (pT :: nn 6 (pT :: nn 6 (pT :: .no :: sk 6 (pF :: .no :: [])))))) [(4, pB false)] [] (an4 h2 (an2 h3 (an6 h4 (an6 h5 (an h6 (an6 h6 trivial)))))) ?_
       exact joinDone false hm .refl
     ·replace hm := if_f h5 hm
      refine RK hnt (nn 7 (pT :: nn 2 (pT :: nn 6 (pT :: .no :: sk 5 (pF :: .no :: sk 6 (pF :: .no :: [])))))) [(4, pB false)] [] (an4 h2 (an2 h3 (an6 h4 (an6 h5 (an ff (an6 ff trivial)))))) ?_
      exact joinDone false hm .refl
    ·replace hm := if_f h4 hm
     refine RK hnt (nn 7 (pT :: nn 2 (pT :: .no :: sk 5 (pF :: .no :: sk 5 (pF :: .no :: sk 6 (pF :: .no :: [])))))) [(4, pB false)] [] (an4 h2 (an2 h3 (an6 h4 (an ff (an6 ff (an6 ff trivial)))))) ?_
     exact joinDone false hm .refl
   ·replace hm := if_f h3 hm
    refine RK hnt (nn 7 (pT :: .no :: .skip :: pF :: .no :: sk 5 (pF :: .no :: sk 5 (pF :: .no :: sk 6 (pF :: .no :: []))))) [(4, pB false)] [] (an4 h2 (an2 h3 (an ff (an6 ff (an6 ff (an6 ff trivial)))))) ?_
    exact joinDone false hm .refl
  ·replace hm := if_f h2 hm
   refine RK hnt (nn 4 (sk 3 (pF :: .no :: .skip :: pF :: .no :: sk 5 (pF :: .no :: sk 5 (pF :: .no :: sk 6 (pF :: .no :: [])))))) [(4, pB false)] [] (an4 h2 (an3 ff (an6 ff (an6 ff (an6 ff trivial))))) ?_
   exact joinDone false hm .refl

abbrev c51e1 (p0 : Hierarchy) (k1 : Nat) := (p0.tasks.getD k1 (default : Task))
theorem Check_memberSpec (p0 : Hierarchy) (RES : Bool) (hm : Check_member p0 = some RES) : Spec Tryz.prog 51 [.p (.agg (encHierarchy p0))] [] (pB RES) [] [] := by
 unfold Check_member at hm
 refine SO Tryz.func51 rfl rfl [(0, .p (.agg (encHierarchy p0)))] [] ?_
 intro cx hnt
 refine DW.seq (RK hnt (nn 2 []) [(1, rr 1008)] [(1008, bx (pm (encHierarchy p0)))] trivial ?_)
 refine DW.seq (DW.seq ?_)
 refine DW.join (ι := Bool) (fun (y1 : Bool) => mkSt [(1, rr 1008), (20, pB y1)] [(1008, bx (pm (encHierarchy p0)))]) (fun y1 => (Check_memberJ1 p0) y1 = some RES) ?_ ?_
 ·intro y1 hm
  unfold Check_memberJ1 at hm
  refine condM hm ?_ ?_
  ·intro h4 hm
   refine DW.seq (RK hnt (.no :: []) [(2, pB false)] [] trivial ?_)
   refine DW.ret ?_
   obtain rfl := Option.some.inj hm
   exact retK [] [] (pB false)
  ·intro h4 hm
   refine DW.skip ?_
   refine DW.seq (RD hnt (.no :: []) [20] [(3, pI 0)] [] [] trivial ?_)
   refine DW.seq (DW.seq (RD hnt (nn 4 []) [] [(22, .p (slTask p0.tasks)), (23, pI ((p0.tasks.length : Nat) : Int)), (24, pI 0)] [] [] trivial ?_))
   refine DW.block ?_
   obtain ⟨hc1, hm⟩ := guard_open hm
   refine DW.rangeO (fun (k1 : Nat) (s1 : Int) => mkSt [(1, rr 1008), (3, pI s1), (22, .p (slTask p0.tasks)), (23, pI ((p0.tasks.length : Nat) : Int)), (24, pI ((k1 : Nat) : Int))] [(1008, bx (pm (encHierarchy p0)))]) dTask hm Conv.eqK ?_
   intro k1 s1 n1 hk1 hs1 he1
   refine DW.seq (RD hnt (.no :: []) [] [(25, pB (decide (((k1 : Nat) : Int) < ((p0.tasks.length : Nat) : Int))))] [] [] trivial ?_)
   refine DW.seq (condK (decide (((k1 : Nat) : Int) < ((p0.tasks.length : Nat) : Int))) ?_ ?_)
   ·intro h15
    have hlt1 : k1 < p0.tasks.length := by have := of_decide_eq_true h15; omega
    have hm := hs1 hlt1
    unfold Check_memberL1 at hm
    refine DW.skip ?_
    refine DW.seq (DW.block ?_)
    refine DW.seq (RD hnt (nn 4 []) [25] [(5, rr 1040)] [] [(1040, bx (pm (encTask (c51e1 p0 k1))))] (an (nn0 k1) (an (ltc hlt1) trivial)) ?_)
    refine DW.seq (DW.seq ?_)
    refine DW.join (ι := Bool) (fun (y4 : Bool) => mkSt [(1, rr 1008), (5, rr 1040), (22, .p (slTask p0.tasks)), (23, pI ((p0.tasks.length : Nat) : Int)), (24, pI ((k1 : Nat) : Int)), (37, pB y4)] [(1008, bx (pm (encHierarchy p0))), (1040, bx (pm (encTask (c51e1 p0 k1))))]) (fun y4 => (Check_memberJ4 (c51e1 p0 k1) n1) y4 = some RES) ?_ ?_
    ·intro y4 hm
     unfold Check_memberJ4 at hm
     refine condM hm ?_ ?_
     ·intro h18 hm
      refine DW.seq (RK hnt (.no :: []) [(2, pB false)] [] trivial ?_)
      refine DW.ret ?_
      obtain rfl := Option.some.inj hm
      exact retK [] [] (pB false)
     ·intro h18 hm
      refine DW.skip ?_
      refine RD hnt (nn 3 []) [5, 37] [(3, pI (c51e1 p0 k1).id)] [1040] [] trivial ?_
      refine DW.done ?_
      show DW _ _ _ _ _
      refine RD hnt (nn 2 []) [] [(24, pI (w64 (((k1 : Nat) : Int) + 1)))] [] [] trivial ?_
      exact joinDone (c51e1 p0 k1).id ⟨hlt1, hm⟩ (Conv.tp [(24, pI (w64 (((k1 : Nat) : Int) + 1)))] [] (by kernel_rfl) (.cons rfl (.of_eq (congrArg pI (w64_succ hlt1 hc1))) .nil) .nil)
    ·rcases bt (decide ((c51e1 p0 k1).id ≤ s1)) with h16 | h16
     ·replace hm := if_t h16 hm
      refine RD hnt (nn 5 (sk 4 (pT :: []))) [3] [(37, pB true)] [] [] (an5 h16 trivial) ?_
      exact joinDone true hm Conv.eqK
     ·replace hm := if_f h16 hm
      obtain ⟨r17, hr17, hm⟩ := bind_open hm
      refine RD hnt (nn 7 (.call 109 [] true (pB r17) [] [] :: .no :: pF :: [])) [3] [(37, pB (!r17))] [] [] (an3 h16 (an (fine_memberSpec p0 (c51e1 p0 k1) r17 hr17) (an2 h16 trivial))) ?_
      exact joinDone (!r17) hm Conv.eqK
   ·intro h15
    have hge1 : ¬ k1 < p0.tasks.length := by have := of_decide_eq_false h15; omega
    have hm := he1 hge1
    unfold Check_memberD1 at hm
    refine DW.exit ?_
    refine joinQ_exit ?_
    refine KQ_exit ?_
    refine blockQ_exit ?_
    show DW _ _ _ _ _
    refine DW.seq (RK hnt (nn 5 []) [(2, pB (decide (p0.next > s1)))] [] trivial ?_)
    refine DW.ret ?_
    obtain rfl := Option.some.inj hm
    exact retK [] [] (pB (decide (p0.next > s1)))
 ·rcases bt (decide (((p0.tasks.length : Nat) : Int) > 128)) with h1 | h1
  ·replace hm := if_t h1 hm
   refine RD hnt (nn 5 (sk 3 (pT :: .no :: sk 4 (pT :: [])))) [] [(20, pB true)] [] [] (an4 h1 (an5 tt trivial)) ?_
   exact joinDone true hm Conv.eqK
  ·replace hm := if_f h1 hm
   rcases bt (decide (p0.next > 2147483648)) with h2 | h2
   ·replace hm := if_t h2 hm
    refine RD hnt (nn 8 (pF :: .no :: sk 4 (pT :: []))) [] [(20, pB true)] [] [] (an4 h1 (an5 h2 trivial)) ?_
    exact joinDone true hm Conv.eqK
   ·replace hm := if_f h2 hm
    obtain ⟨r3, hr3, hm⟩ := bind_open hm
    refine RD hnt (nn 8 (pF :: nn 3 (.call 108 [] true (pB r3) [] [] :: .no :: pF :: []))) [] [(20, pB (!r3))] [] [] (an4 h1 (an3 h2 (an (Check_treeSpec p0.tree r3 hr3) (an2 h2 trivial)))) ?_
    exact joinDone (!r3) hm Conv.eqK

theorem atFa_pidsSpec (p0 : Count) (p1 : Int) (RES : Bool) (hm : atFa_pids p0 p1 = some RES) : Spec Tryz.prog 140 [.p (.agg (encCount p0)), rr 0] [.box [pI p1]] (pB RES) [.box [pI p1]] [] := by
 unfold atFa_pids at hm
 refine SO Tryz.func140 rfl rfl [(0, .p (.agg (encCount p0))), (1, rr 0)] [(0, bx [pI p1])] ?_
 intro cx hnt
 refine DW.seq (RD hnt (nn 2 []) [0] [(2, rr 1016)] [] [(1016, bx (pm (encCount p0)))] trivial ?_)
 refine DW.seq (RK hnt (nn 5 []) [(3, pB (p0.group == p1))] [(0, bx [pI p1])] trivial ?_)
 refine DW.ret ?_
 obtain rfl := Option.some.inj hm
 exact retK [.box [pI p1]] [] (pB (p0.group == p1))

theorem IndexFunc_slices_CountQatFa_pidsSpec (p0 : List Count) (p1c0 : Int) (RES : Int) (hm : IndexFunc_slices_CountQatFa_pids p0 p1c0 = some RES) : Spec Tryz.prog 139 [.p (slCount p0), .fn 140 [rr 0]] [.box [pI p1c0]] (pI RES) [.box [pI p1c0]] [] := by
 unfold IndexFunc_slices_CountQatFa_pids at hm
 refine SO Tryz.func139 rfl rfl [(0, .p (slCount p0)), (1, .fn 140 [rr 0])] [(0, bx [pI p1c0])] ?_
 intro cx hnt
 refine DW.seq (RD hnt (.no :: []) [] [] [] [] trivial ?_)
 refine DW.seq (DW.seq (RD hnt (nn 3 []) [] [(7, pI ((p0.length : Nat) : Int)), (8, pI 0)] [] [] trivial ?_))
 refine DW.block ?_
 obtain ⟨hc1, hm⟩ := guard_open hm
 refine DW.rangeO (fun (k1 : Nat) (s1 : Unit) => mkSt [(0, .p (slCount p0)), (1, .fn 140 [rr 0]), (7, pI ((p0.length : Nat) : Int)), (8, pI ((k1 : Nat) : Int))] [(0, bx [pI p1c0])]) dCount hm Conv.eqK ?_
 intro k1 s1 n1 hk1 hs1 he1
 refine DW.seq (RD hnt (.no :: []) [] [(9, pB (decide (((k1 : Nat) : Int) < ((p0.length : Nat) : Int))))] [] [] trivial ?_)
 refine DW.seq (condK (decide (((k1 : Nat) : Int) < ((p0.length : Nat) : Int))) ?_ ?_)
 ·intro h9
  have hlt1 : k1 < p0.length := by have := of_decide_eq_true h9; omega
  have hm := hs1 hlt1
  unfold IndexFunc_slices_CountQatFa_pidsL1 at hm
  refine DW.skip ?_
  refine DW.seq (DW.block ?_)
  refine DW.seq (RD hnt (nn 2 []) [9] [(5, pI ((k1 : Nat) : Int))] [] [] trivial ?_)
  obtain ⟨r10, hr10, hm⟩ := bind_open hm
  refine DW.seq (RD hnt (nn 5 (.call 140 [0] true (pB r10) [.box [pI p1c0]] [] :: [])) [] [(16, pB r10)] [] [] (an (nn0 k1) (an (ltc hlt1) (an (atFa_pidsSpec (p0.getD k1 (default : Count)) p1c0 r10 hr10) (an trivial trivial)))) ?_)
  refine condM hm ?_ ?_
  ·intro h11 hm
   refine DW.seq (RK hnt (nn 2 []) [(4, pI ((k1 : Nat) : Int))] [(0, bx [pI p1c0])] trivial ?_)
   refine DW.ret ?_
   obtain rfl := Option.some.inj hm
   exact retK [.box [pI p1c0]] [] (pI ((k1 : Nat) : Int))
  ·intro h11 hm
   refine DW.skip ?_
   refine DW.done ?_
   show DW _ _ _ _ _
   refine RD hnt (nn 2 []) [5, 16] [(8, pI (w64 (((k1 : Nat) : Int) + 1)))] [] [] trivial ?_
   exact joinDone () ⟨hlt1, hm⟩ (Conv.tp [(8, pI (w64 (((k1 : Nat) : Int) + 1)))] [] (by kernel_rfl) (.cons rfl (.of_eq (congrArg pI (w64_succ hlt1 hc1))) .nil) .nil)
 ·intro h9
  have hge1 : ¬ k1 < p0.length := by have := of_decide_eq_false h9; omega
  have hm := he1 hge1
  unfold IndexFunc_slices_CountQatFa_pidsD1 at hm
  refine DW.exit ?_
  refine joinQ_exit ?_
  refine KQ_exit ?_
  refine blockQ_exit ?_
  show DW _ _ _ _ _
  refine DW.seq (RK hnt (.no :: []) [(4, pI (-1))] [(0, bx [pI p1c0])] trivial ?_)
  refine DW.ret ?_
  obtain rfl := Option.some.inj hm
  exact retK [.box [pI p1c0]] [] (pI (-1))

theorem at_pidsSpec (p0 : List Count) (p1 : Int) (RES : Int) (hm : at_pids p0 p1 = some RES) : Spec Tryz.prog 86 [.p (slCount p0), pI p1] [] (pI RES) [] [] := by
 unfold at_pids at hm
 refine SO Tryz.func86 rfl rfl [(0, .p (slCount p0)), (1, pI p1)] [] ?_
 intro cx hnt
 refine DW.seq (RD hnt (nn 2 []) [1] [(3, rr 1024)] [] [(1024, bx [pI p1])] trivial ?_)
 obtain ⟨r1, hr1, hm⟩ := bind_open hm
 refine DW.seq (RK hnt (nn 2 (.call 139 [1024] true (pI r1) [.box [pI p1]] [] :: .no :: [])) [(4, pI r1)] [] (an (IndexFunc_slices_CountQatFa_pidsSpec p0 p1 r1 hr1) (an trivial trivial)) ?_)
 refine DW.ret ?_
 obtain rfl := Option.some.inj hm
 exact retK [] [] (pI r1)

theorem Get_pidsSpec (p0 : List Count) (p1 : Int) (RES : Count × Bool) (hm : Get_pids p0 p1 = some RES) : Spec Tryz.prog 24 [.p (slCount p0), pI p1] [] (.p (.tup [.agg (encCount RES.1), vb RES.2])) [] [] := by
 unfold Get_pids at hm
 refine SO Tryz.func24 rfl rfl [(0, .p (slCount p0)), (1, pI p1)] [] ?_
 intro cx hnt
 refine DW.seq (RD hnt (nn 2 []) [] [(4, rr 1032)] [] [(1032, bx [pI 0, pI 0, pI 0, pI 0, pI 0])] trivial ?_)
 obtain ⟨r1, hr1, hm⟩ := bind_open hm
 refine DW.seq (RD hnt (nn 2 (.call 86 [] true (pI r1) [] [] :: .no :: [])) [1] [(6, pI r1)] [] [] (an (at_pidsSpec p0 p1 r1 hr1) trivial) ?_)
 refine DW.seq (DW.seq (RD hnt (nn 2 []) [] [(11, pB (decide (r1 < 0)))] [] [] trivial ?_))
 refine condM hm ?_ ?_
 ·intro h2 hm
  refine DW.seq (RD hnt (nn 3 []) [0, 6, 11] [(5, pB false)] [] [] trivial ?_)
  refine DW.ret ?_
  obtain rfl := Option.some.inj hm
  exact retK [] [] (.p (.tup [.agg [vi 0, vi 0, vi 0, vi 0, vi 0], vb false]))
 ·intro h2 hm
  refine DW.skip ?_
  obtain ⟨g3, hm⟩ := guard_open hm
  refine DW.seq (RK hnt (nn 6 []) [(4, rr 1032), (5, pB true)] [(1032, bx (pm (encCount (p0.getD (Int.toNat r1) dCount))))] (an g3.1 (an g3.2 trivial)) ?_)
  refine DW.ret ?_
  obtain rfl := Option.some.inj hm
  exact retK [] [] (.p (.tup [.agg (encCount (p0.getD (Int.toNat r1) dCount)), vb true]))

abbrev c157e1 (p0 : Tree) (k1 : Nat) := (p0.nodes.getD k1 (default : Node))
abbrev c157e2 (p0 : Tree) : Nat × MV := (10, pI ((p0.nodes.length : Nat) : Int))
theorem Children_forestSpec (p0 : Tree) (p1 : Int) (RES : List Int) (hm : Children_forest p0 p1 = some RES) : Spec Tryz.prog 157 [.p (.agg (encTree p0)), pI p1] [] (ow 0 RES.length) [] [roI RES] := by
 unfold Children_forest at hm
 refine SO Tryz.func157 rfl rfl [(0, .p (.agg (encTree p0))), (1, pI p1)] [] ?_
 intro cx hnt
 refine DW.seq (RK hnt (nn 2 []) [(1, pI p1), (2, rr 1016)] [(1016, bx (pm (encTree p0)))] trivial ?_)
 refine DW.seq (RD hnt (.no :: []) [] [(5, .p (.sl .nil 0 0 (fun _ => [])))] [] [] trivial ?_)
 refine DW.seq (DW.seq (RD hnt (nn 4 []) [2] [(9, .p (slNode p0.nodes)), (c157e2 p0), (11, pI 0)] [1016] [] trivial ?_))
 refine DW.block ?_
 obtain ⟨hc1, hm⟩ := guard_open hm
 refine DW.rangeO (fun (k1 : Nat) (s1 : List Int) => mkSt [(1, pI p1), (5, ow 1184 s1.length), (9, .p (slNode p0.nodes)), (c157e2 p0), (11, pI ((k1 : Nat) : Int))] [(1184, ob0 (roI s1))]) dNode hm (Conv.trans (τ := mkSt [(1, pI p1), (5, .p (.sl .nil 0 0 (fun _ => []))), (9, .p (slNode p0.nodes)), (c157e2 p0), (11, pI 0)] []) Conv.eqK (Conv.trans (τ := mkSt [(1, pI p1), (5, ow 1184 0), (9, .p (slNode p0.nodes)), (c157e2 p0), (11, pI 0)] ((1184, ⟨0, .row 1 0 (elems encI 0 [])⟩) :: [])) (Conv.adopt 1184 1 (elems encI 0 []) rfl rfl (.cons (.one (.rfl _)) (.cons (.one (.nil _ _)) (.cons (.one (.rfl _)) (.cons (.one (.rfl _)) (.cons (.one (.rfl _)) (.rfl _)))))) (.rfl _)) Conv.t0)) ?_
 intro k1 s1 n1 hk1 hs1 he1
 refine DW.seq (RD hnt (.no :: []) [] [(12, pB (decide (((k1 : Nat) : Int) < ((p0.nodes.length : Nat) : Int))))] [] [] trivial ?_)
 refine DW.seq (condK (decide (((k1 : Nat) : Int) < ((p0.nodes.length : Nat) : Int))) ?_ ?_)
 ·intro h8
  have hlt1 : k1 < p0.nodes.length := by have := of_decide_eq_true h8; omega
  have hm := hs1 hlt1
  unfold Children_forestL1 at hm
  refine DW.skip ?_
  refine DW.seq ?_
  refine DW.join (ι := List Int) (fun (y3 : List Int) => mkSt [(1, pI p1), (5, ow 1184 y3.length), (9, .p (slNode p0.nodes)), (c157e2 p0), (11, pI ((k1 : Nat) : Int))] [(1184, ob0 (roI y3))]) (fun y3 => (Children_forestJ3 n1) y3 = some RES) ?_ ?_
  ·intro y3 hm
   unfold Children_forestJ3 at hm
   refine RD hnt (nn 2 []) [] [(11, pI (w64 (((k1 : Nat) : Int) + 1)))] [] [] trivial ?_
   exact joinDone y3 ⟨hlt1, hm⟩ (Conv.tp [(11, pI (w64 (((k1 : Nat) : Int) + 1)))] [] (by kernel_rfl) (.cons rfl (.of_eq (congrArg pI (w64_succ hlt1 hc1))) .nil) .nil)
  ·refine DW.block ?_
   refine DW.seq (RD hnt (nn 4 []) [12] [(7, rr 1056)] [] [(1056, bx (pm (encNode (c157e1 p0 k1))))] (an (nn0 k1) (an (ltc hlt1) trivial)) ?_)
   refine DW.seq (RD hnt (nn 4 []) [] [(18, pB ((c157e1 p0 k1).parent == p1))] [] [] trivial ?_)
   refine condM hm ?_ ?_
   ·intro h9 hm
    obtain ⟨g10, hm⟩ := guard_open hm
    refine RN hnt (nn 6 []) [(1, pI p1), (5, ow 1184 (s1 ++ [(c157e1 p0 k1).id]).length), (9, .p (slNode p0.nodes)), (c157e2 p0), (11, pI ((k1 : Nat) : Int))] [(1184, ob0 (roI (s1 ++ [(c157e1 p0 k1).id])))] [(5, ow 1184 (s1.length + 1))] [(1184, .row 1 (s1.length + 1) (catF s1.length (elI s1) (cut 1 [vi (c157e1 p0 k1).id])))] (an (by omega : (s1.length + 1) * 8 ≤ 140737488355328) trivial) (by kernel_rfl) (.cons rfl (MLe.ownLen (enc := encI) (d := 0) (f := (catF s1.length (elI s1) (cut 1 [vi (c157e1 p0 k1).id]))) (RowIs.cat RowIs.elems (RowIs.lit (enc := encI) (d := 0) (n := 1) (f := (cut 1 [vi (c157e1 p0 k1).id])) [(c157e1 p0 k1).id] rfl (fun | 0, _ => rfl | n + 1, h => absurd h (by omega))))) .nil) (.cons rfl (BLe.typed (RowIs.cat RowIs.elems (RowIs.lit (enc := encI) (d := 0) (n := 1) (f := (cut 1 [vi (c157e1 p0 k1).id])) [(c157e1 p0 k1).id] rfl (fun | 0, _ => rfl | n + 1, h => absurd h (by omega))))) .nil) ?_
    exact blockDone (s1 ++ [(c157e1 p0 k1).id]) hm .refl
   ·intro h9 hm
    refine DW.skip ?_
    exact blockDone s1 hm Conv.t0
 ·intro h8
  have hge1 : ¬ k1 < p0.nodes.length := by have := of_decide_eq_false h8; omega
  have hm := he1 hge1
  unfold Children_forestD1 at hm
  refine DW.exit ?_
  refine joinQ_exit ?_
  refine KQ_exit ?_
  refine blockQ_exit ?_
  show DW _ _ _ _ _
  refine DW.seq (RK hnt (nn 2 []) [(4, ow 1184 s1.length)] [(1184, ob0 (roI s1))] trivial ?_)
  refine DW.ret ?_
  obtain rfl := Option.some.inj hm
  exact retK [roI s1] [1184] (ow 0 s1.length)

abbrev c141e1 (p0 : Tree) : Nat × Obj := (1016, bx (pm (encTree p0)))
theorem Subtree_forestSpec (p0 : Tree) (p1 : Int) (RES : List Int) (hm : Subtree_forest p0 p1 = some RES) : Spec Tryz.prog 141 [.p (.agg (encTree p0)), pI p1] [] (ow 0 RES.length) [] [roI RES] := by
 unfold Subtree_forest at hm
 refine SO Tryz.func141 rfl rfl [(0, .p (.agg (encTree p0))), (1, pI p1)] [] ?_
 intro cx hnt
 refine DW.seq (RK hnt (nn 2 []) [(1, pI p1), (2, rr 1016)] [(c141e1 p0)] trivial ?_)
 obtain ⟨r1, hr1, hm⟩ := bind_open hm
 refine DW.seq (DW.seq (RD hnt (nn 2 (.call 101 [] true (pI r1) [] [] :: .no :: [])) [] [(10, pB (decide (r1 < 0)))] [] [] (an (At_forestSpec p0 p1 r1 hr1) trivial) ?_))
 refine condM hm ?_ ?_
 ·intro h2 hm
  refine DW.seq (RK hnt (.no :: []) [(4, .p (.sl .nil 0 0 (fun _ => [])))] [] trivial ?_)
  refine DW.conv (τ := mkSt [(4, ow 100000 0)] [(100000, ob0 (roI []))]) (Conv.trans (τ := mkSt [(4, ow 100000 0)] ((100000, ⟨0, .row 1 0 (elems encI 0 [])⟩) :: [])) (Conv.adopt 100000 1 (elems encI 0 []) rfl rfl (.cons (.one (.nil _ _)) (.rfl _)) (.rfl _)) Conv.t0) ?_
  refine DW.ret ?_
  obtain rfl := Option.some.inj hm
  exact retK [roI []] [100000] (ow 0 0)
 ·intro h2 hm
  refine DW.skip ?_
  refine DW.seq (RD hnt (.no :: []) [10] [(5, .p (.sl .nil 0 0 (fun _ => [])))] [] [] trivial ?_)
  refine DW.seq (DW.seq (RN hnt (nn 3 []) [(2, rr 1016), (5, .p (.sl .nil 0 0 (fun _ => []))), (6, ow 1096 [p1].length)] [(c141e1 p0), (1096, ob0 (roI [p1]))] [(6, ow 1096 1)] [(1096, .row 1 1 (cut 1 [vi p1]))] trivial (by kernel_rfl) (.cons rfl (MLe.ownLen (enc := encI) (d := 0) (f := (cut 1 [vi p1])) (RowIs.lit (enc := encI) (d := 0) (n := 1) (f := (cut 1 [vi p1])) [p1] rfl (fun | 0, _ => rfl | n + 1, h => absurd h (by omega)))) .nil) (.cons rfl (BLe.typed (RowIs.lit (enc := encI) (d := 0) (n := 1) (f := (cut 1 [vi p1])) [p1] rfl (fun | 0, _ => rfl | n + 1, h => absurd h (by omega)))) .nil) ?_))
  refine DW.block ?_
  refine DW.whileO (fun (s1 : (List Int) × (List Int)) => mkSt [(2, rr 1016), (5, ow 1232 s1.1.length), (6, .p (slI s1.2))] [(c141e1 p0), (1232, ob0 (roI s1.1))]) hm (Conv.trans (τ := mkSt [(2, rr 1016), (5, .p (.sl .nil 0 0 (fun _ => []))), (6, .p (slI [p1]))] [(c141e1 p0)]) (Conv.freezes [1096] (by kernel_rfl)) (Conv.trans (τ := mkSt [(2, rr 1016), (5, ow 1232 0), (6, .p (slI [p1]))] ((1232, ⟨0, .row 1 0 (elems encI 0 [])⟩) :: [(c141e1 p0)])) (Conv.adopt 1232 1 (elems encI 0 []) rfl rfl (.cons (.one (.rfl _)) (.cons (.one (.nil _ _)) (.cons (.one (.rfl _)) (.rfl _)))) (.rfl _)) Conv.t0)) ?_
  intro s1 n1 hm
  unfold Subtree_forestL1 at hm
  refine DW.seq (DW.seq (DW.regJ (sl2 := [(2, rr 1016), (5, ow 1232 s1.1.length), (6, .p (slI s1.2)), (23, pB ((decide (((s1.2.length : Nat) : Int) > 0)) && (decide (((s1.1.length : Nat) : Int) < ((p0.nodes.length : Nat) : Int)))))]) (ob2 := [(c141e1 p0), (1232, ob0 (roI s1.1))]) ?_ ?_))
  ·rcases bt (decide (((s1.2.length : Nat) : Int) > 0)) with h12 | h12
   ·exact RT hnt (nn 10 (pT :: [])) [(23, pB (decide (((s1.1.length : Nat) : Int) < ((p0.nodes.length : Nat) : Int))))] (an h12 (an6 h12 trivial)) (by kernel_rfl) (.cons rfl (.of_eq (by rw [h12]; try rfl)) .nil)
   ·exact RT hnt (nn 4 (sk 6 (pF :: []))) [(23, pB false)] (an h12 (an6 h12 trivial)) (by kernel_rfl) (.cons rfl (.of_eq (by rw [h12]; try rfl)) .nil)
  ·refine condM hm ?_ ?_
   ·intro h13 hm
    refine DW.skip ?_
    refine DW.block ?_
    obtain ⟨g14, g15, hm⟩ := go2 hm
    refine DW.seq (RN hnt (nn 7 []) [(2, rr 1016), (5, ow 1232 (s1.1 ++ [(s1.2.getD 0 0)]).length), (6, .p (slI s1.2))] [(c141e1 p0), (1232, ob0 (roI (s1.1 ++ [(s1.2.getD 0 0)])))] [(5, ow 1232 (s1.1.length + 1))] [(1232, .row 1 (s1.1.length + 1) (catF s1.1.length (elI s1.1) (cut 1 [vi (s1.2.getD 0 0)])))] (an (nn0 0) (an (ltc g14) (an (by omega : (s1.1.length + 1) * 8 ≤ 140737488355328) trivial))) (by kernel_rfl) (.cons rfl (MLe.ownLen (enc := encI) (d := 0) (f := (catF s1.1.length (elI s1.1) (cut 1 [vi (s1.2.getD 0 0)]))) (RowIs.cat RowIs.elems (RowIs.lit (enc := encI) (d := 0) (n := 1) (f := (cut 1 [vi (s1.2.getD 0 0)])) [(s1.2.getD 0 0)] rfl (fun | 0, _ => rfl | n + 1, h => absurd h (by omega))))) .nil) (.cons rfl (BLe.typed (RowIs.cat RowIs.elems (RowIs.lit (enc := encI) (d := 0) (n := 1) (f := (cut 1 [vi (s1.2.getD 0 0)])) [(s1.2.getD 0 0)] rfl (fun | 0, _ => rfl | n + 1, h => absurd h (by omega))))) .nil) ?_)
    obtain ⟨g16, hm⟩ := guard_open hm
    obtain ⟨r17, hr17, hm⟩ := bind_open hm
    obtain ⟨g18, g19, hm⟩ := go2 hm
    refine RN hnt (nn 4 (.call 157 [] true (ow 0 r17.length) [] [roI r17] :: nn 4 [])) [(2, rr 1016), (5, ow 1232 (s1.1 ++ [(s1.2.getD 0 0)]).length), (6, ow 1272 (r17 ++ (s1.2.drop 1)).length)] [(c141e1 p0), (1232, ob0 (roI (s1.1 ++ [(s1.2.getD 0 0)]))), (1272, ob0 (roI (r17 ++ (s1.2.drop 1))))] [(6, ow 1272 (r17.length + (subN s1.2.length 1)))] [(1272, .row 1 (r17.length + (subN s1.2.length 1)) (catF r17.length (elI r17) (shF 1 (elI s1.2))))] (an (nn0 0) (an (ltc g16) (an (Children_forestSpec p0 (s1.2.getD 0 0) r17 hr17) (an (by omega : (0 : Int) ≤ 1) (an (by omega : 1 ≤ ((s1.2.length : Nat) : Int)) (an (by omega : ((s1.2.length : Nat) : Int) ≤ ((s1.2.length : Nat) : Int)) (an (by omega : (r17.length + (subN s1.2.length 1)) * 8 ≤ 140737488355328) trivial))))))) (by kernel_rfl) (.cons rfl (MLe.ownLen (enc := encI) (d := 0) (f := (catF r17.length (elI r17) (shF 1 (elI s1.2)))) (RowIs.cat RowIs.elems (RowIs.elems.drop (subN_eq _ _) (by omega)))) .nil) (.cons rfl (BLe.typed (RowIs.cat RowIs.elems (RowIs.elems.drop (subN_eq _ _) (by omega)))) .nil) ?_
    refine DW.done ?_
    show DW _ _ _ _ _
    exact joinDone ((s1.1 ++ [(s1.2.getD 0 0)]), (r17 ++ (s1.2.drop 1))) hm (Conv.freezes [1272] (by kernel_rfl))
   ·intro h13 hm
    refine DW.exit ?_
    refine joinQ_exit ?_
    refine KQ_exit ?_
    refine blockQ_exit ?_
    show DW _ _ _ _ _
    refine DW.seq (RK hnt (nn 2 []) [(4, ow 1232 s1.1.length)] [(1232, ob0 (roI s1.1))] trivial ?_)
    refine DW.ret ?_
    obtain rfl := Option.some.inj hm
    exact retK [roI s1.1] [1232] (ow 0 s1.1.length)

theorem Index_slices_intSpec (p0 : List Int) (p1 : Int) (RES : Int) (hm : Index_slices_int p0 p1 = some RES) : Spec Tryz.prog 166 [.p (slI p0), pI p1] [] (pI RES) [] [] := by
 unfold Index_slices_int at hm
 refine SO Tryz.func166 rfl rfl [(0, .p (slI p0)), (1, pI p1)] [] ?_
 intro cx hnt
 refine DW.seq (RD hnt (.no :: []) [] [] [] [] trivial ?_)
 refine DW.seq (DW.seq (RD hnt (nn 3 []) [] [(7, pI ((p0.length : Nat) : Int)), (8, pI 0)] [] [] trivial ?_))
 refine DW.block ?_
 obtain ⟨hc1, hm⟩ := guard_open hm
 refine DW.rangeO (fun (k1 : Nat) (s1 : Unit) => mkSt [(0, .p (slI p0)), (1, pI p1), (7, pI ((p0.length : Nat) : Int)), (8, pI ((k1 : Nat) : Int))] []) 0 hm Conv.eqK ?_
 intro k1 s1 n1 hk1 hs1 he1
 refine DW.seq (RD hnt (.no :: []) [] [(9, pB (decide (((k1 : Nat) : Int) < ((p0.length : Nat) : Int))))] [] [] trivial ?_)
 refine DW.seq (condK (decide (((k1 : Nat) : Int) < ((p0.length : Nat) : Int))) ?_ ?_)
 ·intro h7
  have hlt1 : k1 < p0.length := by have := of_decide_eq_true h7; omega
  have hm := hs1 hlt1
  unfold Index_slices_intL1 at hm
  refine DW.skip ?_
  refine DW.seq (DW.block ?_)
  refine DW.seq (RD hnt (nn 2 []) [9] [(5, pI ((k1 : Nat) : Int))] [] [] trivial ?_)
  refine DW.seq (RD hnt (nn 6 []) [] [(16, pB (p1 == (p0.getD k1 0)))] [] [] (an (nn0 k1) (an (ltc hlt1) trivial)) ?_)
  refine condM hm ?_ ?_
  ·intro h8 hm
   refine DW.seq (RK hnt (nn 2 []) [(4, pI ((k1 : Nat) : Int))] [] trivial ?_)
   refine DW.ret ?_
   obtain rfl := Option.some.inj hm
   exact retK [] [] (pI ((k1 : Nat) : Int))
  ·intro h8 hm
   refine DW.skip ?_
   refine DW.done ?_
   show DW _ _ _ _ _
   refine RD hnt (nn 2 []) [5, 16] [(8, pI (w64 (((k1 : Nat) : Int) + 1)))] [] [] trivial ?_
   exact joinDone () ⟨hlt1, hm⟩ (Conv.tp [(8, pI (w64 (((k1 : Nat) : Int) + 1)))] [] (by kernel_rfl) (.cons rfl (.of_eq (congrArg pI (w64_succ hlt1 hc1))) .nil) .nil)
 ·intro h7
  have hge1 : ¬ k1 < p0.length := by have := of_decide_eq_false h7; omega
  have hm := he1 hge1
  unfold Index_slices_intD1 at hm
  refine DW.exit ?_
  refine joinQ_exit ?_
  refine KQ_exit ?_
  refine blockQ_exit ?_
  show DW _ _ _ _ _
  refine DW.seq (RK hnt (.no :: []) [(4, pI (-1))] [] trivial ?_)
  refine DW.ret ?_
  obtain rfl := Option.some.inj hm
  exact retK [] [] (pI (-1))

theorem Contains_slices_intSpec (p0 : List Int) (p1 : Int) (RES : Bool) (hm : Contains_slices_int p0 p1 = some RES) : Spec Tryz.prog 142 [.p (slI p0), pI p1] [] (pB RES) [] [] := by
 unfold Contains_slices_int at hm
 refine SO Tryz.func142 rfl rfl [(0, .p (slI p0)), (1, pI p1)] [] ?_
 intro cx hnt
 refine DW.seq (RD hnt (.no :: []) [] [] [] [] trivial ?_)
 obtain ⟨r1, hr1, hm⟩ := bind_open hm
 refine DW.seq (RK hnt (nn 2 (.call 166 [] true (pI r1) [] [] :: nn 2 [])) [(4, pB (decide (r1 ≥ 0)))] [] (an (Index_slices_intSpec p0 p1 r1 hr1) trivial) ?_)
 refine DW.ret ?_
 obtain rfl := Option.some.inj hm
 exact retK [] [] (pB (decide (r1 ≥ 0)))

theorem Count_crewSpec (p0 : Hierarchy) (p1 : Int) (RES : Int) (hm : Count_crew p0 p1 = some RES) : Spec Tryz.prog 91 [.p (.agg (encHierarchy p0)), pI p1] [] (pI RES) [] [] := by
 unfold Count_crew at hm
 refine SO Tryz.func91 rfl rfl [(0, .p (.agg (encHierarchy p0))), (1, pI p1)] [] ?_
 intro cx hnt
 refine DW.seq (RK hnt (nn 2 []) [(1, pI p1), (2, rr 1016)] [(1016, bx (pm (encHierarchy p0)))] trivial ?_)
 obtain ⟨r1, hr1, hm⟩ := bind_open hm
 refine DW.seq (RD hnt (nn 3 (.call 141 [] true (ow 0 r1.length) [] [roI r1] :: .no :: [])) [1] [(5, ow 1096 r1.length)] [] [(1096, ob0 (roI r1))] (an (Subtree_forestSpec p0.tree p1 r1 hr1) trivial) ?_)
 refine DW.seq (RD hnt (.no :: []) [] [(6, pI 0)] [] [] trivial ?_)
 refine DW.seq (DW.seq (RD hnt (nn 4 []) [2] [(14, .p (slTask p0.tasks)), (15, pI ((p0.tasks.length : Nat) : Int)), (16, pI 0)] [1016] [] trivial ?_))
 refine DW.block ?_
 obtain ⟨hc1, hm⟩ := guard_open hm
 refine DW.rangeO (fun (k1 : Nat) (s1 : Int) => mkSt [(5, ow 1096 r1.length), (6, pI s1), (14, .p (slTask p0.tasks)), (15, pI ((p0.tasks.length : Nat) : Int)), (16, pI ((k1 : Nat) : Int))] [(1096, ob0 (roI r1))]) dTask hm Conv.eqK ?_
 intro k1 s1 n1 hk1 hs1 he1
 refine DW.seq (RD hnt (.no :: []) [] [(17, pB (decide (((k1 : Nat) : Int) < ((p0.tasks.length : Nat) : Int))))] [] [] trivial ?_)
 refine DW.seq (condK (decide (((k1 : Nat) : Int) < ((p0.tasks.length : Nat) : Int))) ?_ ?_)
 ·intro h10
  have hlt1 : k1 < p0.tasks.length := by have := of_decide_eq_true h10; omega
  have hm := hs1 hlt1
  unfold Count_crewL1 at hm
  refine DW.skip ?_
  refine DW.seq ?_
  refine DW.join (ι := Int) (fun (y3 : Int) => mkSt [(5, ow 1096 r1.length), (6, pI y3), (14, .p (slTask p0.tasks)), (15, pI ((p0.tasks.length : Nat) : Int)), (16, pI ((k1 : Nat) : Int))] [(1096, ob0 (roI r1))]) (fun y3 => (Count_crewJ3 n1) y3 = some RES) ?_ ?_
  ·intro y3 hm
   unfold Count_crewJ3 at hm
   refine RD hnt (nn 2 []) [] [(16, pI (w64 (((k1 : Nat) : Int) + 1)))] [] [] trivial ?_
   exact joinDone y3 ⟨hlt1, hm⟩ (Conv.tp [(16, pI (w64 (((k1 : Nat) : Int) + 1)))] [] (by kernel_rfl) (.cons rfl (.of_eq (congrArg pI (w64_succ hlt1 hc1))) .nil) .nil)
  ·refine DW.block ?_
   refine DW.seq (RD hnt (nn 4 []) [17] [(8, rr 1064)] [] [(1064, bx (pm (encTask (p0.tasks.getD k1 (default : Task)))))] (an (nn0 k1) (an (ltc hlt1) trivial)) ?_)
   obtain ⟨r11, hr11, hm⟩ := bind_open hm
   refine DW.seq (RD hnt (nn 3 (.call 142 [] true (pB r11) [] [] :: [])) [8] [(23, pB r11)] [1064] [] (an (Contains_slices_intSpec r1 (p0.tasks.getD k1 (default : Task)).group r11 hr11) trivial) ?_)
   refine condM hm ?_ ?_
   ·intro h12 hm
    refine RD hnt (nn 3 []) [23] [(6, pI (w64 (s1 + 1)))] [] [] trivial ?_
    exact blockDone (w64 (s1 + 1)) hm Conv.eqK
   ·intro h12 hm
    refine DW.skip ?_
    exact blockDone s1 hm Conv.t0
 ·intro h10
  have hge1 : ¬ k1 < p0.tasks.length := by have := of_decide_eq_false h10; omega
  have hm := he1 hge1
  unfold Count_crewD1 at hm
  refine DW.exit ?_
  refine joinQ_exit ?_
  refine KQ_exit ?_
  refine blockQ_exit ?_
  show DW _ _ _ _ _
  refine DW.seq (RK hnt (nn 2 []) [(4, pI s1)] [] trivial ?_)
  refine DW.ret ?_
  obtain rfl := Option.some.inj hm
  exact retK [] [] (pI s1)

abbrev c25e1 (y3 : Count) (r17 : Int) := ({ group := y3.group, now := r17, limit := y3.limit, peak := (maxI y3.peak r17), events := y3.events } : Count)
abbrev c25e2 (p0 : Hierarchy) : Nat × MV := (16, pI ((p0.tree.nodes.length : Nat) : Int))
abbrev c25e3 (p0 : Hierarchy) (k1 : Nat) := (p0.tree.nodes.getD k1 (default : Node))
abbrev c25e4 (p0 : Hierarchy) : Nat × Obj := (1016, bx (pm (encHierarchy p0)))
abbrev c25e5 (p0 : Hierarchy) : Nat × MV := (15, .p (slNode p0.tree.nodes))
theorem Adjust_pidsSpec (p0 : Hierarchy) (p1 : List Count) (RES : List Count) (hm : Adjust_pids p0 p1 = some RES) : Spec Tryz.prog 25 [.p (.agg (encHierarchy p0)), .p (slCount p1)] [] (ow 0 RES.length) [] [roCount RES] := by
 unfold Adjust_pids at hm
 refine SO Tryz.func25 rfl rfl [(0, .p (.agg (encHierarchy p0))), (1, .p (slCount p1))] [] ?_
 intro cx hnt
 refine DW.seq (RD hnt (nn 2 []) [0] [(2, rr 1016)] [] [(c25e4 p0)] trivial ?_)
 obtain ⟨r1, hr1, hm⟩ := bind_open hm
 refine DW.seq (DW.seq (RD hnt (.no :: .call 51 [] true (pB r1) [] [] :: .no :: []) [] [(12, pB (!r1))] [] [] (an (Check_memberSpec p0 r1 hr1) trivial) ?_))
 refine condM hm ?_ ?_
 ·intro h2 hm
  refine DW.seq (RK hnt (.no :: []) [(4, .p (.sl .nil 0 0 (fun _ => [])))] [] trivial ?_)
  refine DW.conv (τ := mkSt [(4, ow 100000 0)] [(100000, ob0 (roCount []))]) (Conv.trans (τ := mkSt [(4, ow 100000 0)] ((100000, ⟨0, .row 5 0 (elems encCount dCount [])⟩) :: [])) (Conv.adopt 100000 5 (elems encCount dCount []) rfl rfl (.cons (.one (.nil _ _)) (.rfl _)) (.rfl _)) Conv.t0) ?_
  refine DW.ret ?_
  obtain rfl := Option.some.inj hm
  exact retK [roCount []] [100000] (ow 0 0)
 ·intro h2 hm
  refine DW.skip ?_
  refine DW.seq (RD hnt (.no :: []) [12] [(5, .p (.sl .nil 0 0 (fun _ => [])))] [] [] trivial ?_)
  refine DW.seq (DW.seq (RD hnt (nn 5 []) [] [(c25e5 p0), (c25e2 p0), (17, pI 0)] [] [] trivial ?_))
  refine DW.block ?_
  obtain ⟨hc1, hm⟩ := guard_open hm
  refine DW.rangeO (fun (k1 : Nat) (s1 : List Count) => mkSt [(1, .p (slCount p1)), (2, rr 1016), (5, ow 1376 s1.length), (c25e5 p0), (c25e2 p0), (17, pI ((k1 : Nat) : Int))] [(c25e4 p0), (1376, ob0 (roCount s1))]) dNode hm (Conv.trans (τ := mkSt [(1, .p (slCount p1)), (2, rr 1016), (5, .p (.sl .nil 0 0 (fun _ => []))), (c25e5 p0), (c25e2 p0), (17, pI 0)] [(c25e4 p0)]) Conv.eqK (Conv.trans (τ := mkSt [(1, .p (slCount p1)), (2, rr 1016), (5, ow 1376 0), (c25e5 p0), (c25e2 p0), (17, pI 0)] ((1376, ⟨0, .row 5 0 (elems encCount dCount [])⟩) :: [(c25e4 p0)])) (Conv.adopt 1376 5 (elems encCount dCount []) rfl rfl (.cons (.one (.rfl _)) (.cons (.one (.rfl _)) (.cons (.one (.nil _ _)) (.cons (.one (.rfl _)) (.cons (.one (.rfl _)) (.cons (.one (.rfl _)) (.rfl _))))))) (.rfl _)) Conv.t0)) ?_
  intro k1 s1 n1 hk1 hs1 he1
  refine DW.seq (RD hnt (.no :: []) [] [(18, pB (decide (((k1 : Nat) : Int) < ((p0.tree.nodes.length : Nat) : Int))))] [] [] trivial ?_)
  refine DW.seq (condK (decide (((k1 : Nat) : Int) < ((p0.tree.nodes.length : Nat) : Int))) ?_ ?_)
  ·intro h14
   have hlt1 : k1 < p0.tree.nodes.length := by have := of_decide_eq_true h14; omega
   have hm := hs1 hlt1
   unfold Adjust_pidsL1 at hm
   refine DW.skip ?_
   refine DW.seq (DW.block ?_)
   refine DW.seq (RD hnt (nn 4 []) [18] [(7, rr 1056)] [] [(1056, bx (pm (encNode (c25e3 p0 k1))))] (an (nn0 k1) (an (ltc hlt1) trivial)) ?_)
   obtain ⟨r15, hr15, hm⟩ := bind_open hm
   refine DW.seq (RD hnt (nn 3 (.call 24 [] true (.p (.tup [.agg (encCount r15.1), vb r15.2])) [] [] :: nn 6 [])) [] [(8, rr 1064), (9, pB r15.2)] [] [(1064, bx (pm (encCount r15.1)))] (an (Get_pidsSpec p1 (c25e3 p0 k1).id r15 hr15) trivial) ?_)
   refine DW.seq (DW.seq (RD hnt (nn 2 []) [9] [(29, pB (!r15.2))] [] [] trivial ?_))
   refine DW.join (ι := Count) (fun (y3 : Count) => mkSt [(1, .p (slCount p1)), (2, rr 1016), (5, ow 1376 s1.length), (7, rr 1056), (8, rr 1064), (c25e5 p0), (c25e2 p0), (17, pI ((k1 : Nat) : Int))] [(c25e4 p0), (1056, bx (pm (encNode (c25e3 p0 k1)))), (1064, bx (pm (encCount y3))), (1376, ob0 (roCount s1))]) (fun y3 => (Adjust_pidsJ3 p0 (c25e3 p0 k1) s1 n1) y3 = some RES) ?_ ?_
   ·intro y3 hm
    unfold Adjust_pidsJ3 at hm
    obtain ⟨r17, hr17, hm⟩ := bind_open hm
    refine DW.seq (RD hnt (nn 3 (.call 91 [] true (pI r17) [] [] :: nn 2 [])) [7] [] [1056] [(1064, bx [pI y3.group, pI r17, pI y3.limit, pI y3.peak, pI y3.events])] (an (Count_crewSpec p0 (c25e3 p0 k1).id r17 hr17) trivial) ?_)
    refine DW.seq (RD hnt (nn 7 []) [] [] [] [(1064, bx [pI y3.group, pI r17, pI y3.limit, pI (maxI y3.peak r17), pI y3.events])] trivial ?_)
    obtain ⟨g18, hm⟩ := guard_open hm
    refine RN hnt (nn 5 []) [(1, .p (slCount p1)), (2, rr 1016), (5, ow 1376 (s1 ++ [(c25e1 y3 r17)]).length), (c25e5 p0), (c25e2 p0), (17, pI ((k1 : Nat) : Int))] [(c25e4 p0), (1376, ob0 (roCount (s1 ++ [(c25e1 y3 r17)])))] [(5, ow 1376 (s1.length + 1))] [(1376, .row 5 (s1.length + 1) (catF s1.length (elCount s1) (cut 5 [vi y3.group, vi r17, vi y3.limit, vi (maxI y3.peak r17), vi y3.events])))] (an (by omega : (s1.length + 1) * 40 ≤ 140737488355328) trivial) (by kernel_rfl) (.cons rfl (MLe.ownLen (enc := encCount) (d := dCount) (f := (catF s1.length (elCount s1) (cut 5 [vi y3.group, vi r17, vi y3.limit, vi (maxI y3.peak r17), vi y3.events]))) (RowIs.cat RowIs.elems (RowIs.lit (enc := encCount) (d := dCount) (n := 1) (f := (cut 5 [vi y3.group, vi r17, vi y3.limit, vi (maxI y3.peak r17), vi y3.events])) [(c25e1 y3 r17)] rfl (fun | 0, _ => rfl | n + 1, h => absurd h (by omega))))) .nil) (.cons rfl (BLe.typed (RowIs.cat RowIs.elems (RowIs.lit (enc := encCount) (d := dCount) (n := 1) (f := (cut 5 [vi y3.group, vi r17, vi y3.limit, vi (maxI y3.peak r17), vi y3.events])) [(c25e1 y3 r17)] rfl (fun | 0, _ => rfl | n + 1, h => absurd h (by omega))))) .nil) ?_
    refine DW.done ?_
    show DW _ _ _ _ _
    refine RD hnt (nn 2 []) [] [(17, pI (w64 (((k1 : Nat) : Int) + 1)))] [] [] trivial ?_
    exact joinDone (s1 ++ [(c25e1 y3 r17)]) ⟨hlt1, hm⟩ (Conv.tp [(17, pI (w64 (((k1 : Nat) : Int) + 1)))] [] (by kernel_rfl) (.cons rfl (.of_eq (congrArg pI (w64_succ hlt1 hc1))) .nil) .nil)
   ·refine condM hm ?_ ?_
    ·intro h16 hm
     refine RD hnt (nn 4 []) [29] [] [] [(1064, bx [pI (c25e3 p0 k1).id, pI 0, pI 4611686018427387904, pI 0, pI 0])] trivial ?_
     exact joinDone ({ group := (c25e3 p0 k1).id, now := 0, limit := 4611686018427387904, peak := 0, events := 0 } : Count) hm Conv.eqK
    ·intro h16 hm
     refine DW.skip ?_
     exact joinDone r15.1 hm Conv.t0
  ·intro h14
   have hge1 : ¬ k1 < p0.tree.nodes.length := by have := of_decide_eq_false h14; omega
   have hm := he1 hge1
   unfold Adjust_pidsD1 at hm
   refine DW.exit ?_
   refine joinQ_exit ?_
   refine KQ_exit ?_
   refine blockQ_exit ?_
   show DW _ _ _ _ _
   refine DW.seq (RK hnt (nn 2 []) [(4, ow 1376 s1.length)] [(1376, ob0 (roCount s1))] trivial ?_)
   refine DW.ret ?_
   obtain rfl := Option.some.inj hm
   exact retK [roCount s1] [1376] (ow 0 s1.length)

theorem New_pidsSpec (p0 : Hierarchy) (RES : List Count) (hm : New_pids p0 = some RES) : Spec Tryz.prog 28 [.p (.agg (encHierarchy p0))] [] (ow 0 RES.length) [] [roCount RES] := by
 unfold New_pids at hm
 refine SO Tryz.func28 rfl rfl [(0, .p (.agg (encHierarchy p0)))] [] ?_
 intro cx hnt
 refine DW.seq (RK hnt (nn 2 []) [(1, rr 1008)] [(1008, bx (pm (encHierarchy p0)))] trivial ?_)
 obtain ⟨r1, hr1, hm⟩ := bind_open hm
 refine DW.seq (RK hnt (.no :: .call 25 [] true (ow 0 r1.length) [] [roCount r1] :: .no :: []) [(2, ow 1032 r1.length)] [(1032, ob0 (roCount r1))] (an (Spec.args (xs := [.p (.agg (encHierarchy p0)), .p (.sl .nil 0 0 (fun _ => []))]) (Adjust_pidsSpec p0 [] r1 hr1) (.cons .rfl (.cons (.p PLe.nilL) .nil))) trivial) ?_)
 refine DW.ret ?_
 obtain rfl := Option.some.inj hm
 exact retK [roCount r1] [1032] (ow 0 r1.length)

theorem fine_pidsSpec (p0 : Count) (p1 : Int) (p2 : Int) (RES : Bool) (hm : fine_pids p0 p1 p2 = some RES) : Spec Tryz.prog 93 [.p (.agg (encCount p0)), pI p1, pI p2] [] (pB RES) [] [] := by
 unfold fine_pids at hm
 refine SO Tryz.func93 rfl rfl [(0, .p (.agg (encCount p0))), (1, pI p1), (2, pI p2)] [] ?_
 intro cx hnt
 refine DW.seq (RD hnt (nn 2 []) [0] [(3, rr 1024)] [] [(1024, bx (pm (encCount p0)))] trivial ?_)
 refine DW.seq (DW.regJ (sl2 := [(1, pI p1), (2, pI p2), (3, rr 1024), (7, pB (((decide (p0.limit ≥ 0)) && (decide (p0.limit ≤ 1099511627776))) || (p0.limit == 4611686018427387904)))]) (ob2 := [(1024, bx (pm (encCount p0)))]) ?_ ?_)
 ·rcases bt (decide (p0.limit ≥ 0)) with h1 | h1
  ·rcases bt (decide (p0.limit ≤ 1099511627776)) with h2 | h2
   ·exact RT hnt (nn 7 (pT :: .no :: sk 3 (pT :: .no :: []))) [(7, pB true)] (an4 h1 (an4 h2 trivial)) (by kernel_rfl) (.cons rfl (.of_eq (by rw [h1, h2]; try rfl)) .nil)
   ·exact RT hnt (nn 7 (pT :: nn 4 (pF :: .no :: []))) [(7, pB (p0.limit == 4611686018427387904))] (an4 h1 (an4 h2 trivial)) (by kernel_rfl) (.cons rfl (.of_eq (by rw [h1, h2]; try rfl)) .nil)
  ·exact RT hnt (nn 4 (sk 3 (pF :: nn 4 (pF :: .no :: [])))) [(7, pB (p0.limit == 4611686018427387904))] (an4 h1 (an4 ff trivial)) (by kernel_rfl) (.cons rfl (.of_eq (by rw [h1]; try rfl)) .nil)
 ·refine DW.seq (DW.regJ (sl2 := [(6, pB (((((((p0.group == p1) && (p0.now == p2)) && (((decide (p0.limit ≥ 0)) && (decide (p0.limit ≤ 1099511627776))) || (p0.limit == 4611686018427387904))) && (decide (p0.peak ≥ p0.now))) && (decide (p0.peak ≤ 128))) && (decide (p0.events ≥ 0))) && (decide (p0.events ≤ 1099511627776))))]) (ob2 := []) ?_ ?_)
  ·rcases bt (p0.group == p1) with h3 | h3
   ·rcases bt (p0.now == p2) with h4 | h4
    ·rcases bt (((decide (p0.limit ≥ 0)) && (decide (p0.limit ≤ 1099511627776))) || (p0.limit == 4611686018427387904)) with h5 | h5
     ·rcases bt (decide (p0.peak ≥ p0.now)) with h6 | h6
      ·rcases bt (decide (p0.peak ≤ 128)) with h7 | h7
       ·rcases bt (decide (p0.events ≥ 0)) with h8 | h8
        ·exact RT hnt (nn 9 (pT :: nn 2 (pT :: nn 6 (pT :: nn 4 (pT :: nn 4 (pT :: nn 4 (pT :: .no :: []))))))) [(6, pB (decide (p0.events ≤ 1099511627776)))] (an5 h3 (an2 h4 (an6 h5 (an4 h6 (an4 h7 (an4 h8 trivial)))))) (by kernel_rfl) (.cons rfl (.of_eq (by rw [h3, h4, h5, h6, h7, h8]; try rfl)) .nil)
        ·exact RT hnt (nn 9 (pT :: nn 2 (pT :: nn 6 (pT :: nn 4 (pT :: nn 4 (pT :: .no :: sk 3 (pF :: .no :: []))))))) [(6, pB false)] (an5 h3 (an2 h4 (an6 h5 (an4 h6 (an4 h7 (an4 h8 trivial)))))) (by kernel_rfl) (.cons rfl (.of_eq (by rw [h3, h4, h5, h6, h7, h8]; try rfl)) .nil)
       ·exact RT hnt (nn 9 (pT :: nn 2 (pT :: nn 6 (pT :: nn 4 (pT :: .no :: sk 3 (pF :: .no :: sk 3 (pF :: .no :: []))))))) [(6, pB false)] (an5 h3 (an2 h4 (an6 h5 (an4 h6 (an4 h7 (an4 ff trivial)))))) (by kernel_rfl) (.cons rfl (.of_eq (by rw [h3, h4, h5, h6, h7]; try rfl)) .nil)
      ·exact RT hnt (nn 9 (pT :: nn 2 (pT :: nn 6 (pT :: .no :: sk 3 (pF :: .no :: sk 3 (pF :: .no :: sk 3 (pF :: .no :: []))))))) [(6, pB false)] (an5 h3 (an2 h4 (an6 h5 (an4 h6 (an2 ff (an6 ff trivial)))))) (by kernel_rfl) (.cons rfl (.of_eq (by rw [h3, h4, h5, h6]; try rfl)) .nil)
     ·exact RT hnt (nn 9 (pT :: nn 2 (pT :: .no :: sk 5 (pF :: .no :: sk 3 (pF :: .no :: sk 3 (pF :: .no :: sk 3 (pF :: .no :: []))))))) [(6, pB false)] (an5 h3 (an2 h4 (an6 h5 (an6 ff (an6 ff trivial))))) (by kernel_rfl) (.cons rfl (.of_eq (by rw [h3, h4, h5]; try rfl)) .nil)
    ·exact RT hnt (nn 9 (pT :: .no :: .skip :: pF :: .no :: sk 5 (pF :: .no :: sk 3 (pF :: .no :: sk 3 (pF :: .no :: sk 3 (pF :: .no :: [])))))) [(6, pB false)] (an5 h3 (an2 h4 (an6 ff (an6 ff (an6 ff trivial))))) (by kernel_rfl) (.cons rfl (.of_eq (by rw [h3, h4]; try rfl)) .nil)
   ·exact RT hnt (nn 5 (sk 4 (pF :: .no :: .skip :: pF :: .no :: sk 5 (pF :: .no :: sk 3 (pF :: .no :: sk 3 (pF :: .no :: sk 3 (pF :: .no :: []))))))) [(6, pB false)] (an5 h3 (an2 ff (an6 ff (an6 ff (an6 ff trivial))))) (by kernel_rfl) (.cons rfl (.of_eq (by rw [h3]; try rfl)) .nil)
  ·refine DW.ret ?_
   obtain rfl := Option.some.inj hm
   exact retK [] [] (pB (((((((p0.group == p1) && (p0.now == p2)) && (((decide (p0.limit ≥ 0)) && (decide (p0.limit ≤ 1099511627776))) || (p0.limit == 4611686018427387904))) && (decide (p0.peak ≥ p0.now))) && (decide (p0.peak ≤ 128))) && (decide (p0.events ≥ 0))) && (decide (p0.events ≤ 1099511627776))))

theorem Check_pidsSpec (p0 : Hierarchy) (p1 : List Count) (RES : Bool) (hm : Check_pids p0 p1 = some RES) : Spec Tryz.prog 31 [.p (.agg (encHierarchy p0)), .p (slCount p1)] [] (pB RES) [] [] := by
 unfold Check_pids at hm
 refine SO Tryz.func31 rfl rfl [(0, .p (.agg (encHierarchy p0))), (1, .p (slCount p1))] [] ?_
 intro cx hnt
 refine DW.seq (RD hnt (nn 2 []) [0] [(2, rr 1016)] [] [(1016, bx (pm (encHierarchy p0)))] trivial ?_)
 obtain ⟨r1, hr1, hm⟩ := bind_open hm
 refine DW.seq (DW.seq ?_)
 refine DW.join (ι := Bool) (fun (y1 : Bool) => mkSt [(1, .p (slCount p1)), (2, rr 1016), (18, pB y1)] [(1016, bx (pm (encHierarchy p0)))]) (fun y1 => (Check_pidsJ1 p0 p1) y1 = some RES) ?_ ?_
 ·intro y1 hm
  unfold Check_pidsJ1 at hm
  refine condM hm ?_ ?_
  ·intro h3 hm
   refine DW.seq (RK hnt (.no :: []) [(4, pB false)] [] trivial ?_)
   refine DW.ret ?_
   obtain rfl := Option.some.inj hm
   exact retK [] [] (pB false)
  ·intro h3 hm
   refine DW.skip ?_
   refine DW.seq (DW.seq (RD hnt (nn 5 []) [18] [(21, .p (slNode p0.tree.nodes)), (22, pI ((p0.tree.nodes.length : Nat) : Int)), (23, pI 0)] [] [] trivial ?_))
   refine DW.block ?_
   obtain ⟨hc1, hm⟩ := guard_open hm
   refine DW.rangeO (fun (k1 : Nat) (s1 : Unit) => mkSt [(1, .p (slCount p1)), (2, rr 1016), (21, .p (slNode p0.tree.nodes)), (22, pI ((p0.tree.nodes.length : Nat) : Int)), (23, pI ((k1 : Nat) : Int))] [(1016, bx (pm (encHierarchy p0)))]) dNode hm Conv.eqK ?_
   intro k1 s1 n1 hk1 hs1 he1
   refine DW.seq (RD hnt (.no :: []) [] [(24, pB (decide (((k1 : Nat) : Int) < ((p0.tree.nodes.length : Nat) : Int))))] [] [] trivial ?_)
   refine DW.seq (condK (decide (((k1 : Nat) : Int) < ((p0.tree.nodes.length : Nat) : Int))) ?_ ?_)
   ·intro h16
    have hlt1 : k1 < p0.tree.nodes.length := by have := of_decide_eq_true h16; omega
    have hm := hs1 hlt1
    unfold Check_pidsL1 at hm
    refine DW.skip ?_
    refine DW.seq (DW.block ?_)
    refine DW.seq (RD hnt (nn 6 []) [24] [(5, pI ((k1 : Nat) : Int)), (6, rr 1048)] [] [(1048, bx (pm (encNode (p0.tree.nodes.getD k1 (default : Node)))))] (an (nn0 k1) (an (ltc hlt1) trivial)) ?_)
    obtain ⟨g17, hm⟩ := guard_open hm
    obtain ⟨r18, hr18, hm⟩ := bind_open hm
    obtain ⟨r19, hr19, hm⟩ := bind_open hm
    refine DW.seq (RD hnt (nn 9 (.call 91 [] true (pI r18) [] [] :: .call 93 [] true (pB r19) [] [] :: .no :: [])) [5, 6] [(39, pB (!r19))] [1048] [] (an (nn0 k1) (an (ltc g17) (an (Count_crewSpec p0 (p0.tree.nodes.getD k1 (default : Node)).id r18 hr18) (an (fine_pidsSpec (p1.getD k1 dCount) (p0.tree.nodes.getD k1 (default : Node)).id r18 r19 hr19) trivial)))) ?_)
    refine condM hm ?_ ?_
    ·intro h20 hm
     refine DW.seq (RK hnt (.no :: []) [(4, pB false)] [] trivial ?_)
     refine DW.ret ?_
     obtain rfl := Option.some.inj hm
     exact retK [] [] (pB false)
    ·intro h20 hm
     refine DW.skip ?_
     refine DW.done ?_
     show DW _ _ _ _ _
     refine RD hnt (nn 2 []) [39] [(23, pI (w64 (((k1 : Nat) : Int) + 1)))] [] [] trivial ?_
     exact joinDone () ⟨hlt1, hm⟩ (Conv.tp [(23, pI (w64 (((k1 : Nat) : Int) + 1)))] [] (by kernel_rfl) (.cons rfl (.of_eq (congrArg pI (w64_succ hlt1 hc1))) .nil) .nil)
   ·intro h16
    have hge1 : ¬ k1 < p0.tree.nodes.length := by have := of_decide_eq_false h16; omega
    have hm := he1 hge1
    unfold Check_pidsD1 at hm
    refine DW.exit ?_
    refine joinQ_exit ?_
    refine KQ_exit ?_
    refine blockQ_exit ?_
    show DW _ _ _ _ _
    refine DW.seq (RK hnt (.no :: []) [(4, pB true)] [] trivial ?_)
    refine DW.ret ?_
    obtain rfl := Option.some.inj hm
    exact retK [] [] (pB true)
 ·rcases bt (!r1) with h2 | h2
  ·replace hm := if_t h2 hm
   refine RD hnt (.no :: .call 51 [] true (pB r1) [] [] :: nn 2 (sk 7 (pT :: []))) [] [(18, pB true)] [] [] (an (Check_memberSpec p0 r1 hr1) (an2 h2 (an6 h2 trivial))) ?_
   exact joinDone true hm Conv.eqK
  ·replace hm := if_f h2 hm
   refine RD hnt (.no :: .call 51 [] true (pB r1) [] [] :: nn 9 (pF :: [])) [] [(18, pB (((p1.length : Nat) : Int) != ((p0.tree.nodes.length : Nat) : Int)))] [] [] (an (Check_memberSpec p0 r1 hr1) (an2 h2 (an6 h2 trivial))) ?_
   exact joinDone (((p1.length : Nat) : Int) != ((p0.tree.nodes.length : Nat) : Int)) hm Conv.eqK

theorem Clone_slices_CountNnSpec (p0 : List Count) (RES : List Count) (hm : Clone_slices_Count p0 = some RES) : Spec Tryz.prog 84 [.p (.sl .nn 5 p0.length (elems encCount (default : Count) p0))] [] (ow 0 RES.length) [] [roCount RES] := by
 unfold Clone_slices_Count at hm
 refine SO Tryz.func84 rfl rfl [(0, .p (.sl .nn 5 p0.length (elems encCount (default : Count) p0)))] [] ?_
 intro cx hnt
 refine DW.seq (RD hnt (.no :: []) [] [] [] [] trivial ?_)
 refine DW.seq (DW.seq (RD hnt (nn 2 []) [] [(4, pB false)] [] [] trivial ?_))
 refine condF ff ?_
 refine DW.skip ?_
 obtain ⟨g1, hm⟩ := guard_open hm
 refine DW.seq (RN hnt (nn 4 []) [(2, ow 1040 p0.length)] [(1040, ob0 (roCount p0))] [(2, ow 1040 (0 + p0.length))] [(1040, .row 5 (0 + p0.length) (catF 0 (cut 5 []) (elCount p0)))] (an (by omega : (0 + p0.length) * 40 ≤ 140737488355328) trivial) (by kernel_rfl) (.cons rfl (MLe.ownLen (enc := encCount) (d := dCount) (f := (catF 0 (cut 5 []) (elCount p0))) (RowIs.cat RowIs.nil RowIs.elems)) .nil) (.cons rfl (BLe.typed (RowIs.cat RowIs.nil RowIs.elems)) .nil) ?_)
 refine DW.ret ?_
 obtain rfl := Option.some.inj hm
 exact retK [roCount p0] [1040] (ow 0 p0.length)

theorem Clone_slices_CountNilSpec (p0 : List Count) (RES : List Count) (hm : Clone_slices_CountNil p0 = some RES) : Spec Tryz.prog 84 [.p (.sl .nil 5 0 (elems encCount (default : Count) p0))] [] (ow 0 RES.length) [] [roCount RES] := by
 unfold Clone_slices_CountNil at hm
 refine SO Tryz.func84 rfl rfl [(0, .p (.sl .nil 5 0 (elems encCount (default : Count) p0)))] [] ?_
 intro cx hnt
 refine DW.seq (RD hnt (.no :: []) [] [] [] [] trivial ?_)
 refine DW.seq (DW.seq (RD hnt (nn 2 []) [] [(4, pB true)] [] [] trivial ?_))
 refine condT tt ?_
 refine DW.seq (RK hnt (.no :: []) [(2, .p (.sl .nil 0 0 (fun _ => [])))] [] trivial ?_)
 refine DW.conv (τ := mkSt [(2, ow 100000 0)] [(100000, ob0 (roCount []))]) (Conv.trans (τ := mkSt [(2, ow 100000 0)] ((100000, ⟨0, .row 5 0 (elems encCount dCount [])⟩) :: [])) (Conv.adopt 100000 5 (elems encCount dCount []) rfl rfl (.cons (.one (.nil _ _)) (.rfl _)) (.rfl _)) Conv.t0) ?_
 refine DW.ret ?_
 obtain rfl := Option.some.inj hm
 exact retK [roCount []] [100000] (ow 0 0)

theorem Clone_slices_CountSpec (p0 : List Count) (RES : List Count) (hm : Clone_slices_Count p0 = some RES) : Spec Tryz.prog 84 [.p (slCount p0)] [] (ow 0 RES.length) [] [roCount RES] :=
  Spec.unk (fun h => Clone_slices_CountNilSpec p0 RES (by have e : p0 = [] := List.eq_nil_of_length_eq_zero h; subst e; simpa [Clone_slices_Count, Clone_slices_CountNil] using hm)) (Clone_slices_CountNnSpec p0 RES hm)

abbrev c34e1 (r8 : List Count) (r1 : Int) (p3 : Int) := ({ group := (r8.getD (Int.toNat r1) dCount).group, now := (r8.getD (Int.toNat r1) dCount).now, limit := p3, peak := (r8.getD (Int.toNat r1) dCount).peak, events := (r8.getD (Int.toNat r1) dCount).events } : Count)
abbrev c34e2 (r8 : List Count) (r1 : Int) (p3 : Int) := (updF (elCount r8) (Int.toNat r1) [vi (r8.getD (Int.toNat r1) dCount).group, vi (r8.getD (Int.toNat r1) dCount).now, vi p3, vi (r8.getD (Int.toNat r1) dCount).peak, vi (r8.getD (Int.toNat r1) dCount).events])
abbrev c34e3 : Nat × MV := (8, .p (.sl .nil 0 0 (fun _ => [])))
theorem Limit_pidsSpec (p0 : Hierarchy) (p1 : List Count) (p2 : Int) (p3 : Int) (RES : (List Count) × Int) (hm : Limit_pids p0 p1 p2 p3 = some RES) : Spec Tryz.prog 34 [.p (.agg (encHierarchy p0)), .p (slCount p1), pI p2, pI p3] [] (.tup [ow 0 RES.1.length, pI RES.2]) [] [roCount RES.1] := by
 unfold Limit_pids at hm
 refine SO Tryz.func34 rfl rfl [(0, .p (.agg (encHierarchy p0))), (1, .p (slCount p1)), (2, pI p2), (3, pI p3)] [] ?_
 intro cx hnt
 refine DW.seq (RD hnt (nn 3 []) [0] [(4, rr 1032)] [] [(1032, bx (pm (encHierarchy p0)))] trivial ?_)
 obtain ⟨r1, hr1, hm⟩ := bind_open hm
 refine DW.seq (RD hnt (nn 2 (.call 86 [] true (pI r1) [] [] :: .no :: [])) [2] [(10, pI r1)] [] [] (an (at_pidsSpec p1 p2 r1 hr1) trivial) ?_)
 refine DW.seq (DW.block ?_)
 obtain ⟨r2, hr2, hm⟩ := bind_open hm
 refine DW.seq (RD hnt (nn 2 (.call 31 [] true (pB r2) [] [] :: nn 2 [])) [4] [(15, pB (!r2))] [1032] [] (an (Check_pidsSpec p0 p1 r2 hr2) trivial) ?_)
 refine condM hm ?_ ?_
 ·intro h3 hm
  refine DW.seq (RK hnt (nn 2 []) [(c34e3), (9, pI 1)] [] trivial ?_)
  refine DW.conv (τ := mkSt [(8, ow 100000 0), (9, pI 1)] [(100000, ob0 (roCount []))]) (Conv.trans (τ := mkSt [(8, ow 100000 0), (9, pI 1)] ((100000, ⟨0, .row 5 0 (elems encCount dCount [])⟩) :: [])) (Conv.adopt 100000 5 (elems encCount dCount []) rfl rfl (.cons (.one (.nil _ _)) (.cons (.one (.rfl _)) (.rfl _))) (.rfl _)) Conv.t0) ?_
  refine DW.ret ?_
  obtain rfl := Option.some.inj hm
  exact retK [roCount []] [100000] (.tup [ow 0 0, pI 1])
 ·intro h3 hm
  refine DW.seq (RD hnt (nn 3 []) [15] [(20, pB (decide (r1 < 0)))] [] [] trivial ?_)
  refine condM hm ?_ ?_
  ·intro h4 hm
   refine DW.seq (RK hnt (nn 2 []) [(c34e3), (9, pI 4)] [] trivial ?_)
   refine DW.conv (τ := mkSt [(8, ow 100000 0), (9, pI 4)] [(100000, ob0 (roCount []))]) (Conv.trans (τ := mkSt [(8, ow 100000 0), (9, pI 4)] ((100000, ⟨0, .row 5 0 (elems encCount dCount [])⟩) :: [])) (Conv.adopt 100000 5 (elems encCount dCount []) rfl rfl (.cons (.one (.nil _ _)) (.cons (.one (.rfl _)) (.rfl _))) (.rfl _)) Conv.t0) ?_
   refine DW.ret ?_
   obtain rfl := Option.some.inj hm
   exact retK [roCount []] [100000] (.tup [ow 0 0, pI 4])
  ·intro h4 hm
   refine DW.seq (DW.regJ (sl2 := [(1, .p (slCount p1)), (3, pI p3), (10, pI r1), (23, pB ((p3 != 4611686018427387904) && ((decide (p3 < 0)) || (decide (p3 > 1099511627776)))))]) (ob2 := []) ?_ ?_)
   ·rcases bt (p3 != 4611686018427387904) with h5 | h5
    ·rcases bt (decide (p3 < 0)) with h6 | h6
     ·exact RT hnt (nn 6 (sk 2 (pT :: pT :: .no :: []))) [(23, pB true)] (an3 h5 (an2 h6 (an h5 (an h6 (an h5 trivial))))) (by kernel_rfl) (.cons rfl (.of_eq (by rw [h5, h6]; try rfl)) .nil)
     ·exact RT hnt (nn 8 (pF :: pT :: .no :: [])) [(23, pB (decide (p3 > 1099511627776)))] (an3 h5 (an2 h6 (an h5 (an h6 (an h5 trivial))))) (by kernel_rfl) (.cons rfl (.of_eq (by rw [h5, h6]; try rfl)) .nil)
    ·exact RT hnt (nn 3 (sk 6 (pF :: .no :: []))) [(23, pB false)] (an5 h5 trivial) (by kernel_rfl) (.cons rfl (.of_eq (by rw [h5]; try rfl)) .nil)
   ·refine condM hm ?_ ?_
    ·intro h7 hm
     refine DW.seq (RK hnt (nn 2 []) [(c34e3), (9, pI 3)] [] trivial ?_)
     refine DW.conv (τ := mkSt [(8, ow 100000 0), (9, pI 3)] [(100000, ob0 (roCount []))]) (Conv.trans (τ := mkSt [(8, ow 100000 0), (9, pI 3)] ((100000, ⟨0, .row 5 0 (elems encCount dCount [])⟩) :: [])) (Conv.adopt 100000 5 (elems encCount dCount []) rfl rfl (.cons (.one (.nil _ _)) (.cons (.one (.rfl _)) (.rfl _))) (.rfl _)) Conv.t0) ?_
     refine DW.ret ?_
     obtain rfl := Option.some.inj hm
     exact retK [roCount []] [100000] (.tup [ow 0 0, pI 3])
    ·intro h7 hm
     refine DW.skip ?_
     refine DW.done ?_
     show DW _ _ _ _ _
     obtain ⟨r8, hr8, hm⟩ := bind_open hm
     refine DW.seq (RD hnt (.no :: .call 84 [] true (ow 0 r8.length) [] [roCount r8] :: .no :: []) [1, 23] [(11, ow 1280 r8.length)] [] [(1280, ob0 (roCount r8))] (an (Clone_slices_CountSpec p1 r8 hr8) trivial) ?_)
     obtain ⟨g9, g10, hm⟩ := go2 hm
     refine DW.seq (RN hnt (nn 6 []) [(11, ow 1280 (r8.set (Int.toNat r1) (c34e1 r8 r1 p3)).length)] [(1280, ob0 (roCount (r8.set (Int.toNat r1) (c34e1 r8 r1 p3))))] [(11, ow 1280 r8.length)] [(1280, .row 5 r8.length (c34e2 r8 r1 p3))] (an g9.1 (an g9.2 (an g10 trivial))) (by kernel_rfl) (.cons rfl (MLe.ownLen (enc := encCount) (d := dCount) (f := (c34e2 r8 r1 p3)) (RowIs.upd RowIs.elems (c34e1 r8 r1 p3) rfl)) .nil) (.cons rfl (BLe.typed (RowIs.upd RowIs.elems (c34e1 r8 r1 p3) rfl)) .nil) ?_)
     refine DW.seq (RD hnt (nn 3 []) [11] [(8, ow 1280 (r8.set (Int.toNat r1) (c34e1 r8 r1 p3)).length), (9, pI 0)] [] [] trivial ?_)
     refine DW.ret ?_
     obtain rfl := Option.some.inj hm
     exact retK [roCount (r8.set (Int.toNat r1) (c34e1 r8 r1 p3))] [1280] (.tup [ow 0 (r8.set (Int.toNat r1) (c34e1 r8 r1 p3)).length, pI 0])

abbrev c125e1 : Nat × MV := (3, .p (.sl .nil 0 0 (fun _ => [])))
abbrev c125e2 : Nat × Obj := (1016, bx [ow 100000 0, pI 0, ow 100001 0, pI 0])
abbrev c125e3 : Nat × Obj := (1016, bx [.p (.sl .nil 0 0 (fun _ => [])), pI 0, .p (.sl .nil 0 0 (fun _ => [])), pI 0])
abbrev c125e4 : Nat × Obj := (1016, bx [ow 100000 0, pI 0, .p (.sl .nil 0 0 (fun _ => [])), pI 0])
theorem refuse_pidsSpec (p0 : Int) (RES : Hierarchy × (List Count) × Int × Int) (hm : refuse_pids p0 = some RES) : Spec Tryz.prog 125 [pI p0] [] (.tup [.agg [ow 0 RES.1.tree.nodes.length, pI RES.1.tree.next, ow 1 RES.1.tasks.length, pI RES.1.next], ow 2 RES.2.1.length, pI RES.2.2.1, pI RES.2.2.2]) [] [roNode RES.1.tree.nodes, roTask RES.1.tasks, roCount RES.2.1] := by
 unfold refuse_pids at hm
 refine SO Tryz.func125 rfl rfl [(0, pI p0)] [] ?_
 intro cx hnt
 refine DW.seq (RK hnt (nn 4 []) [(0, pI p0), (2, rr 1016)] [(c125e3)] trivial ?_)
 refine DW.seq (RD hnt (nn 6 []) [0] [(c125e1), (4, pI 0), (5, pI p0)] [] [] trivial ?_)
 refine DW.conv (τ := mkSt [(2, rr 1016), (3, ow 100002 0), (4, pI 0), (5, pI p0)] [(c125e2), (100000, ob0 (roNode [])), (100001, ob0 (roTask [])), (100002, ob0 (roCount []))]) (Conv.trans (τ := mkSt [(2, rr 1016), (c125e1), (4, pI 0), (5, pI p0)] [(c125e3)]) Conv.eqK (Conv.trans (τ := mkSt [(2, rr 1016), (c125e1), (4, pI 0), (5, pI p0)] ((100000, ⟨0, .row 6 0 (elems encNode dNode [])⟩) :: [(c125e4)])) (Conv.adopt 100000 6 (elems encNode dNode []) rfl rfl (.rfl _) (.box (.cons (.nil _ _) (.cons (.rfl _) (.cons (.rfl _) (.cons (.rfl _) (.rfl _))))) (.rfl _))) (Conv.trans (τ := mkSt [(2, rr 1016), (c125e1), (4, pI 0), (5, pI p0)] [(c125e4), (100000, ob0 (roNode []))]) Conv.t0 (Conv.trans (τ := mkSt [(2, rr 1016), (c125e1), (4, pI 0), (5, pI p0)] ((100001, ⟨0, .row 4 0 (elems encTask dTask [])⟩) :: [(c125e2), (100000, ob0 (roNode []))])) (Conv.adopt 100001 4 (elems encTask dTask []) rfl rfl (.rfl _) (.box (.cons (.rfl _) (.cons (.rfl _) (.cons (.nil _ _) (.cons (.rfl _) (.rfl _))))) (.keep (.rfl _)))) (Conv.trans (τ := mkSt [(2, rr 1016), (c125e1), (4, pI 0), (5, pI p0)] [(c125e2), (100000, ob0 (roNode [])), (100001, ob0 (roTask []))]) Conv.t0 (Conv.trans (τ := mkSt [(2, rr 1016), (3, ow 100002 0), (4, pI 0), (5, pI p0)] ((100002, ⟨0, .row 5 0 (elems encCount dCount [])⟩) :: [(c125e2), (100000, ob0 (roNode [])), (100001, ob0 (roTask []))])) (Conv.adopt 100002 5 (elems encCount dCount []) rfl rfl (.cons (.one (.rfl _)) (.cons (.one (.nil _ _)) (.cons (.one (.rfl _)) (.cons (.one (.rfl _)) (.rfl _))))) (.rfl _)) Conv.t0)))))) ?_
 refine DW.ret ?_
 obtain rfl := Option.some.inj hm
 exact retK [roNode [], roTask [], roCount []] [100000, 100001, 100002] (.tup [.agg [ow 0 0, pI 0, ow 1 0, pI 0], ow 2 0, pI 0, pI p0])

theorem Clone_slices_NodeNnSpec (p0 : List Node) (RES : List Node) (hm : Clone_slices_Node p0 = some RES) : Spec Tryz.prog 145 [.p (.sl .nn 6 p0.length (elems encNode (default : Node) p0))] [] (ow 0 RES.length) [] [roNode RES] := by
 unfold Clone_slices_Node at hm
 refine SO Tryz.func145 rfl rfl [(0, .p (.sl .nn 6 p0.length (elems encNode (default : Node) p0)))] [] ?_
 intro cx hnt
 refine DW.seq (RD hnt (.no :: []) [] [] [] [] trivial ?_)
 refine DW.seq (DW.seq (RD hnt (nn 2 []) [] [(4, pB false)] [] [] trivial ?_))
 refine condF ff ?_
 refine DW.skip ?_
 obtain ⟨g1, hm⟩ := guard_open hm
 refine DW.seq (RN hnt (nn 4 []) [(2, ow 1040 p0.length)] [(1040, ob0 (roNode p0))] [(2, ow 1040 (0 + p0.length))] [(1040, .row 6 (0 + p0.length) (catF 0 (cut 6 []) (elNode p0)))] (an (by omega : (0 + p0.length) * 56 ≤ 140737488355328) trivial) (by kernel_rfl) (.cons rfl (MLe.ownLen (enc := encNode) (d := dNode) (f := (catF 0 (cut 6 []) (elNode p0))) (RowIs.cat RowIs.nil RowIs.elems)) .nil) (.cons rfl (BLe.typed (RowIs.cat RowIs.nil RowIs.elems)) .nil) ?_)
 refine DW.ret ?_
 obtain rfl := Option.some.inj hm
 exact retK [roNode p0] [1040] (ow 0 p0.length)

theorem Clone_slices_NodeNilSpec (p0 : List Node) (RES : List Node) (hm : Clone_slices_NodeNil p0 = some RES) : Spec Tryz.prog 145 [.p (.sl .nil 6 0 (elems encNode (default : Node) p0))] [] (ow 0 RES.length) [] [roNode RES] := by
 unfold Clone_slices_NodeNil at hm
 refine SO Tryz.func145 rfl rfl [(0, .p (.sl .nil 6 0 (elems encNode (default : Node) p0)))] [] ?_
 intro cx hnt
 refine DW.seq (RD hnt (.no :: []) [] [] [] [] trivial ?_)
 refine DW.seq (DW.seq (RD hnt (nn 2 []) [] [(4, pB true)] [] [] trivial ?_))
 refine condT tt ?_
 refine DW.seq (RK hnt (.no :: []) [(2, .p (.sl .nil 0 0 (fun _ => [])))] [] trivial ?_)
 refine DW.conv (τ := mkSt [(2, ow 100000 0)] [(100000, ob0 (roNode []))]) (Conv.trans (τ := mkSt [(2, ow 100000 0)] ((100000, ⟨0, .row 6 0 (elems encNode dNode [])⟩) :: [])) (Conv.adopt 100000 6 (elems encNode dNode []) rfl rfl (.cons (.one (.nil _ _)) (.rfl _)) (.rfl _)) Conv.t0) ?_
 refine DW.ret ?_
 obtain rfl := Option.some.inj hm
 exact retK [roNode []] [100000] (ow 0 0)

theorem Clone_slices_NodeSpec (p0 : List Node) (RES : List Node) (hm : Clone_slices_Node p0 = some RES) : Spec Tryz.prog 145 [.p (slNode p0)] [] (ow 0 RES.length) [] [roNode RES] :=
  Spec.unk (fun h => Clone_slices_NodeNilSpec p0 RES (by have e : p0 = [] := List.eq_nil_of_length_eq_zero h; subst e; simpa [Clone_slices_Node, Clone_slices_NodeNil] using hm)) (Clone_slices_NodeNnSpec p0 RES hm)

theorem Clone_slices_TaskNnSpec (p0 : List Task) (RES : List Task) (hm : Clone_slices_Task p0 = some RES) : Spec Tryz.prog 146 [.p (.sl .nn 4 p0.length (elems encTask (default : Task) p0))] [] (ow 0 RES.length) [] [roTask RES] := by
 unfold Clone_slices_Task at hm
 refine SO Tryz.func146 rfl rfl [(0, .p (.sl .nn 4 p0.length (elems encTask (default : Task) p0)))] [] ?_
 intro cx hnt
 refine DW.seq (RD hnt (.no :: []) [] [] [] [] trivial ?_)
 refine DW.seq (DW.seq (RD hnt (nn 2 []) [] [(4, pB false)] [] [] trivial ?_))
 refine condF ff ?_
 refine DW.skip ?_
 obtain ⟨g1, hm⟩ := guard_open hm
 refine DW.seq (RN hnt (nn 4 []) [(2, ow 1040 p0.length)] [(1040, ob0 (roTask p0))] [(2, ow 1040 (0 + p0.length))] [(1040, .row 4 (0 + p0.length) (catF 0 (cut 4 []) (elTask p0)))] (an (by omega : (0 + p0.length) * 32 ≤ 140737488355328) trivial) (by kernel_rfl) (.cons rfl (MLe.ownLen (enc := encTask) (d := dTask) (f := (catF 0 (cut 4 []) (elTask p0))) (RowIs.cat RowIs.nil RowIs.elems)) .nil) (.cons rfl (BLe.typed (RowIs.cat RowIs.nil RowIs.elems)) .nil) ?_)
 refine DW.ret ?_
 obtain rfl := Option.some.inj hm
 exact retK [roTask p0] [1040] (ow 0 p0.length)

theorem Clone_slices_TaskNilSpec (p0 : List Task) (RES : List Task) (hm : Clone_slices_TaskNil p0 = some RES) : Spec Tryz.prog 146 [.p (.sl .nil 4 0 (elems encTask (default : Task) p0))] [] (ow 0 RES.length) [] [roTask RES] := by
 unfold Clone_slices_TaskNil at hm
 refine SO Tryz.func146 rfl rfl [(0, .p (.sl .nil 4 0 (elems encTask (default : Task) p0)))] [] ?_
 intro cx hnt
 refine DW.seq (RD hnt (.no :: []) [] [] [] [] trivial ?_)
 refine DW.seq (DW.seq (RD hnt (nn 2 []) [] [(4, pB true)] [] [] trivial ?_))
 refine condT tt ?_
 refine DW.seq (RK hnt (.no :: []) [(2, .p (.sl .nil 0 0 (fun _ => [])))] [] trivial ?_)
 refine DW.conv (τ := mkSt [(2, ow 100000 0)] [(100000, ob0 (roTask []))]) (Conv.trans (τ := mkSt [(2, ow 100000 0)] ((100000, ⟨0, .row 4 0 (elems encTask dTask [])⟩) :: [])) (Conv.adopt 100000 4 (elems encTask dTask []) rfl rfl (.cons (.one (.nil _ _)) (.rfl _)) (.rfl _)) Conv.t0) ?_
 refine DW.ret ?_
 obtain rfl := Option.some.inj hm
 exact retK [roTask []] [100000] (ow 0 0)

theorem Clone_slices_TaskSpec (p0 : List Task) (RES : List Task) (hm : Clone_slices_Task p0 = some RES) : Spec Tryz.prog 146 [.p (slTask p0)] [] (ow 0 RES.length) [] [roTask RES] :=
  Spec.unk (fun h => Clone_slices_TaskNilSpec p0 RES (by have e : p0 = [] := List.eq_nil_of_length_eq_zero h; subst e; simpa [Clone_slices_Task, Clone_slices_TaskNil] using hm)) (Clone_slices_TaskNnSpec p0 RES hm)

theorem Copy_crewSpec (p0 : Hierarchy) (RES : Hierarchy) (hm : Copy_crew p0 = some RES) : Spec Tryz.prog 96 [.p (.agg (encHierarchy p0))] [] (.agg [ow 0 RES.tree.nodes.length, pI RES.tree.next, ow 1 RES.tasks.length, pI RES.next]) [] [roNode RES.tree.nodes, roTask RES.tasks] := by
 unfold Copy_crew at hm
 refine SO Tryz.func96 rfl rfl [(0, .p (.agg (encHierarchy p0)))] [] ?_
 intro cx hnt
 refine DW.seq (RK hnt (nn 2 []) [(1, rr 1008), (2, rr 1016)] [(1008, bx (pm (encHierarchy p0))), (1016, bx [.p (.sl .nil 0 0 (fun _ => [])), pI 0, .p (.sl .nil 0 0 (fun _ => [])), pI 0])] trivial ?_)
 obtain ⟨r1, hr1, hm⟩ := bind_open hm
 obtain ⟨r2, hr2, hm⟩ := bind_open hm
 refine DW.seq (RK hnt (nn 3 (.call 145 [] true (ow 0 r1.length) [] [roNode r1] :: nn 6 (.call 146 [] true (ow 0 r2.length) [] [roTask r2] :: nn 4 []))) [(2, rr 1016)] [(1016, bx [ow 1048 r1.length, pI p0.tree.next, ow 1104 r2.length, pI p0.next]), (1048, ob0 (roNode r1)), (1104, ob0 (roTask r2))] (an (Clone_slices_NodeSpec p0.tree.nodes r1 hr1) (an (Clone_slices_TaskSpec p0.tasks r2 hr2) trivial)) ?_)
 refine DW.ret ?_
 obtain rfl := Option.some.inj hm
 exact retK [roNode r1, roTask r2] [1048, 1104] (.agg [ow 0 r1.length, pI p0.tree.next, ow 1 r2.length, pI p0.next])
end Go.Dm


/- Go functions compute their models, printed by a program. -/
namespace Go.Dm
open Go.Proofs
set_option linter.unusedVariables false
abbrev c102e1 : Nat × Obj := (1032, bx [.p (.sl .nil 0 0 (fun _ => [])), pI 0, .p (.sl .nil 0 0 (fun _ => [])), pI 0])
abbrev c102e2 (r3 : Hierarchy) : Nat × Obj := (1056, bx [ow 1152 r3.tree.nodes.length, pI r3.tree.next, ow 1153 r3.tasks.length, pI r3.next])
abbrev c102e3 : Nat × Obj := (1032, bx [ow 100000 0, pI 0, .p (.sl .nil 0 0 (fun _ => [])), pI 0])
theorem add_memberSpec (p0 : Hierarchy) (p1 : Task) (RES : Hierarchy × Int × Int) (hm : add_member p0 p1 = some RES) : Spec Tryz.prog 102 [.p (.agg (encHierarchy p0)), .p (.agg (encTask p1))] [] (.tup [.agg [ow 0 RES.1.tree.nodes.length, pI RES.1.tree.next, ow 1 RES.1.tasks.length, pI RES.1.next], pI RES.2.1, pI RES.2.2]) [] [roNode RES.1.tree.nodes, roTask RES.1.tasks] := by
 unfold add_member at hm
 refine SO Tryz.func102 rfl rfl [(0, .p (.agg (encHierarchy p0))), (1, .p (.agg (encTask p1)))] [] ?_
 intro cx hnt
 refine DW.seq (RK hnt (nn 5 []) [(2, rr 1016), (3, rr 1024), (4, rr 1032)] [(1016, bx (pm (encHierarchy p0))), (1024, bx (pm (encTask p1))), (c102e1)] trivial ?_)
 refine DW.seq (DW.seq (DW.regJ (sl2 := [(2, rr 1016), (3, rr 1024), (4, rr 1032), (16, pB ((decide (((p0.tasks.length : Nat) : Int) ≥ 128)) || (decide (p0.next > 2147483647))))]) (ob2 := [(1016, bx (pm (encHierarchy p0))), (1024, bx (pm (encTask p1))), (c102e1)]) ?_ ?_))
 ·rcases bt (decide (((p0.tasks.length : Nat) : Int) ≥ 128)) with h1 | h1
  ·exact RT hnt (nn 5 (sk 3 (pT :: []))) [(16, pB true)] (an4 h1 trivial) (by kernel_rfl) (.cons rfl (.of_eq (by rw [h1]; try rfl)) .nil)
  ·exact RT hnt (nn 8 (pF :: [])) [(16, pB (decide (p0.next > 2147483647)))] (an4 h1 trivial) (by kernel_rfl) (.cons rfl (.of_eq (by rw [h1]; try rfl)) .nil)
 ·refine condM hm ?_ ?_
  ·intro h2 hm
   refine DW.seq (RD hnt (nn 4 []) [2, 3, 16] [(5, pI 0), (6, pI 7)] [1016, 1024] [] trivial ?_)
   refine DW.conv (τ := mkSt [(4, rr 1032), (5, pI 0), (6, pI 7)] [(1032, bx [ow 100000 0, pI 0, ow 100001 0, pI 0]), (100000, ob0 (roNode [])), (100001, ob0 (roTask []))]) (Conv.trans (τ := mkSt [(4, rr 1032), (5, pI 0), (6, pI 7)] [(c102e1)]) Conv.eqK (Conv.trans (τ := mkSt [(4, rr 1032), (5, pI 0), (6, pI 7)] ((100000, ⟨0, .row 6 0 (elems encNode dNode [])⟩) :: [(c102e3)])) (Conv.adopt 100000 6 (elems encNode dNode []) rfl rfl (.rfl _) (.box (.cons (.nil _ _) (.cons (.rfl _) (.cons (.rfl _) (.cons (.rfl _) (.rfl _))))) (.rfl _))) (Conv.trans (τ := mkSt [(4, rr 1032), (5, pI 0), (6, pI 7)] [(c102e3), (100000, ob0 (roNode []))]) Conv.t0 (Conv.trans (τ := mkSt [(4, rr 1032), (5, pI 0), (6, pI 7)] ((100001, ⟨0, .row 4 0 (elems encTask dTask [])⟩) :: [(1032, bx [ow 100000 0, pI 0, ow 100001 0, pI 0]), (100000, ob0 (roNode []))])) (Conv.adopt 100001 4 (elems encTask dTask []) rfl rfl (.rfl _) (.box (.cons (.rfl _) (.cons (.rfl _) (.cons (.nil _ _) (.cons (.rfl _) (.rfl _))))) (.keep (.rfl _)))) Conv.t0)))) ?_
   refine DW.ret ?_
   obtain rfl := Option.some.inj hm
   exact retK [roNode [], roTask []] [100000, 100001] (.tup [.agg [ow 0 0, pI 0, ow 1 0, pI 0], pI 0, pI 7])
  ·intro h2 hm
   refine DW.skip ?_
   obtain ⟨r3, hr3, hm⟩ := bind_open hm
   refine DW.seq (RD hnt (.no :: .call 96 [] true (.agg [ow 0 r3.tree.nodes.length, pI r3.tree.next, ow 1 r3.tasks.length, pI r3.next]) [] [roNode r3.tree.nodes, roTask r3.tasks] :: nn 2 []) [16] [(7, rr 1056)] [] [(c102e2 r3), (1152, ob0 (roNode r3.tree.nodes)), (1153, ob0 (roTask r3.tasks))] (an (Copy_crewSpec p0 r3 hr3) trivial) ?_)
   refine DW.seq (RD hnt (nn 4 []) [2] [] [1016] [(1024, bx [pI p0.next, pI p1.process, pI p1.group, pI p1.user])] trivial ?_)
   refine DW.seq (DW.seq (RD hnt (nn 3 []) [] [(25, pB (p1.process == 0))] [] [] trivial ?_))
   refine DW.join (ι := Task) (fun (y1 : Task) => mkSt [(3, rr 1024), (4, rr 1032), (7, rr 1056)] [(1024, bx (pm (encTask y1))), (c102e1), (c102e2 r3), (1152, ob0 (roNode r3.tree.nodes)), (1153, ob0 (roTask r3.tasks))]) (fun y1 => (add_memberJ1 r3) y1 = some RES) ?_ ?_
   ·intro y1 hm
    unfold add_memberJ1 at hm
    obtain ⟨g5, hm⟩ := guard_open hm
    refine DW.seq (RN hnt (nn 7 []) [(3, rr 1024), (4, rr 1032), (7, rr 1056)] [(1024, bx (pm (encTask y1))), (c102e1), (1056, bx [ow 1152 r3.tree.nodes.length, pI r3.tree.next, ow 1153 (r3.tasks ++ [y1]).length, pI r3.next]), (1152, ob0 (roNode r3.tree.nodes)), (1153, ob0 (roTask (r3.tasks ++ [y1])))] [] [(1056, .box [ow 1152 r3.tree.nodes.length, pI r3.tree.next, ow 1153 (r3.tasks.length + 1), pI r3.next]), (1153, .row 4 (r3.tasks.length + 1) (catF r3.tasks.length (elTask r3.tasks) (cut 4 [vi y1.id, vi y1.process, vi y1.group, vi y1.user])))] (an (by omega : (r3.tasks.length + 1) * 32 ≤ 140737488355328) trivial) (by kernel_rfl) .nil (.cons rfl (.box (.cons .rfl (.cons .rfl (.cons (MLe.ownLen (enc := encTask) (d := dTask) (f := (catF r3.tasks.length (elTask r3.tasks) (cut 4 [vi y1.id, vi y1.process, vi y1.group, vi y1.user]))) (RowIs.cat RowIs.elems (RowIs.lit (enc := encTask) (d := dTask) (n := 1) (f := (cut 4 [vi y1.id, vi y1.process, vi y1.group, vi y1.user])) [y1] rfl (fun | 0, _ => rfl | n + 1, h => absurd h (by omega))))) (.cons .rfl .nil))))) (.cons rfl (BLe.typed (RowIs.cat RowIs.elems (RowIs.lit (enc := encTask) (d := dTask) (n := 1) (f := (cut 4 [vi y1.id, vi y1.process, vi y1.group, vi y1.user])) [y1] rfl (fun | 0, _ => rfl | n + 1, h => absurd h (by omega))))) .nil)) ?_)
    refine DW.seq (RD hnt (nn 5 []) [] [] [] [(1056, bx [ow 1152 r3.tree.nodes.length, pI r3.tree.next, ow 1153 (r3.tasks ++ [y1]).length, pI (w64 (r3.next + 1))])] trivial ?_)
    refine DW.seq (RD hnt (nn 6 []) [3, 7] [(5, pI y1.id), (6, pI 0)] [1024, 1056] [(1032, bx [ow 1152 r3.tree.nodes.length, pI r3.tree.next, ow 1153 (r3.tasks ++ [y1]).length, pI (w64 (r3.next + 1))])] trivial ?_)
    refine DW.ret ?_
    obtain rfl := Option.some.inj hm
    exact retK [roNode r3.tree.nodes, roTask (r3.tasks ++ [y1])] [1152, 1153] (.tup [.agg [ow 0 r3.tree.nodes.length, pI r3.tree.next, ow 1 (r3.tasks ++ [y1]).length, pI (w64 (r3.next + 1))], pI y1.id, pI 0])
   ·refine condM hm ?_ ?_
    ·intro h4 hm
     refine RD hnt (nn 4 []) [25] [] [] [(1024, bx [pI p0.next, pI p0.next, pI p1.group, pI p1.user])] trivial ?_
     exact joinDone ({ id := p0.next, process := p0.next, group := p1.group, user := p1.user } : Task) hm Conv.eqK
    ·intro h4 hm
     refine DW.skip ?_
     exact joinDone ({ id := p0.next, process := p1.process, group := p1.group, user := p1.user } : Task) hm Conv.t0

abbrev c49e1 : Nat × Obj := (1032, bx [ow 100000 0, pI 0, .p (.sl .nil 0 0 (fun _ => [])), pI 0])
abbrev c49e2 : Nat × Obj := (1032, bx [.p (.sl .nil 0 0 (fun _ => [])), pI 0, .p (.sl .nil 0 0 (fun _ => [])), pI 0])
abbrev c49e3 : Nat × Obj := (1032, bx [ow 100000 0, pI 0, ow 100001 0, pI 0])
theorem Clone_memberSpec (p0 : Hierarchy) (p1 : Int) (RES : Hierarchy × Int × Int) (hm : Clone_member p0 p1 = some RES) : Spec Tryz.prog 49 [.p (.agg (encHierarchy p0)), pI p1] [] (.tup [.agg [ow 0 RES.1.tree.nodes.length, pI RES.1.tree.next, ow 1 RES.1.tasks.length, pI RES.1.next], pI RES.2.1, pI RES.2.2]) [] [roNode RES.1.tree.nodes, roTask RES.1.tasks] := by
 unfold Clone_member at hm
 refine SO Tryz.func49 rfl rfl [(0, .p (.agg (encHierarchy p0))), (1, pI p1)] [] ?_
 intro cx hnt
 refine DW.seq (RK hnt (nn 4 []) [(1, pI p1), (2, rr 1016), (4, rr 1032)] [(1016, bx (pm (encHierarchy p0))), (c49e2)] trivial ?_)
 obtain ⟨r1, hr1, hm⟩ := bind_open hm
 refine DW.seq (DW.seq (RD hnt (.no :: .call 51 [] true (pB r1) [] [] :: .no :: []) [] [(11, pB (!r1))] [] [] (an (Check_memberSpec p0 r1 hr1) trivial) ?_))
 refine condM hm ?_ ?_
 ·intro h2 hm
  refine DW.seq (RD hnt (nn 4 []) [1, 2, 11] [(5, pI 0), (6, pI 1)] [1016] [] trivial ?_)
  refine DW.conv (τ := mkSt [(4, rr 1032), (5, pI 0), (6, pI 1)] [(c49e3), (100000, ob0 (roNode [])), (100001, ob0 (roTask []))]) (Conv.trans (τ := mkSt [(4, rr 1032), (5, pI 0), (6, pI 1)] [(c49e2)]) Conv.eqK (Conv.trans (τ := mkSt [(4, rr 1032), (5, pI 0), (6, pI 1)] ((100000, ⟨0, .row 6 0 (elems encNode dNode [])⟩) :: [(c49e1)])) (Conv.adopt 100000 6 (elems encNode dNode []) rfl rfl (.rfl _) (.box (.cons (.nil _ _) (.cons (.rfl _) (.cons (.rfl _) (.cons (.rfl _) (.rfl _))))) (.rfl _))) (Conv.trans (τ := mkSt [(4, rr 1032), (5, pI 0), (6, pI 1)] [(c49e1), (100000, ob0 (roNode []))]) Conv.t0 (Conv.trans (τ := mkSt [(4, rr 1032), (5, pI 0), (6, pI 1)] ((100001, ⟨0, .row 4 0 (elems encTask dTask [])⟩) :: [(c49e3), (100000, ob0 (roNode []))])) (Conv.adopt 100001 4 (elems encTask dTask []) rfl rfl (.rfl _) (.box (.cons (.rfl _) (.cons (.rfl _) (.cons (.nil _ _) (.cons (.rfl _) (.rfl _))))) (.keep (.rfl _)))) Conv.t0)))) ?_
  refine DW.ret ?_
  obtain rfl := Option.some.inj hm
  exact retK [roNode [], roTask []] [100000, 100001] (.tup [.agg [ow 0 0, pI 0, ow 1 0, pI 0], pI 0, pI 1])
 ·intro h2 hm
  refine DW.skip ?_
  obtain ⟨r3, hr3, hm⟩ := bind_open hm
  refine DW.seq (RD hnt (nn 2 (.call 104 [] true (.p (.tup [.agg (encTask r3.1), vb r3.2])) [] [] :: nn 6 [])) [1, 11] [(7, rr 1056), (8, pB r3.2)] [] [(1056, bx (pm (encTask r3.1)))] (an (Find_crewSpec p0 p1 r3 hr3) trivial) ?_)
  refine DW.seq (DW.seq (RD hnt (nn 2 []) [8] [(20, pB (!r3.2))] [] [] trivial ?_))
  refine condM hm ?_ ?_
  ·intro h4 hm
   refine DW.seq (RD hnt (nn 4 []) [2, 7, 20] [(5, pI 0), (6, pI 4)] [1016, 1056] [] trivial ?_)
   refine DW.conv (τ := mkSt [(4, rr 1032), (5, pI 0), (6, pI 4)] [(c49e3), (100000, ob0 (roNode [])), (100001, ob0 (roTask []))]) (Conv.trans (τ := mkSt [(4, rr 1032), (5, pI 0), (6, pI 4)] [(c49e2)]) Conv.eqK (Conv.trans (τ := mkSt [(4, rr 1032), (5, pI 0), (6, pI 4)] ((100000, ⟨0, .row 6 0 (elems encNode dNode [])⟩) :: [(c49e1)])) (Conv.adopt 100000 6 (elems encNode dNode []) rfl rfl (.rfl _) (.box (.cons (.nil _ _) (.cons (.rfl _) (.cons (.rfl _) (.cons (.rfl _) (.rfl _))))) (.rfl _))) (Conv.trans (τ := mkSt [(4, rr 1032), (5, pI 0), (6, pI 4)] [(c49e1), (100000, ob0 (roNode []))]) Conv.t0 (Conv.trans (τ := mkSt [(4, rr 1032), (5, pI 0), (6, pI 4)] ((100001, ⟨0, .row 4 0 (elems encTask dTask [])⟩) :: [(c49e3), (100000, ob0 (roNode []))])) (Conv.adopt 100001 4 (elems encTask dTask []) rfl rfl (.rfl _) (.box (.cons (.rfl _) (.cons (.rfl _) (.cons (.nil _ _) (.cons (.rfl _) (.rfl _))))) (.keep (.rfl _)))) Conv.t0)))) ?_
   refine DW.ret ?_
   obtain rfl := Option.some.inj hm
   exact retK [roNode [], roTask []] [100000, 100001] (.tup [.agg [ow 0 0, pI 0, ow 1 0, pI 0], pI 0, pI 4])
  ·intro h4 hm
   refine DW.skip ?_
   obtain ⟨r5, hr5, hm⟩ := bind_open hm
   refine DW.seq (RK hnt (nn 2 (.call 102 [] true (.tup [.agg [ow 0 r5.1.tree.nodes.length, pI r5.1.tree.next, ow 1 r5.1.tasks.length, pI r5.1.next], pI r5.2.1, pI r5.2.2]) [] [roNode r5.1.tree.nodes, roTask r5.1.tasks] :: nn 6 [])) [(4, rr 1032), (5, pI r5.2.1), (6, pI r5.2.2)] [(1032, bx [ow 1192 r5.1.tree.nodes.length, pI r5.1.tree.next, ow 1193 r5.1.tasks.length, pI r5.1.next]), (1192, ob0 (roNode r5.1.tree.nodes)), (1193, ob0 (roTask r5.1.tasks))] (an (add_memberSpec p0 r3.1 r5 hr5) trivial) ?_)
   refine DW.ret ?_
   obtain rfl := Option.some.inj hm
   exact retK [roNode r5.1.tree.nodes, roTask r5.1.tasks] [1192, 1193] (.tup [.agg [ow 0 r5.1.tree.nodes.length, pI r5.1.tree.next, ow 1 r5.1.tasks.length, pI r5.1.next], pI r5.2.1, pI r5.2.2])

theorem Find_forestSpec (p0 : Tree) (p1 : Int) (RES : Node × Bool) (hm : Find_forest p0 p1 = some RES) : Spec Tryz.prog 138 [.p (.agg (encTree p0)), pI p1] [] (.p (.tup [.agg (encNode RES.1), vb RES.2])) [] [] := by
 unfold Find_forest at hm
 refine SO Tryz.func138 rfl rfl [(0, .p (.agg (encTree p0))), (1, pI p1)] [] ?_
 intro cx hnt
 refine DW.seq (RK hnt (nn 3 []) [(1, pI p1), (2, rr 1016), (4, rr 1032)] [(1016, bx (pm (encTree p0))), (1032, bx [pI 0, pI 0, pS ByteArray.empty, pI 0, pI 0, pI 0])] trivial ?_)
 obtain ⟨r1, hr1, hm⟩ := bind_open hm
 refine DW.seq (RD hnt (nn 2 (.call 101 [] true (pI r1) [] [] :: .no :: [])) [1] [(6, pI r1)] [] [] (an (At_forestSpec p0 p1 r1 hr1) trivial) ?_)
 refine DW.seq (DW.seq (RD hnt (nn 2 []) [] [(11, pB (decide (r1 < 0)))] [] [] trivial ?_))
 refine condM hm ?_ ?_
 ·intro h2 hm
  refine DW.seq (RD hnt (nn 3 []) [2, 6, 11] [(5, pB false)] [1016] [] trivial ?_)
  refine DW.ret ?_
  obtain rfl := Option.some.inj hm
  exact retK [] [] (.p (.tup [.agg [vi 0, vi 0, vs ByteArray.empty, vi 0, vi 0, vi 0], vb false]))
 ·intro h2 hm
  refine DW.skip ?_
  obtain ⟨g3, hm⟩ := guard_open hm
  refine DW.seq (RK hnt (nn 7 []) [(4, rr 1032), (5, pB true)] [(1032, bx (pm (encNode (p0.nodes.getD (Int.toNat r1) dNode))))] (an g3.1 (an g3.2 trivial)) ?_)
  refine DW.ret ?_
  obtain rfl := Option.some.inj hm
  exact retK [] [] (.p (.tup [.agg (encNode (p0.nodes.getD (Int.toNat r1) dNode)), vb true]))

abbrev c85e1 (p0 : Tree) : Nat × MV := (10, pI ((p0.nodes.length : Nat) : Int))
abbrev c85e2 (p0 : Tree) : Nat × Obj := (1016, bx (pm (encTree p0)))
theorem Ancestors_forestSpec (p0 : Tree) (p1 : Int) (RES : List Int) (hm : Ancestors_forest p0 p1 = some RES) : Spec Tryz.prog 85 [.p (.agg (encTree p0)), pI p1] [] (ow 0 RES.length) [] [roI RES] := by
 unfold Ancestors_forest at hm
 refine SO Tryz.func85 rfl rfl [(0, .p (.agg (encTree p0))), (1, pI p1)] [] ?_
 intro cx hnt
 refine DW.seq (RK hnt (nn 2 []) [(1, pI p1), (2, rr 1016)] [(c85e2 p0)] trivial ?_)
 refine DW.seq (RD hnt (.no :: []) [] [(5, .p (.sl .nil 0 0 (fun _ => [])))] [] [] trivial ?_)
 refine DW.seq (DW.seq (RD hnt (nn 4 []) [] [(c85e1 p0), (11, pI 0)] [] [] trivial ?_))
 refine DW.join (ι := List Int) (fun (y1 : List Int) => mkSt [(5, ow 1192 y1.length)] [(1192, ob0 (roI y1))]) (fun y1 => Ancestors_forestJ1 y1 = some RES) ?_ ?_
 ·intro y1 hm
  unfold Ancestors_forestJ1 at hm
  refine DW.seq (RD hnt (nn 2 []) [5] [(4, ow 1192 y1.length)] [] [] trivial ?_)
  refine DW.ret ?_
  obtain rfl := Option.some.inj hm
  exact retK [roI y1] [1192] (ow 0 y1.length)
 ·refine DW.block ?_
  obtain ⟨hc1, hm⟩ := guard_open hm
  refine DW.rangeO (fun (k1 : Nat) (s1 : (List Int) × Int) => mkSt [(1, pI s1.2), (2, rr 1016), (5, ow 1192 s1.1.length), (c85e1 p0), (11, pI ((k1 : Nat) : Int))] [(c85e2 p0), (1192, ob0 (roI s1.1))]) dNode hm (Conv.trans (τ := mkSt [(1, pI p1), (2, rr 1016), (5, .p (.sl .nil 0 0 (fun _ => []))), (c85e1 p0), (11, pI 0)] [(c85e2 p0)]) Conv.eqK (Conv.trans (τ := mkSt [(1, pI p1), (2, rr 1016), (5, ow 1192 0), (c85e1 p0), (11, pI 0)] ((1192, ⟨0, .row 1 0 (elems encI 0 [])⟩) :: [(c85e2 p0)])) (Conv.adopt 1192 1 (elems encI 0 []) rfl rfl (.cons (.one (.rfl _)) (.cons (.one (.rfl _)) (.cons (.one (.nil _ _)) (.cons (.one (.rfl _)) (.cons (.one (.rfl _)) (.rfl _)))))) (.rfl _)) Conv.t0)) ?_
  intro k1 s1 n1 hk1 hs1 he1
  refine DW.seq (RD hnt (.no :: []) [] [(12, pB (decide (((k1 : Nat) : Int) < ((p0.nodes.length : Nat) : Int))))] [] [] trivial ?_)
  refine DW.seq (condK (decide (((k1 : Nat) : Int) < ((p0.nodes.length : Nat) : Int))) ?_ ?_)
  ·intro h8
   have hlt1 : k1 < p0.nodes.length := by have := of_decide_eq_true h8; omega
   have hm := hs1 hlt1
   unfold Ancestors_forestL1 at hm
   refine DW.skip ?_
   refine DW.seq (DW.block ?_)
   obtain ⟨r9, hr9, hm⟩ := bind_open hm
   refine DW.seq (RD hnt (nn 2 (.call 138 [] true (.p (.tup [.agg (encNode r9.1), vb r9.2])) [] [] :: nn 6 [])) [12] [(6, rr 1048), (7, pB r9.2)] [] [(1048, bx (pm (encNode r9.1)))] (an (Find_forestSpec p0 s1.2 r9 hr9) trivial) ?_)
   refine DW.seq (DW.seq (RD hnt (nn 2 []) [7] [(20, pB (!r9.2))] [] [] trivial ?_))
   refine condM hm ?_ ?_
   ·intro h10 hm
    refine DW.exit ?_
    refine blockQ_other (by decide) ?_
    refine KQ_exit ?_
    refine joinQ_exit ?_
    refine KQ_exit ?_
    exact blockQ_exit (joinKQ s1.1 hm Conv.t0)
   ·intro h10 hm
    refine DW.skip ?_
    obtain ⟨g11, hm⟩ := guard_open hm
    refine DW.seq (RN hnt (nn 5 []) [(2, rr 1016), (5, ow 1192 (s1.1 ++ [s1.2]).length), (6, rr 1048), (c85e1 p0), (11, pI ((k1 : Nat) : Int))] [(c85e2 p0), (1048, bx (pm (encNode r9.1))), (1192, ob0 (roI (s1.1 ++ [s1.2])))] [(5, ow 1192 (s1.1.length + 1))] [(1192, .row 1 (s1.1.length + 1) (catF s1.1.length (elI s1.1) (cut 1 [vi s1.2])))] (an (by omega : (s1.1.length + 1) * 8 ≤ 140737488355328) trivial) (by kernel_rfl) (.cons rfl (MLe.ownLen (enc := encI) (d := 0) (f := (catF s1.1.length (elI s1.1) (cut 1 [vi s1.2]))) (RowIs.cat RowIs.elems (RowIs.lit (enc := encI) (d := 0) (n := 1) (f := (cut 1 [vi s1.2])) [s1.2] rfl (fun | 0, _ => rfl | n + 1, h => absurd h (by omega))))) .nil) (.cons rfl (BLe.typed (RowIs.cat RowIs.elems (RowIs.lit (enc := encI) (d := 0) (n := 1) (f := (cut 1 [vi s1.2])) [s1.2] rfl (fun | 0, _ => rfl | n + 1, h => absurd h (by omega))))) .nil) ?_)
    refine RD hnt (nn 3 []) [6] [(1, pI r9.1.parent)] [1048] [] trivial ?_
    refine DW.done ?_
    show DW _ _ _ _ _
    refine RD hnt (nn 2 []) [] [(11, pI (w64 (((k1 : Nat) : Int) + 1)))] [] [] trivial ?_
    exact joinDone ((s1.1 ++ [s1.2]), r9.1.parent) ⟨hlt1, hm⟩ (Conv.tp [(11, pI (w64 (((k1 : Nat) : Int) + 1)))] [] (by kernel_rfl) (.cons rfl (.of_eq (congrArg pI (w64_succ hlt1 hc1))) .nil) .nil)
  ·intro h8
   have hge1 : ¬ k1 < p0.nodes.length := by have := of_decide_eq_false h8; omega
   have hm := he1 hge1
   unfold Ancestors_forestD1 at hm
   refine DW.exit ?_
   refine joinQ_exit ?_
   refine KQ_exit ?_
   exact blockQ_exit (joinKQ s1.1 hm Conv.t0)

theorem room_pidsSpec (p0 : Count) (RES : Int) (hm : room_pids p0 = some RES) : Spec Tryz.prog 87 [.p (.agg (encCount p0))] [] (pI RES) [] [] := by
 unfold room_pids at hm
 refine SO Tryz.func87 rfl rfl [(0, .p (.agg (encCount p0)))] [] ?_
 intro cx hnt
 refine DW.seq (RK hnt (nn 2 []) [(1, rr 1008)] [(1008, bx (pm (encCount p0)))] trivial ?_)
 refine DW.seq (RK hnt (nn 6 []) [(2, pI (w64 (p0.limit - p0.now)))] [] trivial ?_)
 refine DW.ret ?_
 obtain rfl := Option.some.inj hm
 exact retK [] [] (pI (w64 (p0.limit - p0.now)))

theorem least_pidsSpec (p0 : Hierarchy) (p1 : List Count) (p2 : Int) (RES : Int) (hm : least_pids p0 p1 p2 = some RES) : Spec Tryz.prog 90 [.p (.agg (encHierarchy p0)), .p (slCount p1), pI p2] [] (pI RES) [] [] := by
 unfold least_pids at hm
 refine SO Tryz.func90 rfl rfl [(0, .p (.agg (encHierarchy p0))), (1, .p (slCount p1)), (2, pI p2)] [] ?_
 intro cx hnt
 refine DW.seq (RD hnt (nn 2 []) [0] [(3, rr 1024)] [] [(1024, bx (pm (encHierarchy p0)))] trivial ?_)
 refine DW.seq (RD hnt (.no :: []) [] [(7, pI 128)] [] [] trivial ?_)
 obtain ⟨r1, hr1, hm⟩ := bind_open hm
 refine DW.seq (DW.seq (RD hnt (nn 3 (.call 85 [] true (ow 0 r1.length) [] [roI r1] :: nn 2 [])) [2, 3] [(13, ow 1104 r1.length), (14, pI ((r1.length : Nat) : Int)), (15, pI 0)] [1024] [(1104, ob0 (roI r1))] (an (Ancestors_forestSpec p0.tree p2 r1 hr1) trivial) ?_))
 refine DW.block ?_
 obtain ⟨hc1, hm⟩ := guard_open hm
 refine DW.rangeO (fun (k1 : Nat) (s1 : Int) => mkSt [(1, .p (slCount p1)), (7, pI s1), (13, ow 1104 r1.length), (14, pI ((r1.length : Nat) : Int)), (15, pI ((k1 : Nat) : Int))] [(1104, ob0 (roI r1))]) 0 hm Conv.eqK ?_
 intro k1 s1 n1 hk1 hs1 he1
 refine DW.seq (RD hnt (.no :: []) [] [(16, pB (decide (((k1 : Nat) : Int) < ((r1.length : Nat) : Int))))] [] [] trivial ?_)
 refine DW.seq (condK (decide (((k1 : Nat) : Int) < ((r1.length : Nat) : Int))) ?_ ?_)
 ·intro h14
  have hlt1 : k1 < r1.length := by have := of_decide_eq_true h14; omega
  have hm := hs1 hlt1
  unfold least_pidsL1 at hm
  refine DW.skip ?_
  refine DW.seq (DW.block ?_)
  refine DW.seq (RD hnt (nn 3 []) [16] [(9, pI (r1.getD k1 0))] [] [] (an (nn0 k1) (an (ltc hlt1) (an (by omega : k1 < r1.length) trivial))) ?_)
  obtain ⟨r15, hr15, hm⟩ := bind_open hm
  obtain ⟨g16, hm⟩ := guard_open hm
  obtain ⟨r17, hr17, hm⟩ := bind_open hm
  refine RD hnt (nn 4 (.call 86 [] true (pI r15) [] [] :: nn 2 (.call 87 [] true (pI r17) [] [] :: nn 2 []))) [9] [(7, pI (minI s1 r17))] [] [] (an (at_pidsSpec p1 (r1.getD k1 0) r15 hr15) (an g16.1 (an g16.2 (an (room_pidsSpec (p1.getD (Int.toNat r15) dCount) r17 hr17) trivial)))) ?_
  refine DW.done ?_
  show DW _ _ _ _ _
  refine RD hnt (nn 2 []) [] [(15, pI (w64 (((k1 : Nat) : Int) + 1)))] [] [] trivial ?_
  exact joinDone (minI s1 r17) ⟨hlt1, hm⟩ (Conv.tp [(15, pI (w64 (((k1 : Nat) : Int) + 1)))] [] (by kernel_rfl) (.cons rfl (.of_eq (congrArg pI (w64_succ hlt1 hc1))) .nil) .nil)
 ·intro h14
  have hge1 : ¬ k1 < r1.length := by have := of_decide_eq_false h14; omega
  have hm := he1 hge1
  unfold least_pidsD1 at hm
  refine DW.exit ?_
  refine joinQ_exit ?_
  refine KQ_exit ?_
  refine blockQ_exit ?_
  show DW _ _ _ _ _
  refine DW.seq (RK hnt (nn 3 []) [(6, pI (maxI s1 0))] [] trivial ?_)
  refine DW.ret ?_
  obtain rfl := Option.some.inj hm
  exact retK [] [] (pI (maxI s1 0))

abbrev c20e1 (r3 : List Count) (r30 : Int) := (r3.getD (Int.toNat r30) dCount)
theorem Refuse_pidsSpec (p0 : Hierarchy) (p1 : List Count) (p2 : Int) (p3 : Int) (RES : (List Count) × Int) (hm : Refuse_pids p0 p1 p2 p3 = some RES) : Spec Tryz.prog 20 [.p (.agg (encHierarchy p0)), .p (slCount p1), pI p2, pI p3] [] (.tup [ow 0 RES.1.length, pI RES.2]) [] [roCount RES.1] := by
 unfold Refuse_pids at hm
 refine SO Tryz.func20 rfl rfl [(0, .p (.agg (encHierarchy p0))), (1, .p (slCount p1)), (2, pI p2), (3, pI p3)] [] ?_
 intro cx hnt
 refine DW.seq (RD hnt (nn 3 []) [0] [(4, rr 1032)] [] [(1032, bx (pm (encHierarchy p0)))] trivial ?_)
 obtain ⟨r1, hr1, hm⟩ := bind_open hm
 refine DW.seq (DW.seq (RD hnt (nn 2 (.call 31 [] true (pB r1) [] [] :: .no :: [])) [] [(17, pB (!r1))] [] [] (an (Check_pidsSpec p0 p1 r1 hr1) trivial) ?_))
 refine condM hm ?_ ?_
 ·intro h2 hm
  refine DW.seq (RK hnt (nn 2 []) [(8, .p (.sl .nil 0 0 (fun _ => []))), (9, pI 0)] [] trivial ?_)
  refine DW.conv (τ := mkSt [(8, ow 100000 0), (9, pI 0)] [(100000, ob0 (roCount []))]) (Conv.trans (τ := mkSt [(8, ow 100000 0), (9, pI 0)] ((100000, ⟨0, .row 5 0 (elems encCount dCount [])⟩) :: [])) (Conv.adopt 100000 5 (elems encCount dCount []) rfl rfl (.cons (.one (.nil _ _)) (.cons (.one (.rfl _)) (.rfl _))) (.rfl _)) Conv.t0) ?_
  refine DW.ret ?_
  obtain rfl := Option.some.inj hm
  exact retK [roCount []] [100000] (.tup [ow 0 0, pI 0])
 ·intro h2 hm
  refine DW.skip ?_
  obtain ⟨r3, hr3, hm⟩ := bind_open hm
  refine DW.seq (RD hnt (.no :: .call 84 [] true (ow 0 r3.length) [] [roCount r3] :: .no :: []) [1, 17] [(10, ow 1152 r3.length)] [] [(1152, ob0 (roCount r3))] (an (Clone_slices_CountSpec p1 r3 hr3) trivial) ?_)
  obtain ⟨r4, hr4, hm⟩ := bind_open hm
  refine DW.seq (DW.seq (RD hnt (nn 3 (.call 85 [] true (ow 0 r4.length) [] [roI r4] :: nn 2 [])) [2, 4] [(23, ow 1184 r4.length), (24, pI ((r4.length : Nat) : Int)), (25, pI 0)] [1032] [(1184, ob0 (roI r4))] (an (Ancestors_forestSpec p0.tree p2 r4 hr4) trivial) ?_))
  refine DW.block ?_
  obtain ⟨hc1, hm⟩ := guard_open hm
  refine DW.rangeO (fun (k1 : Nat) (s1 : Unit) => mkSt [(3, pI p3), (10, ow 1152 r3.length), (23, ow 1184 r4.length), (24, pI ((r4.length : Nat) : Int)), (25, pI ((k1 : Nat) : Int))] [(1152, ob0 (roCount r3)), (1184, ob0 (roI r4))]) 0 hm Conv.eqK ?_
  intro k1 s1 n1 hk1 hs1 he1
  refine DW.seq (RD hnt (.no :: []) [] [(26, pB (decide (((k1 : Nat) : Int) < ((r4.length : Nat) : Int))))] [] [] trivial ?_)
  refine DW.seq (condK (decide (((k1 : Nat) : Int) < ((r4.length : Nat) : Int))) ?_ ?_)
  ·intro h29
   have hlt1 : k1 < r4.length := by have := of_decide_eq_true h29; omega
   have hm := hs1 hlt1
   unfold Refuse_pidsL1 at hm
   refine DW.skip ?_
   refine DW.seq (DW.block ?_)
   refine DW.seq (RD hnt (nn 3 []) [26] [(12, pI (r4.getD k1 0))] [] [] (an (nn0 k1) (an (ltc hlt1) (an (by omega : k1 < r4.length) trivial))) ?_)
   obtain ⟨r30, hr30, hm⟩ := bind_open hm
   refine DW.seq (RD hnt (nn 2 (.call 86 [] true (pI r30) [] [] :: .no :: [])) [] [(13, pI r30)] [] [] (an (at_pidsSpec r3 (r4.getD k1 0) r30 hr30) trivial) ?_)
   obtain ⟨g31, g32, hm⟩ := go2 hm
   obtain ⟨r33, hr33, hm⟩ := bind_open hm
   refine DW.seq (RD hnt (nn 4 (.call 87 [] true (pI r33) [] [] :: nn 2 [])) [] [(38, pB (decide (r33 < p3)))] [] [] (an g31.1 (an g31.2 (an g32 (an (room_pidsSpec (c20e1 r3 r30) r33 hr33) trivial)))) ?_)
   refine condM hm ?_ ?_
   ·intro h34 hm
    obtain ⟨g35, g36, g37, g38, hm⟩ := go4 hm
    refine DW.seq (RN hnt (nn 12 []) [(10, ow 1152 (r3.set (Int.toNat r30) ({ group := (c20e1 r3 r30).group, now := (c20e1 r3 r30).now, limit := (c20e1 r3 r30).limit, peak := (c20e1 r3 r30).peak, events := (minI (w64 ((c20e1 r3 r30).events + 1)) 1099511627776) } : Count)).length), (12, pI (r4.getD k1 0))] [(1152, ob0 (roCount (r3.set (Int.toNat r30) ({ group := (c20e1 r3 r30).group, now := (c20e1 r3 r30).now, limit := (c20e1 r3 r30).limit, peak := (c20e1 r3 r30).peak, events := (minI (w64 ((c20e1 r3 r30).events + 1)) 1099511627776) } : Count))))] [(10, ow 1152 r3.length)] [(1152, .row 5 r3.length (updF (elCount r3) (Int.toNat r30) [vi (c20e1 r3 r30).group, vi (c20e1 r3 r30).now, vi (c20e1 r3 r30).limit, vi (c20e1 r3 r30).peak, vi (minI (w64 ((c20e1 r3 r30).events + 1)) 1099511627776)]))] (an g35.1 (an g35.2 (an g36 (an g37.1 (an g37.2 (an g38 trivial)))))) (by kernel_rfl) (.cons rfl (MLe.ownLen (enc := encCount) (d := dCount) (f := (updF (elCount r3) (Int.toNat r30) [vi (c20e1 r3 r30).group, vi (c20e1 r3 r30).now, vi (c20e1 r3 r30).limit, vi (c20e1 r3 r30).peak, vi (minI (w64 ((c20e1 r3 r30).events + 1)) 1099511627776)])) (RowIs.upd RowIs.elems ({ group := (c20e1 r3 r30).group, now := (c20e1 r3 r30).now, limit := (c20e1 r3 r30).limit, peak := (c20e1 r3 r30).peak, events := (minI (w64 ((c20e1 r3 r30).events + 1)) 1099511627776) } : Count) rfl)) .nil) (.cons rfl (BLe.typed (RowIs.upd RowIs.elems ({ group := (c20e1 r3 r30).group, now := (c20e1 r3 r30).now, limit := (c20e1 r3 r30).limit, peak := (c20e1 r3 r30).peak, events := (minI (w64 ((c20e1 r3 r30).events + 1)) 1099511627776) } : Count) rfl)) .nil) ?_)
    refine DW.seq (RD hnt (nn 4 []) [10, 12] [(8, ow 1152 (r3.set (Int.toNat r30) ({ group := (c20e1 r3 r30).group, now := (c20e1 r3 r30).now, limit := (c20e1 r3 r30).limit, peak := (c20e1 r3 r30).peak, events := (minI (w64 ((c20e1 r3 r30).events + 1)) 1099511627776) } : Count)).length), (9, pI (r4.getD k1 0))] [] [] trivial ?_)
    refine DW.ret ?_
    obtain rfl := Option.some.inj hm
    exact retK [roCount (r3.set (Int.toNat r30) ({ group := (c20e1 r3 r30).group, now := (c20e1 r3 r30).now, limit := (c20e1 r3 r30).limit, peak := (c20e1 r3 r30).peak, events := (minI (w64 ((c20e1 r3 r30).events + 1)) 1099511627776) } : Count))] [1152] (.tup [ow 0 (r3.set (Int.toNat r30) ({ group := (c20e1 r3 r30).group, now := (c20e1 r3 r30).now, limit := (c20e1 r3 r30).limit, peak := (c20e1 r3 r30).peak, events := (minI (w64 ((c20e1 r3 r30).events + 1)) 1099511627776) } : Count)).length, pI (r4.getD k1 0)])
   ·intro h34 hm
    refine DW.skip ?_
    refine DW.done ?_
    show DW _ _ _ _ _
    refine RD hnt (nn 2 []) [12, 13, 38] [(25, pI (w64 (((k1 : Nat) : Int) + 1)))] [] [] trivial ?_
    exact joinDone () ⟨hlt1, hm⟩ (Conv.tp [(25, pI (w64 (((k1 : Nat) : Int) + 1)))] [] (by kernel_rfl) (.cons rfl (.of_eq (congrArg pI (w64_succ hlt1 hc1))) .nil) .nil)
  ·intro h29
   have hge1 : ¬ k1 < r4.length := by have := of_decide_eq_false h29; omega
   have hm := he1 hge1
   unfold Refuse_pidsD1 at hm
   refine DW.exit ?_
   refine joinQ_exit ?_
   refine KQ_exit ?_
   refine blockQ_exit ?_
   show DW _ _ _ _ _
   refine DW.seq (RK hnt (nn 3 []) [(8, ow 1152 r3.length), (9, pI 0)] [(1152, ob0 (roCount r3))] trivial ?_)
   refine DW.ret ?_
   obtain rfl := Option.some.inj hm
   exact retK [roCount r3] [1152] (.tup [ow 0 r3.length, pI 0])

theorem charged_pidsSpec (p0 : Hierarchy) (p1 : List Count) (p2 : Int) (p3 : Int) (RES : List Count) (hm : charged_pids p0 p1 p2 p3 = some RES) : Spec Tryz.prog 92 [.p (.agg (encHierarchy p0)), .p (slCount p1), pI p2, pI p3] [] (ow 0 RES.length) [] [roCount RES] := by
 unfold charged_pids at hm
 refine SO Tryz.func92 rfl rfl [(0, .p (.agg (encHierarchy p0))), (1, .p (slCount p1)), (2, pI p2), (3, pI p3)] [] ?_
 intro cx hnt
 refine DW.seq (RD hnt (nn 2 []) [0] [(4, rr 1032)] [] [(1032, bx (pm (encHierarchy p0)))] trivial ?_)
 obtain ⟨r1, hr1, hm⟩ := bind_open hm
 refine DW.seq (RD hnt (.no :: .call 84 [] true (ow 0 r1.length) [] [roCount r1] :: .no :: []) [1] [(9, ow 1112 r1.length)] [] [(1112, ob0 (roCount r1))] (an (Clone_slices_CountSpec p1 r1 hr1) trivial) ?_)
 obtain ⟨r2, hr2, hm⟩ := bind_open hm
 refine DW.seq (DW.seq (RD hnt (nn 3 (.call 85 [] true (ow 0 r2.length) [] [roI r2] :: nn 2 [])) [2, 4] [(18, ow 1144 r2.length), (19, pI ((r2.length : Nat) : Int)), (20, pI 0)] [1032] [(1144, ob0 (roI r2))] (an (Ancestors_forestSpec p0.tree p2 r2 hr2) trivial) ?_))
 refine DW.block ?_
 obtain ⟨hc1, hm⟩ := guard_open hm
 refine DW.rangeO (fun (k1 : Nat) (s1 : List Count) => mkSt [(3, pI p3), (9, ow 1112 s1.length), (18, ow 1144 r2.length), (19, pI ((r2.length : Nat) : Int)), (20, pI ((k1 : Nat) : Int))] [(1112, ob0 (roCount s1)), (1144, ob0 (roI r2))]) 0 hm Conv.eqK ?_
 intro k1 s1 n1 hk1 hs1 he1
 refine DW.seq (RD hnt (.no :: []) [] [(21, pB (decide (((k1 : Nat) : Int) < ((r2.length : Nat) : Int))))] [] [] trivial ?_)
 refine DW.seq (condK (decide (((k1 : Nat) : Int) < ((r2.length : Nat) : Int))) ?_ ?_)
 ·intro h23
  have hlt1 : k1 < r2.length := by have := of_decide_eq_true h23; omega
  have hm := hs1 hlt1
  unfold charged_pidsL1 at hm
  refine DW.skip ?_
  refine DW.seq (DW.block ?_)
  refine DW.seq (RD hnt (nn 3 []) [21] [(11, pI (r2.getD k1 0))] [] [] (an (nn0 k1) (an (ltc hlt1) (an (by omega : k1 < r2.length) trivial))) ?_)
  obtain ⟨r24, hr24, hm⟩ := bind_open hm
  obtain ⟨g25, hm⟩ := guard_open hm
  refine DW.seq (RD hnt (nn 3 (.call 86 [] true (pI r24) [] [] :: nn 2 [])) [11] [(12, .eref 1112 0 (Int.toNat r24) 0)] [] [] (an (at_pidsSpec s1 (r2.getD k1 0) r24 hr24) (an g25.1 (an g25.2 trivial))) ?_)
  obtain ⟨g26, g27, hm⟩ := go2 hm
  refine DW.seq (RN hnt (nn 9 []) [(3, pI p3), (9, ow 1112 (s1.set (Int.toNat r24) ({ group := (s1.getD (Int.toNat r24) dCount).group, now := (w64 ((s1.getD (Int.toNat r24) dCount).now + p3)), limit := (s1.getD (Int.toNat r24) dCount).limit, peak := (s1.getD (Int.toNat r24) dCount).peak, events := (s1.getD (Int.toNat r24) dCount).events } : Count)).length), (12, .eref 1112 0 (Int.toNat r24) 0), (18, ow 1144 r2.length), (19, pI ((r2.length : Nat) : Int)), (20, pI ((k1 : Nat) : Int))] [(1112, ob0 (roCount (s1.set (Int.toNat r24) ({ group := (s1.getD (Int.toNat r24) dCount).group, now := (w64 ((s1.getD (Int.toNat r24) dCount).now + p3)), limit := (s1.getD (Int.toNat r24) dCount).limit, peak := (s1.getD (Int.toNat r24) dCount).peak, events := (s1.getD (Int.toNat r24) dCount).events } : Count)))), (1144, ob0 (roI r2))] [(9, ow 1112 s1.length)] [(1112, .row 5 s1.length (updF (elCount s1) (Int.toNat r24) [vi (s1.getD (Int.toNat r24) dCount).group, vi (w64 ((s1.getD (Int.toNat r24) dCount).now + p3)), vi (s1.getD (Int.toNat r24) dCount).limit, vi (s1.getD (Int.toNat r24) dCount).peak, vi (s1.getD (Int.toNat r24) dCount).events]))] (an g26 (an g27 trivial)) (by kernel_rfl) (.cons rfl (MLe.ownLen (enc := encCount) (d := dCount) (f := (updF (elCount s1) (Int.toNat r24) [vi (s1.getD (Int.toNat r24) dCount).group, vi (w64 ((s1.getD (Int.toNat r24) dCount).now + p3)), vi (s1.getD (Int.toNat r24) dCount).limit, vi (s1.getD (Int.toNat r24) dCount).peak, vi (s1.getD (Int.toNat r24) dCount).events])) (RowIs.upd RowIs.elems ({ group := (s1.getD (Int.toNat r24) dCount).group, now := (w64 ((s1.getD (Int.toNat r24) dCount).now + p3)), limit := (s1.getD (Int.toNat r24) dCount).limit, peak := (s1.getD (Int.toNat r24) dCount).peak, events := (s1.getD (Int.toNat r24) dCount).events } : Count) rfl)) .nil) (.cons rfl (BLe.typed (RowIs.upd RowIs.elems ({ group := (s1.getD (Int.toNat r24) dCount).group, now := (w64 ((s1.getD (Int.toNat r24) dCount).now + p3)), limit := (s1.getD (Int.toNat r24) dCount).limit, peak := (s1.getD (Int.toNat r24) dCount).peak, events := (s1.getD (Int.toNat r24) dCount).events } : Count) rfl)) .nil) ?_)
  obtain ⟨g28, g29, g30, hm⟩ := go3 hm
  refine RN hnt (nn 13 []) [(3, pI p3), (9, ow 1112 ((s1.set (Int.toNat r24) ({ group := (s1.getD (Int.toNat r24) dCount).group, now := (w64 ((s1.getD (Int.toNat r24) dCount).now + p3)), limit := (s1.getD (Int.toNat r24) dCount).limit, peak := (s1.getD (Int.toNat r24) dCount).peak, events := (s1.getD (Int.toNat r24) dCount).events } : Count)).set (Int.toNat r24) ({ group := ((s1.set (Int.toNat r24) ({ group := (s1.getD (Int.toNat r24) dCount).group, now := (w64 ((s1.getD (Int.toNat r24) dCount).now + p3)), limit := (s1.getD (Int.toNat r24) dCount).limit, peak := (s1.getD (Int.toNat r24) dCount).peak, events := (s1.getD (Int.toNat r24) dCount).events } : Count)).getD (Int.toNat r24) dCount).group, now := ((s1.set (Int.toNat r24) ({ group := (s1.getD (Int.toNat r24) dCount).group, now := (w64 ((s1.getD (Int.toNat r24) dCount).now + p3)), limit := (s1.getD (Int.toNat r24) dCount).limit, peak := (s1.getD (Int.toNat r24) dCount).peak, events := (s1.getD (Int.toNat r24) dCount).events } : Count)).getD (Int.toNat r24) dCount).now, limit := ((s1.set (Int.toNat r24) ({ group := (s1.getD (Int.toNat r24) dCount).group, now := (w64 ((s1.getD (Int.toNat r24) dCount).now + p3)), limit := (s1.getD (Int.toNat r24) dCount).limit, peak := (s1.getD (Int.toNat r24) dCount).peak, events := (s1.getD (Int.toNat r24) dCount).events } : Count)).getD (Int.toNat r24) dCount).limit, peak := (maxI ((s1.set (Int.toNat r24) ({ group := (s1.getD (Int.toNat r24) dCount).group, now := (w64 ((s1.getD (Int.toNat r24) dCount).now + p3)), limit := (s1.getD (Int.toNat r24) dCount).limit, peak := (s1.getD (Int.toNat r24) dCount).peak, events := (s1.getD (Int.toNat r24) dCount).events } : Count)).getD (Int.toNat r24) dCount).peak ((s1.set (Int.toNat r24) ({ group := (s1.getD (Int.toNat r24) dCount).group, now := (w64 ((s1.getD (Int.toNat r24) dCount).now + p3)), limit := (s1.getD (Int.toNat r24) dCount).limit, peak := (s1.getD (Int.toNat r24) dCount).peak, events := (s1.getD (Int.toNat r24) dCount).events } : Count)).getD (Int.toNat r24) dCount).now), events := ((s1.set (Int.toNat r24) ({ group := (s1.getD (Int.toNat r24) dCount).group, now := (w64 ((s1.getD (Int.toNat r24) dCount).now + p3)), limit := (s1.getD (Int.toNat r24) dCount).limit, peak := (s1.getD (Int.toNat r24) dCount).peak, events := (s1.getD (Int.toNat r24) dCount).events } : Count)).getD (Int.toNat r24) dCount).events } : Count)).length), (18, ow 1144 r2.length), (19, pI ((r2.length : Nat) : Int)), (20, pI ((k1 : Nat) : Int))] [(1112, ob0 (roCount ((s1.set (Int.toNat r24) ({ group := (s1.getD (Int.toNat r24) dCount).group, now := (w64 ((s1.getD (Int.toNat r24) dCount).now + p3)), limit := (s1.getD (Int.toNat r24) dCount).limit, peak := (s1.getD (Int.toNat r24) dCount).peak, events := (s1.getD (Int.toNat r24) dCount).events } : Count)).set (Int.toNat r24) ({ group := ((s1.set (Int.toNat r24) ({ group := (s1.getD (Int.toNat r24) dCount).group, now := (w64 ((s1.getD (Int.toNat r24) dCount).now + p3)), limit := (s1.getD (Int.toNat r24) dCount).limit, peak := (s1.getD (Int.toNat r24) dCount).peak, events := (s1.getD (Int.toNat r24) dCount).events } : Count)).getD (Int.toNat r24) dCount).group, now := ((s1.set (Int.toNat r24) ({ group := (s1.getD (Int.toNat r24) dCount).group, now := (w64 ((s1.getD (Int.toNat r24) dCount).now + p3)), limit := (s1.getD (Int.toNat r24) dCount).limit, peak := (s1.getD (Int.toNat r24) dCount).peak, events := (s1.getD (Int.toNat r24) dCount).events } : Count)).getD (Int.toNat r24) dCount).now, limit := ((s1.set (Int.toNat r24) ({ group := (s1.getD (Int.toNat r24) dCount).group, now := (w64 ((s1.getD (Int.toNat r24) dCount).now + p3)), limit := (s1.getD (Int.toNat r24) dCount).limit, peak := (s1.getD (Int.toNat r24) dCount).peak, events := (s1.getD (Int.toNat r24) dCount).events } : Count)).getD (Int.toNat r24) dCount).limit, peak := (maxI ((s1.set (Int.toNat r24) ({ group := (s1.getD (Int.toNat r24) dCount).group, now := (w64 ((s1.getD (Int.toNat r24) dCount).now + p3)), limit := (s1.getD (Int.toNat r24) dCount).limit, peak := (s1.getD (Int.toNat r24) dCount).peak, events := (s1.getD (Int.toNat r24) dCount).events } : Count)).getD (Int.toNat r24) dCount).peak ((s1.set (Int.toNat r24) ({ group := (s1.getD (Int.toNat r24) dCount).group, now := (w64 ((s1.getD (Int.toNat r24) dCount).now + p3)), limit := (s1.getD (Int.toNat r24) dCount).limit, peak := (s1.getD (Int.toNat r24) dCount).peak, events := (s1.getD (Int.toNat r24) dCount).events } : Count)).getD (Int.toNat r24) dCount).now), events := ((s1.set (Int.toNat r24) ({ group := (s1.getD (Int.toNat r24) dCount).group, now := (w64 ((s1.getD (Int.toNat r24) dCount).now + p3)), limit := (s1.getD (Int.toNat r24) dCount).limit, peak := (s1.getD (Int.toNat r24) dCount).peak, events := (s1.getD (Int.toNat r24) dCount).events } : Count)).getD (Int.toNat r24) dCount).events } : Count)))), (1144, ob0 (roI r2))] [(9, ow 1112 (s1.set (Int.toNat r24) ({ group := (s1.getD (Int.toNat r24) dCount).group, now := (w64 ((s1.getD (Int.toNat r24) dCount).now + p3)), limit := (s1.getD (Int.toNat r24) dCount).limit, peak := (s1.getD (Int.toNat r24) dCount).peak, events := (s1.getD (Int.toNat r24) dCount).events } : Count)).length)] [(1112, .row 5 (s1.set (Int.toNat r24) ({ group := (s1.getD (Int.toNat r24) dCount).group, now := (w64 ((s1.getD (Int.toNat r24) dCount).now + p3)), limit := (s1.getD (Int.toNat r24) dCount).limit, peak := (s1.getD (Int.toNat r24) dCount).peak, events := (s1.getD (Int.toNat r24) dCount).events } : Count)).length (updF (elCount (s1.set (Int.toNat r24) ({ group := (s1.getD (Int.toNat r24) dCount).group, now := (w64 ((s1.getD (Int.toNat r24) dCount).now + p3)), limit := (s1.getD (Int.toNat r24) dCount).limit, peak := (s1.getD (Int.toNat r24) dCount).peak, events := (s1.getD (Int.toNat r24) dCount).events } : Count))) (Int.toNat r24) [vi ((s1.set (Int.toNat r24) ({ group := (s1.getD (Int.toNat r24) dCount).group, now := (w64 ((s1.getD (Int.toNat r24) dCount).now + p3)), limit := (s1.getD (Int.toNat r24) dCount).limit, peak := (s1.getD (Int.toNat r24) dCount).peak, events := (s1.getD (Int.toNat r24) dCount).events } : Count)).getD (Int.toNat r24) dCount).group, vi ((s1.set (Int.toNat r24) ({ group := (s1.getD (Int.toNat r24) dCount).group, now := (w64 ((s1.getD (Int.toNat r24) dCount).now + p3)), limit := (s1.getD (Int.toNat r24) dCount).limit, peak := (s1.getD (Int.toNat r24) dCount).peak, events := (s1.getD (Int.toNat r24) dCount).events } : Count)).getD (Int.toNat r24) dCount).now, vi ((s1.set (Int.toNat r24) ({ group := (s1.getD (Int.toNat r24) dCount).group, now := (w64 ((s1.getD (Int.toNat r24) dCount).now + p3)), limit := (s1.getD (Int.toNat r24) dCount).limit, peak := (s1.getD (Int.toNat r24) dCount).peak, events := (s1.getD (Int.toNat r24) dCount).events } : Count)).getD (Int.toNat r24) dCount).limit, vi (maxI ((s1.set (Int.toNat r24) ({ group := (s1.getD (Int.toNat r24) dCount).group, now := (w64 ((s1.getD (Int.toNat r24) dCount).now + p3)), limit := (s1.getD (Int.toNat r24) dCount).limit, peak := (s1.getD (Int.toNat r24) dCount).peak, events := (s1.getD (Int.toNat r24) dCount).events } : Count)).getD (Int.toNat r24) dCount).peak ((s1.set (Int.toNat r24) ({ group := (s1.getD (Int.toNat r24) dCount).group, now := (w64 ((s1.getD (Int.toNat r24) dCount).now + p3)), limit := (s1.getD (Int.toNat r24) dCount).limit, peak := (s1.getD (Int.toNat r24) dCount).peak, events := (s1.getD (Int.toNat r24) dCount).events } : Count)).getD (Int.toNat r24) dCount).now), vi ((s1.set (Int.toNat r24) ({ group := (s1.getD (Int.toNat r24) dCount).group, now := (w64 ((s1.getD (Int.toNat r24) dCount).now + p3)), limit := (s1.getD (Int.toNat r24) dCount).limit, peak := (s1.getD (Int.toNat r24) dCount).peak, events := (s1.getD (Int.toNat r24) dCount).events } : Count)).getD (Int.toNat r24) dCount).events]))] (an g28 (an g29 (an g30 trivial))) (by kernel_rfl) (.cons rfl (MLe.ownLen (enc := encCount) (d := dCount) (f := (updF (elCount (s1.set (Int.toNat r24) ({ group := (s1.getD (Int.toNat r24) dCount).group, now := (w64 ((s1.getD (Int.toNat r24) dCount).now + p3)), limit := (s1.getD (Int.toNat r24) dCount).limit, peak := (s1.getD (Int.toNat r24) dCount).peak, events := (s1.getD (Int.toNat r24) dCount).events } : Count))) (Int.toNat r24) [vi ((s1.set (Int.toNat r24) ({ group := (s1.getD (Int.toNat r24) dCount).group, now := (w64 ((s1.getD (Int.toNat r24) dCount).now + p3)), limit := (s1.getD (Int.toNat r24) dCount).limit, peak := (s1.getD (Int.toNat r24) dCount).peak, events := (s1.getD (Int.toNat r24) dCount).events } : Count)).getD (Int.toNat r24) dCount).group, vi ((s1.set (Int.toNat r24) ({ group := (s1.getD (Int.toNat r24) dCount).group, now := (w64 ((s1.getD (Int.toNat r24) dCount).now + p3)), limit := (s1.getD (Int.toNat r24) dCount).limit, peak := (s1.getD (Int.toNat r24) dCount).peak, events := (s1.getD (Int.toNat r24) dCount).events } : Count)).getD (Int.toNat r24) dCount).now, vi ((s1.set (Int.toNat r24) ({ group := (s1.getD (Int.toNat r24) dCount).group, now := (w64 ((s1.getD (Int.toNat r24) dCount).now + p3)), limit := (s1.getD (Int.toNat r24) dCount).limit, peak := (s1.getD (Int.toNat r24) dCount).peak, events := (s1.getD (Int.toNat r24) dCount).events } : Count)).getD (Int.toNat r24) dCount).limit, vi (maxI ((s1.set (Int.toNat r24) ({ group := (s1.getD (Int.toNat r24) dCount).group, now := (w64 ((s1.getD (Int.toNat r24) dCount).now + p3)), limit := (s1.getD (Int.toNat r24) dCount).limit, peak := (s1.getD (Int.toNat r24) dCount).peak, events := (s1.getD (Int.toNat r24) dCount).events } : Count)).getD (Int.toNat r24) dCount).peak ((s1.set (Int.toNat r24) ({ group := (s1.getD (Int.toNat r24) dCount).group, now := (w64 ((s1.getD (Int.toNat r24) dCount).now + p3)), limit := (s1.getD (Int.toNat r24) dCount).limit, peak := (s1.getD (Int.toNat r24) dCount).peak, events := (s1.getD (Int.toNat r24) dCount).events } : Count)).getD (Int.toNat r24) dCount).now), vi ((s1.set (Int.toNat r24) ({ group := (s1.getD (Int.toNat r24) dCount).group, now := (w64 ((s1.getD (Int.toNat r24) dCount).now + p3)), limit := (s1.getD (Int.toNat r24) dCount).limit, peak := (s1.getD (Int.toNat r24) dCount).peak, events := (s1.getD (Int.toNat r24) dCount).events } : Count)).getD (Int.toNat r24) dCount).events])) (RowIs.upd RowIs.elems ({ group := ((s1.set (Int.toNat r24) ({ group := (s1.getD (Int.toNat r24) dCount).group, now := (w64 ((s1.getD (Int.toNat r24) dCount).now + p3)), limit := (s1.getD (Int.toNat r24) dCount).limit, peak := (s1.getD (Int.toNat r24) dCount).peak, events := (s1.getD (Int.toNat r24) dCount).events } : Count)).getD (Int.toNat r24) dCount).group, now := ((s1.set (Int.toNat r24) ({ group := (s1.getD (Int.toNat r24) dCount).group, now := (w64 ((s1.getD (Int.toNat r24) dCount).now + p3)), limit := (s1.getD (Int.toNat r24) dCount).limit, peak := (s1.getD (Int.toNat r24) dCount).peak, events := (s1.getD (Int.toNat r24) dCount).events } : Count)).getD (Int.toNat r24) dCount).now, limit := ((s1.set (Int.toNat r24) ({ group := (s1.getD (Int.toNat r24) dCount).group, now := (w64 ((s1.getD (Int.toNat r24) dCount).now + p3)), limit := (s1.getD (Int.toNat r24) dCount).limit, peak := (s1.getD (Int.toNat r24) dCount).peak, events := (s1.getD (Int.toNat r24) dCount).events } : Count)).getD (Int.toNat r24) dCount).limit, peak := (maxI ((s1.set (Int.toNat r24) ({ group := (s1.getD (Int.toNat r24) dCount).group, now := (w64 ((s1.getD (Int.toNat r24) dCount).now + p3)), limit := (s1.getD (Int.toNat r24) dCount).limit, peak := (s1.getD (Int.toNat r24) dCount).peak, events := (s1.getD (Int.toNat r24) dCount).events } : Count)).getD (Int.toNat r24) dCount).peak ((s1.set (Int.toNat r24) ({ group := (s1.getD (Int.toNat r24) dCount).group, now := (w64 ((s1.getD (Int.toNat r24) dCount).now + p3)), limit := (s1.getD (Int.toNat r24) dCount).limit, peak := (s1.getD (Int.toNat r24) dCount).peak, events := (s1.getD (Int.toNat r24) dCount).events } : Count)).getD (Int.toNat r24) dCount).now), events := ((s1.set (Int.toNat r24) ({ group := (s1.getD (Int.toNat r24) dCount).group, now := (w64 ((s1.getD (Int.toNat r24) dCount).now + p3)), limit := (s1.getD (Int.toNat r24) dCount).limit, peak := (s1.getD (Int.toNat r24) dCount).peak, events := (s1.getD (Int.toNat r24) dCount).events } : Count)).getD (Int.toNat r24) dCount).events } : Count) rfl)) .nil) (.cons rfl (BLe.typed (RowIs.upd RowIs.elems ({ group := ((s1.set (Int.toNat r24) ({ group := (s1.getD (Int.toNat r24) dCount).group, now := (w64 ((s1.getD (Int.toNat r24) dCount).now + p3)), limit := (s1.getD (Int.toNat r24) dCount).limit, peak := (s1.getD (Int.toNat r24) dCount).peak, events := (s1.getD (Int.toNat r24) dCount).events } : Count)).getD (Int.toNat r24) dCount).group, now := ((s1.set (Int.toNat r24) ({ group := (s1.getD (Int.toNat r24) dCount).group, now := (w64 ((s1.getD (Int.toNat r24) dCount).now + p3)), limit := (s1.getD (Int.toNat r24) dCount).limit, peak := (s1.getD (Int.toNat r24) dCount).peak, events := (s1.getD (Int.toNat r24) dCount).events } : Count)).getD (Int.toNat r24) dCount).now, limit := ((s1.set (Int.toNat r24) ({ group := (s1.getD (Int.toNat r24) dCount).group, now := (w64 ((s1.getD (Int.toNat r24) dCount).now + p3)), limit := (s1.getD (Int.toNat r24) dCount).limit, peak := (s1.getD (Int.toNat r24) dCount).peak, events := (s1.getD (Int.toNat r24) dCount).events } : Count)).getD (Int.toNat r24) dCount).limit, peak := (maxI ((s1.set (Int.toNat r24) ({ group := (s1.getD (Int.toNat r24) dCount).group, now := (w64 ((s1.getD (Int.toNat r24) dCount).now + p3)), limit := (s1.getD (Int.toNat r24) dCount).limit, peak := (s1.getD (Int.toNat r24) dCount).peak, events := (s1.getD (Int.toNat r24) dCount).events } : Count)).getD (Int.toNat r24) dCount).peak ((s1.set (Int.toNat r24) ({ group := (s1.getD (Int.toNat r24) dCount).group, now := (w64 ((s1.getD (Int.toNat r24) dCount).now + p3)), limit := (s1.getD (Int.toNat r24) dCount).limit, peak := (s1.getD (Int.toNat r24) dCount).peak, events := (s1.getD (Int.toNat r24) dCount).events } : Count)).getD (Int.toNat r24) dCount).now), events := ((s1.set (Int.toNat r24) ({ group := (s1.getD (Int.toNat r24) dCount).group, now := (w64 ((s1.getD (Int.toNat r24) dCount).now + p3)), limit := (s1.getD (Int.toNat r24) dCount).limit, peak := (s1.getD (Int.toNat r24) dCount).peak, events := (s1.getD (Int.toNat r24) dCount).events } : Count)).getD (Int.toNat r24) dCount).events } : Count) rfl)) .nil) ?_
  refine DW.done ?_
  show DW _ _ _ _ _
  refine RD hnt (nn 2 []) [] [(20, pI (w64 (((k1 : Nat) : Int) + 1)))] [] [] trivial ?_
  exact joinDone ((s1.set (Int.toNat r24) ({ group := (s1.getD (Int.toNat r24) dCount).group, now := (w64 ((s1.getD (Int.toNat r24) dCount).now + p3)), limit := (s1.getD (Int.toNat r24) dCount).limit, peak := (s1.getD (Int.toNat r24) dCount).peak, events := (s1.getD (Int.toNat r24) dCount).events } : Count)).set (Int.toNat r24) ({ group := ((s1.set (Int.toNat r24) ({ group := (s1.getD (Int.toNat r24) dCount).group, now := (w64 ((s1.getD (Int.toNat r24) dCount).now + p3)), limit := (s1.getD (Int.toNat r24) dCount).limit, peak := (s1.getD (Int.toNat r24) dCount).peak, events := (s1.getD (Int.toNat r24) dCount).events } : Count)).getD (Int.toNat r24) dCount).group, now := ((s1.set (Int.toNat r24) ({ group := (s1.getD (Int.toNat r24) dCount).group, now := (w64 ((s1.getD (Int.toNat r24) dCount).now + p3)), limit := (s1.getD (Int.toNat r24) dCount).limit, peak := (s1.getD (Int.toNat r24) dCount).peak, events := (s1.getD (Int.toNat r24) dCount).events } : Count)).getD (Int.toNat r24) dCount).now, limit := ((s1.set (Int.toNat r24) ({ group := (s1.getD (Int.toNat r24) dCount).group, now := (w64 ((s1.getD (Int.toNat r24) dCount).now + p3)), limit := (s1.getD (Int.toNat r24) dCount).limit, peak := (s1.getD (Int.toNat r24) dCount).peak, events := (s1.getD (Int.toNat r24) dCount).events } : Count)).getD (Int.toNat r24) dCount).limit, peak := (maxI ((s1.set (Int.toNat r24) ({ group := (s1.getD (Int.toNat r24) dCount).group, now := (w64 ((s1.getD (Int.toNat r24) dCount).now + p3)), limit := (s1.getD (Int.toNat r24) dCount).limit, peak := (s1.getD (Int.toNat r24) dCount).peak, events := (s1.getD (Int.toNat r24) dCount).events } : Count)).getD (Int.toNat r24) dCount).peak ((s1.set (Int.toNat r24) ({ group := (s1.getD (Int.toNat r24) dCount).group, now := (w64 ((s1.getD (Int.toNat r24) dCount).now + p3)), limit := (s1.getD (Int.toNat r24) dCount).limit, peak := (s1.getD (Int.toNat r24) dCount).peak, events := (s1.getD (Int.toNat r24) dCount).events } : Count)).getD (Int.toNat r24) dCount).now), events := ((s1.set (Int.toNat r24) ({ group := (s1.getD (Int.toNat r24) dCount).group, now := (w64 ((s1.getD (Int.toNat r24) dCount).now + p3)), limit := (s1.getD (Int.toNat r24) dCount).limit, peak := (s1.getD (Int.toNat r24) dCount).peak, events := (s1.getD (Int.toNat r24) dCount).events } : Count)).getD (Int.toNat r24) dCount).events } : Count)) ⟨hlt1, hm⟩ (Conv.tp [(20, pI (w64 (((k1 : Nat) : Int) + 1)))] [] (by kernel_rfl) (.cons rfl (.of_eq (congrArg pI (w64_succ hlt1 hc1))) .nil) .nil)
 ·intro h23
  have hge1 : ¬ k1 < r2.length := by have := of_decide_eq_false h23; omega
  have hm := he1 hge1
  unfold charged_pidsD1 at hm
  refine DW.exit ?_
  refine joinQ_exit ?_
  refine KQ_exit ?_
  refine blockQ_exit ?_
  show DW _ _ _ _ _
  refine DW.seq (RK hnt (nn 2 []) [(8, ow 1112 s1.length)] [(1112, ob0 (roCount s1))] trivial ?_)
  refine DW.ret ?_
  obtain rfl := Option.some.inj hm
  exact retK [roCount s1] [1112] (ow 0 s1.length)

theorem grown_pidsSpec (p0 : Hierarchy) (p1 : Hierarchy) (p2 : List Count) (p3 : Int) (p4 : Int) (p5 : Int) (RES : Hierarchy × (List Count) × Int × Int) (hm : grown_pids p0 p1 p2 p3 p4 p5 = some RES) : Spec Tryz.prog 127 [.p (.agg (encHierarchy p0)), .p (.agg (encHierarchy p1)), .p (slCount p2), pI p3, pI p4, pI p5] [] (.tup [.p (.agg (encHierarchy RES.1)), ow 0 RES.2.1.length, pI RES.2.2.1, pI RES.2.2.2]) [] [roCount RES.2.1] := by
 unfold grown_pids at hm
 refine SO Tryz.func127 rfl rfl [(0, .p (.agg (encHierarchy p0))), (1, .p (.agg (encHierarchy p1))), (2, .p (slCount p2)), (3, pI p3), (4, pI p4), (5, pI p5)] [] ?_
 intro cx hnt
 refine DW.seq (RD hnt (nn 6 []) [0, 1] [(6, rr 1048), (7, rr 1056), (12, rr 1096)] [] [(1048, bx (pm (encHierarchy p0))), (1056, bx (pm (encHierarchy p1))), (1096, bx [.p (.sl .nil 0 0 (fun _ => [])), pI 0, .p (.sl .nil 0 0 (fun _ => [])), pI 0])] trivial ?_)
 refine DW.seq (DW.seq (RD hnt (nn 2 []) [] [(19, pB (p5 != 0))] [] [] trivial ?_))
 refine condM hm ?_ ?_
 ·intro h1 hm
  obtain ⟨r2, hr2, hm⟩ := bind_open hm
  refine DW.seq (RK hnt (.no :: .call 125 [] true (.tup [.agg [ow 0 r2.1.tree.nodes.length, pI r2.1.tree.next, ow 1 r2.1.tasks.length, pI r2.1.next], ow 2 r2.2.1.length, pI r2.2.2.1, pI r2.2.2.2]) [] [roNode r2.1.tree.nodes, roTask r2.1.tasks, roCount r2.2.1] :: nn 8 []) [(12, rr 1096), (13, ow 1170 r2.2.1.length), (14, pI r2.2.2.1), (15, pI r2.2.2.2)] [(1096, bx [ow 1168 r2.1.tree.nodes.length, pI r2.1.tree.next, ow 1169 r2.1.tasks.length, pI r2.1.next]), (1168, ob0 (roNode r2.1.tree.nodes)), (1169, ob0 (roTask r2.1.tasks)), (1170, ob0 (roCount r2.2.1))] (an (refuse_pidsSpec p5 r2 hr2) trivial) ?_)
  refine DW.ret ?_
  obtain rfl := Option.some.inj hm
  exact retK [roCount r2.2.1] [1170] (.tup [.p (.agg (encHierarchy r2.1)), ow 0 r2.2.1.length, pI r2.2.2.1, pI r2.2.2.2])
 ·intro h1 hm
  refine DW.skip ?_
  obtain ⟨r3, hr3, hm⟩ := bind_open hm
  refine DW.seq (DW.seq (RD hnt (nn 3 (.call 90 [] true (pI r3) [] [] :: .no :: [])) [5, 19] [(30, pB (decide (r3 < 1)))] [] [] (an (least_pidsSpec p0 p2 p3 r3 hr3) trivial) ?_))
  refine condM hm ?_ ?_
  ·intro h4 hm
   obtain ⟨r5, hr5, hm⟩ := bind_open hm
   refine DW.seq (RD hnt (nn 3 (.call 20 [] true (.tup [ow 0 r5.1.length, pI r5.2]) [] [roCount r5.1] :: nn 5 [])) [2, 3, 4, 6, 7, 30] [(16, ow 1280 r5.1.length)] [1048, 1056] [(1280, ob0 (roCount r5.1))] (an (Refuse_pidsSpec p0 p2 p3 1 r5 hr5) trivial) ?_)
   refine DW.seq (RD hnt (nn 6 []) [16] [(13, ow 1280 r5.1.length), (14, pI 0), (15, pI 11)] [] [] trivial ?_)
   refine DW.conv (τ := mkSt [(12, rr 1096), (13, ow 1280 r5.1.length), (14, pI 0), (15, pI 11)] [(1096, bx [.p (slNode []), pI 0, .p (slTask []), pI 0]), (1280, ob0 (roCount r5.1))]) (Conv.tp [] [(1096, .box [.p (.sl .nil 0 0 (fun _ => [])), pI 0, .p (.sl .nil 0 0 (fun _ => [])), pI 0])] (by kernel_rfl) .nil (.cons rfl (.box (.cons MLe.nilL (.cons .rfl (.cons MLe.nilL (.cons .rfl .nil))))) .nil)) ?_
   refine DW.ret ?_
   obtain rfl := Option.some.inj hm
   exact retK [roCount r5.1] [1280] (.tup [.p (.agg [slNode [], vi 0, slTask [], vi 0]), ow 0 r5.1.length, pI 0, pI 11])
  ·intro h4 hm
   refine DW.skip ?_
   obtain ⟨r6, hr6, hm⟩ := bind_open hm
   refine DW.seq (RK hnt (nn 4 (.call 92 [] true (ow 0 r6.length) [] [roCount r6] :: nn 5 [])) [(12, rr 1096), (13, ow 1352 r6.length), (14, pI p4), (15, pI 0)] [(1096, bx (pm (encHierarchy p1))), (1352, ob0 (roCount r6))] (an (charged_pidsSpec p0 p2 p3 1 r6 hr6) trivial) ?_)
   refine DW.ret ?_
   obtain rfl := Option.some.inj hm
   exact retK [roCount r6] [1352] (.tup [.p (.agg (encHierarchy p1)), ow 0 r6.length, pI p4, pI 0])

abbrev c75e1 : Nat × Obj := (1048, bx [.p (.sl .nil 0 0 (fun _ => [])), pI 0, .p (.sl .nil 0 0 (fun _ => [])), pI 0])
theorem Clone_pidsSpec (p0 : Hierarchy) (p1 : List Count) (p2 : Int) (RES : Hierarchy × (List Count) × Int × Int) (hm : Clone_pids p0 p1 p2 = some RES) : Spec Tryz.prog 75 [.p (.agg (encHierarchy p0)), .p (slCount p1), pI p2] [] (.tup [.p (.agg (encHierarchy RES.1)), ow 0 RES.2.1.length, pI RES.2.2.1, pI RES.2.2.2]) [] [roCount RES.2.1] := by
 unfold Clone_pids at hm
 refine SO Tryz.func75 rfl rfl [(0, .p (.agg (encHierarchy p0))), (1, .p (slCount p1)), (2, pI p2)] [] ?_
 intro cx hnt
 refine DW.seq (RD hnt (nn 5 []) [0] [(3, rr 1024), (6, rr 1048)] [] [(1024, bx (pm (encHierarchy p0))), (c75e1)] trivial ?_)
 obtain ⟨r1, hr1, hm⟩ := bind_open hm
 refine DW.seq (DW.seq (RD hnt (nn 2 (.call 31 [] true (pB r1) [] [] :: .no :: [])) [] [(18, pB (!r1))] [] [] (an (Check_pidsSpec p0 p1 r1 hr1) trivial) ?_))
 refine condM hm ?_ ?_
 ·intro h2 hm
  obtain ⟨r3, hr3, hm⟩ := bind_open hm
  refine DW.seq (RK hnt (.call 125 [] true (.tup [.agg [ow 0 r3.1.tree.nodes.length, pI r3.1.tree.next, ow 1 r3.1.tasks.length, pI r3.1.next], ow 2 r3.2.1.length, pI r3.2.2.1, pI r3.2.2.2]) [] [roNode r3.1.tree.nodes, roTask r3.1.tasks, roCount r3.2.1] :: nn 8 []) [(6, rr 1048), (7, ow 1154 r3.2.1.length), (8, pI r3.2.2.1), (9, pI r3.2.2.2)] [(1048, bx [ow 1152 r3.1.tree.nodes.length, pI r3.1.tree.next, ow 1153 r3.1.tasks.length, pI r3.1.next]), (1152, ob0 (roNode r3.1.tree.nodes)), (1153, ob0 (roTask r3.1.tasks)), (1154, ob0 (roCount r3.2.1))] (an (refuse_pidsSpec 1 r3 hr3) trivial) ?_)
  refine DW.ret ?_
  obtain rfl := Option.some.inj hm
  exact retK [roCount r3.2.1] [1154] (.tup [.p (.agg (encHierarchy r3.1)), ow 0 r3.2.1.length, pI r3.2.2.1, pI r3.2.2.2])
 ·intro h2 hm
  refine DW.skip ?_
  obtain ⟨r4, hr4, hm⟩ := bind_open hm
  refine DW.seq (RD hnt (nn 2 (.call 104 [] true (.p (.tup [.agg (encTask r4.1), vb r4.2])) [] [] :: nn 6 [])) [18] [(10, rr 1080)] [] [(1080, bx (pm (encTask r4.1)))] (an (Find_crewSpec p0 p2 r4 hr4) trivial) ?_)
  obtain ⟨r5, hr5, hm⟩ := bind_open hm
  refine DW.seq (RD hnt (nn 2 (.call 49 [] true (.tup [.agg [ow 0 r5.1.tree.nodes.length, pI r5.1.tree.next, ow 1 r5.1.tasks.length, pI r5.1.next], pI r5.2.1, pI r5.2.2]) [] [roNode r5.1.tree.nodes, roTask r5.1.tasks] :: nn 8 [])) [2] [(12, rr 1096), (13, pI r5.2.1), (14, pI r5.2.2)] [] [(1096, bx [ow 1264 r5.1.tree.nodes.length, pI r5.1.tree.next, ow 1265 r5.1.tasks.length, pI r5.1.next]), (1264, ob0 (roNode r5.1.tree.nodes)), (1265, ob0 (roTask r5.1.tasks))] (an (Clone_memberSpec p0 p2 r5 hr5) trivial) ?_)
  refine DW.seq (DW.conv (τ := mkSt [(1, .p (slCount p1)), (3, rr 1024), (6, rr 1048), (10, rr 1080), (12, rr 1096), (13, pI r5.2.1), (14, pI r5.2.2)] [(1024, bx (pm (encHierarchy p0))), (c75e1), (1080, bx (pm (encTask r4.1))), (1096, bx [.p (slNode r5.1.tree.nodes), pI r5.1.tree.next, ow 1265 r5.1.tasks.length, pI r5.1.next]), (1265, ob0 (roTask r5.1.tasks))]) (Conv.freezes [1264] (by kernel_rfl)) ?_)
  refine DW.conv (τ := mkSt [(1, .p (slCount p1)), (3, rr 1024), (6, rr 1048), (10, rr 1080), (12, rr 1096), (13, pI r5.2.1), (14, pI r5.2.2)] [(1024, bx (pm (encHierarchy p0))), (c75e1), (1080, bx (pm (encTask r4.1))), (1096, bx (pm (encHierarchy r5.1)))]) (Conv.freezes [1265] (by kernel_rfl)) ?_
  obtain ⟨r8, hr8, hm⟩ := bind_open hm
  refine RK hnt (nn 7 (.call 127 [] true (.tup [.p (.agg (encHierarchy r8.1)), ow 0 r8.2.1.length, pI r8.2.2.1, pI r8.2.2.2]) [] [roCount r8.2.1] :: nn 8 [])) [(6, rr 1048), (7, ow 1352 r8.2.1.length), (8, pI r8.2.2.1), (9, pI r8.2.2.2)] [(1048, bx (pm (encHierarchy r8.1))), (1352, ob0 (roCount r8.2.1))] (an (grown_pidsSpec p0 r5.1 p1 r4.1.group r5.2.1 r5.2.2 r8 hr8) trivial) ?_
  refine DW.ret ?_
  obtain rfl := Option.some.inj hm
  exact retK [roCount r8.2.1] [1352] (.tup [.p (.agg (encHierarchy r8.1)), ow 0 r8.2.1.length, pI r8.2.2.1, pI r8.2.2.2])

theorem sane_law10Spec (RES : Bool) (hm : sane_law10 = some RES) : Spec Tryz.prog 15 [] [] (pB RES) [] [] := by
 unfold sane_law10 at hm
 refine SO Tryz.func15 rfl rfl [] [] ?_
 intro cx hnt
 refine DW.seq (RK hnt (.no :: []) [] [] trivial ?_)
 obtain ⟨r1, hr1, hm⟩ := bind_open hm
 obtain ⟨r2, hr2, hm⟩ := bind_open hm
 refine DW.seq (RK hnt (.call 64 [] true (.agg [ow 0 r1.tree.nodes.length, pI r1.tree.next, ow 1 r1.tasks.length, pI r1.next]) [] [roNode r1.tree.nodes, roTask r1.tasks] :: .call 79 [] false (.tup [.agg [ow 0 r2.1.tree.nodes.length, pI r2.1.tree.next, ow 1 r2.1.tasks.length, pI r2.1.next], pI r2.2.1, pI r2.2.2]) [] [roNode r2.1.tree.nodes, roTask r2.1.tasks] :: nn 8 []) [(1, rr 1008), (2, pI r2.2.1)] [(1008, bx [ow 1136 r2.1.tree.nodes.length, pI r2.1.tree.next, ow 1137 r2.1.tasks.length, pI r2.1.next]), (1136, ob0 (roNode r2.1.tree.nodes)), (1137, ob0 (roTask r2.1.tasks))] (an (New_ref6Spec r1 hr1) (an (Create_ref8Spec r1 1 (bs [97]) r2 hr2) trivial)) ?_)
 refine DW.seq (DW.conv (τ := mkSt [(1, rr 1008), (2, pI r2.2.1)] [(1008, bx [.p (slNode r2.1.tree.nodes), pI r2.1.tree.next, ow 1137 r2.1.tasks.length, pI r2.1.next]), (1137, ob0 (roTask r2.1.tasks))]) (Conv.freezes [1136] (by kernel_rfl)) ?_)
 refine DW.conv (τ := mkSt [(1, rr 1008), (2, pI r2.2.1)] [(1008, bx (pm (encHierarchy r2.1)))]) (Conv.freezes [1137] (by kernel_rfl)) ?_
 obtain ⟨r5, hr5, hm⟩ := bind_open hm
 refine RD hnt (nn 2 (.call 79 [] true (.tup [.agg [ow 0 r5.1.tree.nodes.length, pI r5.1.tree.next, ow 1 r5.1.tasks.length, pI r5.1.next], pI r5.2.1, pI r5.2.2]) [] [roNode r5.1.tree.nodes, roTask r5.1.tasks] :: nn 7 [])) [] [(4, pI r5.2.1)] [] [(1008, bx [ow 1192 r5.1.tree.nodes.length, pI r5.1.tree.next, ow 1193 r5.1.tasks.length, pI r5.1.next]), (1192, ob0 (roNode r5.1.tree.nodes)), (1193, ob0 (roTask r5.1.tasks))] (an (Create_ref8Spec r2.1 r2.2.1 (bs [98]) r5 hr5) trivial) ?_
 refine DW.seq (DW.conv (τ := mkSt [(1, rr 1008), (2, pI r2.2.1), (4, pI r5.2.1)] [(1008, bx [.p (slNode r5.1.tree.nodes), pI r5.1.tree.next, ow 1193 r5.1.tasks.length, pI r5.1.next]), (1193, ob0 (roTask r5.1.tasks))]) (Conv.freezes [1192] (by kernel_rfl)) ?_)
 refine DW.conv (τ := mkSt [(1, rr 1008), (2, pI r2.2.1), (4, pI r5.2.1)] [(1008, bx (pm (encHierarchy r5.1)))]) (Conv.freezes [1193] (by kernel_rfl)) ?_
 obtain ⟨r8, hr8, hm⟩ := bind_open hm
 refine RD hnt (nn 2 (.call 66 [] true (.tup [.agg [ow 0 r8.1.tree.nodes.length, pI r8.1.tree.next, ow 1 r8.1.tasks.length, pI r8.1.next], pI r8.2.1, pI r8.2.2]) [] [roNode r8.1.tree.nodes, roTask r8.1.tasks] :: nn 7 [])) [4] [(6, pI r8.2.1)] [] [(1008, bx [ow 1248 r8.1.tree.nodes.length, pI r8.1.tree.next, ow 1249 r8.1.tasks.length, pI r8.1.next]), (1248, ob0 (roNode r8.1.tree.nodes)), (1249, ob0 (roTask r8.1.tasks))] (an (Spawn_ref6Spec r5.1 r5.2.1 0 r8 hr8) trivial) ?_
 refine DW.seq (DW.conv (τ := mkSt [(1, rr 1008), (2, pI r2.2.1), (6, pI r8.2.1)] [(1008, bx [.p (slNode r8.1.tree.nodes), pI r8.1.tree.next, ow 1249 r8.1.tasks.length, pI r8.1.next]), (1249, ob0 (roTask r8.1.tasks))]) (Conv.freezes [1248] (by kernel_rfl)) ?_)
 refine DW.conv (τ := mkSt [(1, rr 1008), (2, pI r2.2.1), (6, pI r8.2.1)] [(1008, bx (pm (encHierarchy r8.1)))]) (Conv.freezes [1249] (by kernel_rfl)) ?_
 obtain ⟨r11, hr11, hm⟩ := bind_open hm
 obtain ⟨r12, hr12, hm⟩ := bind_open hm
 refine RD hnt (nn 2 (.call 28 [] true (ow 0 r11.length) [] [roCount r11] :: .no :: .call 34 [] false (.tup [ow 0 r12.1.length, pI r12.2]) [] [roCount r12.1] :: nn 5 [])) [] [(8, ow 1320 r12.1.length), (9, pI r12.2)] [] [(1320, ob0 (roCount r12.1))] (an (New_pidsSpec r8.1 r11 hr11) (an (Limit_pidsSpec r8.1 r11 r2.2.1 1 r12 hr12) trivial)) ?_
 refine DW.seq (DW.conv (τ := mkSt [(1, rr 1008), (2, pI r2.2.1), (6, pI r8.2.1), (8, .p (slCount r12.1)), (9, pI r12.2)] [(1008, bx (pm (encHierarchy r8.1)))]) (Conv.freezes [1320] (by kernel_rfl)) ?_)
 obtain ⟨r14, hr14, hm⟩ := bind_open hm
 refine RD hnt (nn 3 (.call 75 [] true (.tup [.p (.agg (encHierarchy r14.1)), ow 0 r14.2.1.length, pI r14.2.2.1, pI r14.2.2.2]) [] [roCount r14.2.1] :: nn 10 [])) [1, 6] [(8, ow 1376 r14.2.1.length), (12, pI r14.2.2.2)] [1008] [(1376, ob0 (roCount r14.2.1))] (an (Clone_pidsSpec r8.1 r12.1 r8.2.1 r14 hr14) trivial) ?_
 obtain ⟨r15, hr15, hm⟩ := bind_open hm
 refine DW.seq (RD hnt (nn 2 (.call 24 [] true (.p (.tup [.agg (encCount r15.1), vb r15.2])) [] [] :: nn 6 [])) [2, 8] [(13, rr 1104), (14, pB r15.2)] [1376] [(1104, bx (pm (encCount r15.1)))] (an (Get_pidsSpec r14.2.1 r2.2.1 r15 hr15) trivial) ?_)
 refine DW.seq (DW.regJ (sl2 := [(0, pB (((((r12.2 == 0) && (r14.2.2.2 == 11)) && r15.2) && (r15.1.events == 1)) && (r15.1.now == 1)))]) (ob2 := []) ?_ ?_)
 ·rcases bt (r12.2 == 0) with h16 | h16
  ·rcases bt (r14.2.2.2 == 11) with h17 | h17
   ·rcases bt r15.2 with h18 | h18
    ·rcases bt (r15.1.events == 1) with h19 | h19
     ·exact RT hnt (nn 5 (pT :: nn 2 (pT :: nn 4 (pT :: nn 4 (pT :: .no :: []))))) [(0, pB (r15.1.now == 1))] (an3 h16 (an2 h17 (an4 h18 (an4 h19 trivial)))) (by kernel_rfl) (.cons rfl (.of_eq (by rw [h16, h17, h18, h19]; try rfl)) .nil)
     ·exact RT hnt (nn 5 (pT :: nn 2 (pT :: nn 4 (pT :: .no :: sk 3 (pF :: .no :: []))))) [(0, pB false)] (an3 h16 (an2 h17 (an4 h18 (an4 h19 trivial)))) (by kernel_rfl) (.cons rfl (.of_eq (by rw [h16, h17, h18, h19]; try rfl)) .nil)
    ·exact RT hnt (nn 5 (pT :: nn 2 (pT :: .no :: sk 3 (pF :: .no :: sk 3 (pF :: .no :: []))))) [(0, pB false)] (an3 h16 (an2 h17 (an4 h18 (an4 ff trivial)))) (by kernel_rfl) (.cons rfl (.of_eq (by rw [h16, h17, h18]; try rfl)) .nil)
   ·exact RT hnt (nn 5 (pT :: .no :: .skip :: pF :: .no :: sk 3 (pF :: .no :: sk 3 (pF :: .no :: [])))) [(0, pB false)] (an3 h16 (an2 h17 (an2 ff (an6 ff trivial)))) (by kernel_rfl) (.cons rfl (.of_eq (by rw [h16, h17]; try rfl)) .nil)
  ·exact RT hnt (nn 3 (sk 2 (pF :: .no :: .skip :: pF :: .no :: sk 3 (pF :: .no :: sk 3 (pF :: .no :: []))))) [(0, pB false)] (an3 h16 (an4 ff (an6 ff trivial))) (by kernel_rfl) (.cons rfl (.of_eq (by rw [h16]; try rfl)) .nil)
 ·refine DW.ret ?_
  obtain rfl := Option.some.inj hm
  exact retK [] [] (pB (((((r12.2 == 0) && (r14.2.2.2 == 11)) && r15.2) && (r15.1.events == 1)) && (r15.1.now == 1)))

theorem Roll_madeSpec (p0 : List Int) (RES : Dice) (hm : Roll_made p0 = some RES) : Spec Tryz.prog 16 [.p (slI p0)] [] (rr 0) [] [.box (pm (encDice RES))] := by
 unfold Roll_made at hm
 refine SO Tryz.func16 rfl rfl [(0, .p (slI p0))] [] ?_
 intro cx hnt
 refine DW.seq (RK hnt (.no :: []) [(0, .p (slI p0))] [] trivial ?_)
 refine DW.seq (RK hnt (nn 4 []) [(2, rr 1040)] [(1040, bx [.p (slI p0), pI 0])] trivial ?_)
 refine DW.ret ?_
 obtain rfl := Option.some.inj hm
 exact retK [.box [.p (slI p0), pI 0]] [1040] (rr 0)

theorem Next_Dice_madeSpec (p0 : Dice) (p1 : Int) (RES : Int × Dice) (hm : Next_Dice_made p0 p1 = some RES) : Spec Tryz.prog 19 [rr 0, pI p1] [.box (pm (encDice p0))] (pI RES.1) [.box (pm (encDice RES.2))] [] := by
 unfold Next_Dice_made at hm
 refine SO Tryz.func19 rfl rfl [(0, rr 0), (1, pI p1)] [(0, bx (pm (encDice p0)))] ?_
 intro cx hnt
 refine DW.seq (RD hnt (.no :: []) [] [] [] [] trivial ?_)
 refine DW.seq (DW.seq (DW.regJ (sl2 := [(0, rr 0), (1, pI p1), (19, pB ((decide (p0.atF ≥ ((p0.l.length : Nat) : Int))) || (decide (p1 < 1))))]) (ob2 := [(0, bx (pm (encDice p0)))]) ?_ ?_))
 ·rcases bt (decide (p0.atF ≥ ((p0.l.length : Nat) : Int))) with h1 | h1
  ·exact RT hnt (nn 11 (sk 2 (pT :: []))) [(19, pB true)] (an3 h1 trivial) (by kernel_rfl) (.cons rfl (.of_eq (by rw [h1]; try rfl)) .nil)
  ·exact RT hnt (nn 13 (pF :: [])) [(19, pB (decide (p1 < 1)))] (an3 h1 trivial) (by kernel_rfl) (.cons rfl (.of_eq (by rw [h1]; try rfl)) .nil)
 ·refine condM hm ?_ ?_
  ·intro h2 hm
   refine DW.seq (RD hnt (.no :: []) [0, 1, 19] [(4, pI 0)] [] [] trivial ?_)
   refine DW.ret ?_
   obtain rfl := Option.some.inj hm
   exact retK [.box (pm (encDice p0))] [] (pI 0)
  ·intro h2 hm
   refine DW.skip ?_
   refine DW.seq (RD hnt (nn 8 []) [19] [] [] [(0, bx [.p (slI p0.l), pI (w64 (p0.atF + 1))])] trivial ?_)
   obtain ⟨g3, g4, hm⟩ := go2 hm
   refine DW.seq (RD hnt (nn 14 []) [0] [(5, pI (Int.tmod (p0.l.getD (Int.toNat (w64 ((w64 (p0.atF + 1)) - 1))) 0) p1))] [] [] (an g3.1 (an g3.2 (an g4 trivial))) ?_)
   refine DW.seq (DW.seq (RD hnt (nn 2 []) [] [(41, pB (decide ((Int.tmod (p0.l.getD (Int.toNat (w64 ((w64 (p0.atF + 1)) - 1))) 0) p1) < 0)))] [] [] trivial ?_))
   refine DW.join (ι := Int) (fun (y1 : Int) => mkSt [(5, pI y1)] [(0, bx [.p (slI p0.l), pI (w64 (p0.atF + 1))])]) (fun y1 => (Next_Dice_madeJ1 p0) y1 = some RES) ?_ ?_
   ·intro y1 hm
    unfold Next_Dice_madeJ1 at hm
    refine DW.seq (RD hnt (nn 2 []) [5] [(4, pI y1)] [] [] trivial ?_)
    refine DW.ret ?_
    obtain rfl := Option.some.inj hm
    exact retK [.box [.p (slI p0.l), pI (w64 (p0.atF + 1))]] [] (pI y1)
   ·refine condM hm ?_ ?_
    ·intro h5 hm
     refine RD hnt (nn 4 []) [1, 41] [(5, pI (w64 ((Int.tmod (p0.l.getD (Int.toNat (w64 ((w64 (p0.atF + 1)) - 1))) 0) p1) + p1)))] [] [] trivial ?_
     exact joinDone (w64 ((Int.tmod (p0.l.getD (Int.toNat (w64 ((w64 (p0.atF + 1)) - 1))) 0) p1) + p1)) hm Conv.eqK
    ·intro h5 hm
     refine DW.skip ?_
     exact joinDone (Int.tmod (p0.l.getD (Int.toNat (w64 ((w64 (p0.atF + 1)) - 1))) 0) p1) hm Conv.t0

theorem Name_Dice_madeSpec (p0 : Dice) (RES : ByteArray × Dice) (hm : Name_Dice_made p0 = some RES) : Spec Tryz.prog 132 [rr 0] [.box (pm (encDice p0))] (pS RES.1) [.box (pm (encDice RES.2))] [] := by
 unfold Name_Dice_made at hm
 refine SO Tryz.func132 rfl rfl [(0, rr 0)] [(0, bx (pm (encDice p0)))] ?_
 intro cx hnt
 refine DW.seq (RD hnt (.no :: []) [] [] [] [] trivial ?_)
 obtain ⟨r3, hr3, hm⟩ := bind_open hm
 obtain ⟨g4, g5, hm⟩ := go2 hm
 refine DW.seq (RK hnt (.asR (ow 1024 [(bs [97]), (bs [98]), (bs [99]), (bs [119, 101, 98]), (bs [100, 98, 45, 49]), (bs [88, 95, 57])].length) [(bs [97]), (bs [98]), (bs [99]), (bs [119, 101, 98]), (bs [100, 98, 45, 49]), (bs [88, 95, 57])].length (elems encS ByteArray.empty [(bs [97]), (bs [98]), (bs [99]), (bs [119, 101, 98]), (bs [100, 98, 45, 49]), (bs [88, 95, 57])]) :: .no :: .call 19 [0] true (pI r3.1) [.box (pm (encDice r3.2))] [] :: nn 3 []) [(2, pS ([(bs [97]), (bs [98]), (bs [99]), (bs [119, 101, 98]), (bs [100, 98, 45, 49]), (bs [88, 95, 57])].getD (Int.toNat r3.1) ByteArray.empty))] [(0, bx (pm (encDice r3.2)))] (an (congrArg (MV.own 1024 0 0) (RowIs.asP (enc := encS) (d := ByteArray.empty) (L := [(bs [97]), (bs [98]), (bs [99]), (bs [119, 101, 98]), (bs [100, 98, 45, 49]), (bs [88, 95, 57])]) (RowIs.lit (enc := encS) (d := ByteArray.empty) (n := 6) (f := (cut 1 [vs (bs [97]), vs (bs [98]), vs (bs [99]), vs (bs [119, 101, 98]), vs (bs [100, 98, 45, 49]), vs (bs [88, 95, 57])])) [(bs [97]), (bs [98]), (bs [99]), (bs [119, 101, 98]), (bs [100, 98, 45, 49]), (bs [88, 95, 57])] rfl (fun | 0, _ => rfl | 1, _ => rfl | 2, _ => rfl | 3, _ => rfl | 4, _ => rfl | 5, _ => rfl | n + 6, h => absurd h (by omega)))).1) (an (RowIs.asP (enc := encS) (d := ByteArray.empty) (L := [(bs [97]), (bs [98]), (bs [99]), (bs [119, 101, 98]), (bs [100, 98, 45, 49]), (bs [88, 95, 57])]) (RowIs.lit (enc := encS) (d := ByteArray.empty) (n := 6) (f := (cut 1 [vs (bs [97]), vs (bs [98]), vs (bs [99]), vs (bs [119, 101, 98]), vs (bs [100, 98, 45, 49]), vs (bs [88, 95, 57])])) [(bs [97]), (bs [98]), (bs [99]), (bs [119, 101, 98]), (bs [100, 98, 45, 49]), (bs [88, 95, 57])] rfl (fun | 0, _ => rfl | 1, _ => rfl | 2, _ => rfl | 3, _ => rfl | 4, _ => rfl | 5, _ => rfl | n + 6, h => absurd h (by omega)))) (an (Next_Dice_madeSpec p0 6 r3 hr3) (an trivial (an g4.1 (an g4.2 (an g5 trivial))))))) ?_)
 refine DW.ret ?_
 obtain rfl := Option.some.inj hm
 exact retK [.box (pm (encDice r3.2))] [] (pS ([(bs [97]), (bs [98]), (bs [99]), (bs [119, 101, 98]), (bs [100, 98, 45, 49]), (bs [88, 95, 57])].getD (Int.toNat r3.1) ByteArray.empty))

theorem Bool_Dice_madeSpec (p0 : Dice) (p1 : Int) (RES : Bool × Dice) (hm : Bool_Dice_made p0 p1 = some RES) : Spec Tryz.prog 77 [rr 0, pI p1] [.box (pm (encDice p0))] (pB RES.1) [.box (pm (encDice RES.2))] [] := by
 unfold Bool_Dice_made at hm
 refine SO Tryz.func77 rfl rfl [(0, rr 0), (1, pI p1)] [(0, bx (pm (encDice p0)))] ?_
 intro cx hnt
 refine DW.seq (RD hnt (.no :: []) [] [] [] [] trivial ?_)
 obtain ⟨r1, hr1, hm⟩ := bind_open hm
 refine DW.seq (RK hnt (nn 2 (.call 19 [0] true (pI r1.1) [.box (pm (encDice r1.2))] [] :: nn 4 [])) [(4, pB (r1.1 == (w64 (p1 - 1))))] [(0, bx (pm (encDice r1.2)))] (an (Next_Dice_madeSpec p0 p1 r1 hr1) (an trivial trivial)) ?_)
 refine DW.ret ?_
 obtain rfl := Option.some.inj hm
 exact retK [.box (pm (encDice r1.2))] [] (pB (r1.1 == (w64 (p1 - 1))))

abbrev c124e1 (p0 : Tree) (k1 : Nat) := (p0.nodes.getD k1 (default : Node))
abbrev c124e2 : Nat × Obj := (1032, bx [.p (.sl .nil 0 0 (fun _ => [])), pI 0])
abbrev c124e3 : Nat × Obj := (1032, bx [ow 100000 0, pI 0])
abbrev c124e4 (p0 : Tree) : Nat × Obj := (1016, bx (pm (encTree p0)))
theorem Remove_ref5Spec (p0 : Tree) (p1 : Int) (RES : Tree × Int) (hm : Remove_ref5 p0 p1 = some RES) : Spec Tryz.prog 124 [.p (.agg (encTree p0)), pI p1] [] (.tup [.agg [ow 0 RES.1.nodes.length, pI RES.1.next], pI RES.2]) [] [roNode RES.1.nodes] := by
 unfold Remove_ref5 at hm
 refine SO Tryz.func124 rfl rfl [(0, .p (.agg (encTree p0))), (1, pI p1)] [] ?_
 intro cx hnt
 refine DW.seq (RK hnt (nn 3 []) [(1, pI p1), (2, rr 1016), (4, rr 1032)] [(c124e4 p0), (c124e2)] trivial ?_)
 refine DW.seq (DW.block ?_)
 obtain ⟨r1, hr1, hm⟩ := bind_open hm
 refine DW.seq (RD hnt (.no :: .call 110 [] true (pB r1) [] [] :: nn 2 []) [] [(8, pB (!r1))] [] [] (an (Check_ref5Spec p0 r1 hr1) trivial) ?_)
 refine condM hm ?_ ?_
 ·intro h2 hm
  refine DW.seq (RD hnt (nn 3 []) [1, 2, 8] [(5, pI 1)] [1016] [] trivial ?_)
  refine DW.conv (τ := mkSt [(4, rr 1032), (5, pI 1)] [(c124e3), (100000, ob0 (roNode []))]) (Conv.trans (τ := mkSt [(4, rr 1032), (5, pI 1)] [(c124e2)]) Conv.eqK (Conv.trans (τ := mkSt [(4, rr 1032), (5, pI 1)] ((100000, ⟨0, .row 6 0 (elems encNode dNode [])⟩) :: [(c124e3)])) (Conv.adopt 100000 6 (elems encNode dNode []) rfl rfl (.rfl _) (.box (.cons (.nil _ _) (.cons (.rfl _) (.rfl _))) (.rfl _))) Conv.t0)) ?_
  refine DW.ret ?_
  obtain rfl := Option.some.inj hm
  exact retK [roNode []] [100000] (.tup [.agg [ow 0 0, pI 0], pI 1])
 ·intro h2 hm
  obtain ⟨r3, hr3, hm⟩ := bind_open hm
  refine DW.seq (RD hnt (nn 2 (.call 88 [] true (pB r3) [] [] :: nn 2 [])) [8] [(13, pB (!r3))] [] [] (an (Has_ref5Spec p0 p1 r3 hr3) trivial) ?_)
  refine condM hm ?_ ?_
  ·intro h4 hm
   refine DW.seq (RD hnt (nn 3 []) [1, 2, 13] [(5, pI 4)] [1016] [] trivial ?_)
   refine DW.conv (τ := mkSt [(4, rr 1032), (5, pI 4)] [(c124e3), (100000, ob0 (roNode []))]) (Conv.trans (τ := mkSt [(4, rr 1032), (5, pI 4)] [(c124e2)]) Conv.eqK (Conv.trans (τ := mkSt [(4, rr 1032), (5, pI 4)] ((100000, ⟨0, .row 6 0 (elems encNode dNode [])⟩) :: [(c124e3)])) (Conv.adopt 100000 6 (elems encNode dNode []) rfl rfl (.rfl _) (.box (.cons (.nil _ _) (.cons (.rfl _) (.rfl _))) (.rfl _))) Conv.t0)) ?_
   refine DW.ret ?_
   obtain rfl := Option.some.inj hm
   exact retK [roNode []] [100000] (.tup [.agg [ow 0 0, pI 0], pI 4])
  ·intro h4 hm
   refine DW.seq (RD hnt (nn 3 []) [13] [(19, pB (p1 == 1))] [] [] trivial ?_)
   refine condM hm ?_ ?_
   ·intro h5 hm
    refine DW.seq (RD hnt (nn 3 []) [1, 2, 19] [(5, pI 9)] [1016] [] trivial ?_)
    refine DW.conv (τ := mkSt [(4, rr 1032), (5, pI 9)] [(c124e3), (100000, ob0 (roNode []))]) (Conv.trans (τ := mkSt [(4, rr 1032), (5, pI 9)] [(c124e2)]) Conv.eqK (Conv.trans (τ := mkSt [(4, rr 1032), (5, pI 9)] ((100000, ⟨0, .row 6 0 (elems encNode dNode [])⟩) :: [(c124e3)])) (Conv.adopt 100000 6 (elems encNode dNode []) rfl rfl (.rfl _) (.box (.cons (.nil _ _) (.cons (.rfl _) (.rfl _))) (.rfl _))) Conv.t0)) ?_
    refine DW.ret ?_
    obtain rfl := Option.some.inj hm
    exact retK [roNode []] [100000] (.tup [.agg [ow 0 0, pI 0], pI 9])
   ·intro h5 hm
    obtain ⟨r6, hr6, hm⟩ := bind_open hm
    refine DW.seq (RD hnt (nn 2 (.call 27 [] true (ow 0 r6.length) [] [roI r6] :: nn 3 [])) [19] [(23, pB (decide (((r6.length : Nat) : Int) > 0)))] [] [] (an (Children_ref5Spec p0 p1 r6 hr6) trivial) ?_)
    refine condM hm ?_ ?_
    ·intro h7 hm
     refine DW.seq (RD hnt (nn 3 []) [1, 2, 23] [(5, pI 6)] [1016] [] trivial ?_)
     refine DW.conv (τ := mkSt [(4, rr 1032), (5, pI 6)] [(c124e3), (100000, ob0 (roNode []))]) (Conv.trans (τ := mkSt [(4, rr 1032), (5, pI 6)] [(c124e2)]) Conv.eqK (Conv.trans (τ := mkSt [(4, rr 1032), (5, pI 6)] ((100000, ⟨0, .row 6 0 (elems encNode dNode [])⟩) :: [(c124e3)])) (Conv.adopt 100000 6 (elems encNode dNode []) rfl rfl (.rfl _) (.box (.cons (.nil _ _) (.cons (.rfl _) (.rfl _))) (.rfl _))) Conv.t0)) ?_
     refine DW.ret ?_
     obtain rfl := Option.some.inj hm
     exact retK [roNode []] [100000] (.tup [.agg [ow 0 0, pI 0], pI 6])
    ·intro h7 hm
     refine DW.skip ?_
     refine DW.done ?_
     show DW _ _ _ _ _
     refine DW.seq (RD hnt (nn 5 []) [23] [(6, rr 1048)] [] [(1048, bx [.p (.sl .nil 0 0 (fun _ => [])), pI p0.next])] trivial ?_)
     refine DW.seq (DW.seq (RD hnt (.no :: []) [] [(7, pI 0)] [] [] trivial ?_))
     refine DW.block ?_
     obtain ⟨hc1, hm⟩ := guard_open hm
     refine DW.rangeO (fun (k1 : Nat) (s1 : List Node) => mkSt [(1, pI p1), (2, rr 1016), (4, rr 1032), (6, rr 1048), (7, pI ((k1 : Nat) : Int))] [(c124e4 p0), (c124e2), (1048, bx [ow 1448 s1.length, pI p0.next]), (1448, ob0 (roNode s1))]) dNode hm (Conv.trans (τ := mkSt [(1, pI p1), (2, rr 1016), (4, rr 1032), (6, rr 1048), (7, pI 0)] [(c124e4 p0), (c124e2), (1048, bx [.p (.sl .nil 0 0 (fun _ => [])), pI p0.next])]) Conv.eqK (Conv.trans (τ := mkSt [(1, pI p1), (2, rr 1016), (4, rr 1032), (6, rr 1048), (7, pI 0)] ((1448, ⟨0, .row 6 0 (elems encNode dNode [])⟩) :: [(c124e4 p0), (c124e2), (1048, bx [ow 1448 0, pI p0.next])])) (Conv.adopt 1448 6 (elems encNode dNode []) rfl rfl (.rfl _) (.keep (.keep (.box (.cons (.nil _ _) (.cons (.rfl _) (.rfl _))) (.rfl _))))) Conv.t0)) ?_
     intro k1 s1 n1 hk1 hs1 he1
     refine DW.seq (DW.seq (RD hnt (nn 5 []) [] [(37, pB (decide (((k1 : Nat) : Int) < ((p0.nodes.length : Nat) : Int))))] [] [] trivial ?_))
     refine condK (decide (((k1 : Nat) : Int) < ((p0.nodes.length : Nat) : Int))) ?_ ?_
     ·intro h17
      have hlt1 : k1 < p0.nodes.length := by have := of_decide_eq_true h17; omega
      have hm := hs1 hlt1
      unfold Remove_ref5L1 at hm
      refine DW.skip ?_
      refine DW.seq ?_
      refine DW.join (ι := List Node) (fun (y3 : List Node) => mkSt [(1, pI p1), (2, rr 1016), (4, rr 1032), (6, rr 1048), (7, pI ((k1 : Nat) : Int))] [(c124e4 p0), (c124e2), (1048, bx [ow 1448 y3.length, pI p0.next]), (1448, ob0 (roNode y3))]) (fun y3 => (Remove_ref5J3 n1) y3 = some RES) ?_ ?_
      ·intro y3 hm
       unfold Remove_ref5J3 at hm
       refine RD hnt (nn 3 []) [] [(7, pI (w64 (((k1 : Nat) : Int) + 1)))] [] [] trivial ?_
       exact joinDone y3 ⟨hlt1, hm⟩ (Conv.tp [(7, pI (w64 (((k1 : Nat) : Int) + 1)))] [] (by kernel_rfl) (.cons rfl (.of_eq (congrArg pI (w64_succ hlt1 hc1))) .nil) .nil)
      ·refine DW.block ?_
       refine DW.seq (RD hnt (nn 8 []) [37] [(47, pB ((c124e1 p0 k1).id != p1))] [] [] (an (nn0 k1) (an (ltc hlt1) trivial)) ?_)
       refine condM hm ?_ ?_
       ·intro h18 hm
        obtain ⟨g19, hm⟩ := guard_open hm
        refine RN hnt (nn 11 []) [(1, pI p1), (2, rr 1016), (4, rr 1032), (6, rr 1048), (7, pI ((k1 : Nat) : Int))] [(c124e4 p0), (c124e2), (1048, bx [ow 1448 (s1 ++ [(c124e1 p0 k1)]).length, pI p0.next]), (1448, ob0 (roNode (s1 ++ [(c124e1 p0 k1)])))] [] [(1048, .box [ow 1448 (s1.length + 1), pI p0.next]), (1448, .row 6 (s1.length + 1) (catF s1.length (elNode s1) (cut 6 [vi (c124e1 p0 k1).id, vi (c124e1 p0 k1).parent, vs (c124e1 p0 k1).name, vi (c124e1 p0 k1).control, vi (c124e1 p0 k1).kind, vi (c124e1 p0 k1).owner])))] (an (nn0 k1) (an (ltc hlt1) (an (by omega : (s1.length + 1) * 56 ≤ 140737488355328) trivial))) (by kernel_rfl) .nil (.cons rfl (.box (.cons (MLe.ownLen (enc := encNode) (d := dNode) (f := (catF s1.length (elNode s1) (cut 6 [vi (c124e1 p0 k1).id, vi (c124e1 p0 k1).parent, vs (c124e1 p0 k1).name, vi (c124e1 p0 k1).control, vi (c124e1 p0 k1).kind, vi (c124e1 p0 k1).owner]))) (RowIs.cat RowIs.elems (RowIs.lit (enc := encNode) (d := dNode) (n := 1) (f := (cut 6 [vi (c124e1 p0 k1).id, vi (c124e1 p0 k1).parent, vs (c124e1 p0 k1).name, vi (c124e1 p0 k1).control, vi (c124e1 p0 k1).kind, vi (c124e1 p0 k1).owner])) [(c124e1 p0 k1)] rfl (fun | 0, _ => rfl | n + 1, h => absurd h (by omega))))) (.cons .rfl .nil))) (.cons rfl (BLe.typed (RowIs.cat RowIs.elems (RowIs.lit (enc := encNode) (d := dNode) (n := 1) (f := (cut 6 [vi (c124e1 p0 k1).id, vi (c124e1 p0 k1).parent, vs (c124e1 p0 k1).name, vi (c124e1 p0 k1).control, vi (c124e1 p0 k1).kind, vi (c124e1 p0 k1).owner])) [(c124e1 p0 k1)] rfl (fun | 0, _ => rfl | n + 1, h => absurd h (by omega))))) .nil)) ?_
        exact blockDone (s1 ++ [(c124e1 p0 k1)]) hm .refl
       ·intro h18 hm
        refine DW.skip ?_
        exact blockDone s1 hm Conv.t0
     ·intro h17
      have hge1 : ¬ k1 < p0.nodes.length := by have := of_decide_eq_false h17; omega
      have hm := he1 hge1
      unfold Remove_ref5D1 at hm
      refine DW.exit ?_
      refine joinQ_exit ?_
      refine KQ_exit ?_
      refine blockQ_exit ?_
      show DW _ _ _ _ _
      refine DW.seq (RK hnt (nn 3 []) [(4, rr 1032), (5, pI 0)] [(1032, bx [ow 1448 s1.length, pI p0.next]), (1448, ob0 (roNode s1))] trivial ?_)
      refine DW.ret ?_
      obtain rfl := Option.some.inj hm
      exact retK [roNode s1] [1448] (.tup [.agg [ow 0 s1.length, pI p0.next], pI 0])

abbrev c80e1 : Nat × Obj := (1032, bx [.p (.sl .nil 0 0 (fun _ => [])), pI 0])
theorem Tree_Dice_madeSpec (p0 : Dice) (p1 : Int) (RES : Tree × Dice) (hm : Tree_Dice_made p0 p1 = some RES) : Spec Tryz.prog 80 [rr 0, pI p1] [.box (pm (encDice p0))] (.p (.agg (encTree RES.1))) [.box (pm (encDice RES.2))] [] := by
 unfold Tree_Dice_made at hm
 refine SO Tryz.func80 rfl rfl [(0, rr 0), (1, pI p1)] [(0, bx (pm (encDice p0)))] ?_
 intro cx hnt
 refine DW.seq (RD hnt (.no :: []) [] [(4, rr 1032)] [] [(c80e1)] trivial ?_)
 obtain ⟨r1, hr1, hm⟩ := bind_open hm
 refine DW.seq (RD hnt (.call 120 [] true (.agg [ow 0 r1.nodes.length, pI r1.next]) [] [roNode r1.nodes] :: nn 2 []) [] [(5, rr 1040)] [] [(1040, bx [ow 1104 r1.nodes.length, pI r1.next]), (1104, ob0 (roNode r1.nodes))] (an (New_ref5Spec r1 hr1) trivial) ?_)
 obtain ⟨r2, hr2, hm⟩ := bind_open hm
 refine DW.seq (DW.seq (RD hnt (nn 3 (.call 19 [0] true (pI r2.1) [.box (pm (encDice r2.2))] [] :: .no :: [])) [1] [(6, pI r2.1)] [] [(0, bx (pm (encDice r2.2)))] (an (Next_Dice_madeSpec p0 (w64 (p1 + 1)) r2 hr2) (an trivial trivial)) ?_))
 refine DW.block ?_
 refine DW.whileO (fun (s1 : Dice × Tree × Int) => mkSt [(0, rr 0), (4, rr 1032), (5, rr 1040), (6, pI s1.2.2)] [(0, bx (pm (encDice s1.1))), (c80e1), (1040, bx (pm (encTree s1.2.1)))]) hm (Conv.freezes [1104] (by kernel_rfl)) ?_
 intro s1 n1 hm
 unfold Tree_Dice_madeL1 at hm
 refine DW.seq (DW.seq (RD hnt (nn 2 []) [] [(19, pB (decide (s1.2.2 > 0)))] [] [] trivial ?_))
 refine condM hm ?_ ?_
 ·intro h18 hm
  refine DW.skip ?_
  refine DW.seq ?_
  refine DW.join (ι := Dice × Tree) (fun (y3 : Dice × Tree) => mkSt [(0, rr 0), (4, rr 1032), (5, rr 1040), (6, pI s1.2.2)] [(0, bx (pm (encDice y3.1))), (c80e1), (1040, bx (pm (encTree y3.2)))]) (fun y3 => (Tree_Dice_madeJ3 s1 n1) y3 = some RES) ?_ ?_
  ·intro y3 hm
   unfold Tree_Dice_madeJ3 at hm
   refine RD hnt (nn 3 []) [] [(6, pI (w64 (s1.2.2 - 1)))] [] [] trivial ?_
   exact joinDone (y3.1, y3.2, (w64 (s1.2.2 - 1))) hm Conv.eqK
  ·refine DW.block ?_
   obtain ⟨r19, hr19, hm⟩ := bind_open hm
   obtain ⟨g20, hm⟩ := guard_open hm
   refine DW.seq (RD hnt (nn 6 (.call 19 [0] true (pI r19.1) [.box (pm (encDice r19.2))] [] :: nn 4 [])) [19] [(7, pI (s1.2.1.nodes.getD (Int.toNat r19.1) dNode).id)] [] [(0, bx (pm (encDice r19.2)))] (an (Next_Dice_madeSpec s1.1 ((s1.2.1.nodes.length : Nat) : Int) r19 hr19) (an trivial (an g20.1 (an g20.2 trivial)))) ?_)
   obtain ⟨r21, hr21, hm⟩ := bind_open hm
   obtain ⟨r22, hr22, hm⟩ := bind_open hm
   refine DW.seq (DW.seq (RD hnt (nn 3 (.call 132 [0] true (pS r21.1) [.box (pm (encDice r21.2))] [] :: .call 131 [] true (.tup [.agg [ow 0 r22.1.nodes.length, pI r22.1.next], pI r22.2.1, pI r22.2.2]) [] [roNode r22.1.nodes] :: nn 8 [])) [7] [(8, rr 1064), (10, pI r22.2.2)] [] [(0, bx (pm (encDice r21.2))), (1064, bx [ow 1296 r22.1.nodes.length, pI r22.1.next]), (1296, ob0 (roNode r22.1.nodes))] (an (Name_Dice_madeSpec r19.2 r21 hr21) (an trivial (an (Add_ref5Spec s1.2.1 (s1.2.1.nodes.getD (Int.toNat r19.1) dNode).id r21.1 r22 hr22) trivial))) ?_))
   refine DW.seq (RD hnt (nn 2 []) [10] [(42, pB (r22.2.2 == 0))] [] [] trivial ?_)
   refine DW.join (ι := Tree) (fun (y4 : Tree) => mkSt [(0, rr 0), (4, rr 1032), (5, rr 1040), (6, pI s1.2.2)] [(0, bx (pm (encDice r21.2))), (c80e1), (1040, bx (pm (encTree y4)))]) (fun y4 => (Tree_Dice_madeJ4 s1 n1 r21) y4 = some RES) ?_ ?_
   ·intro y4 hm
    unfold Tree_Dice_madeJ4 at hm
    obtain ⟨r24, hr24, hm⟩ := bind_open hm
    refine DW.seq (RD hnt (.no :: .call 77 [0] true (pB r24.1) [.box (pm (encDice r24.2))] [] :: []) [] [(45, pB r24.1)] [] [(0, bx (pm (encDice r24.2)))] (an (Bool_Dice_madeSpec r21.2 6 r24 hr24) (an trivial trivial)) ?_)
    refine condM hm ?_ ?_
    ·intro h25 hm
     obtain ⟨r26, hr26, hm⟩ := bind_open hm
     obtain ⟨g27, hm⟩ := guard_open hm
     obtain ⟨r28, hr28, hm⟩ := bind_open hm
     refine DW.seq (RD hnt (nn 7 (.call 19 [0] true (pI r26.1) [.box (pm (encDice r26.2))] [] :: nn 3 (.call 124 [] true (.tup [.agg [ow 0 r28.1.nodes.length, pI r28.1.next], pI r28.2]) [] [roNode r28.1.nodes] :: nn 6 []))) [45] [(11, rr 1088), (12, pI r28.2)] [] [(0, bx (pm (encDice r26.2))), (1088, bx [ow 1464 r28.1.nodes.length, pI r28.1.next]), (1464, ob0 (roNode r28.1.nodes))] (an (Next_Dice_madeSpec r24.2 ((y4.nodes.length : Nat) : Int) r26 hr26) (an trivial (an g27.1 (an g27.2 (an (Remove_ref5Spec y4 (y4.nodes.getD (Int.toNat r26.1) dNode).id r28 hr28) trivial))))) ?_)
     refine DW.seq (RD hnt (nn 2 []) [12] [(62, pB (r28.2 == 0))] [] [] trivial ?_)
     refine condM hm ?_ ?_
     ·intro h29 hm
      refine RD hnt (nn 2 []) [11, 62] [] [1088] [(1040, bx [ow 1464 r28.1.nodes.length, pI r28.1.next])] trivial ?_
      exact blockDone (r26.2, r28.1) hm (Conv.freezes [1464] (by kernel_rfl))
     ·intro h29 hm
      refine DW.skip ?_
      exact blockDone (r26.2, y4) hm Conv.t0
    ·intro h25 hm
     refine DW.skip ?_
     exact blockDone (r24.2, y4) hm Conv.t0
   ·refine condM hm ?_ ?_
    ·intro h23 hm
     refine RD hnt (nn 2 []) [8, 42] [] [1064] [(1040, bx [ow 1296 r22.1.nodes.length, pI r22.1.next])] trivial ?_
     exact joinDone r22.1 hm (Conv.freezes [1296] (by kernel_rfl))
    ·intro h23 hm
     refine DW.skip ?_
     exact joinDone s1.2.1 hm Conv.t0
 ·intro h18 hm
  refine DW.exit ?_
  refine joinQ_exit ?_
  refine KQ_exit ?_
  refine blockQ_exit ?_
  show DW _ _ _ _ _
  refine DW.seq (RD hnt (nn 2 []) [0, 5, 6, 19] [] [1040] [(1032, bx (pm (encTree s1.2.1)))] trivial ?_)
  refine DW.ret ?_
  obtain rfl := Option.some.inj hm
  exact retK [.box (pm (encDice s1.1))] [] (.p (.agg (encTree s1.2.1)))

theorem Group_Dice_madeSpec (p0 : Dice) (p1 : Tree) (RES : Int × Dice) (hm : Group_Dice_made p0 p1 = some RES) : Spec Tryz.prog 33 [rr 0, .p (.agg (encTree p1))] [.box (pm (encDice p0))] (pI RES.1) [.box (pm (encDice RES.2))] [] := by
 unfold Group_Dice_made at hm
 refine SO Tryz.func33 rfl rfl [(0, rr 0), (1, .p (.agg (encTree p1)))] [(0, bx (pm (encDice p0)))] ?_
 intro cx hnt
 refine DW.seq (RD hnt (nn 2 []) [1] [(3, rr 1024)] [] [(1024, bx (pm (encTree p1)))] trivial ?_)
 obtain ⟨r1, hr1, hm⟩ := bind_open hm
 refine DW.seq (DW.seq ?_)
 refine DW.join (ι := Bool) (fun (y1 : Bool) => mkSt [(0, rr 0), (3, rr 1024), (12, pB y1)] [(0, bx (pm (encDice r1.2))), (1024, bx (pm (encTree p1)))]) (fun y1 => (Group_Dice_madeJ1 p1 r1) y1 = some RES) ?_ ?_
 ·intro y1 hm
  unfold Group_Dice_madeJ1 at hm
  refine condM hm ?_ ?_
  ·intro h3 hm
   obtain ⟨r4, hr4, hm⟩ := bind_open hm
   refine DW.seq (RK hnt (.no :: .call 19 [0] true (pI r4.1) [.box (pm (encDice r4.2))] [] :: nn 2 []) [(4, pI (w64 (r4.1 - 1)))] [(0, bx (pm (encDice r4.2)))] (an (Next_Dice_madeSpec r1.2 9 r4 hr4) (an trivial trivial)) ?_)
   refine DW.ret ?_
   obtain rfl := Option.some.inj hm
   exact retK [.box (pm (encDice r4.2))] [] (pI (w64 (r4.1 - 1)))
  ·intro h3 hm
   refine DW.skip ?_
   obtain ⟨r5, hr5, hm⟩ := bind_open hm
   obtain ⟨g6, hm⟩ := guard_open hm
   refine DW.seq (RK hnt (nn 6 (.call 19 [0] true (pI r5.1) [.box (pm (encDice r5.2))] [] :: nn 4 [])) [(4, pI (p1.nodes.getD (Int.toNat r5.1) dNode).id)] [(0, bx (pm (encDice r5.2)))] (an (Next_Dice_madeSpec r1.2 ((p1.nodes.length : Nat) : Int) r5 hr5) (an trivial (an g6.1 (an g6.2 trivial)))) ?_)
   refine DW.ret ?_
   obtain rfl := Option.some.inj hm
   exact retK [.box (pm (encDice r5.2))] [] (pI (p1.nodes.getD (Int.toNat r5.1) dNode).id)
 ·rcases bt r1.1 with h2 | h2
  ·replace hm := if_t h2 hm
   refine RD hnt (.no :: .call 77 [0] true (pB r1.1) [.box (pm (encDice r1.2))] [] :: .no :: sk 4 (pT :: [])) [] [(12, pB true)] [] [(0, bx (pm (encDice r1.2)))] (an (Bool_Dice_madeSpec p0 15 r1 hr1) (an trivial (an5 h2 trivial))) ?_
   exact joinDone true hm Conv.eqK
  ·replace hm := if_f h2 hm
   refine RD hnt (.no :: .call 77 [0] true (pB r1.1) [.box (pm (encDice r1.2))] [] :: nn 5 (pF :: [])) [] [(12, pB (((p1.nodes.length : Nat) : Int) == 0))] [] [(0, bx (pm (encDice r1.2)))] (an (Bool_Dice_madeSpec p0 15 r1 hr1) (an trivial (an5 h2 trivial))) ?_
   exact joinDone (((p1.nodes.length : Nat) : Int) == 0) hm Conv.eqK

theorem Controllers_Dice_madeSpec (p0 : Dice) (RES : Int × Dice) (hm : Controllers_Dice_made p0 = some RES) : Spec Tryz.prog 107 [rr 0] [.box (pm (encDice p0))] (pI RES.1) [.box (pm (encDice RES.2))] [] := by
 unfold Controllers_Dice_made at hm
 refine SO Tryz.func107 rfl rfl [(0, rr 0)] [(0, bx (pm (encDice p0)))] ?_
 intro cx hnt
 refine DW.seq (RD hnt (.no :: []) [] [] [] [] trivial ?_)
 obtain ⟨r3, hr3, hm⟩ := bind_open hm
 obtain ⟨g4, g5, hm⟩ := go2 hm
 refine DW.seq (RK hnt (.asR (ow 1024 [1, 9, 31, 2, 25, 4, 0, 32, (-1)].length) [1, 9, 31, 2, 25, 4, 0, 32, (-1)].length (elems encI 0 [1, 9, 31, 2, 25, 4, 0, 32, (-1)]) :: .no :: .call 19 [0] true (pI r3.1) [.box (pm (encDice r3.2))] [] :: nn 3 []) [(2, pI ([1, 9, 31, 2, 25, 4, 0, 32, (-1)].getD (Int.toNat r3.1) 0))] [(0, bx (pm (encDice r3.2)))] (an (congrArg (MV.own 1024 0 0) (RowIs.asP (enc := encI) (d := 0) (L := [1, 9, 31, 2, 25, 4, 0, 32, (-1)]) (RowIs.lit (enc := encI) (d := 0) (n := 9) (f := (cut 1 [vi 1, vi 9, vi 31, vi 2, vi 25, vi 4, vi 0, vi 32, vi (-1)])) [1, 9, 31, 2, 25, 4, 0, 32, (-1)] rfl (fun | 0, _ => rfl | 1, _ => rfl | 2, _ => rfl | 3, _ => rfl | 4, _ => rfl | 5, _ => rfl | 6, _ => rfl | 7, _ => rfl | 8, _ => rfl | n + 9, h => absurd h (by omega)))).1) (an (RowIs.asP (enc := encI) (d := 0) (L := [1, 9, 31, 2, 25, 4, 0, 32, (-1)]) (RowIs.lit (enc := encI) (d := 0) (n := 9) (f := (cut 1 [vi 1, vi 9, vi 31, vi 2, vi 25, vi 4, vi 0, vi 32, vi (-1)])) [1, 9, 31, 2, 25, 4, 0, 32, (-1)] rfl (fun | 0, _ => rfl | 1, _ => rfl | 2, _ => rfl | 3, _ => rfl | 4, _ => rfl | 5, _ => rfl | 6, _ => rfl | 7, _ => rfl | 8, _ => rfl | n + 9, h => absurd h (by omega)))) (an (Next_Dice_madeSpec p0 9 r3 hr3) (an trivial (an g4.1 (an g4.2 (an g5 trivial))))))) ?_)
 refine DW.ret ?_
 obtain rfl := Option.some.inj hm
 exact retK [.box (pm (encDice r3.2))] [] (pI ([1, 9, 31, 2, 25, 4, 0, 32, (-1)].getD (Int.toNat r3.1) 0))

theorem Set_ref7Spec (p0 : Int) (RES : Bool) (hm : Set_ref7 p0 = some RES) : Spec Tryz.prog 175 [pI p0] [] (pB RES) [] [] := by
 unfold Set_ref7 at hm
 refine SO Tryz.func175 rfl rfl [(0, pI p0)] [] ?_
 intro cx hnt
 refine DW.seq (RK hnt (.no :: []) [(0, pI p0)] [] trivial ?_)
 refine DW.seq (DW.regJ (sl2 := [(2, pB ((decide (p0 ≥ 0)) && (decide (p0 ≤ 31))))]) (ob2 := []) ?_ ?_)
 ·rcases bt (decide (p0 ≥ 0)) with h1 | h1
  ·exact RT hnt (nn 5 (pT :: .no :: [])) [(2, pB (decide (p0 ≤ 31)))] (an3 h1 trivial) (by kernel_rfl) (.cons rfl (.of_eq (by rw [h1]; try rfl)) .nil)
  ·exact RT hnt (nn 3 (sk 2 (pF :: .no :: []))) [(2, pB false)] (an3 h1 trivial) (by kernel_rfl) (.cons rfl (.of_eq (by rw [h1]; try rfl)) .nil)
 ·refine DW.ret ?_
  obtain rfl := Option.some.inj hm
  exact retK [] [] (pB ((decide (p0 ≥ 0)) && (decide (p0 ≤ 31))))

abbrev c136e1 : Nat × Obj := (1032, bx [.p (.sl .nil 0 0 (fun _ => [])), pI 0])
theorem Set_ref5Spec (p0 : Tree) (p1 : Node) (RES : Tree) (hm : Set_ref5 p0 p1 = some RES) : Spec Tryz.prog 136 [.p (.agg (encTree p0)), .p (.agg (encNode p1))] [] (.agg [ow 0 RES.nodes.length, pI RES.next]) [] [roNode RES.nodes] := by
 unfold Set_ref5 at hm
 refine SO Tryz.func136 rfl rfl [(0, .p (.agg (encTree p0))), (1, .p (.agg (encNode p1)))] [] ?_
 intro cx hnt
 refine DW.seq (RK hnt (nn 3 []) [(2, rr 1016), (3, rr 1024), (4, rr 1032)] [(1016, bx (pm (encTree p0))), (1024, bx (pm (encNode p1))), (c136e1)] trivial ?_)
 obtain ⟨r1, hr1, hm⟩ := bind_open hm
 refine DW.seq (RD hnt (.no :: .call 122 [] true (.agg [ow 0 r1.nodes.length, pI r1.next]) [] [roNode r1.nodes] :: nn 2 []) [2] [(5, rr 1040)] [1016] [(1040, bx [ow 1064 r1.nodes.length, pI r1.next]), (1064, ob0 (roNode r1.nodes))] (an (Copy_ref5Spec p0 r1 hr1) trivial) ?_)
 refine DW.seq (DW.seq (RD hnt (.no :: []) [] [(6, pI 0)] [] [] trivial ?_))
 refine DW.block ?_
 refine DW.whileO (fun (s1 : (List Node) × Int) => mkSt [(3, rr 1024), (4, rr 1032), (5, rr 1040), (6, pI s1.2)] [(1024, bx (pm (encNode p1))), (c136e1), (1040, bx [ow 1064 s1.1.length, pI r1.next]), (1064, ob0 (roNode s1.1))]) hm Conv.eqK ?_
 intro s1 n1 hm
 unfold Set_ref5L1 at hm
 refine DW.seq (DW.seq (RD hnt (nn 5 []) [] [(13, pB (decide (s1.2 < ((s1.1.length : Nat) : Int))))] [] [] trivial ?_))
 refine condM hm ?_ ?_
 ·intro h8 hm
  refine DW.skip ?_
  refine DW.seq ?_
  refine DW.join (ι := List Node) (fun (y2 : List Node) => mkSt [(3, rr 1024), (4, rr 1032), (5, rr 1040), (6, pI s1.2)] [(1024, bx (pm (encNode p1))), (c136e1), (1040, bx [ow 1064 y2.length, pI r1.next]), (1064, ob0 (roNode y2))]) (fun y2 => (Set_ref5J2 s1 n1) y2 = some RES) ?_ ?_
  ·intro y2 hm
   unfold Set_ref5J2 at hm
   refine RD hnt (nn 3 []) [] [(6, pI (w64 (s1.2 + 1)))] [] [] trivial ?_
   exact joinDone (y2, (w64 (s1.2 + 1))) hm Conv.eqK
  ·refine DW.block ?_
   obtain ⟨g9, g10, hm⟩ := go2 hm
   refine DW.seq (RD hnt (nn 9 []) [13] [(24, pB ((s1.1.getD (Int.toNat s1.2) dNode).id == p1.id))] [] [] (an g9.1 (an g9.2 (an g10 trivial))) ?_)
   refine condM hm ?_ ?_
   ·intro h11 hm
    obtain ⟨g12, g13, hm⟩ := go2 hm
    refine RN hnt (nn 6 []) [(3, rr 1024), (4, rr 1032), (5, rr 1040), (6, pI s1.2)] [(1024, bx (pm (encNode p1))), (c136e1), (1040, bx [ow 1064 (s1.1.set (Int.toNat s1.2) p1).length, pI r1.next]), (1064, ob0 (roNode (s1.1.set (Int.toNat s1.2) p1)))] [] [(1040, .box [ow 1064 s1.1.length, pI r1.next]), (1064, .row 6 s1.1.length (updF (elNode s1.1) (Int.toNat s1.2) [vi p1.id, vi p1.parent, vs p1.name, vi p1.control, vi p1.kind, vi p1.owner]))] (an g12.1 (an g12.2 (an g13 trivial))) (by kernel_rfl) .nil (.cons rfl (.box (.cons (MLe.ownLen (enc := encNode) (d := dNode) (f := (updF (elNode s1.1) (Int.toNat s1.2) [vi p1.id, vi p1.parent, vs p1.name, vi p1.control, vi p1.kind, vi p1.owner])) (RowIs.upd RowIs.elems p1 rfl)) (.cons .rfl .nil))) (.cons rfl (BLe.typed (RowIs.upd RowIs.elems p1 rfl)) .nil)) ?_
    exact blockDone (s1.1.set (Int.toNat s1.2) p1) hm .refl
   ·intro h11 hm
    refine DW.skip ?_
    exact blockDone s1.1 hm Conv.t0
 ·intro h8 hm
  refine DW.exit ?_
  refine joinQ_exit ?_
  refine KQ_exit ?_
  refine blockQ_exit ?_
  show DW _ _ _ _ _
  refine DW.seq (RD hnt (nn 2 []) [3, 5, 6, 13] [] [1024, 1040] [(1032, bx [ow 1064 s1.1.length, pI r1.next])] trivial ?_)
  refine DW.ret ?_
  obtain rfl := Option.some.inj hm
  exact retK [roNode s1.1] [1064] (.agg [ow 0 s1.1.length, pI r1.next])

abbrev c165e1 : Nat × Obj := (1064, bx [.p (.sl .nil 0 0 (fun _ => [])), pI 0, .p (.sl .nil 0 0 (fun _ => [])), pI 0])
abbrev c165e2 : Nat × Obj := (1064, bx [ow 100000 0, pI 0, .p (.sl .nil 0 0 (fun _ => [])), pI 0])
abbrev c165e3 : Nat × Obj := (1064, bx [ow 100000 0, pI 0, ow 100001 0, pI 0])
abbrev c165e4 (r8 : Node × Bool) (p3 : Int) (p2 : Int) : Nat × Obj := (1080, bx [pI r8.1.id, pI r8.1.parent, pS r8.1.name, pI (kor .i64 (kandNot .i64 r8.1.control p3) p2), pI r8.1.kind, pI r8.1.owner])
theorem Write_ref7Spec (p0 : Hierarchy) (p1 : Int) (p2 : Int) (p3 : Int) (RES : Hierarchy × Int) (hm : Write_ref7 p0 p1 p2 p3 = some RES) : Spec Tryz.prog 165 [.p (.agg (encHierarchy p0)), pI p1, pI p2, pI p3] [] (.tup [.agg [ow 0 RES.1.tree.nodes.length, pI RES.1.tree.next, ow 1 RES.1.tasks.length, pI RES.1.next], pI RES.2]) [] [roNode RES.1.tree.nodes, roTask RES.1.tasks] := by
 unfold Write_ref7 at hm
 refine SO Tryz.func165 rfl rfl [(0, .p (.agg (encHierarchy p0))), (1, pI p1), (2, pI p2), (3, pI p3)] [] ?_
 intro cx hnt
 refine DW.seq (RD hnt (nn 3 []) [0] [(4, rr 1032), (8, rr 1064)] [] [(1032, bx (pm (encHierarchy p0))), (c165e1)] trivial ?_)
 obtain ⟨r1, hr1, hm⟩ := bind_open hm
 refine DW.seq (DW.seq ?_)
 refine DW.join (ι := Bool) (fun (y1 : Bool) => mkSt [(1, pI p1), (2, pI p2), (3, pI p3), (4, rr 1032), (8, rr 1064), (37, pB y1)] [(1032, bx (pm (encHierarchy p0))), (c165e1)]) (fun y1 => (Write_ref7J1 p0 p1 p2 p3) y1 = some RES) ?_ ?_
 ·intro y1 hm
  unfold Write_ref7J1 at hm
  refine condM hm ?_ ?_
  ·intro h7 hm
   refine DW.seq (RD hnt (nn 3 []) [1, 2, 3, 4, 37] [(9, pI 1)] [1032] [] trivial ?_)
   refine DW.conv (τ := mkSt [(8, rr 1064), (9, pI 1)] [(c165e3), (100000, ob0 (roNode [])), (100001, ob0 (roTask []))]) (Conv.trans (τ := mkSt [(8, rr 1064), (9, pI 1)] [(c165e1)]) Conv.eqK (Conv.trans (τ := mkSt [(8, rr 1064), (9, pI 1)] ((100000, ⟨0, .row 6 0 (elems encNode dNode [])⟩) :: [(c165e2)])) (Conv.adopt 100000 6 (elems encNode dNode []) rfl rfl (.rfl _) (.box (.cons (.nil _ _) (.cons (.rfl _) (.cons (.rfl _) (.cons (.rfl _) (.rfl _))))) (.rfl _))) (Conv.trans (τ := mkSt [(8, rr 1064), (9, pI 1)] [(c165e2), (100000, ob0 (roNode []))]) Conv.t0 (Conv.trans (τ := mkSt [(8, rr 1064), (9, pI 1)] ((100001, ⟨0, .row 4 0 (elems encTask dTask [])⟩) :: [(c165e3), (100000, ob0 (roNode []))])) (Conv.adopt 100001 4 (elems encTask dTask []) rfl rfl (.rfl _) (.box (.cons (.rfl _) (.cons (.rfl _) (.cons (.nil _ _) (.cons (.rfl _) (.rfl _))))) (.keep (.rfl _)))) Conv.t0)))) ?_
   refine DW.ret ?_
   obtain rfl := Option.some.inj hm
   exact retK [roNode [], roTask []] [100000, 100001] (.tup [.agg [ow 0 0, pI 0, ow 1 0, pI 0], pI 1])
  ·intro h7 hm
   refine DW.skip ?_
   obtain ⟨r8, hr8, hm⟩ := bind_open hm
   refine DW.seq (RD hnt (nn 3 (.call 135 [] true (.p (.tup [.agg (encNode r8.1), vb r8.2])) [] [] :: nn 6 [])) [37] [(10, rr 1080), (11, pB r8.2)] [] [(1080, bx (pm (encNode r8.1)))] (an (Find_ref5Spec p0.tree p1 r8 hr8) trivial) ?_)
   refine DW.seq (DW.seq (RD hnt (nn 2 []) [11] [(47, pB (!r8.2))] [] [] trivial ?_))
   refine condM hm ?_ ?_
   ·intro h9 hm
    refine DW.seq (RD hnt (nn 3 []) [1, 2, 3, 4, 10, 47] [(9, pI 4)] [1032, 1080] [] trivial ?_)
    refine DW.conv (τ := mkSt [(8, rr 1064), (9, pI 4)] [(c165e3), (100000, ob0 (roNode [])), (100001, ob0 (roTask []))]) (Conv.trans (τ := mkSt [(8, rr 1064), (9, pI 4)] [(c165e1)]) Conv.eqK (Conv.trans (τ := mkSt [(8, rr 1064), (9, pI 4)] ((100000, ⟨0, .row 6 0 (elems encNode dNode [])⟩) :: [(c165e2)])) (Conv.adopt 100000 6 (elems encNode dNode []) rfl rfl (.rfl _) (.box (.cons (.nil _ _) (.cons (.rfl _) (.cons (.rfl _) (.cons (.rfl _) (.rfl _))))) (.rfl _))) (Conv.trans (τ := mkSt [(8, rr 1064), (9, pI 4)] [(c165e2), (100000, ob0 (roNode []))]) Conv.t0 (Conv.trans (τ := mkSt [(8, rr 1064), (9, pI 4)] ((100001, ⟨0, .row 4 0 (elems encTask dTask [])⟩) :: [(c165e3), (100000, ob0 (roNode []))])) (Conv.adopt 100001 4 (elems encTask dTask []) rfl rfl (.rfl _) (.box (.cons (.rfl _) (.cons (.rfl _) (.cons (.nil _ _) (.cons (.rfl _) (.rfl _))))) (.keep (.rfl _)))) Conv.t0)))) ?_
    refine DW.ret ?_
    obtain rfl := Option.some.inj hm
    exact retK [roNode [], roTask []] [100000, 100001] (.tup [.agg [ow 0 0, pI 0, ow 1 0, pI 0], pI 4])
   ·intro h9 hm
    refine DW.skip ?_
    obtain ⟨r10, hr10, hm⟩ := bind_open hm
    refine DW.seq (DW.seq (RD hnt (nn 4 (.call 174 [] true (pI r10) [] [] :: nn 2 [])) [47] [(55, pB ((kandNot .i64 p2 r10) != 0))] [] [] (an (Available_ref7Spec p0.tree p1 r10 hr10) trivial) ?_))
    refine condM hm ?_ ?_
    ·intro h11 hm
     refine DW.seq (RD hnt (nn 3 []) [1, 2, 3, 4, 10, 55] [(9, pI 9)] [1032, 1080] [] trivial ?_)
     refine DW.conv (τ := mkSt [(8, rr 1064), (9, pI 9)] [(c165e3), (100000, ob0 (roNode [])), (100001, ob0 (roTask []))]) (Conv.trans (τ := mkSt [(8, rr 1064), (9, pI 9)] [(c165e1)]) Conv.eqK (Conv.trans (τ := mkSt [(8, rr 1064), (9, pI 9)] ((100000, ⟨0, .row 6 0 (elems encNode dNode [])⟩) :: [(c165e2)])) (Conv.adopt 100000 6 (elems encNode dNode []) rfl rfl (.rfl _) (.box (.cons (.nil _ _) (.cons (.rfl _) (.cons (.rfl _) (.cons (.rfl _) (.rfl _))))) (.rfl _))) (Conv.trans (τ := mkSt [(8, rr 1064), (9, pI 9)] [(c165e2), (100000, ob0 (roNode []))]) Conv.t0 (Conv.trans (τ := mkSt [(8, rr 1064), (9, pI 9)] ((100001, ⟨0, .row 4 0 (elems encTask dTask [])⟩) :: [(c165e3), (100000, ob0 (roNode []))])) (Conv.adopt 100001 4 (elems encTask dTask []) rfl rfl (.rfl _) (.box (.cons (.rfl _) (.cons (.rfl _) (.cons (.nil _ _) (.cons (.rfl _) (.rfl _))))) (.keep (.rfl _)))) Conv.t0)))) ?_
     refine DW.ret ?_
     obtain rfl := Option.some.inj hm
     exact retK [roNode [], roTask []] [100000, 100001] (.tup [.agg [ow 0 0, pI 0, ow 1 0, pI 0], pI 9])
    ·intro h11 hm
     refine DW.skip ?_
     obtain ⟨r12, hr12, hm⟩ := bind_open hm
     refine DW.seq (RD hnt (nn 3 (.call 27 [] true (ow 0 r12.length) [] [roI r12] :: .no :: [])) [55] [(12, ow 1480 r12.length)] [] [(1480, ob0 (roI r12))] (an (Children_ref5Spec p0.tree p1 r12 hr12) trivial) ?_)
     refine DW.seq (DW.seq (RD hnt (.no :: []) [] [(13, pI 0)] [] [] trivial ?_))
     refine DW.block ?_
     obtain ⟨hc1, hm⟩ := guard_open hm
     refine DW.rangeO (fun (k1 : Nat) (s1 : Unit) => mkSt [(1, pI p1), (2, pI p2), (3, pI p3), (4, rr 1032), (8, rr 1064), (10, rr 1080), (12, ow 1480 r12.length), (13, pI ((k1 : Nat) : Int))] [(1032, bx (pm (encHierarchy p0))), (c165e1), (1080, bx (pm (encNode r8.1))), (1480, ob0 (roI r12))]) 0 hm Conv.eqK ?_
     intro k1 s1 n1 hk1 hs1 he1
     refine DW.seq (DW.seq (RD hnt (nn 4 []) [] [(64, pB (decide (((k1 : Nat) : Int) < ((r12.length : Nat) : Int))))] [] [] trivial ?_))
     refine condK (decide (((k1 : Nat) : Int) < ((r12.length : Nat) : Int))) ?_ ?_
     ·intro h35
      have hlt1 : k1 < r12.length := by have := of_decide_eq_true h35; omega
      have hm := hs1 hlt1
      unfold Write_ref7L1 at hm
      refine DW.skip ?_
      refine DW.seq (DW.block ?_)
      obtain ⟨r36, hr36, hm⟩ := bind_open hm
      refine DW.seq (RD hnt (nn 6 (.call 135 [] true (.p (.tup [.agg (encNode r36.1), vb r36.2])) [] [] :: nn 6 [])) [64] [(14, rr 1112)] [] [(1112, bx (pm (encNode r36.1)))] (an (nn0 k1) (an (ltc hlt1) (an (by omega : k1 < r12.length) (an (Find_ref5Spec p0.tree (r12.getD k1 0) r36 hr36) trivial)))) ?_)
      refine DW.seq (RD hnt (nn 5 []) [14] [(81, pB ((kand .i64 r36.1.control p3) != 0))] [1112] [] trivial ?_)
      refine condM hm ?_ ?_
      ·intro h37 hm
       refine DW.seq (RD hnt (nn 3 []) [1, 2, 3, 4, 10, 12, 13, 81] [(9, pI 9)] [1032, 1080, 1480] [] trivial ?_)
       refine DW.conv (τ := mkSt [(8, rr 1064), (9, pI 9)] [(c165e3), (100000, ob0 (roNode [])), (100001, ob0 (roTask []))]) (Conv.trans (τ := mkSt [(8, rr 1064), (9, pI 9)] [(c165e1)]) Conv.eqK (Conv.trans (τ := mkSt [(8, rr 1064), (9, pI 9)] ((100000, ⟨0, .row 6 0 (elems encNode dNode [])⟩) :: [(c165e2)])) (Conv.adopt 100000 6 (elems encNode dNode []) rfl rfl (.rfl _) (.box (.cons (.nil _ _) (.cons (.rfl _) (.cons (.rfl _) (.cons (.rfl _) (.rfl _))))) (.rfl _))) (Conv.trans (τ := mkSt [(8, rr 1064), (9, pI 9)] [(c165e2), (100000, ob0 (roNode []))]) Conv.t0 (Conv.trans (τ := mkSt [(8, rr 1064), (9, pI 9)] ((100001, ⟨0, .row 4 0 (elems encTask dTask [])⟩) :: [(c165e3), (100000, ob0 (roNode []))])) (Conv.adopt 100001 4 (elems encTask dTask []) rfl rfl (.rfl _) (.box (.cons (.rfl _) (.cons (.rfl _) (.cons (.nil _ _) (.cons (.rfl _) (.rfl _))))) (.keep (.rfl _)))) Conv.t0)))) ?_
       refine DW.ret ?_
       obtain rfl := Option.some.inj hm
       exact retK [roNode [], roTask []] [100000, 100001] (.tup [.agg [ow 0 0, pI 0, ow 1 0, pI 0], pI 9])
      ·intro h37 hm
       refine DW.skip ?_
       refine DW.done ?_
       show DW _ _ _ _ _
       refine RD hnt (nn 3 []) [81] [(13, pI (w64 (((k1 : Nat) : Int) + 1)))] [] [] trivial ?_
       exact joinDone () ⟨hlt1, hm⟩ (Conv.tp [(13, pI (w64 (((k1 : Nat) : Int) + 1)))] [] (by kernel_rfl) (.cons rfl (.of_eq (congrArg pI (w64_succ hlt1 hc1))) .nil) .nil)
     ·intro h35
      have hge1 : ¬ k1 < r12.length := by have := of_decide_eq_false h35; omega
      have hm := he1 hge1
      unfold Write_ref7D1 at hm
      refine DW.exit ?_
      refine joinQ_exit ?_
      refine KQ_exit ?_
      refine blockQ_exit ?_
      show DW _ _ _ _ _
      refine DW.seq (RD hnt (nn 3 []) [12, 13, 64] [(16, pI r8.1.control)] [1480] [] trivial ?_)
      refine DW.seq (RD hnt (nn 7 []) [2, 3] [] [] [(c165e4 r8 p3 p2)] trivial ?_)
      refine DW.seq (DW.seq (RD hnt (nn 4 []) [] [(17, pI (kand .i64 (kor .i64 (kandNot .i64 r8.1.control p3) p2) 6))] [] [] trivial ?_))
      refine DW.seq ?_
      refine DW.join (ι := Bool) (fun (y4 : Bool) => mkSt [(4, rr 1032), (8, rr 1064), (10, rr 1080), (108, pB y4)] [(1032, bx (pm (encHierarchy p0))), (c165e1), (c165e4 r8 p3 p2)]) (fun y4 => (Write_ref7J4 p0 p2 p3 r8) y4 = some RES) ?_ ?_
      ·intro y4 hm
       unfold Write_ref7J4 at hm
       refine condM hm ?_ ?_
       ·intro h41 hm
        refine DW.seq (RD hnt (nn 3 []) [4, 10, 108] [(9, pI 6)] [1032, 1080] [] trivial ?_)
        refine DW.conv (τ := mkSt [(8, rr 1064), (9, pI 6)] [(c165e3), (100000, ob0 (roNode [])), (100001, ob0 (roTask []))]) (Conv.trans (τ := mkSt [(8, rr 1064), (9, pI 6)] [(c165e1)]) Conv.eqK (Conv.trans (τ := mkSt [(8, rr 1064), (9, pI 6)] ((100000, ⟨0, .row 6 0 (elems encNode dNode [])⟩) :: [(c165e2)])) (Conv.adopt 100000 6 (elems encNode dNode []) rfl rfl (.rfl _) (.box (.cons (.nil _ _) (.cons (.rfl _) (.cons (.rfl _) (.cons (.rfl _) (.rfl _))))) (.rfl _))) (Conv.trans (τ := mkSt [(8, rr 1064), (9, pI 6)] [(c165e2), (100000, ob0 (roNode []))]) Conv.t0 (Conv.trans (τ := mkSt [(8, rr 1064), (9, pI 6)] ((100001, ⟨0, .row 4 0 (elems encTask dTask [])⟩) :: [(c165e3), (100000, ob0 (roNode []))])) (Conv.adopt 100001 4 (elems encTask dTask []) rfl rfl (.rfl _) (.box (.cons (.rfl _) (.cons (.rfl _) (.cons (.nil _ _) (.cons (.rfl _) (.rfl _))))) (.keep (.rfl _)))) Conv.t0)))) ?_
        refine DW.ret ?_
        obtain rfl := Option.some.inj hm
        exact retK [roNode [], roTask []] [100000, 100001] (.tup [.agg [ow 0 0, pI 0, ow 1 0, pI 0], pI 6])
       ·intro h41 hm
        refine DW.skip ?_
        obtain ⟨r42, hr42, hm⟩ := bind_open hm
        refine DW.seq (RD hnt (.no :: .call 105 [] true (.agg [ow 0 r42.tree.nodes.length, pI r42.tree.next, ow 1 r42.tasks.length, pI r42.next]) [] [roNode r42.tree.nodes, roTask r42.tasks] :: nn 2 []) [108] [(18, rr 1144)] [] [(1144, bx [ow 1888 r42.tree.nodes.length, pI r42.tree.next, ow 1889 r42.tasks.length, pI r42.next]), (1888, ob0 (roNode r42.tree.nodes)), (1889, ob0 (roTask r42.tasks))] (an (Copy_ref6Spec p0 r42 hr42) trivial) ?_)
        obtain ⟨r43, hr43, hm⟩ := bind_open hm
        refine DW.seq (RD hnt (nn 3 (.call 136 [] true (.agg [ow 0 r43.nodes.length, pI r43.next]) [] [roNode r43.nodes] :: nn 2 [])) [4, 10] [] [1032, 1080, 1888] [(1144, bx [ow 1920 r43.nodes.length, pI r43.next, ow 1889 r42.tasks.length, pI r42.next]), (1920, ob0 (roNode r43.nodes))] (an (Set_ref5Spec p0.tree ({ id := r8.1.id, parent := r8.1.parent, name := r8.1.name, control := (kor .i64 (kandNot .i64 r8.1.control p3) p2), kind := r8.1.kind, owner := r8.1.owner } : Node) r43 hr43) trivial) ?_)
        refine DW.seq (RD hnt (nn 3 []) [18] [(9, pI 0)] [1144] [(1064, bx [ow 1920 r43.nodes.length, pI r43.next, ow 1889 r42.tasks.length, pI r42.next])] trivial ?_)
        refine DW.ret ?_
        obtain rfl := Option.some.inj hm
        exact retK [roNode r43.nodes, roTask r42.tasks] [1920, 1889] (.tup [.agg [ow 0 r43.nodes.length, pI r43.next, ow 1 r42.tasks.length, pI r42.next], pI 0])
      ·rcases bt ((kandNot .i64 (kand .i64 (kor .i64 (kandNot .i64 r8.1.control p3) p2) 6) r8.1.control) != 0) with h38 | h38
       ·replace hm := if_t h38 hm
        rcases bt (p1 != 1) with h39 | h39
        ·replace hm := if_t h39 hm
         obtain ⟨r40, hr40, hm⟩ := bind_open hm
         refine RD hnt (nn 7 (pT :: nn 3 (.call 26 [] true (ow 0 r40.length) [] [roI r40] :: nn 2 (pT :: [])))) [1, 16, 17] [(108, pB (decide (((r40.length : Nat) : Int) > 0)))] [] [] (an3 h38 (an3 h39 (an (Tasks_ref6Spec p0 p1 r40 hr40) (an3 h39 trivial)))) ?_
         exact joinDone (decide (((r40.length : Nat) : Int) > 0)) hm Conv.eqK
        ·replace hm := if_f h39 hm
         refine RD hnt (nn 7 (pT :: .no :: sk 5 (pF :: []))) [1, 16, 17] [(108, pB false)] [] [] (an3 h38 (an6 h39 trivial)) ?_
         exact joinDone false hm Conv.eqK
       ·replace hm := if_f h38 hm
        refine RD hnt (nn 5 (sk 2 (pF :: .no :: sk 5 (pF :: [])))) [1, 16, 17] [(108, pB false)] [] [] (an3 h38 (an6 ff trivial)) ?_
        exact joinDone false hm Conv.eqK
 ·rcases bt (!r1) with h2 | h2
  ·replace hm := if_t h2 hm
   refine RD hnt (.no :: .call 162 [] true (pB r1) [] [] :: nn 2 (sk 3 (pT :: .no :: sk 3 (pT :: .no :: sk 4 (pT :: []))))) [] [(37, pB true)] [] [] (an (Sound_ref7Spec p0 r1 hr1) (an4 h2 (an3 tt (an6 tt trivial)))) ?_
   exact joinDone true hm Conv.eqK
  ·replace hm := if_f h2 hm
   obtain ⟨r3, hr3, hm⟩ := bind_open hm
   rcases bt (!r3) with h4 | h4
   ·replace hm := if_t h4 hm
    refine RD hnt (.no :: .call 162 [] true (pB r1) [] [] :: nn 3 (.call 175 [] true (pB r3) [] [] :: .no :: pF :: .no :: sk 3 (pT :: .no :: sk 4 (pT :: [])))) [] [(37, pB true)] [] [] (an (Sound_ref7Spec p0 r1 hr1) (an2 h2 (an (Set_ref7Spec p2 r3 hr3) (an2 h2 (an4 h4 (an5 tt trivial)))))) ?_
    exact joinDone true hm Conv.eqK
   ·replace hm := if_f h4 hm
    obtain ⟨r5, hr5, hm⟩ := bind_open hm
    rcases bt (!r5) with h6 | h6
    ·replace hm := if_t h6 hm
     refine RD hnt (.no :: .call 162 [] true (pB r1) [] [] :: nn 3 (.call 175 [] true (pB r3) [] [] :: .no :: pF :: nn 2 (.call 175 [] true (pB r5) [] [] :: .no :: pF :: .no :: sk 4 (pT :: [])))) [] [(37, pB true)] [] [] (an (Sound_ref7Spec p0 r1 hr1) (an2 h2 (an (Set_ref7Spec p2 r3 hr3) (an2 h2 (an2 h4 (an (Set_ref7Spec p3 r5 hr5) (an2 h4 (an5 h6 trivial)))))))) ?_
     exact joinDone true hm Conv.eqK
    ·replace hm := if_f h6 hm
     refine RD hnt (.no :: .call 162 [] true (pB r1) [] [] :: nn 3 (.call 175 [] true (pB r3) [] [] :: .no :: pF :: nn 2 (.call 175 [] true (pB r5) [] [] :: .no :: pF :: nn 5 (pF :: [])))) [] [(37, pB ((kand .i64 p2 p3) != 0))] [] [] (an (Sound_ref7Spec p0 r1 hr1) (an2 h2 (an (Set_ref7Spec p2 r3 hr3) (an2 h2 (an2 h4 (an (Set_ref7Spec p3 r5 hr5) (an2 h4 (an5 h6 trivial)))))))) ?_
     exact joinDone ((kand .i64 p2 p3) != 0) hm Conv.eqK

abbrev c133e1 : Nat × Obj := (1064, bx [ow 100000 0, pI 0, .p (.sl .nil 0 0 (fun _ => [])), pI 0])
abbrev c133e2 : Nat × Obj := (1064, bx [.p (.sl .nil 0 0 (fun _ => [])), pI 0, .p (.sl .nil 0 0 (fun _ => [])), pI 0])
abbrev c133e3 : Nat × Obj := (1064, bx [ow 100000 0, pI 0, ow 100001 0, pI 0])
theorem Enable_ref8Spec (p0 : Hierarchy) (p1 : Int) (p2 : Int) (p3 : Int) (RES : Hierarchy × Int) (hm : Enable_ref8 p0 p1 p2 p3 = some RES) : Spec Tryz.prog 133 [.p (.agg (encHierarchy p0)), pI p1, pI p2, pI p3] [] (.tup [.agg [ow 0 RES.1.tree.nodes.length, pI RES.1.tree.next, ow 1 RES.1.tasks.length, pI RES.1.next], pI RES.2]) [] [roNode RES.1.tree.nodes, roTask RES.1.tasks] := by
 unfold Enable_ref8 at hm
 refine SO Tryz.func133 rfl rfl [(0, .p (.agg (encHierarchy p0))), (1, pI p1), (2, pI p2), (3, pI p3)] [] ?_
 intro cx hnt
 refine DW.seq (RD hnt (nn 3 []) [0] [(4, rr 1032), (8, rr 1064)] [] [(1032, bx (pm (encHierarchy p0))), (c133e2)] trivial ?_)
 obtain ⟨r1, hr1, hm⟩ := bind_open hm
 refine DW.seq (DW.seq (RD hnt (.no :: .call 129 [] true (pB r1) [] [] :: .no :: []) [] [(14, pB (!r1))] [] [] (an (Fits_ref8Spec p0 r1 hr1) trivial) ?_))
 refine condM hm ?_ ?_
 ·intro h2 hm
  refine DW.seq (RD hnt (nn 3 []) [1, 2, 3, 4, 14] [(9, pI 1)] [1032] [] trivial ?_)
  refine DW.conv (τ := mkSt [(8, rr 1064), (9, pI 1)] [(c133e3), (100000, ob0 (roNode [])), (100001, ob0 (roTask []))]) (Conv.trans (τ := mkSt [(8, rr 1064), (9, pI 1)] [(c133e2)]) Conv.eqK (Conv.trans (τ := mkSt [(8, rr 1064), (9, pI 1)] ((100000, ⟨0, .row 6 0 (elems encNode dNode [])⟩) :: [(c133e1)])) (Conv.adopt 100000 6 (elems encNode dNode []) rfl rfl (.rfl _) (.box (.cons (.nil _ _) (.cons (.rfl _) (.cons (.rfl _) (.cons (.rfl _) (.rfl _))))) (.rfl _))) (Conv.trans (τ := mkSt [(8, rr 1064), (9, pI 1)] [(c133e1), (100000, ob0 (roNode []))]) Conv.t0 (Conv.trans (τ := mkSt [(8, rr 1064), (9, pI 1)] ((100001, ⟨0, .row 4 0 (elems encTask dTask [])⟩) :: [(c133e3), (100000, ob0 (roNode []))])) (Conv.adopt 100001 4 (elems encTask dTask []) rfl rfl (.rfl _) (.box (.cons (.rfl _) (.cons (.rfl _) (.cons (.nil _ _) (.cons (.rfl _) (.rfl _))))) (.keep (.rfl _)))) Conv.t0)))) ?_
  refine DW.ret ?_
  obtain rfl := Option.some.inj hm
  exact retK [roNode [], roTask []] [100000, 100001] (.tup [.agg [ow 0 0, pI 0, ow 1 0, pI 0], pI 1])
 ·intro h2 hm
  refine DW.skip ?_
  obtain ⟨r3, hr3, hm⟩ := bind_open hm
  refine DW.seq (RD hnt (nn 4 (.call 165 [] true (.tup [.agg [ow 0 r3.1.tree.nodes.length, pI r3.1.tree.next, ow 1 r3.1.tasks.length, pI r3.1.next], pI r3.2]) [] [roNode r3.1.tree.nodes, roTask r3.1.tasks] :: nn 6 [])) [1, 2, 3, 4, 14] [(10, rr 1080), (11, pI r3.2)] [1032] [(1080, bx [ow 1168 r3.1.tree.nodes.length, pI r3.1.tree.next, ow 1169 r3.1.tasks.length, pI r3.1.next]), (1168, ob0 (roNode r3.1.tree.nodes)), (1169, ob0 (roTask r3.1.tasks))] (an (Write_ref7Spec p0 p1 p2 p3 r3 hr3) trivial) ?_)
  refine DW.seq (DW.seq (RD hnt (nn 2 []) [] [(25, pB (r3.2 != 0))] [] [] trivial ?_))
  refine condM hm ?_ ?_
  ·intro h4 hm
   refine DW.seq (RD hnt (nn 4 []) [10, 11, 25] [(9, pI r3.2)] [1080, 1168, 1169] [] trivial ?_)
   refine DW.conv (τ := mkSt [(8, rr 1064), (9, pI r3.2)] [(c133e3), (100000, ob0 (roNode [])), (100001, ob0 (roTask []))]) (Conv.trans (τ := mkSt [(8, rr 1064), (9, pI r3.2)] [(c133e2)]) Conv.eqK (Conv.trans (τ := mkSt [(8, rr 1064), (9, pI r3.2)] ((100000, ⟨0, .row 6 0 (elems encNode dNode [])⟩) :: [(c133e1)])) (Conv.adopt 100000 6 (elems encNode dNode []) rfl rfl (.rfl _) (.box (.cons (.nil _ _) (.cons (.rfl _) (.cons (.rfl _) (.cons (.rfl _) (.rfl _))))) (.rfl _))) (Conv.trans (τ := mkSt [(8, rr 1064), (9, pI r3.2)] [(c133e1), (100000, ob0 (roNode []))]) Conv.t0 (Conv.trans (τ := mkSt [(8, rr 1064), (9, pI r3.2)] ((100001, ⟨0, .row 4 0 (elems encTask dTask [])⟩) :: [(c133e3), (100000, ob0 (roNode []))])) (Conv.adopt 100001 4 (elems encTask dTask []) rfl rfl (.rfl _) (.box (.cons (.rfl _) (.cons (.rfl _) (.cons (.nil _ _) (.cons (.rfl _) (.rfl _))))) (.keep (.rfl _)))) Conv.t0)))) ?_
   refine DW.ret ?_
   obtain rfl := Option.some.inj hm
   exact retK [roNode [], roTask []] [100000, 100001] (.tup [.agg [ow 0 0, pI 0, ow 1 0, pI 0], pI r3.2])
  ·intro h4 hm
   refine DW.skip ?_
   obtain ⟨r5, hr5, hm⟩ := bind_open hm
   refine DW.seq (DW.seq (RD hnt (.no :: .call 129 [] true (pB r5) [] [] :: .no :: []) [11, 25] [(30, pB (!r5))] [] [] (an (Fits_ref8Spec r3.1 r5 hr5) trivial) ?_))
   refine condM hm ?_ ?_
   ·intro h6 hm
    refine DW.seq (RD hnt (nn 3 []) [10, 30] [(9, pI 10)] [1080, 1168, 1169] [] trivial ?_)
    refine DW.conv (τ := mkSt [(8, rr 1064), (9, pI 10)] [(c133e3), (100000, ob0 (roNode [])), (100001, ob0 (roTask []))]) (Conv.trans (τ := mkSt [(8, rr 1064), (9, pI 10)] [(c133e2)]) Conv.eqK (Conv.trans (τ := mkSt [(8, rr 1064), (9, pI 10)] ((100000, ⟨0, .row 6 0 (elems encNode dNode [])⟩) :: [(c133e1)])) (Conv.adopt 100000 6 (elems encNode dNode []) rfl rfl (.rfl _) (.box (.cons (.nil _ _) (.cons (.rfl _) (.cons (.rfl _) (.cons (.rfl _) (.rfl _))))) (.rfl _))) (Conv.trans (τ := mkSt [(8, rr 1064), (9, pI 10)] [(c133e1), (100000, ob0 (roNode []))]) Conv.t0 (Conv.trans (τ := mkSt [(8, rr 1064), (9, pI 10)] ((100001, ⟨0, .row 4 0 (elems encTask dTask [])⟩) :: [(c133e3), (100000, ob0 (roNode []))])) (Conv.adopt 100001 4 (elems encTask dTask []) rfl rfl (.rfl _) (.box (.cons (.rfl _) (.cons (.rfl _) (.cons (.nil _ _) (.cons (.rfl _) (.rfl _))))) (.keep (.rfl _)))) Conv.t0)))) ?_
    refine DW.ret ?_
    obtain rfl := Option.some.inj hm
    exact retK [roNode [], roTask []] [100000, 100001] (.tup [.agg [ow 0 0, pI 0, ow 1 0, pI 0], pI 10])
   ·intro h6 hm
    refine DW.skip ?_
    refine DW.seq (RD hnt (nn 3 []) [10, 30] [(9, pI 0)] [1080] [(1064, bx [ow 1168 r3.1.tree.nodes.length, pI r3.1.tree.next, ow 1169 r3.1.tasks.length, pI r3.1.next])] trivial ?_)
    refine DW.ret ?_
    obtain rfl := Option.some.inj hm
    exact retK [roNode r3.1.tree.nodes, roTask r3.1.tasks] [1168, 1169] (.tup [.agg [ow 0 r3.1.tree.nodes.length, pI r3.1.tree.next, ow 1 r3.1.tasks.length, pI r3.1.next], pI 0])
end Go.Dm

