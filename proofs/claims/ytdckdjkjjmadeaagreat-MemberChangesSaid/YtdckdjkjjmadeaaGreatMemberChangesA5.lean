/- Texts of the proof of MemberChanges: the data machine, the models of the Go functions, their contracts. -/
import Derived.Test.YtdckdjkjjmadeaaGreatMemberChangesA4
set_option linter.unusedVariables false
set_option linter.unusedSimpArgs false
/- Go functions compute their models, printed by a program. -/
namespace Go.Dm
open Go.Proofs
set_option linter.unusedVariables false
theorem Same_ref5Spec (p0 : Tree) (p1 : Tree) (RES : Bool) (hm : Same_ref5 p0 p1 = some RES) : Spec Tryz.prog 118 [.p (.agg (encTree p0)), .p (.agg (encTree p1))] [] (pB RES) [] [] := by
 unfold Same_ref5 at hm
 refine SO Tryz.func118 rfl rfl [(0, .p (.agg (encTree p0))), (1, .p (.agg (encTree p1)))] [] ?_
 intro cx hnt
 refine Sq (RK hnt (nn 3 []) [(2, rr 1016), (3, rr 1024)] [(1016, bx (pm (encTree p0))), (1024, bx (pm (encTree p1)))] tv ?_)
 refine Sq (Sq (DW.regJ (sl2 := [(2, rr 1016), (3, rr 1024), (19, pB ((((p0.nodes.length : Nat) : Int) != ((p1.nodes.length : Nat) : Int)) || (p0.next != p1.next)))]) (ob2 := [(1016, bx (pm (encTree p0))), (1024, bx (pm (encTree p1)))]) ?_ ?_))
 ·rcases bt (((p0.nodes.length : Nat) : Int) != ((p1.nodes.length : Nat) : Int)) with h1 | h1
  ·exact RT hnt (nn 8 (sk 5 (pT :: []))) [(19, pB true)] (an6 h1 tv) (by kernel_rfl) (.cons rfl (.of_eq (by rw [h1]; try rfl)) .nil)
  ·exact RT hnt (nn 13 (pF :: [])) [(19, pB (p0.next != p1.next))] (an6 h1 tv) (by kernel_rfl) (.cons rfl (.of_eq (by rw [h1]; try rfl)) .nil)
 ·refine condM hm ?_ ?_
  ·intro h2 hm
   refine Sq (RK hnt (.no :: []) [(4, pB false)] [] tv ?_)
   obtain rfl := sj hm
   exact DW.ret (retK [] [] (pB false))
  ·intro h2 hm
   refine Sk ?_
   refine Sq (Sq (RD hnt (.no :: []) [19] [(5, pI 0)] [] [] tv ?_))
   refine Bk ?_
   obtain ⟨hc1, hm⟩ := go1 hm
   refine DW.rangeO (fun (k1 : Nat) (s1 : Unit) => mkSt [(2, rr 1016), (3, rr 1024), (5, pI ((k1 : Nat) : Int))] [(1016, bx (pm (encTree p0))), (1024, bx (pm (encTree p1)))]) dNode hm Conv.eqK ?_
   intro k1 s1 n1 hk1 hs1 he1
   refine Sq (Sq (RD hnt (nn 5 []) [] [(24, pB (decide (((k1 : Nat) : Int) < ((p0.nodes.length : Nat) : Int))))] [] [] tv ?_))
   refine condK (decide (((k1 : Nat) : Int) < ((p0.nodes.length : Nat) : Int))) ?_ ?_
   ·intro h11
    have hlt1 : k1 < p0.nodes.length := by have := of_decide_eq_true h11; omega
    have hm := hs1 hlt1
    unfold Same_ref5L1 at hm
    refine Sk ?_
    refine Sq (Bk ?_)
    obtain ⟨g12, hm⟩ := go1 hm
    refine Sq (RD hnt (nn 11 []) [24] [(37, pB (!(eqNode (p0.nodes.getD k1 (default : Node)) (p1.nodes.getD k1 dNode))))] [] [] (an (nn0 k1) (an (ltc hlt1) (an (nn0 k1) (an (ltc g12) tv)))) ?_)
    refine condM hm ?_ ?_
    ·intro h13 hm
     refine Sq (RK hnt (.no :: []) [(4, pB false)] [] tv ?_)
     obtain rfl := sj hm
     exact DW.ret (retK [] [] (pB false))
    ·intro h13 hm
     refine Sk ?_
     refine DW.done ?_
     show DW _ _ _ _ _
     refine RD hnt (nn 3 []) [37] [(5, pI (w64 (((k1 : Nat) : Int) + 1)))] [] [] tv ?_
     exact jD () ⟨hlt1, hm⟩ (Conv.tp [(5, pI (w64 (((k1 : Nat) : Int) + 1)))] [] (by kernel_rfl) (.cons rfl (.of_eq (congrArg pI (w64_succ hlt1 hc1))) .nil) .nil)
   ·intro h11
    have hge1 : ¬ k1 < p0.nodes.length := by have := of_decide_eq_false h11; omega
    have hm := he1 hge1
    unfold Same_ref5D1 at hm
    refine DW.exit ?_
    refine joinQ_exit ?_
    refine KQ_exit ?_
    refine blockQ_exit ?_
    show DW _ _ _ _ _
    refine Sq (RK hnt (.no :: []) [(4, pB true)] [] tv ?_)
    obtain rfl := sj hm
    exact DW.ret (retK [] [] (pB true))
abbrev o82 (ks : List Nat) (b : Bool) (RES : Bool) : Orc := .call 118 ks b (pB RES) [] []

theorem Same_ref6Spec (p0 : Hierarchy) (p1 : Hierarchy) (RES : Bool) (hm : Same_ref6 p0 p1 = some RES) : Spec Tryz.prog 62 [.p (.agg (encHierarchy p0)), .p (.agg (encHierarchy p1))] [] (pB RES) [] [] := by
 unfold Same_ref6 at hm
 refine SO Tryz.func62 rfl rfl [(0, .p (.agg (encHierarchy p0))), (1, .p (.agg (encHierarchy p1)))] [] ?_
 intro cx hnt
 refine Sq (RK hnt (nn 3 []) [(2, rr 1016), (3, rr 1024)] [(1016, bx (pm (encHierarchy p0))), (1024, bx (pm (encHierarchy p1)))] tv ?_)
 obtain ⟨r1, hr1, hm⟩ := bo hm
 refine Sq (Sq ?_)
 refine Jn (ι := Bool) (fun (y1 : Bool) => mkSt [(2, rr 1016), (3, rr 1024), (27, pB y1)] [(1016, bx (pm (encHierarchy p0))), (1024, bx (pm (encHierarchy p1)))]) (fun y1 => (Same_ref6J1 p0 p1) y1 = some RES) ?_ ?_
 ·intro y1 hm
  unfold Same_ref6J1 at hm
  refine condM hm ?_ ?_
  ·intro h4 hm
   refine Sq (RK hnt (.no :: []) [(4, pB false)] [] tv ?_)
   obtain rfl := sj hm
   exact DW.ret (retK [] [] (pB false))
  ·intro h4 hm
   refine Sk ?_
   refine Sq (Sq (RD hnt (.no :: []) [27] [(5, pI 0)] [] [] tv ?_))
   refine Bk ?_
   obtain ⟨hc1, hm⟩ := go1 hm
   refine DW.rangeO (fun (k1 : Nat) (s1 : Unit) => mkSt [(2, rr 1016), (3, rr 1024), (5, pI ((k1 : Nat) : Int))] [(1016, bx (pm (encHierarchy p0))), (1024, bx (pm (encHierarchy p1)))]) dTask hm Conv.eqK ?_
   intro k1 s1 n1 hk1 hs1 he1
   refine Sq (Sq (RD hnt (nn 5 []) [] [(32, pB (decide (((k1 : Nat) : Int) < ((p0.tasks.length : Nat) : Int))))] [] [] tv ?_))
   refine condK (decide (((k1 : Nat) : Int) < ((p0.tasks.length : Nat) : Int))) ?_ ?_
   ·intro h13
    have hlt1 : k1 < p0.tasks.length := by have := of_decide_eq_true h13; omega
    have hm := hs1 hlt1
    unfold Same_ref6L1 at hm
    refine Sk ?_
    refine Sq (Bk ?_)
    obtain ⟨g14, hm⟩ := go1 hm
    refine Sq (RD hnt (nn 11 []) [32] [(45, pB (!(eqTask (p0.tasks.getD k1 (default : Task)) (p1.tasks.getD k1 dTask))))] [] [] (an (nn0 k1) (an (ltc hlt1) (an (nn0 k1) (an (ltc g14) tv)))) ?_)
    refine condM hm ?_ ?_
    ·intro h15 hm
     refine Sq (RK hnt (.no :: []) [(4, pB false)] [] tv ?_)
     obtain rfl := sj hm
     exact DW.ret (retK [] [] (pB false))
    ·intro h15 hm
     refine Sk ?_
     refine DW.done ?_
     show DW _ _ _ _ _
     refine RD hnt (nn 3 []) [45] [(5, pI (w64 (((k1 : Nat) : Int) + 1)))] [] [] tv ?_
     exact jD () ⟨hlt1, hm⟩ (Conv.tp [(5, pI (w64 (((k1 : Nat) : Int) + 1)))] [] (by kernel_rfl) (.cons rfl (.of_eq (congrArg pI (w64_succ hlt1 hc1))) .nil) .nil)
   ·intro h13
    have hge1 : ¬ k1 < p0.tasks.length := by have := of_decide_eq_false h13; omega
    have hm := he1 hge1
    unfold Same_ref6D1 at hm
    refine DW.exit ?_
    refine joinQ_exit ?_
    refine KQ_exit ?_
    refine blockQ_exit ?_
    show DW _ _ _ _ _
    refine Sq (RK hnt (.no :: []) [(4, pB true)] [] tv ?_)
    obtain rfl := sj hm
    exact DW.ret (retK [] [] (pB true))
 ·rcases bt (!r1) with h2 | h2
  ·replace hm := if_t h2 hm
   refine RD hnt (nn 4 (o82 [] true r1 :: nn 2 (sk 7 (pT :: .no :: sk 5 (pT :: []))))) [] [(27, pB true)] [] [] (an (Same_ref5Spec p0.tree p1.tree r1 hr1) (an2 h2 (an6 h2 (an6 tt tv)))) ?_
   exact jD true hm Conv.eqK
  ·replace hm := if_f h2 hm
   rcases bt (((p0.tasks.length : Nat) : Int) != ((p1.tasks.length : Nat) : Int)) with h3 | h3
   ·replace hm := if_t h3 hm
    refine RD hnt (nn 4 (o82 [] true r1 :: nn 9 (pF :: .no :: sk 5 (pT :: [])))) [] [(27, pB true)] [] [] (an (Same_ref5Spec p0.tree p1.tree r1 hr1) (an2 h2 (an6 h2 (an6 h3 tv)))) ?_
    exact jD true hm Conv.eqK
   ·replace hm := if_f h3 hm
    refine RD hnt (nn 4 (o82 [] true r1 :: nn 9 (pF :: nn 6 (pF :: [])))) [] [(27, pB (p0.next != p1.next))] [] [] (an (Same_ref5Spec p0.tree p1.tree r1 hr1) (an2 h2 (an6 h2 (an6 h3 tv)))) ?_
    exact jD (p0.next != p1.next) hm Conv.eqK
abbrev o81 (ks : List Nat) (b : Bool) (RES : Bool) : Orc := .call 62 ks b (pB RES) [] []

abbrev c83e1 (r7 : Hierarchy) (r3 : Int) (p2 : Int) := ({ id := (r7.tasks.getD (Int.toNat r3) dTask).id, process := (r7.tasks.getD (Int.toNat r3) dTask).process, group := p2, user := (r7.tasks.getD (Int.toNat r3) dTask).user } : Task)
abbrev c83e2 : Nat × Obj := (1048, bx [.p (.sl .nil 0 0 (fun _ => [])), pI 0, .p (.sl .nil 0 0 (fun _ => [])), pI 0])
abbrev c83e3 (r7 : Hierarchy) (r3 : Int) (p2 : Int) := (updF (elTask r7.tasks) (Int.toNat r3) [vi (r7.tasks.getD (Int.toNat r3) dTask).id, vi (r7.tasks.getD (Int.toNat r3) dTask).process, vi p2, vi (r7.tasks.getD (Int.toNat r3) dTask).user])
abbrev c83e4 (r7 : Hierarchy) (r3 : Int) (p2 : Int) := (r7.tasks.set (Int.toNat r3) (c83e1 r7 r3 p2))
theorem Place_memberSpec (p0 : Hierarchy) (p1 : Int) (p2 : Int) (RES : Hierarchy × Int) (hm : Place_member p0 p1 p2 = some RES) : Spec Tryz.prog 69 [.p (.agg (encHierarchy p0)), pI p1, pI p2] [] (.tup [.agg [ow 0 RES.1.tree.nodes.length, pI RES.1.tree.next, ow 1 RES.1.tasks.length, pI RES.1.next], pI RES.2]) [] [roNode RES.1.tree.nodes, roTask RES.1.tasks] := by
 unfold Place_member at hm
 refine SO Tryz.func69 rfl rfl [(0, .p (.agg (encHierarchy p0))), (1, pI p1), (2, pI p2)] [] ?_
 intro cx hnt
 refine Sq (RD hnt (nn 3 []) [0] [(3, rr 1024), (6, rr 1048)] [] [(1024, bx (pm (encHierarchy p0))), (c83e2)] tv ?_)
 obtain ⟨r1, hr1, hm⟩ := bo hm
 refine Sq (Sq (RD hnt (.no :: o7 [] true r1 :: .no :: []) [] [(12, pB (!r1))] [] [] (an (Check_memberSpec p0 r1 hr1) tv) ?_))
 refine condM hm ?_ ?_
 ·intro h2 hm
  refine Sq (RD hnt (nn 3 []) [1, 2, 3, 12] [(7, pI 1)] [1024] [] tv ?_)
  refine DW.cv [] [] [] [(1048, bx [ow 100000 0, pI 0, ow 100001 0, pI 0]), (100000, ob0 (roNode [])), (100001, ob0 (roTask []))] (Conv.ads [(.o 1048 0, 100000, 6, elems encNode dNode []), (.o 1048 2, 100001, 4, elems encTask dTask [])]) ?_
  obtain rfl := sj hm
  exact DW.ret (retK [roNode [], roTask []] [100000, 100001] (.tup [.agg [ow 0 0, pI 0, ow 1 0, pI 0], pI 1]))
 ·intro h2 hm
  refine Sk ?_
  obtain ⟨r3, hr3, hm⟩ := bo hm
  refine Sq (RD hnt (nn 2 (o15 [] true r3 :: .no :: [])) [1, 12] [(8, pI r3)] [] [] (an (At_crewSpec p0 p1 r3 hr3) tv) ?_)
  refine Sq (Sq ?_)
  refine Jn (ι := Bool) (fun (y1 : Bool) => mkSt [(2, pI p2), (3, rr 1024), (6, rr 1048), (8, pI r3), (25, pB y1)] [(1024, bx (pm (encHierarchy p0))), (c83e2)]) (fun y1 => (Place_memberJ1 p0 p2 r3) y1 = some RES) ?_ ?_
  ·intro y1 hm
   unfold Place_memberJ1 at hm
   refine condM hm ?_ ?_
   ·intro h6 hm
    refine Sq (RD hnt (nn 3 []) [2, 3, 8, 25] [(7, pI 4)] [1024] [] tv ?_)
    refine DW.cv [] [] [] [(1048, bx [ow 100000 0, pI 0, ow 100001 0, pI 0]), (100000, ob0 (roNode [])), (100001, ob0 (roTask []))] (Conv.ads [(.o 1048 0, 100000, 6, elems encNode dNode []), (.o 1048 2, 100001, 4, elems encTask dTask [])]) ?_
    obtain rfl := sj hm
    exact DW.ret (retK [roNode [], roTask []] [100000, 100001] (.tup [.agg [ow 0 0, pI 0, ow 1 0, pI 0], pI 4]))
   ·intro h6 hm
    refine Sk ?_
    obtain ⟨r7, hr7, hm⟩ := bo hm
    refine Sq (RD hnt (.no :: o22 [] true r7 :: nn 2 []) [3, 25] [(9, rr 1072)] [1024] [(1072, bx [ow 1224 r7.tree.nodes.length, pI r7.tree.next, ow 1225 r7.tasks.length, pI r7.next]), (1224, ob0 (roNode r7.tree.nodes)), (1225, ob0 (roTask r7.tasks))] (an (Copy_crewSpec p0 r7 hr7) tv) ?_)
    obtain ⟨g8, g9, hm⟩ := go2 hm
    refine Sq (RN hnt (nn 7 []) [(6, rr 1048), (9, rr 1072)] [(c83e2), (1072, bx [ow 1224 r7.tree.nodes.length, pI r7.tree.next, ow 1225 (c83e4 r7 r3 p2).length, pI r7.next]), (1224, ob0 (roNode r7.tree.nodes)), (1225, ob0 (roTask (c83e4 r7 r3 p2)))] [] [(1072, .box [ow 1224 r7.tree.nodes.length, pI r7.tree.next, ow 1225 r7.tasks.length, pI r7.next]), (1225, .row 4 r7.tasks.length (c83e3 r7 r3 p2))] (an g8.1 (an g8.2 (an g9 tv))) (by kernel_rfl) .nil (.cons rfl (.box (.cons .rfl (.cons .rfl (.cons (MLe.ownLen (enc := encTask) (d := dTask) (f := (c83e3 r7 r3 p2)) (RowIs.upd RowIs.elems (c83e1 r7 r3 p2) rfl)) (.cons .rfl .nil))))) (.cons rfl (BLe.typed (RowIs.upd RowIs.elems (c83e1 r7 r3 p2) rfl)) .nil)) ?_)
    refine Sq (RD hnt (nn 3 []) [9] [(7, pI 0)] [1072] [(1048, bx [ow 1224 r7.tree.nodes.length, pI r7.tree.next, ow 1225 (c83e4 r7 r3 p2).length, pI r7.next])] tv ?_)
    obtain rfl := sj hm
    exact DW.ret (retK [roNode r7.tree.nodes, roTask (c83e4 r7 r3 p2)] [1224, 1225] (.tup [.agg [ow 0 r7.tree.nodes.length, pI r7.tree.next, ow 1 (c83e4 r7 r3 p2).length, pI r7.next], pI 0]))
  ·rcases bt (decide (r3 < 0)) with h4 | h4
   ·replace hm := if_t h4 hm
    refine RD hnt (nn 3 (sk 5 (pT :: []))) [] [(25, pB true)] [] [] (an6 h4 tv) ?_
    exact jD true hm Conv.eqK
   ·replace hm := if_f h4 hm
    obtain ⟨r5, hr5, hm⟩ := bo hm
    refine RD hnt (nn 6 (o18 [] true r5 :: .no :: pF :: [])) [] [(25, pB (decide (r5 < 0)))] [] [] (an4 h4 (an (At_forestSpec p0.tree p2 r5 hr5) (an2 h4 tv))) ?_
    exact jD (decide (r5 < 0)) hm Conv.eqK
abbrev o83 (ks : List Nat) (b : Bool) (RES : Hierarchy × Int) : Orc := .call 69 ks b (.tup [.agg [ow 0 RES.1.tree.nodes.length, pI RES.1.tree.next, ow 1 RES.1.tasks.length, pI RES.1.next], pI RES.2]) [] [roNode RES.1.tree.nodes, roTask RES.1.tasks]

abbrev c86e1 (p0 : Tree) (k1 : Nat) := (p0.nodes.getD k1 (default : Node))
abbrev c86e2 (p0 : Tree) : Nat × MV := (10, pI ((p0.nodes.length : Nat) : Int))
theorem Children_forestSpec (p0 : Tree) (p1 : Int) (RES : List Int) (hm : Children_forest p0 p1 = some RES) : Spec Tryz.prog 157 [.p (.agg (encTree p0)), pI p1] [] (ow 0 RES.length) [] [roI RES] := by
 unfold Children_forest at hm
 refine SO Tryz.func157 rfl rfl [(0, .p (.agg (encTree p0))), (1, pI p1)] [] ?_
 intro cx hnt
 refine Sq (RK hnt (nn 2 []) [(1, pI p1), (2, rr 1016)] [(1016, bx (pm (encTree p0)))] tv ?_)
 refine Sq (RD hnt (.no :: []) [] [(5, .p (.sl .nil 0 0 (fun _ => [])))] [] [] tv ?_)
 refine Sq (Sq (RD hnt (nn 4 []) [2] [(9, .p (slNode p0.nodes)), (c86e2 p0), (11, pI 0)] [1016] [] tv ?_))
 refine Bk ?_
 obtain ⟨hc1, hm⟩ := go1 hm
 refine DW.rangeO (fun (k1 : Nat) (s1 : List Int) => mkSt [(1, pI p1), (5, ow 1184 s1.length), (9, .p (slNode p0.nodes)), (c86e2 p0), (11, pI ((k1 : Nat) : Int))] [(1184, ob0 (roI s1))]) dNode hm (Conv.ads [(.s 5, 1184, 1, elems encI 0 [])]) ?_
 intro k1 s1 n1 hk1 hs1 he1
 refine Sq (RD hnt (.no :: []) [] [(12, pB (decide (((k1 : Nat) : Int) < ((p0.nodes.length : Nat) : Int))))] [] [] tv ?_)
 refine Sq (condK (decide (((k1 : Nat) : Int) < ((p0.nodes.length : Nat) : Int))) ?_ ?_)
 ·intro h8
  have hlt1 : k1 < p0.nodes.length := by have := of_decide_eq_true h8; omega
  have hm := hs1 hlt1
  unfold Children_forestL1 at hm
  refine Sk ?_
  refine Sq ?_
  refine Jn (ι := List Int) (fun (y3 : List Int) => mkSt [(1, pI p1), (5, ow 1184 y3.length), (9, .p (slNode p0.nodes)), (c86e2 p0), (11, pI ((k1 : Nat) : Int))] [(1184, ob0 (roI y3))]) (fun y3 => (Children_forestJ3 n1) y3 = some RES) ?_ ?_
  ·intro y3 hm
   unfold Children_forestJ3 at hm
   refine RD hnt (nn 2 []) [] [(11, pI (w64 (((k1 : Nat) : Int) + 1)))] [] [] tv ?_
   exact jD y3 ⟨hlt1, hm⟩ (Conv.tp [(11, pI (w64 (((k1 : Nat) : Int) + 1)))] [] (by kernel_rfl) (.cons rfl (.of_eq (congrArg pI (w64_succ hlt1 hc1))) .nil) .nil)
  ·refine Bk ?_
   refine Sq (RD hnt (nn 4 []) [12] [(7, rr 1056)] [] [(1056, bx (pm (encNode (c86e1 p0 k1))))] (an (nn0 k1) (an (ltc hlt1) tv)) ?_)
   refine Sq (RD hnt (nn 4 []) [] [(18, pB ((c86e1 p0 k1).parent == p1))] [] [] tv ?_)
   refine condM hm ?_ ?_
   ·intro h9 hm
    obtain ⟨g10, hm⟩ := go1 hm
    refine RN hnt (nn 6 []) [(1, pI p1), (5, ow 1184 (s1 ++ [(c86e1 p0 k1).id]).length), (9, .p (slNode p0.nodes)), (c86e2 p0), (11, pI ((k1 : Nat) : Int))] [(1184, ob0 (roI (s1 ++ [(c86e1 p0 k1).id])))] [(5, ow 1184 (s1.length + 1))] [(1184, .row 1 (s1.length + 1) (catF s1.length (elI s1) (cut 1 [vi (c86e1 p0 k1).id])))] (an (by omega : (s1.length + 1) * 8 ≤ 140737488355328) tv) (by kernel_rfl) (.cons rfl (MLe.ownLen (enc := encI) (d := 0) (f := (catF s1.length (elI s1) (cut 1 [vi (c86e1 p0 k1).id]))) (RowIs.cat RowIs.elems (RowIs.lit (enc := encI) (d := 0) (n := 1) (f := (cut 1 [vi (c86e1 p0 k1).id])) [(c86e1 p0 k1).id] rfl (fun | 0, _ => rfl | n + 1, h => absurd h (by omega))))) .nil) (.cons rfl (BLe.typed (RowIs.cat RowIs.elems (RowIs.lit (enc := encI) (d := 0) (n := 1) (f := (cut 1 [vi (c86e1 p0 k1).id])) [(c86e1 p0 k1).id] rfl (fun | 0, _ => rfl | n + 1, h => absurd h (by omega))))) .nil) ?_
    exact bD (s1 ++ [(c86e1 p0 k1).id]) hm .refl
   ·intro h9 hm
    refine Sk ?_
    exact bD s1 hm Conv.t0
 ·intro h8
  have hge1 : ¬ k1 < p0.nodes.length := by have := of_decide_eq_false h8; omega
  have hm := he1 hge1
  unfold Children_forestD1 at hm
  refine DW.exit ?_
  refine joinQ_exit ?_
  refine KQ_exit ?_
  refine blockQ_exit ?_
  show DW _ _ _ _ _
  refine Sq (RK hnt (nn 2 []) [(4, ow 1184 s1.length)] [(1184, ob0 (roI s1))] tv ?_)
  obtain rfl := sj hm
  exact DW.ret (retK [roI s1] [1184] (ow 0 s1.length))
abbrev o86 (ks : List Nat) (b : Bool) (RES : List Int) : Orc := .call 157 ks b (ow 0 RES.length) [] [roI RES]

theorem copied_treeSpec (p0 : Tree) (RES : Tree) (hm : copied_tree p0 = some RES) : Spec Tryz.prog 158 [.p (.agg (encTree p0))] [] (.agg [ow 0 RES.nodes.length, pI RES.next]) [] [roNode RES.nodes] := by
 unfold copied_tree at hm
 refine SO Tryz.func158 rfl rfl [(0, .p (.agg (encTree p0)))] [] ?_
 intro cx hnt
 refine Sq (RK hnt (nn 2 []) [(1, rr 1008), (2, rr 1016)] [(1008, bx (pm (encTree p0))), (1016, bx [.p (.sl .nil 0 0 (fun _ => [])), pI 0])] tv ?_)
 obtain ⟨r1, hr1, hm⟩ := bo hm
 refine Sq (RK hnt (nn 2 (o23 [] true r1 :: nn 4 [])) [(2, rr 1016)] [(1016, bx [ow 1040 r1.length, pI p0.next]), (1040, ob0 (roNode r1))] (an (Clone_slices_NodeSpec p0.nodes r1 hr1) tv) ?_)
 obtain rfl := sj hm
 exact DW.ret (retK [roNode r1] [1040] (.agg [ow 0 r1.length, pI p0.next]))
abbrev o87 (ks : List Nat) (b : Bool) (RES : Tree) : Orc := .call 158 ks b (.agg [ow 0 RES.nodes.length, pI RES.next]) [] [roNode RES.nodes]

abbrev c88e1 := ({ id := 0, parent := 0, name := ByteArray.empty, control := 0, kind := 0, owner := 0 } : Node)
theorem Delete_slices_NodeSpec (p0 : List Node) (p1 : Int) (p2 : Int) (RES : Nat × (List Node)) (hm : Delete_slices_Node p0 p1 p2 = some RES) : Spec Tryz.prog 159 [ow 0 p0.length, pI p1, pI p2] [roNode p0] (ow 0 RES.1) [roNode RES.2] [] := by
 unfold Delete_slices_Node at hm
 refine SO Tryz.func159 rfl rfl [(0, ow 0 p0.length), (1, pI p1), (2, pI p2)] [(0, ob0 (roNode p0))] ?_
 intro cx hnt
 refine Sq (RD hnt (.no :: []) [] [] [] [] tv ?_)
 obtain ⟨g1, hm⟩ := go1 hm
 refine Sq (RD hnt (nn 6 []) [] [] [] [] (an g1.1 (an g1.2.1 (an g1.2.2.1 (an g1.2.2.2 tv)))) ?_)
 refine Sq (Sq (RD hnt (nn 3 []) [] [(16, pB (p1 == p2))] [] [] tv ?_))
 refine condM hm ?_ ?_
 ·intro h2 hm
  refine Sq (RK hnt (nn 2 []) [(6, ow 0 p0.length)] [(0, ob0 (roNode p0))] tv ?_)
  obtain rfl := sj hm
  exact DW.ret (retK [roNode p0] [] (ow 0 p0.length))
 ·intro h2 hm
  refine Sk ?_
  refine Sq (RD hnt (nn 3 []) [16] [(7, pI ((p0.length : Nat) : Int))] [] [] tv ?_)
  obtain ⟨g3, g4, g5, hm⟩ := go3 hm
  refine Sq (RN hnt (nn 8 []) [(0, ow 0 ((Int.toNat p1) + (subN p0.length (Int.toNat p2)))), (7, pI ((p0.length : Nat) : Int))] [(0, ob0 (roNode (overL p0 (0 + (Int.toNat p1)) (subN p0.length (Int.toNat p2)) ((p0.drop (Int.toNat p2)).take (subN p0.length (Int.toNat p2))))))] [] [(0, .row 6 p0.length (overF (elNode p0) (0 + (Int.toNat p1)) (subN p0.length (Int.toNat p2)) (shF (Int.toNat p2) (elNode p0))))] (an (by omega : (0 : Int) ≤ 0) (an (by omega : (0 : Int) ≤ p1) (an (by omega : p1 ≤ ((p0.length : Nat) : Int)) (an (by omega : (0 : Int) ≤ p2) (an (by omega : p2 ≤ ((p0.length : Nat) : Int)) (an (by omega : ((p0.length : Nat) : Int) ≤ ((p0.length : Nat) : Int)) (an g5.1 (an g5.2 tv)))))))) (by kernel_rfl) .nil (.cons rfl (BLe.typed (RowIs.over RowIs.elems (RowIs.sub RowIs.elems (by first | omega | (simp only [subN_eq, addN_eq] at *; omega))) (Nat.le_refl _) g5.1)) .nil) ?_)
  generalize (overL p0 (0 + (Int.toNat p1)) (subN p0.length (Int.toNat p2)) ((p0.drop (Int.toNat p2)).take (subN p0.length (Int.toNat p2)))) = G1 at hm ⊢
  obtain ⟨g6, g7, hm⟩ := go2 hm
  refine Sq (RN hnt (nn 4 (pF :: .no :: [])) [(0, ow 0 ((Int.toNat p1) + (subN p0.length (Int.toNat p2))))] [(0, ob0 (roNode (fillL G1 ((Int.toNat p1) + (subN p0.length (Int.toNat p2))) (subN p0.length ((Int.toNat p1) + (subN p0.length (Int.toNat p2)))) (c88e1))))] [] [(0, .row 6 G1.length (overF (elNode G1) ((Int.toNat p1) + (subN p0.length (Int.toNat p2))) (subN p0.length ((Int.toNat p1) + (subN p0.length (Int.toNat p2)))) (fun _ => [vi 0, vi 0, vs ByteArray.empty, vi 0, vi 0, vi 0])))] (an g6.1 (an g6.2.1 (an g6.2.2 (an g7 tv)))) (by kernel_rfl) .nil (.cons rfl (BLe.typed (RowIs.fill RowIs.elems (c88e1) rfl (by first | exact g7 | omega))) .nil) ?_)
  refine Sq (RD hnt (nn 2 []) [0] [(6, ow 0 ((Int.toNat p1) + (subN p0.length (Int.toNat p2))))] [] [] tv ?_)
  obtain rfl := sj hm
  exact DW.ret (retK [roNode (fillL G1 ((Int.toNat p1) + (subN p0.length (Int.toNat p2))) (subN p0.length ((Int.toNat p1) + (subN p0.length (Int.toNat p2)))) (c88e1))] [] (ow 0 ((Int.toNat p1) + (subN p0.length (Int.toNat p2)))))
abbrev o88 (ks : List Nat) (b : Bool) (RES : Nat × (List Node)) : Orc := .call 159 ks b (ow 0 RES.1) [roNode RES.2] []

abbrev c85e1 : Nat × Body := (1032, .box [.p (.sl .nil 0 0 (fun _ => [])), pI 0])
abbrev c85e2 : Nat × Obj := (1032, bx [.p (slNode []), pI 0])
theorem Remove_treeSpec (p0 : Tree) (p1 : Int) (RES : Tree × Int) (hm : Remove_tree p0 p1 = some RES) : Spec Tryz.prog 123 [.p (.agg (encTree p0)), pI p1] [] (.p (.tup [.agg (encTree RES.1), vi RES.2])) [] [] := by
 unfold Remove_tree at hm
 refine SO Tryz.func123 rfl rfl [(0, .p (.agg (encTree p0))), (1, pI p1)] [] ?_
 intro cx hnt
 refine Sq (RK hnt (nn 3 []) [(1, pI p1), (2, rr 1016), (4, rr 1032)] [(1016, bx (pm (encTree p0))), (1032, bx [.p (.sl .nil 0 0 (fun _ => [])), pI 0])] tv ?_)
 obtain ⟨r1, hr1, hm⟩ := bo hm
 refine Sq (RD hnt (nn 2 (o18 [] true r1 :: .no :: [])) [] [(6, pI r1)] [] [] (an (At_forestSpec p0 p1 r1 hr1) tv) ?_)
 refine Sq (Bk ?_)
 obtain ⟨r2, hr2, hm⟩ := bo hm
 refine Sq (RD hnt (.no :: o8 [] true r2 :: nn 2 []) [] [(11, pB (!r2))] [] [] (an (Check_treeSpec p0 r2 hr2) tv) ?_)
 refine condM hm ?_ ?_
 ·intro h3 hm
  refine Sq (RD hnt (nn 3 []) [1, 2, 6, 11] [(5, pI 1)] [1016] [] tv ?_)
  refine DW.conv (τ := mkSt [(4, rr 1032), (5, pI 1)] [(c85e2)]) (Conv.tp [] [(c85e1)] (by kernel_rfl) .nil (.cons rfl (.box (.cons MLe.nilL (.cons .rfl .nil))) .nil)) ?_
  obtain rfl := sj hm
  exact DW.ret (retK [] [] (.p (.tup [.agg [slNode [], vi 0], vi 1])))
 ·intro h3 hm
  refine Sq (RD hnt (nn 3 []) [11] [(16, pB (decide (r1 < 0)))] [] [] tv ?_)
  refine condM hm ?_ ?_
  ·intro h4 hm
   refine Sq (RD hnt (nn 3 []) [1, 2, 6, 16] [(5, pI 4)] [1016] [] tv ?_)
   refine DW.conv (τ := mkSt [(4, rr 1032), (5, pI 4)] [(c85e2)]) (Conv.tp [] [(c85e1)] (by kernel_rfl) .nil (.cons rfl (.box (.cons MLe.nilL (.cons .rfl .nil))) .nil)) ?_
   obtain rfl := sj hm
   exact DW.ret (retK [] [] (.p (.tup [.agg [slNode [], vi 0], vi 4])))
  ·intro h4 hm
   refine Sq (RD hnt (nn 3 []) [16] [(20, pB (p1 == 1))] [] [] tv ?_)
   refine condM hm ?_ ?_
   ·intro h5 hm
    refine Sq (RD hnt (nn 3 []) [1, 2, 6, 20] [(5, pI 9)] [1016] [] tv ?_)
    refine DW.conv (τ := mkSt [(4, rr 1032), (5, pI 9)] [(c85e2)]) (Conv.tp [] [(c85e1)] (by kernel_rfl) .nil (.cons rfl (.box (.cons MLe.nilL (.cons .rfl .nil))) .nil)) ?_
    obtain rfl := sj hm
    exact DW.ret (retK [] [] (.p (.tup [.agg [slNode [], vi 0], vi 9])))
   ·intro h5 hm
    obtain ⟨r6, hr6, hm⟩ := bo hm
    refine Sq (RD hnt (nn 2 (o86 [] true r6 :: nn 3 [])) [1, 20] [(24, pB (decide (((r6.length : Nat) : Int) > 0)))] [] [] (an (Children_forestSpec p0 p1 r6 hr6) tv) ?_)
    refine condM hm ?_ ?_
    ·intro h7 hm
     refine Sq (RD hnt (nn 3 []) [2, 6, 24] [(5, pI 6)] [1016] [] tv ?_)
     refine DW.conv (τ := mkSt [(4, rr 1032), (5, pI 6)] [(c85e2)]) (Conv.tp [] [(c85e1)] (by kernel_rfl) .nil (.cons rfl (.box (.cons MLe.nilL (.cons .rfl .nil))) .nil)) ?_
     obtain rfl := sj hm
     exact DW.ret (retK [] [] (.p (.tup [.agg [slNode [], vi 0], vi 6])))
    ·intro h7 hm
     refine Sk ?_
     refine DW.done ?_
     show DW _ _ _ _ _
     obtain ⟨r8, hr8, hm⟩ := bo hm
     refine Sq (RD hnt (.no :: o87 [] true r8 :: nn 2 []) [2, 24] [(7, rr 1056)] [1016] [(1056, bx [ow 1256 r8.nodes.length, pI r8.next]), (1256, ob0 (roNode r8.nodes))] (an (copied_treeSpec p0 r8 hr8) tv) ?_)
     obtain ⟨r9, hr9, hm⟩ := bo hm
     obtain ⟨g10, g11, hm⟩ := go2 hm
     refine Sq (RD hnt (nn 5 (o88 [1256] true r9 :: nn 2 [])) [6] [] [] [(1056, bx [ow 1256 r9.1, pI r8.next]), (1256, ob0 (roNode r9.2))] (an (Delete_slices_NodeSpec r8.nodes r1 (w64 (r1 + 1)) r9 hr9) (an (⟨rfl, g10⟩ : Body.same (roNode r8.nodes) (roNode r9.2)) tv)) ?_)
     refine Sq (RD hnt (nn 3 []) [7] [(5, pI 0)] [1056] [(1032, bx [ow 1256 r9.1, pI r8.next])] tv ?_)
     refine DW.conv (τ := mkSt [(4, rr 1032), (5, pI 0)] [(1032, bx [.p (slNode (r9.2.take r9.1)), pI r8.next])]) (Conv.trans (τ := mkSt [(4, rr 1032), (5, pI 0)] [(1032, bx [.p (.sl .unk 6 r9.1 (elNode r9.2)), pI r8.next])]) (Conv.frz [1256]) (Conv.tp [] [(1032, .box [.p (.sl .unk 6 r9.1 (elNode r9.2)), pI r8.next])] (by kernel_rfl) .nil (.cons rfl (.box (.cons (MLe.typed (RowIs.take RowIs.elems (by first | omega | (simp only [subN_eq, addN_eq] at *; omega)))) (.cons .rfl .nil))) .nil))) ?_
     obtain rfl := sj hm
     exact DW.ret (retK [] [] (.p (.tup [.agg [slNode (r9.2.take r9.1), vi r8.next], vi 0])))
abbrev o85 (ks : List Nat) (b : Bool) (RES : Tree × Int) : Orc := .call 123 ks b (.p (.tup [.agg (encTree RES.1), vi RES.2])) [] []

theorem TasksFa_crewSpec (p0 : Task) (p1 : Int) (RES : Bool) (hm : TasksFa_crew p0 p1 = some RES) : Spec Tryz.prog 151 [.p (.agg (encTask p0)), rr 0] [.box [pI p1]] (pB RES) [.box [pI p1]] [] := by
 unfold TasksFa_crew at hm
 refine SO Tryz.func151 rfl rfl [(0, .p (.agg (encTask p0))), (1, rr 0)] [(0, bx [pI p1])] ?_
 intro cx hnt
 refine Sq (RD hnt (nn 2 []) [0] [(2, rr 1016)] [] [(1016, bx (pm (encTask p0)))] tv ?_)
 refine Sq (RK hnt (nn 5 []) [(3, pB (p0.group == p1))] [(0, bx [pI p1])] tv ?_)
 obtain rfl := sj hm
 exact DW.ret (retK [.box [pI p1]] [] (pB (p0.group == p1)))

theorem ID_crewSpec (p0 : Task) (RES : Int) (hm : ID_crew p0 = some RES) : Spec Tryz.prog 148 [.p (.agg (encTask p0))] [] (pI RES) [] [] := by
 unfold ID_crew at hm
 refine SO Tryz.func148 rfl rfl [(0, .p (.agg (encTask p0)))] [] ?_
 intro cx hnt
 refine Sq (RK hnt (nn 2 []) [(1, rr 1008)] [(1008, bx (pm (encTask p0)))] tv ?_)
 refine Sq (RK hnt (nn 3 []) [(2, pI p0.id)] [] tv ?_)
 obtain rfl := sj hm
 exact DW.ret (retK [] [] (pI p0.id))
abbrev o92 (ks : List Nat) (b : Bool) (RES : Int) : Orc := .call 148 ks b (pI RES) [] []

abbrev c95e1 (y3 : Int × Int) := (w64 (y3.2 + (w64 (((byteAt (bs [0, 1, 2, 2, 3, 3, 3, 3, 4, 4, 4, 4, 4, 4, 4, 4, 5, 5, 5, 5, 5, 5, 5, 5, 5, 5, 5, 5, 5, 5, 5, 5, 6, 6, 6, 6, 6, 6, 6, 6, 6, 6, 6, 6, 6, 6, 6, 6, 6, 6, 6, 6, 6, 6, 6, 6, 6, 6, 6, 6, 6, 6, 6, 6, 7, 7, 7, 7, 7, 7, 7, 7, 7, 7, 7, 7, 7, 7, 7, 7, 7, 7, 7, 7, 7, 7, 7, 7, 7, 7, 7, 7, 7, 7, 7, 7, 7, 7, 7, 7, 7, 7, 7, 7, 7, 7, 7, 7, 7, 7, 7, 7, 7, 7, 7, 7, 7, 7, 7, 7, 7, 7, 7, 7, 7, 7, 7, 7, 8, 8, 8, 8, 8, 8, 8, 8, 8, 8, 8, 8, 8, 8, 8, 8, 8, 8, 8, 8, 8, 8, 8, 8, 8, 8, 8, 8, 8, 8, 8, 8, 8, 8, 8, 8, 8, 8, 8, 8, 8, 8, 8, 8, 8, 8, 8, 8, 8, 8, 8, 8, 8, 8, 8, 8, 8, 8, 8, 8, 8, 8, 8, 8, 8, 8, 8, 8, 8, 8, 8, 8, 8, 8, 8, 8, 8, 8, 8, 8, 8, 8, 8, 8, 8, 8, 8, 8, 8, 8, 8, 8, 8, 8, 8, 8, 8, 8, 8, 8, 8, 8, 8, 8, 8, 8, 8, 8, 8, 8, 8, 8, 8, 8, 8, 8, 8, 8, 8, 8, 8, 8, 8, 8, 8, 8, 8, 8]) (Int.toNat (IntKind.u8.wrap y3.1))) : Nat) : Int))))
theorem Len64_bitsSpec (p0 : Int) (RES : Int) (hm : Len64_bits p0 = some RES) : Spec Tryz.prog 187 [.p (vk .u64 p0)] [] (pI RES) [] [] := by
 unfold Len64_bits at hm
 refine SO Tryz.func187 rfl rfl [(0, .p (vk .u64 p0))] [] ?_
 intro cx hnt
 refine Sq (RD hnt (.no :: []) [] [(2, pI 0)] [] [] tv ?_)
 refine Sq (Sq (RD hnt (nn 2 []) [] [(4, pB (decide (p0 ≥ 4294967296)))] [] [] tv ?_))
 refine Jn (ι := Int × Int) (fun (y1 : Int × Int) => mkSt [(0, .p (vk .u64 y1.1)), (2, pI y1.2)] []) (fun y1 => Len64_bitsJ1 y1 = some RES) ?_ ?_
 ·intro y1 hm
  unfold Len64_bitsJ1 at hm
  refine Sq (Sq (RD hnt (nn 2 []) [] [(8, pB (decide (y1.1 ≥ 65536)))] [] [] tv ?_))
  refine Jn (ι := Int × Int) (fun (y2 : Int × Int) => mkSt [(0, .p (vk .u64 y2.1)), (2, pI y2.2)] []) (fun y2 => Len64_bitsJ2 y2 = some RES) ?_ ?_
  ·intro y2 hm
   unfold Len64_bitsJ2 at hm
   refine Sq (Sq (RD hnt (nn 2 []) [] [(14, pB (decide (y2.1 ≥ 256)))] [] [] tv ?_))
   refine Jn (ι := Int × Int) (fun (y3 : Int × Int) => mkSt [(0, .p (vk .u64 y3.1)), (2, pI y3.2)] []) (fun y3 => Len64_bitsJ3 y3 = some RES) ?_ ?_
   ·intro y3 hm
    unfold Len64_bitsJ3 at hm
    obtain ⟨g4, hm⟩ := go1 hm
    refine Sq (RK hnt (nn 7 []) [(2, pI (c95e1 y3))] [] (an g4.1 (an g4.2 tv)) ?_)
    obtain rfl := sj hm
    exact DW.ret (retK [] [] (pI (c95e1 y3)))
   ·refine condM hm ?_ ?_
    ·intro h3 hm
     refine Sq (RK hnt (nn 3 []) [(0, .p (vk .u64 (kshr .u64 y2.1 8))), (2, pI y2.2)] [] (an (by decide : (0 : Int) ≤ 8) tv) ?_)
     refine RD hnt (nn 3 []) [] [(2, pI (w64 (y2.2 + 8)))] [] [] tv ?_
     exact jD ((kshr .u64 y2.1 8), (w64 (y2.2 + 8))) hm Conv.eqK
    ·intro h3 hm
     refine Sk ?_
     exact jD (y2.1, y2.2) hm Conv.t0
  ·refine condM hm ?_ ?_
   ·intro h2 hm
    refine Sq (RK hnt (nn 3 []) [(0, .p (vk .u64 (kshr .u64 y1.1 16))), (2, pI y1.2)] [] (an (by decide : (0 : Int) ≤ 16) tv) ?_)
    refine RD hnt (nn 3 []) [] [(2, pI (w64 (y1.2 + 16)))] [] [] tv ?_
    exact jD ((kshr .u64 y1.1 16), (w64 (y1.2 + 16))) hm Conv.eqK
   ·intro h2 hm
    refine Sk ?_
    exact jD (y1.1, y1.2) hm Conv.t0
 ·refine condM hm ?_ ?_
  ·intro h1 hm
   refine Sq (RK hnt (nn 3 []) [(0, .p (vk .u64 (kshr .u64 p0 32)))] [] (an (by decide : (0 : Int) ≤ 32) tv) ?_)
   refine RD hnt (.no :: []) [] [(2, pI 32)] [] [] tv ?_
   exact jD ((kshr .u64 p0 32), 32) hm Conv.eqK
  ·intro h1 hm
   refine Sk ?_
   exact jD (p0, 0) hm Conv.t0
abbrev o95 (ks : List Nat) (b : Bool) (RES : Int) : Orc := .call 187 ks b (pI RES) [] []

theorem Len_bitsSpec (p0 : Int) (RES : Int) (hm : Len_bits p0 = some RES) : Spec Tryz.prog 169 [.p (vk .u64 p0)] [] (pI RES) [] [] := by
 unfold Len_bits at hm
 refine SO Tryz.func169 rfl rfl [(0, .p (vk .u64 p0))] [] ?_
 intro cx hnt
 refine Sq (RD hnt (.no :: []) [] [] [] [] tv ?_)
 refine Sq (condF ff ?_)
 refine Sk ?_
 obtain ⟨r1, hr1, hm⟩ := bo hm
 refine Sq (RK hnt (.no :: o95 [] true r1 :: .no :: []) [(2, pI r1)] [] (an (Len64_bitsSpec p0 r1 hr1) tv) ?_)
 obtain rfl := sj hm
 exact DW.ret (retK [] [] (pI r1))
abbrev o94 (ks : List Nat) (b : Bool) (RES : Int) : Orc := .call 169 ks b (pI RES) [] []

theorem isNaN_cmp_intSpec (p0 : Int) (RES : Bool) (hm : isNaN_cmp_int p0 = some RES) : Spec Tryz.prog 195 [pI p0] [] (pB RES) [] [] := by
 unfold isNaN_cmp_int at hm
 refine SO Tryz.func195 rfl rfl [(0, pI p0)] [] ?_
 intro cx hnt
 refine Sq (RK hnt (.no :: []) [(0, pI p0)] [] tv ?_)
 refine Sq (RK hnt (nn 4 []) [(2, pB (p0 != p0))] [] tv ?_)
 obtain rfl := sj hm
 exact DW.ret (retK [] [] (pB (p0 != p0)))
abbrev o99 (ks : List Nat) (b : Bool) (RES : Bool) : Orc := .call 195 ks b (pB RES) [] []

theorem Less_cmp_intSpec (p0 : Int) (p1 : Int) (RES : Bool) (hm : Less_cmp_int p0 p1 = some RES) : Spec Tryz.prog 183 [pI p0, pI p1] [] (pB RES) [] [] := by
 unfold Less_cmp_int at hm
 refine SO Tryz.func183 rfl rfl [(0, pI p0), (1, pI p1)] [] ?_
 intro cx hnt
 refine Sq (RD hnt (.no :: []) [] [] [] [] tv ?_)
 obtain ⟨r1, hr1, hm⟩ := bo hm
 refine Sq ?_
 refine Jn (ι := Bool) (fun (y1 : Bool) => mkSt [(4, pB y1)] []) (fun y1 => Less_cmp_intJ1 y1 = some RES) ?_ ?_
 ·intro y1 hm
  unfold Less_cmp_intJ1 at hm
  obtain rfl := sj hm
  exact DW.ret (retK [] [] (pB y1))
 ·rcases bt r1 with h2 | h2
  ·replace hm := if_t h2 hm
   obtain ⟨r3, hr3, hm⟩ := bo hm
   rcases bt (!r3) with h4 | h4
   ·replace hm := if_t h4 hm
    refine RK hnt (.no :: o99 [] true r1 :: nn 2 (o99 [] true r3 :: .no :: pT :: .no :: sk 3 (pT :: .no :: []))) [(4, pB true)] [] (an (isNaN_cmp_intSpec p0 r1 hr1) (an2 h2 (an (isNaN_cmp_intSpec p1 r3 hr3) (an2 h2 (an4 h4 tv))))) ?_
    exact jD true hm .refl
   ·replace hm := if_f h4 hm
    refine RK hnt (.no :: o99 [] true r1 :: nn 2 (o99 [] true r3 :: .no :: pT :: nn 4 (pF :: .no :: []))) [(4, pB (decide (p0 < p1)))] [] (an (isNaN_cmp_intSpec p0 r1 hr1) (an2 h2 (an (isNaN_cmp_intSpec p1 r3 hr3) (an2 h2 (an4 h4 tv))))) ?_
    exact jD (decide (p0 < p1)) hm .refl
  ·replace hm := if_f h2 hm
   refine RK hnt (.no :: o99 [] true r1 :: .no :: sk 3 (pF :: nn 4 (pF :: .no :: []))) [(4, pB (decide (p0 < p1)))] [] (an (isNaN_cmp_intSpec p0 r1 hr1) (an4 h2 (an4 ff tv))) ?_
   exact jD (decide (p0 < p1)) hm .refl
abbrev o98 (ks : List Nat) (b : Bool) (RES : Bool) : Orc := .call 183 ks b (pB RES) [] []

abbrev c97e1 (s4 : (List Int) × Int) := (s4.1.getD (Int.toNat (w64 (s4.2 - 1))) 0)
abbrev c97e2 (s4 : (List Int) × Int) := (updF (updF (elI s4.1) (Int.toNat s4.2) [vi (c97e1 s4)]) (Int.toNat (w64 (s4.2 - 1))) (setRange ((updF (elI s4.1) (Int.toNat s4.2) [vi (c97e1 s4)]) (Int.toNat (w64 (s4.2 - 1)))) 0 [vi (s4.1.getD (Int.toNat s4.2) 0)]))
abbrev c97e3 (s4 : (List Int) × Int) := ((s4.1.set (Int.toNat s4.2) (c97e1 s4)).set (Int.toNat (w64 (s4.2 - 1))) (s4.1.getD (Int.toNat s4.2) 0))
theorem insertionSortOrdered_slices_intSpec (p0 : List Int) (p1 : Int) (p2 : Int) (RES : List Int) (hm : insertionSortOrdered_slices_int p0 p1 p2 = some RES) : Spec Tryz.prog 177 [ow 0 p0.length, pI p1, pI p2] [roI p0] (.p (.tup [])) [roI RES] [] := by
 unfold insertionSortOrdered_slices_int at hm
 refine SO Tryz.func177 rfl rfl [(0, ow 0 p0.length), (1, pI p1), (2, pI p2)] [(0, ob0 (roI p0))] ?_
 intro cx hnt
 refine Sq (RD hnt (nn 3 []) [] [(6, pI (w64 (p1 + 1)))] [] [] tv ?_)
 refine Bk ?_
 obtain ⟨hc1, hm⟩ := go1 hm
 refine DW.forO (fun (k1 : Int) (s1 : List Int) => mkSt [(0, ow 0 s1.length), (1, pI p1), (2, pI p2), (6, pI k1)] [(0, ob0 (roI s1))]) (lo := (w64 (p1 + 1))) (hi := p2) hm Conv.eqK ?_
 intro k1 s1 n1 hk1 hs1 he1
 refine Sq (Sq (RD hnt (nn 3 []) [] [(12, pB (decide (k1 < p2)))] [] [] tv ?_))
 refine condK (decide (k1 < p2)) ?_ ?_
 ·intro h75
  have hlt1 : k1 < p2 := by have := of_decide_eq_true h75; omega
  have hm := hs1 hlt1
  unfold insertionSortOrdered_slices_intL1 at hm
  refine Sk ?_
  refine Sq (Bk ?_)
  refine Sq (RD hnt (nn 2 []) [12] [(7, pI k1)] [] [] tv ?_)
  refine Bk ?_
  refine DW.whileO (fun (s4 : (List Int) × Int) => mkSt [(0, ow 0 s4.1.length), (1, pI p1), (2, pI p2), (6, pI k1), (7, pI s4.2)] [(0, ob0 (roI s4.1))]) hm Conv.eqK ?_
  intro s4 n4 hm
  unfold insertionSortOrdered_slices_intL4 at hm
  refine Sq (Sq ?_)
  refine Jn (ι := Bool) (fun (y6 : Bool) => mkSt [(0, ow 0 s4.1.length), (1, pI p1), (2, pI p2), (6, pI k1), (7, pI s4.2), (30, pB y6)] [(0, ob0 (roI s4.1))]) (fun y6 => (insertionSortOrdered_slices_intJ6 n1 s4 n4) y6 = some RES) ?_ ?_
  ·intro y6 hm
   unfold insertionSortOrdered_slices_intJ6 at hm
   refine condM hm ?_ ?_
   ·intro h97 hm
    refine Sk ?_
    refine Sq (Bk ?_)
    obtain ⟨g98, g99, g100, g101, hm⟩ := go4 hm
    obtain ⟨g102, g103, g104, g105, hm⟩ := go4 hm
    refine RN hnt (nn 18 []) [(0, ow 0 (c97e3 s4).length), (1, pI p1), (2, pI p2), (6, pI k1), (7, pI s4.2)] [(0, ob0 (roI (c97e3 s4)))] [(0, ow 0 s4.1.length)] [(0, .row 1 s4.1.length (c97e2 s4))] (an g98.1 (an g98.2 (an g99 (an g100.1 (an g100.2 (an g101 (an g102.1 (an g102.2 (an g103 (an g104.1 (an g104.2 (an g105 tv)))))))))))) (by kernel_rfl) (.cons rfl (MLe.ownLen (enc := encI) (d := 0) (f := (c97e2 s4)) (RowIs.updR (RowIs.upd RowIs.elems (c97e1 s4) rfl) (by omega) (s4.1.getD (Int.toNat s4.2) 0) rfl)) .nil) (.cons rfl (BLe.typed (RowIs.updR (RowIs.upd RowIs.elems (c97e1 s4) rfl) (by omega) (s4.1.getD (Int.toNat s4.2) 0) rfl)) .nil) ?_
    refine DW.done ?_
    show DW _ _ _ _ _
    refine RD hnt (nn 3 []) [] [(7, pI (w64 (s4.2 - 1)))] [] [] tv ?_
    exact jD ((c97e3 s4), (w64 (s4.2 - 1))) hm Conv.eqK
   ·intro h97 hm
    refine DW.exit ?_
    refine joinQ_exit ?_
    refine KQ_exit ?_
    refine blockQ_exit ?_
    show DW _ _ _ _ _
    refine DW.done ?_
    show DW _ _ _ _ _
    refine RD hnt (nn 3 []) [7, 30] [(6, pI (w64 (k1 + 1)))] [] [] tv ?_
    exact jD s4.1 ⟨hlt1, hm⟩ (Conv.tp [(6, pI (w64 (k1 + 1)))] [] (by kernel_rfl) (.cons rfl (.of_eq (congrArg pI (w64_for (lo := (w64 (p1 + 1))) (hi := p2) (by omega) hk1 hlt1 (by omega)))) .nil) .nil)
  ·rcases bt (decide (s4.2 > p1)) with h91 | h91
   ·replace hm := if_t h91 hm
    obtain ⟨g92, g93, g94, g95, hm⟩ := go4 hm
    obtain ⟨r96, hr96, hm⟩ := bo hm
    refine RD hnt (nn 13 (o98 [] true r96 :: pT :: [])) [] [(30, pB r96)] [] [] (an3 h91 (an g92.1 (an g92.2 (an h91 (an g93 (an4 h91 (an g94.1 (an g94.2 (an h91 (an g95 (an h91 (an (Less_cmp_intSpec (s4.1.getD (Int.toNat s4.2) 0) (c97e1 s4) r96 hr96) (an h91 tv))))))))))))) ?_
    exact jD r96 hm Conv.eqK
   ·replace hm := if_f h91 hm
    refine RD hnt (nn 4 (sk 10 (pF :: []))) [] [(30, pB false)] [] [] (an5 h91 (an6 h91 tv)) ?_
    exact jD false hm Conv.eqK
 ·intro h75
  have hge1 : ¬ k1 < p2 := by have := of_decide_eq_false h75; omega
  have hm := he1 hge1
  unfold insertionSortOrdered_slices_intD1 at hm
  refine DW.exit ?_
  refine joinQ_exit ?_
  refine KQ_exit ?_
  refine blockQ_exit ?_
  show DW _ _ _ _ _
  refine DW.done ?_
  obtain rfl := sj hm
  exact endK [roI s1] [] (.p (.tup []))
abbrev o97 (ks : List Nat) (b : Bool) (RES : List Int) : Orc := .call 177 ks b (.p (.tup [])) [roI RES] []

abbrev c101e1 (s1 : (List Int) × Int) (p3 : Int) (y4 : Int) := (updF (updF (elI s1.1) (Int.toNat (w64 (p3 + s1.2))) [vi (s1.1.getD (Int.toNat (w64 (p3 + y4))) 0)]) (Int.toNat (w64 (p3 + y4))) (setRange ((updF (elI s1.1) (Int.toNat (w64 (p3 + s1.2))) [vi (s1.1.getD (Int.toNat (w64 (p3 + y4))) 0)]) (Int.toNat (w64 (p3 + y4)))) 0 [vi (s1.1.getD (Int.toNat (w64 (p3 + s1.2))) 0)]))
abbrev c101e2 (s1 : (List Int) × Int) (p3 : Int) (y4 : Int) := ((s1.1.set (Int.toNat (w64 (p3 + s1.2))) (s1.1.getD (Int.toNat (w64 (p3 + y4))) 0)).set (Int.toNat (w64 (p3 + y4))) (s1.1.getD (Int.toNat (w64 (p3 + s1.2))) 0))
abbrev c101e3 (s1 : (List Int) × Int) := (w64 ((w64 (2 * s1.2)) + 1))
theorem siftDownOrdered_slices_intSpec (p0 : List Int) (p1 : Int) (p2 : Int) (p3 : Int) (RES : List Int) (hm : siftDownOrdered_slices_int p0 p1 p2 p3 = some RES) : Spec Tryz.prog 190 [ow 0 p0.length, pI p1, pI p2, pI p3] [roI p0] (.p (.tup [])) [roI RES] [] := by
 unfold siftDownOrdered_slices_int at hm
 refine SO Tryz.func190 rfl rfl [(0, ow 0 p0.length), (1, pI p1), (2, pI p2), (3, pI p3)] [(0, ob0 (roI p0))] ?_
 intro cx hnt
 refine Sq (RD hnt (nn 2 []) [1] [(8, pI p1)] [] [] tv ?_)
 refine Bk ?_
 refine DW.whileO (fun (s1 : (List Int) × Int) => mkSt [(0, ow 0 s1.1.length), (2, pI p2), (3, pI p3), (8, pI s1.2)] [(0, ob0 (roI s1.1))]) hm Conv.eqK ?_
 intro s1 n1 hm
 unfold siftDownOrdered_slices_intL1 at hm
 refine Bk ?_
 refine Sq (RD hnt (nn 4 []) [] [(9, pI (c101e3 s1))] [] [] tv ?_)
 refine Sq (Sq (RD hnt (nn 3 []) [] [(16, pB (decide ((c101e3 s1) ≥ p2)))] [] [] tv ?_))
 refine condM hm ?_ ?_
 ·intro h23 hm
  refine DW.exit ?_
  refine blockQ_other (by decide) ?_
  refine KQ_exit ?_
  refine joinQ_exit ?_
  refine KQ_exit ?_
  refine blockQ_exit ?_
  show DW _ _ _ _ _
  refine DW.done ?_
  obtain rfl := sj hm
  exact endK [roI s1.1] [] (.p (.tup []))
 ·intro h23 hm
  refine Sk ?_
  refine Sq (Sq ?_)
  refine Jn (ι := Bool) (fun (y3 : Bool) => mkSt [(0, ow 0 s1.1.length), (2, pI p2), (3, pI p3), (8, pI s1.2), (9, pI (c101e3 s1)), (36, pB y3)] [(0, ob0 (roI s1.1))]) (fun y3 => (siftDownOrdered_slices_intJ3 p3 s1 n1) y3 = some RES) ?_ ?_
  ·intro y3 hm
   unfold siftDownOrdered_slices_intJ3 at hm
   refine Jn (ι := Int) (fun (y4 : Int) => mkSt [(0, ow 0 s1.1.length), (2, pI p2), (3, pI p3), (8, pI s1.2), (9, pI y4)] [(0, ob0 (roI s1.1))]) (fun y4 => (siftDownOrdered_slices_intJ4 p3 s1 n1) y4 = some RES) ?_ ?_
   ·intro y4 hm
    unfold siftDownOrdered_slices_intJ4 at hm
    obtain ⟨g31, g32, g33, g34, hm⟩ := go4 hm
    obtain ⟨r35, hr35, hm⟩ := bo hm
    refine Sq (Sq (RD hnt (nn 12 (o98 [] true r35 :: .no :: [])) [] [(52, pB (!r35))] [] [] (an g31.1 (an g31.2 (an g32 (an g33.1 (an g33.2 (an g34 (an (Less_cmp_intSpec (s1.1.getD (Int.toNat (w64 (p3 + s1.2))) 0) (s1.1.getD (Int.toNat (w64 (p3 + y4))) 0) r35 hr35) tv))))))) ?_))
    refine condM hm ?_ ?_
    ·intro h36 hm
     obtain rfl := sj hm
     exact DW.ret (retK [roI s1.1] [] (.p (.tup [])))
    ·intro h36 hm
     refine Sk ?_
     obtain ⟨g37, g38, g39, g40, hm⟩ := go4 hm
     obtain ⟨g41, g42, g43, g44, hm⟩ := go4 hm
     refine Sq (RN hnt (nn 24 []) [(0, ow 0 (c101e2 s1 p3 y4).length), (2, pI p2), (3, pI p3), (9, pI y4)] [(0, ob0 (roI (c101e2 s1 p3 y4)))] [(0, ow 0 s1.1.length)] [(0, .row 1 s1.1.length (c101e1 s1 p3 y4))] (an g37.1 (an g37.2 (an g38 (an g39.1 (an g39.2 (an g40 (an g41.1 (an g41.2 (an g42 (an g43.1 (an g43.2 (an g44 tv)))))))))))) (by kernel_rfl) (.cons rfl (MLe.ownLen (enc := encI) (d := 0) (f := (c101e1 s1 p3 y4)) (RowIs.updR (RowIs.upd RowIs.elems (s1.1.getD (Int.toNat (w64 (p3 + y4))) 0) rfl) (by omega) (s1.1.getD (Int.toNat (w64 (p3 + s1.2))) 0) rfl)) .nil) (.cons rfl (BLe.typed (RowIs.updR (RowIs.upd RowIs.elems (s1.1.getD (Int.toNat (w64 (p3 + y4))) 0) rfl) (by omega) (s1.1.getD (Int.toNat (w64 (p3 + s1.2))) 0) rfl)) .nil) ?_)
     refine RD hnt (nn 2 []) [9] [(8, pI y4)] [] [] tv ?_
     refine DW.done ?_
     show DW _ _ _ _ _
     exact jD ((c101e2 s1 p3 y4), y4) hm Conv.eqK
   ·refine condM hm ?_ ?_
    ·intro h30 hm
     refine RD hnt (nn 3 []) [36] [(9, pI (w64 ((c101e3 s1) + 1)))] [] [] tv ?_
     exact jD (w64 ((c101e3 s1) + 1)) hm Conv.eqK
    ·intro h30 hm
     refine Sk ?_
     exact jD (c101e3 s1) hm Conv.t0
  ·rcases bt (decide ((w64 ((c101e3 s1) + 1)) < p2)) with h24 | h24
   ·replace hm := if_t h24 hm
    obtain ⟨g25, g26, g27, g28, hm⟩ := go4 hm
    obtain ⟨r29, hr29, hm⟩ := bo hm
    refine RD hnt (nn 18 (o98 [] true r29 :: pT :: [])) [16] [(36, pB r29)] [] [] (an5 h24 (an g25.1 (an g25.2 (an h24 (an g26 (an6 h24 (an g27.1 (an g27.2 (an h24 (an g28 (an h24 (an (Less_cmp_intSpec (s1.1.getD (Int.toNat (w64 (p3 + (c101e3 s1)))) 0) (s1.1.getD (Int.toNat (w64 ((w64 (p3 + (c101e3 s1))) + 1))) 0) r29 hr29) (an h24 tv))))))))))))) ?_
    exact jD r29 hm Conv.eqK
   ·replace hm := if_f h24 hm
    refine RD hnt (nn 5 (sk 14 (pF :: []))) [16] [(36, pB false)] [] [] (an3 h24 (an6 h24 (an6 h24 tv))) ?_
    exact jD false hm Conv.eqK
abbrev o101 (ks : List Nat) (b : Bool) (RES : List Int) : Orc := .call 190 ks b (.p (.tup [])) [roI RES] []

abbrev c100e1 (s3 : (List Int) × Int) (p1 : Int) := ((s3.1.set (Int.toNat p1) (s3.1.getD (Int.toNat (w64 (p1 + s3.2))) 0)).set (Int.toNat (w64 (p1 + s3.2))) (s3.1.getD (Int.toNat p1) 0))
abbrev c100e2 (s3 : (List Int) × Int) (p1 : Int) := (updF (updF (elI s3.1) (Int.toNat p1) [vi (s3.1.getD (Int.toNat (w64 (p1 + s3.2))) 0)]) (Int.toNat (w64 (p1 + s3.2))) (setRange ((updF (elI s3.1) (Int.toNat p1) [vi (s3.1.getD (Int.toNat (w64 (p1 + s3.2))) 0)]) (Int.toNat (w64 (p1 + s3.2)))) 0 [vi (s3.1.getD (Int.toNat p1) 0)]))
theorem heapSortOrdered_slices_intSpec (p0 : List Int) (p1 : Int) (p2 : Int) (RES : List Int) (hm : heapSortOrdered_slices_int p0 p1 p2 = some RES) : Spec Tryz.prog 178 [ow 0 p0.length, pI p1, pI p2] [roI p0] (.p (.tup [])) [roI RES] [] := by
 unfold heapSortOrdered_slices_int at hm
 refine SO Tryz.func178 rfl rfl [(0, ow 0 p0.length), (1, pI p1), (2, pI p2)] [(0, ob0 (roI p0))] ?_
 intro cx hnt
 refine Sq (RD hnt (nn 2 []) [] [(6, pI p1)] [] [] tv ?_)
 refine Sq (RD hnt (.no :: []) [] [(7, pI 0)] [] [] tv ?_)
 refine Sq (RD hnt (nn 4 []) [1, 2] [(8, pI (w64 (p2 - p1)))] [] [] tv ?_)
 refine Sq (Sq (RD hnt (nn 4 []) [] [(9, pI (w64 (Int.tdiv (w64 ((w64 (p2 - p1)) - 1)) 2)))] [] [] (an (by decide : (2 : Int) ≠ 0) tv) ?_))
 refine Bk ?_
 refine DW.whileO (fun (s1 : (List Int) × Int) => mkSt [(0, ow 0 s1.1.length), (6, pI p1), (7, pI 0), (8, pI (w64 (p2 - p1))), (9, pI s1.2)] [(0, ob0 (roI s1.1))]) hm Conv.eqK ?_
 intro s1 n1 hm
 unfold heapSortOrdered_slices_intL1 at hm
 refine Sq (Sq (RD hnt (nn 2 []) [] [(19, pB (decide (s1.2 ≥ 0)))] [] [] tv ?_))
 refine condM hm ?_ ?_
 ·intro h26 hm
  refine Sk ?_
  refine Sq (Bk ?_)
  obtain ⟨r27, hr27, hm⟩ := bo hm
  obtain ⟨g28, hm⟩ := go1 hm
  refine RN hnt (nn 4 (o101 [0] true r27 :: [])) [(0, ow 0 r27.length), (6, pI p1), (7, pI 0), (8, pI (w64 (p2 - p1))), (9, pI s1.2)] [(0, ob0 (roI r27))] [(0, ow 0 s1.1.length)] [] (an (siftDownOrdered_slices_intSpec s1.1 s1.2 (w64 (p2 - p1)) p1 r27 hr27) (an (⟨rfl, g28⟩ : Body.same (roI s1.1) (roI r27)) tv)) (by kernel_rfl) (.cons rfl (MLe.of_eq (congrArg (MV.own 0 0 0) g28)) .nil) .nil ?_
  refine DW.done ?_
  show DW _ _ _ _ _
  refine RD hnt (nn 3 []) [] [(9, pI (w64 (s1.2 - 1)))] [] [] tv ?_
  exact jD (r27, (w64 (s1.2 - 1))) hm Conv.eqK
 ·intro h26 hm
  refine DW.exit ?_
  refine joinQ_exit ?_
  refine KQ_exit ?_
  refine blockQ_exit ?_
  show DW _ _ _ _ _
  refine Sq (RD hnt (nn 3 []) [8, 9, 19] [(10, pI (w64 ((w64 (p2 - p1)) - 1)))] [] [] tv ?_)
  refine Bk ?_
  refine DW.whileO (fun (s3 : (List Int) × Int) => mkSt [(0, ow 0 s3.1.length), (6, pI p1), (7, pI 0), (10, pI s3.2)] [(0, ob0 (roI s3.1))]) hm Conv.eqK ?_
  intro s3 n3 hm
  unfold heapSortOrdered_slices_intL3 at hm
  refine Sq (Sq (RD hnt (nn 2 []) [] [(30, pB (decide (s3.2 ≥ 0)))] [] [] tv ?_))
  refine condM hm ?_ ?_
  ·intro h40 hm
   refine Sk ?_
   refine Sq (Bk ?_)
   obtain ⟨g41, g42, g43, g44, hm⟩ := go4 hm
   obtain ⟨g45, g46, g47, g48, hm⟩ := go4 hm
   refine Sq (RN hnt (nn 20 []) [(0, ow 0 (c100e1 s3 p1).length), (6, pI p1), (7, pI 0), (10, pI s3.2)] [(0, ob0 (roI (c100e1 s3 p1)))] [(0, ow 0 s3.1.length)] [(0, .row 1 s3.1.length (c100e2 s3 p1))] (an g41.1 (an g41.2 (an g42 (an g43.1 (an g43.2 (an g44 (an g45.1 (an g45.2 (an g46 (an g47.1 (an g47.2 (an g48 tv)))))))))))) (by kernel_rfl) (.cons rfl (MLe.ownLen (enc := encI) (d := 0) (f := (c100e2 s3 p1)) (RowIs.updR (RowIs.upd RowIs.elems (s3.1.getD (Int.toNat (w64 (p1 + s3.2))) 0) rfl) (by omega) (s3.1.getD (Int.toNat p1) 0) rfl)) .nil) (.cons rfl (BLe.typed (RowIs.updR (RowIs.upd RowIs.elems (s3.1.getD (Int.toNat (w64 (p1 + s3.2))) 0) rfl) (by omega) (s3.1.getD (Int.toNat p1) 0) rfl)) .nil) ?_)
   obtain ⟨r49, hr49, hm⟩ := bo hm
   obtain ⟨g50, hm⟩ := go1 hm
   refine RN hnt (nn 4 (o101 [0] true r49 :: [])) [(0, ow 0 r49.length), (6, pI p1), (7, pI 0), (10, pI s3.2)] [(0, ob0 (roI r49))] [(0, ow 0 (c100e1 s3 p1).length)] [] (an (siftDownOrdered_slices_intSpec (c100e1 s3 p1) 0 s3.2 p1 r49 hr49) (an (⟨rfl, g50⟩ : Body.same (roI (c100e1 s3 p1)) (roI r49)) tv)) (by kernel_rfl) (.cons rfl (MLe.of_eq (congrArg (MV.own 0 0 0) g50)) .nil) .nil ?_
   refine DW.done ?_
   show DW _ _ _ _ _
   refine RD hnt (nn 3 []) [] [(10, pI (w64 (s3.2 - 1)))] [] [] tv ?_
   exact jD (r49, (w64 (s3.2 - 1))) hm Conv.eqK
  ·intro h40 hm
   refine DW.exit ?_
   refine joinQ_exit ?_
   refine KQ_exit ?_
   refine blockQ_exit ?_
   show DW _ _ _ _ _
   refine DW.done ?_
   obtain rfl := sj hm
   exact endK [roI s3.1] [] (.p (.tup []))
abbrev o100 (ks : List Nat) (b : Bool) (RES : List Int) : Orc := .call 178 ks b (.p (.tup [])) [roI RES] []

theorem order2Ordered_slices_intSpec (p0 : List Int) (p1 : Int) (p2 : Int) (p3 : Int) (RES : Int × Int × Int) (hm : order2Ordered_slices_int p0 p1 p2 p3 = some RES) : Spec Tryz.prog 196 [.p (slI p0), pI p1, pI p2, rr 0] [.box [pI p3]] (.p (.tup [vi RES.1, vi RES.2.1])) [.box [pI RES.2.2]] [] := by
 unfold order2Ordered_slices_int at hm
 refine SO Tryz.func196 rfl rfl [(0, .p (slI p0)), (1, pI p1), (2, pI p2), (3, rr 0)] [(0, bx [pI p3])] ?_
 intro cx hnt
 refine Sq (RD hnt (nn 2 []) [] [] [] [] tv ?_)
 obtain ⟨g1, g2, hm⟩ := go2 hm
 obtain ⟨r3, hr3, hm⟩ := bo hm
 refine Sq (Sq (RD hnt (nn 8 (o98 [] true r3 :: [])) [0] [(18, pB r3)] [] [] (an g1.1 (an g1.2 (an g2.1 (an g2.2 (an (Less_cmp_intSpec (p0.getD (Int.toNat p2) 0) (p0.getD (Int.toNat p1) 0) r3 hr3) tv))))) ?_))
 refine condM hm ?_ ?_
 ·intro h4 hm
  refine Sq (RD hnt (nn 6 []) [3, 18] [] [] [(0, bx [pI (w64 (p3 + 1))])] tv ?_)
  refine Sq (RD hnt (nn 4 []) [1, 2] [(8, pI p2), (9, pI p1)] [] [] tv ?_)
  obtain rfl := sj hm
  exact DW.ret (retK [.box [pI (w64 (p3 + 1))]] [] (.p (.tup [vi p2, vi p1])))
 ·intro h4 hm
  refine Sk ?_
  refine Sq (RK hnt (nn 4 []) [(8, pI p1), (9, pI p2)] [(0, bx [pI p3])] tv ?_)
  obtain rfl := sj hm
  exact DW.ret (retK [.box [pI p3]] [] (.p (.tup [vi p1, vi p2])))
abbrev o105 (ks : List Nat) (b : Bool) (RES : Int × Int × Int) : Orc := .call 196 ks b (.p (.tup [vi RES.1, vi RES.2.1])) [.box [pI RES.2.2]] []

theorem medianOrdered_slices_intSpec (p0 : List Int) (p1 : Int) (p2 : Int) (p3 : Int) (p4 : Int) (RES : Int × Int) (hm : medianOrdered_slices_int p0 p1 p2 p3 p4 = some RES) : Spec Tryz.prog 194 [.p (slI p0), pI p1, pI p2, pI p3, rr 0] [.box [pI p4]] (pI RES.1) [.box [pI RES.2]] [] := by
 unfold medianOrdered_slices_int at hm
 refine SO Tryz.func194 rfl rfl [(0, .p (slI p0)), (1, pI p1), (2, pI p2), (3, pI p3), (4, rr 0)] [(0, bx [pI p4])] ?_
 intro cx hnt
 refine Sq (RD hnt (.no :: []) [] [] [] [] tv ?_)
 obtain ⟨r1, hr1, hm⟩ := bo hm
 refine Sq (RD hnt (nn 4 (o105 [0] true r1 :: nn 5 [])) [] [(1, pI r1.1), (2, pI r1.2.1)] [] [(0, bx [pI r1.2.2])] (an (order2Ordered_slices_intSpec p0 p1 p2 p4 r1 hr1) (an tv tv)) ?_)
 obtain ⟨r2, hr2, hm⟩ := bo hm
 refine Sq (RD hnt (nn 4 (o105 [0] true r2 :: nn 5 [])) [3] [(2, pI r2.1)] [] [(0, bx [pI r2.2.2])] (an (order2Ordered_slices_intSpec p0 r1.2.1 p3 r1.2.2 r2 hr2) (an tv tv)) ?_)
 obtain ⟨r3, hr3, hm⟩ := bo hm
 refine Sq (RK hnt (nn 4 (o105 [0] true r3 :: nn 5 [])) [(2, pI r3.2.1)] [(0, bx [pI r3.2.2])] (an (order2Ordered_slices_intSpec p0 r1.1 r2.1 r2.2.2 r3 hr3) (an tv tv)) ?_)
 refine Sq (RD hnt (nn 2 []) [2] [(10, pI r3.2.1)] [] [] tv ?_)
 obtain rfl := sj hm
 exact DW.ret (retK [.box [pI r3.2.2]] [] (pI r3.2.1))
abbrev o104 (ks : List Nat) (b : Bool) (RES : Int × Int) : Orc := .call 194 ks b (pI RES.1) [.box [pI RES.2]] []

theorem medianAdjacentOrdered_slices_intSpec (p0 : List Int) (p1 : Int) (p2 : Int) (RES : Int × Int) (hm : medianAdjacentOrdered_slices_int p0 p1 p2 = some RES) : Spec Tryz.prog 193 [.p (slI p0), pI p1, rr 0] [.box [pI p2]] (pI RES.1) [.box [pI RES.2]] [] := by
 unfold medianAdjacentOrdered_slices_int at hm
 refine SO Tryz.func193 rfl rfl [(0, .p (slI p0)), (1, pI p1), (2, rr 0)] [(0, bx [pI p2])] ?_
 intro cx hnt
 refine Sq (RD hnt (.no :: []) [] [] [] [] tv ?_)
 obtain ⟨r1, hr1, hm⟩ := bo hm
 refine Sq (RK hnt (nn 7 (o104 [0] true r1 :: .no :: [])) [(6, pI r1.1)] [(0, bx [pI r1.2])] (an (medianOrdered_slices_intSpec p0 (w64 (p1 - 1)) p1 (w64 (p1 + 1)) p2 r1 hr1) (an tv tv)) ?_)
 obtain rfl := sj hm
 exact DW.ret (retK [.box [pI r1.2]] [] (pI r1.1))
abbrev o103 (ks : List Nat) (b : Bool) (RES : Int × Int) : Orc := .call 193 ks b (pI RES.1) [.box [pI RES.2]] []

abbrev c102e1 (p2 : Int) (p1 : Int) := (w64 (Int.tdiv (w64 (p2 - p1)) 4))
abbrev c102e2 (p1 : Int) (p2 : Int) := (w64 (p1 + (w64 ((c102e1 p2 p1) * 2))))
theorem choosePivotOrdered_slices_intSpec (p0 : List Int) (p1 : Int) (p2 : Int) (RES : Int × Int) (hm : choosePivotOrdered_slices_int p0 p1 p2 = some RES) : Spec Tryz.prog 180 [.p (slI p0), pI p1, pI p2] [] (.p (.tup [vi RES.1, vi RES.2])) [] [] := by
 unfold choosePivotOrdered_slices_int at hm
 refine SO Tryz.func180 rfl rfl [(0, .p (slI p0)), (1, pI p1), (2, pI p2)] [] ?_
 intro cx hnt
 refine Sq (RD hnt (nn 2 []) [] [] [] [] tv ?_)
 refine Sq (RD hnt (nn 4 []) [2] [(8, pI (w64 (p2 - p1)))] [] [] tv ?_)
 refine Sq (RD hnt (.no :: []) [] [(9, rr 1072)] [] [(1072, bx [pI 0])] tv ?_)
 refine Sq (RD hnt (nn 6 []) [] [(10, pI (w64 (p1 + (w64 ((c102e1 p2 p1) * 1)))))] [] [] (an (by decide : (4 : Int) ≠ 0) tv) ?_)
 refine Sq (RD hnt (nn 6 []) [] [(11, pI (c102e2 p1 p2))] [] [] (an (by decide : (4 : Int) ≠ 0) tv) ?_)
 refine Sq (RD hnt (nn 6 []) [1] [(12, pI (w64 (p1 + (w64 ((c102e1 p2 p1) * 3)))))] [] [] (an (by decide : (4 : Int) ≠ 0) tv) ?_)
 refine Sq (Sq (RD hnt (nn 2 []) [] [(32, pB (decide ((w64 (p2 - p1)) ≥ 8)))] [] [] tv ?_))
 refine Jn (ι := Int × Int) (fun (y1 : Int × Int) => mkSt [(9, rr 1072), (11, pI y1.2)] [(1072, bx [pI y1.1])]) (fun y1 => choosePivotOrdered_slices_intJ1 y1 = some RES) ?_ ?_
 ·intro y1 hm
  unfold choosePivotOrdered_slices_intJ1 at hm
  refine Sq (RK hnt (.no :: []) [(11, pI y1.2), (49, pI y1.1)] [] tv ?_)
  refine Bk ?_
  refine Sq (RD hnt (nn 2 []) [] [(51, pB (y1.1 == 0))] [] [] tv ?_)
  refine condM hm ?_ ?_
  ·intro h7 hm
   refine Sq (RK hnt (nn 3 []) [(6, pI y1.2), (7, pI 1)] [] tv ?_)
   obtain rfl := sj hm
   exact DW.ret (retK [] [] (.p (.tup [vi y1.2, vi 1])))
  ·intro h7 hm
   refine Sq (RK hnt (nn 2 []) [(11, pI y1.2), (54, pB (y1.1 == 12))] [] tv ?_)
   refine condM hm ?_ ?_
   ·intro h8 hm
    refine Sq (RK hnt (nn 3 []) [(6, pI y1.2), (7, pI 2)] [] tv ?_)
    obtain rfl := sj hm
    exact DW.ret (retK [] [] (.p (.tup [vi y1.2, vi 2])))
   ·intro h8 hm
    refine Sq (RK hnt (nn 3 []) [(6, pI y1.2), (7, pI 0)] [] tv ?_)
    obtain rfl := sj hm
    exact DW.ret (retK [] [] (.p (.tup [vi y1.2, vi 0])))
 ·refine condM hm ?_ ?_
  ·intro h1 hm
   refine Sq (Sq (RD hnt (nn 2 []) [8, 32] [(34, pB (decide ((w64 (p2 - p1)) ≥ 50)))] [] [] tv ?_))
   refine Jn (ι := Int × Int × Int × Int) (fun (y2 : Int × Int × Int × Int) => mkSt [(0, .p (slI p0)), (9, rr 1072), (10, pI y2.2.1), (11, pI y2.2.2.1), (12, pI y2.2.2.2)] [(1072, bx [pI y2.1])]) (fun y2 => (choosePivotOrdered_slices_intJ2 p0) y2 = some RES) ?_ ?_
   ·intro y2 hm
    unfold choosePivotOrdered_slices_intJ2 at hm
    obtain ⟨r6, hr6, hm⟩ := bo hm
    refine RK hnt (nn 4 (o104 [1072] true r6 :: .no :: [])) [(9, rr 1072), (11, pI r6.1)] [(1072, bx [pI r6.2])] (an (medianOrdered_slices_intSpec p0 y2.2.1 y2.2.2.1 y2.2.2.2 y2.1 r6 hr6) (an tv tv)) ?_
    exact jD (r6.2, r6.1) hm .refl
   ·refine condM hm ?_ ?_
    ·intro h2 hm
     obtain ⟨r3, hr3, hm⟩ := bo hm
     refine Sq (RK hnt (nn 2 (o103 [1072] true r3 :: .no :: [])) [(0, .p (slI p0)), (9, rr 1072), (10, pI r3.1), (11, pI (c102e2 p1 p2)), (12, pI (w64 (p1 + (w64 ((c102e1 p2 p1) * 3)))))] [(1072, bx [pI r3.2])] (an (medianAdjacentOrdered_slices_intSpec p0 (w64 (p1 + (w64 ((c102e1 p2 p1) * 1)))) 0 r3 hr3) (an tv tv)) ?_)
     obtain ⟨r4, hr4, hm⟩ := bo hm
     refine Sq (RD hnt (nn 2 (o103 [1072] true r4 :: .no :: [])) [] [(11, pI r4.1)] [] [(1072, bx [pI r4.2])] (an (medianAdjacentOrdered_slices_intSpec p0 (c102e2 p1 p2) r3.2 r4 hr4) (an tv tv)) ?_)
     obtain ⟨r5, hr5, hm⟩ := bo hm
     refine RD hnt (nn 2 (o103 [1072] true r5 :: .no :: [])) [] [(12, pI r5.1)] [] [(1072, bx [pI r5.2])] (an (medianAdjacentOrdered_slices_intSpec p0 (w64 (p1 + (w64 ((c102e1 p2 p1) * 3)))) r4.2 r5 hr5) (an tv tv)) ?_
     exact jD (r5.2, r3.1, r4.1, r5.1) hm Conv.eqK
    ·intro h2 hm
     refine Sk ?_
     exact jD (0, (w64 (p1 + (w64 ((c102e1 p2 p1) * 1)))), (c102e2 p1 p2), (w64 (p1 + (w64 ((c102e1 p2 p1) * 3))))) hm Conv.t0
  ·intro h1 hm
   refine Sk ?_
   exact jD (0, (c102e2 p1 p2)) hm Conv.t0
abbrev o102 (ks : List Nat) (b : Bool) (RES : Int × Int) : Orc := .call 180 ks b (.p (.tup [vi RES.1, vi RES.2])) [] []

abbrev c106e1 (s1 : (List Int) × Int × Int) := (updF (updF (elI s1.1) (Int.toNat s1.2.1) [vi (s1.1.getD (Int.toNat s1.2.2) 0)]) (Int.toNat s1.2.2) (setRange ((updF (elI s1.1) (Int.toNat s1.2.1) [vi (s1.1.getD (Int.toNat s1.2.2) 0)]) (Int.toNat s1.2.2)) 0 [vi (s1.1.getD (Int.toNat s1.2.1) 0)]))
abbrev c106e2 (s1 : (List Int) × Int × Int) := ((s1.1.set (Int.toNat s1.2.1) (s1.1.getD (Int.toNat s1.2.2) 0)).set (Int.toNat s1.2.2) (s1.1.getD (Int.toNat s1.2.1) 0))
theorem reverseRangeOrdered_slices_intSpec (p0 : List Int) (p1 : Int) (p2 : Int) (RES : List Int) (hm : reverseRangeOrdered_slices_int p0 p1 p2 = some RES) : Spec Tryz.prog 181 [ow 0 p0.length, pI p1, pI p2] [roI p0] (.p (.tup [])) [roI RES] [] := by
 unfold reverseRangeOrdered_slices_int at hm
 refine SO Tryz.func181 rfl rfl [(0, ow 0 p0.length), (1, pI p1), (2, pI p2)] [(0, ob0 (roI p0))] ?_
 intro cx hnt
 refine Sq (RD hnt (nn 2 []) [1] [(6, pI p1)] [] [] tv ?_)
 refine Sq (RD hnt (nn 3 []) [2] [(7, pI (w64 (p2 - 1)))] [] [] tv ?_)
 refine Bk ?_
 refine DW.whileO (fun (s1 : (List Int) × Int × Int) => mkSt [(0, ow 0 s1.1.length), (6, pI s1.2.1), (7, pI s1.2.2)] [(0, ob0 (roI s1.1))]) hm Conv.eqK ?_
 intro s1 n1 hm
 unfold reverseRangeOrdered_slices_intL1 at hm
 refine Sq (Sq (RD hnt (nn 3 []) [] [(13, pB (decide (s1.2.1 < s1.2.2)))] [] [] tv ?_))
 refine condM hm ?_ ?_
 ·intro h10 hm
  refine Sk ?_
  refine Bk ?_
  obtain ⟨g11, g12, g13, g14, hm⟩ := go4 hm
  obtain ⟨g15, g16, g17, g18, hm⟩ := go4 hm
  refine Sq (RN hnt (nn 16 []) [(0, ow 0 (c106e2 s1).length), (6, pI s1.2.1), (7, pI s1.2.2)] [(0, ob0 (roI (c106e2 s1)))] [(0, ow 0 s1.1.length)] [(0, .row 1 s1.1.length (c106e1 s1))] (an g11.1 (an g11.2 (an g12 (an g13.1 (an g13.2 (an g14 (an g15.1 (an g15.2 (an g16 (an g17.1 (an g17.2 (an g18 tv)))))))))))) (by kernel_rfl) (.cons rfl (MLe.ownLen (enc := encI) (d := 0) (f := (c106e1 s1)) (RowIs.updR (RowIs.upd RowIs.elems (s1.1.getD (Int.toNat s1.2.2) 0) rfl) (by omega) (s1.1.getD (Int.toNat s1.2.1) 0) rfl)) .nil) (.cons rfl (BLe.typed (RowIs.updR (RowIs.upd RowIs.elems (s1.1.getD (Int.toNat s1.2.2) 0) rfl) (by omega) (s1.1.getD (Int.toNat s1.2.1) 0) rfl)) .nil) ?_)
  refine Sq (RD hnt (nn 3 []) [] [(6, pI (w64 (s1.2.1 + 1)))] [] [] tv ?_)
  refine RD hnt (nn 3 []) [] [(7, pI (w64 (s1.2.2 - 1)))] [] [] tv ?_
  refine DW.done ?_
  show DW _ _ _ _ _
  exact jD ((c106e2 s1), (w64 (s1.2.1 + 1)), (w64 (s1.2.2 - 1))) hm Conv.eqK
 ·intro h10 hm
  refine DW.exit ?_
  refine joinQ_exit ?_
  refine KQ_exit ?_
  refine blockQ_exit ?_
  show DW _ _ _ _ _
  refine DW.done ?_
  obtain rfl := sj hm
  exact endK [roI s1.1] [] (.p (.tup []))
abbrev o106 (ks : List Nat) (b : Bool) (RES : List Int) : Orc := .call 181 ks b (.p (.tup [])) [roI RES] []

abbrev c107e1 (s15 : (List Int) × Int) := (s15.1.getD (Int.toNat (w64 (s15.2 - 1))) 0)
abbrev c107e2 (s1 : (List Int) × Int) (s12 : Int) := (updF (updF (elI s1.1) (Int.toNat s12) [vi (s1.1.getD (Int.toNat (w64 (s12 - 1))) 0)]) (Int.toNat (w64 (s12 - 1))) (setRange ((updF (elI s1.1) (Int.toNat s12) [vi (s1.1.getD (Int.toNat (w64 (s12 - 1))) 0)]) (Int.toNat (w64 (s12 - 1)))) 0 [vi (s1.1.getD (Int.toNat s12) 0)]))
abbrev c107e3 (s16 : List Int) (k16 : Int) := (updF (updF (elI s16) (Int.toNat k16) [vi (s16.getD (Int.toNat (w64 (k16 - 1))) 0)]) (Int.toNat (w64 (k16 - 1))) (setRange ((updF (elI s16) (Int.toNat k16) [vi (s16.getD (Int.toNat (w64 (k16 - 1))) 0)]) (Int.toNat (w64 (k16 - 1)))) 0 [vi (s16.getD (Int.toNat k16) 0)]))
abbrev c107e4 (s1 : (List Int) × Int) (s12 : Int) := ((s1.1.set (Int.toNat s12) (s1.1.getD (Int.toNat (w64 (s12 - 1))) 0)).set (Int.toNat (w64 (s12 - 1))) (s1.1.getD (Int.toNat s12) 0))
abbrev c107e5 (s16 : List Int) (k16 : Int) := ((s16.set (Int.toNat k16) (s16.getD (Int.toNat (w64 (k16 - 1))) 0)).set (Int.toNat (w64 (k16 - 1))) (s16.getD (Int.toNat k16) 0))
abbrev c107e6 (s15 : (List Int) × Int) := (updF (updF (elI s15.1) (Int.toNat s15.2) [vi (c107e1 s15)]) (Int.toNat (w64 (s15.2 - 1))) (setRange ((updF (elI s15.1) (Int.toNat s15.2) [vi (c107e1 s15)]) (Int.toNat (w64 (s15.2 - 1)))) 0 [vi (s15.1.getD (Int.toNat s15.2) 0)]))
abbrev c107e7 (s15 : (List Int) × Int) := ((s15.1.set (Int.toNat s15.2) (c107e1 s15)).set (Int.toNat (w64 (s15.2 - 1))) (s15.1.getD (Int.toNat s15.2) 0))
theorem partialInsertionSortOrdered_slices_intSpec (p0 : List Int) (p1 : Int) (p2 : Int) (RES : Bool × (List Int)) (hm : partialInsertionSortOrdered_slices_int p0 p1 p2 = some RES) : Spec Tryz.prog 182 [ow 0 p0.length, pI p1, pI p2] [roI p0] (pB RES.1) [roI RES.2] [] := by
 unfold partialInsertionSortOrdered_slices_int at hm
 refine SO Tryz.func182 rfl rfl [(0, ow 0 p0.length), (1, pI p1), (2, pI p2)] [(0, ob0 (roI p0))] ?_
 intro cx hnt
 refine Sq (RD hnt (.no :: []) [] [] [] [] tv ?_)
 refine Sq (RD hnt (nn 3 []) [] [(7, pI (w64 (p1 + 1)))] [] [] tv ?_)
 refine Sq (Sq (RD hnt (.no :: []) [] [(8, pI 0)] [] [] tv ?_))
 refine Bk ?_
 refine DW.forO (fun (k1 : Int) (s1 : (List Int) × Int) => mkSt [(0, ow 0 s1.1.length), (1, pI p1), (2, pI p2), (7, pI s1.2), (8, pI k1)] [(0, ob0 (roI s1.1))]) (lo := 0) (hi := 5) hm Conv.eqK ?_
 intro k1 s1 n1 hk1 hs1 he1
 refine Sq (Sq (RD hnt (nn 2 []) [] [(14, pB (decide (k1 < 5)))] [] [] tv ?_))
 refine condK (decide (k1 < 5)) ?_ ?_
 ·intro h391
  have hlt1 : k1 < 5 := by have := of_decide_eq_true h391; omega
  have hm := hs1 hlt1
  unfold partialInsertionSortOrdered_slices_intL1 at hm
  refine Sk ?_
  refine Sq ?_
  refine Jn (ι := (List Int) × Int) (fun (y11 : (List Int) × Int) => mkSt [(0, ow 0 y11.1.length), (1, pI p1), (2, pI p2), (7, pI y11.2), (8, pI k1)] [(0, ob0 (roI y11.1))]) (fun y11 => (partialInsertionSortOrdered_slices_intJ11 n1) y11 = some RES) ?_ ?_
  ·intro y11 hm
   unfold partialInsertionSortOrdered_slices_intJ11 at hm
   refine RD hnt (nn 3 []) [] [(8, pI (w64 (k1 + 1)))] [] [] tv ?_
   exact jD (y11.1, y11.2) ⟨hlt1, hm⟩ (Conv.tp [(8, pI (w64 (k1 + 1)))] [] (by kernel_rfl) (.cons rfl (.of_eq (congrArg pI (w64_for (lo := 0) (hi := 5) (by omega) hk1 hlt1 (by omega)))) .nil) .nil)
  ·refine Bk ?_
   refine Sq (Bk ?_)
   refine DW.whileO (fun (s12 : Int) => mkSt [(0, ow 0 s1.1.length), (1, pI p1), (2, pI p2), (7, pI s12), (8, pI k1)] [(0, ob0 (roI s1.1))]) hm Conv.t0 ?_
   intro s12 n12 hm
   unfold partialInsertionSortOrdered_slices_intL12 at hm
   refine Sq (Sq ?_)
   refine Jn (ι := Bool) (fun (y14 : Bool) => mkSt [(0, ow 0 s1.1.length), (1, pI p1), (2, pI p2), (7, pI s12), (8, pI k1), (32, pB y14)] [(0, ob0 (roI s1.1))]) (fun y14 => (partialInsertionSortOrdered_slices_intJ14 p1 p2 s1 n1 s12 n12) y14 = some RES) ?_ ?_
   ·intro y14 hm
    unfold partialInsertionSortOrdered_slices_intJ14 at hm
    refine condM hm ?_ ?_
    ·intro h492 hm
     refine Sk ?_
     refine Bk ?_
     refine RD hnt (nn 3 []) [32] [(7, pI (w64 (s12 + 1)))] [] [] tv ?_
     refine DW.done ?_
     show DW _ _ _ _ _
     exact jD (w64 (s12 + 1)) hm Conv.eqK
    ·intro h492 hm
     refine DW.exit ?_
     refine joinQ_exit ?_
     refine KQ_exit ?_
     refine blockQ_exit ?_
     show DW _ _ _ _ _
     refine Sq (Sq (RD hnt (nn 3 []) [32] [(37, pB (s12 == p2))] [] [] tv ?_))
     refine condM hm ?_ ?_
     ·intro h493 hm
      refine Sq (RK hnt (.no :: []) [(6, pB true)] [(0, ob0 (roI s1.1))] tv ?_)
      obtain rfl := sj hm
      exact DW.ret (retK [roI s1.1] [] (pB true))
     ·intro h493 hm
      refine Sk ?_
      refine Sq (Sq (RD hnt (nn 4 []) [37] [(41, pB (decide ((w64 (p2 - p1)) < 50)))] [] [] tv ?_))
      refine condM hm ?_ ?_
      ·intro h494 hm
       refine Sq (RK hnt (.no :: []) [(6, pB false)] [(0, ob0 (roI s1.1))] tv ?_)
       obtain rfl := sj hm
       exact DW.ret (retK [roI s1.1] [] (pB false))
      ·intro h494 hm
       refine Sk ?_
       obtain ⟨g495, g496, g497, g498, hm⟩ := go4 hm
       obtain ⟨g499, g500, g501, g502, hm⟩ := go4 hm
       refine Sq (RN hnt (nn 18 []) [(0, ow 0 (c107e4 s1 s12).length), (1, pI p1), (2, pI p2), (7, pI s12), (8, pI k1)] [(0, ob0 (roI (c107e4 s1 s12)))] [(0, ow 0 s1.1.length)] [(0, .row 1 s1.1.length (c107e2 s1 s12))] (an g495.1 (an g495.2 (an g496 (an g497.1 (an g497.2 (an g498 (an g499.1 (an g499.2 (an g500 (an g501.1 (an g501.2 (an g502 tv)))))))))))) (by kernel_rfl) (.cons rfl (MLe.ownLen (enc := encI) (d := 0) (f := (c107e2 s1 s12)) (RowIs.updR (RowIs.upd RowIs.elems (s1.1.getD (Int.toNat (w64 (s12 - 1))) 0) rfl) (by omega) (s1.1.getD (Int.toNat s12) 0) rfl)) .nil) (.cons rfl (BLe.typed (RowIs.updR (RowIs.upd RowIs.elems (s1.1.getD (Int.toNat (w64 (s12 - 1))) 0) rfl) (by omega) (s1.1.getD (Int.toNat s12) 0) rfl)) .nil) ?_)
       refine Sq (Sq (RD hnt (nn 4 []) [] [(61, pB (decide ((w64 (s12 - p1)) ≥ 2)))] [] [] tv ?_))
       refine Jn (ι := List Int) (fun (y15 : List Int) => mkSt [(0, ow 0 y15.length), (1, pI p1), (2, pI p2), (7, pI s12), (8, pI k1)] [(0, ob0 (roI y15))]) (fun y15 => (partialInsertionSortOrdered_slices_intJ15 p2 n1 s12) y15 = some RES) ?_ ?_
       ·intro y15 hm
        unfold partialInsertionSortOrdered_slices_intJ15 at hm
        refine Sq (RD hnt (nn 4 []) [] [(98, pB (decide ((w64 (p2 - s12)) ≥ 2)))] [] [] tv ?_)
        refine condM hm ?_ ?_
        ·intro h534 hm
         refine Sq (RD hnt (nn 3 []) [98] [(10, pI (w64 (s12 + 1)))] [] [] tv ?_)
         refine Bk ?_
         obtain ⟨hc16, hm⟩ := go1 hm
         refine DW.forO (fun (k16 : Int) (s16 : List Int) => mkSt [(0, ow 0 s16.length), (1, pI p1), (2, pI p2), (7, pI s12), (8, pI k1), (10, pI k16)] [(0, ob0 (roI s16))]) (lo := (w64 (s12 + 1))) (hi := p2) hm Conv.eqK ?_
         intro k16 s16 n16 hk16 hs16 he16
         refine Sq (Sq (RD hnt (nn 3 []) [] [(103, pB (decide (k16 < p2)))] [] [] tv ?_))
         refine condK (decide (k16 < p2)) ?_ ?_
         ·intro h565
          have hlt16 : k16 < p2 := by have := of_decide_eq_true h565; omega
          have hm := hs16 hlt16
          unfold partialInsertionSortOrdered_slices_intL16 at hm
          refine Sk ?_
          refine Sq (Bk ?_)
          obtain ⟨g566, g567, g568, g569, hm⟩ := go4 hm
          obtain ⟨r570, hr570, hm⟩ := bo hm
          refine Sq (Sq (RD hnt (nn 9 (o98 [] true r570 :: .no :: [])) [103] [(116, pB (!r570))] [] [] (an g566.1 (an g566.2 (an g567 (an g568.1 (an g568.2 (an g569 (an (Less_cmp_intSpec (s16.getD (Int.toNat k16) 0) (s16.getD (Int.toNat (w64 (k16 - 1))) 0) r570 hr570) tv))))))) ?_))
          refine condM hm ?_ ?_
          ·intro h571 hm
           refine DW.exit ?_
           refine blockQ_other (by decide) ?_
           refine KQ_exit ?_
           refine joinQ_exit ?_
           refine KQ_exit ?_
           refine blockQ_exit ?_
           show DW _ _ _ _ _
           exact bD (s16, s12) hm Conv.t0
          ·intro h571 hm
           refine Sk ?_
           obtain ⟨g572, g573, g574, g575, hm⟩ := go4 hm
           obtain ⟨g576, g577, g578, g579, hm⟩ := go4 hm
           refine RN hnt (nn 18 []) [(0, ow 0 (c107e5 s16 k16).length), (1, pI p1), (2, pI p2), (7, pI s12), (8, pI k1), (10, pI k16)] [(0, ob0 (roI (c107e5 s16 k16)))] [(0, ow 0 s16.length)] [(0, .row 1 s16.length (c107e3 s16 k16))] (an g572.1 (an g572.2 (an g573 (an g574.1 (an g574.2 (an g575 (an g576.1 (an g576.2 (an g577 (an g578.1 (an g578.2 (an g579 tv)))))))))))) (by kernel_rfl) (.cons rfl (MLe.ownLen (enc := encI) (d := 0) (f := (c107e3 s16 k16)) (RowIs.updR (RowIs.upd RowIs.elems (s16.getD (Int.toNat (w64 (k16 - 1))) 0) rfl) (by omega) (s16.getD (Int.toNat k16) 0) rfl)) .nil) (.cons rfl (BLe.typed (RowIs.updR (RowIs.upd RowIs.elems (s16.getD (Int.toNat (w64 (k16 - 1))) 0) rfl) (by omega) (s16.getD (Int.toNat k16) 0) rfl)) .nil) ?_
           refine DW.done ?_
           show DW _ _ _ _ _
           refine RD hnt (nn 3 []) [] [(10, pI (w64 (k16 + 1)))] [] [] tv ?_
           exact jD (c107e5 s16 k16) ⟨hlt16, hm⟩ (Conv.tp [(10, pI (w64 (k16 + 1)))] [] (by kernel_rfl) (.cons rfl (.of_eq (congrArg pI (w64_for (lo := (w64 (s12 + 1))) (hi := p2) (by omega) hk16 hlt16 (by omega)))) .nil) .nil)
         ·intro h565
          have hge16 : ¬ k16 < p2 := by have := of_decide_eq_false h565; omega
          have hm := he16 hge16
          unfold partialInsertionSortOrdered_slices_intD16 at hm
          refine DW.exit ?_
          refine joinQ_exit ?_
          refine KQ_exit ?_
          refine blockQ_exit ?_
          show DW _ _ _ _ _
          exact bD (s16, s12) hm Conv.t0
        ·intro h534 hm
         refine Sk ?_
         exact bD (y15, s12) hm Conv.t0
       ·refine condM hm ?_ ?_
        ·intro h503 hm
         refine Sq (RD hnt (nn 3 []) [61] [(9, pI (w64 (s12 - 1)))] [] [] tv ?_)
         refine Bk ?_
         refine DW.whileO (fun (s15 : (List Int) × Int) => mkSt [(0, ow 0 s15.1.length), (1, pI p1), (2, pI p2), (7, pI s12), (8, pI k1), (9, pI s15.2)] [(0, ob0 (roI s15.1))]) hm Conv.eqK ?_
         intro s15 n15 hm
         unfold partialInsertionSortOrdered_slices_intL15 at hm
         refine Sq (Sq (RD hnt (nn 2 []) [] [(65, pB (decide (s15.2 ≥ 1)))] [] [] tv ?_))
         refine condM hm ?_ ?_
         ·intro h519 hm
          refine Sk ?_
          refine Sq (Bk ?_)
          obtain ⟨g520, g521, g522, g523, hm⟩ := go4 hm
          obtain ⟨r524, hr524, hm⟩ := bo hm
          refine Sq (Sq (RD hnt (nn 9 (o98 [] true r524 :: .no :: [])) [65] [(78, pB (!r524))] [] [] (an g520.1 (an g520.2 (an g521 (an g522.1 (an g522.2 (an g523 (an (Less_cmp_intSpec (s15.1.getD (Int.toNat s15.2) 0) (c107e1 s15) r524 hr524) tv))))))) ?_))
          refine condM hm ?_ ?_
          ·intro h525 hm
           refine DW.exit ?_
           refine blockQ_other (by decide) ?_
           refine KQ_exit ?_
           refine joinQ_exit ?_
           refine KQ_exit ?_
           refine blockQ_exit ?_
           show DW _ _ _ _ _
           exact jD s15.1 hm Conv.t0
          ·intro h525 hm
           refine Sk ?_
           obtain ⟨g526, g527, g528, g529, hm⟩ := go4 hm
           obtain ⟨g530, g531, g532, g533, hm⟩ := go4 hm
           refine RN hnt (nn 18 []) [(0, ow 0 (c107e7 s15).length), (1, pI p1), (2, pI p2), (7, pI s12), (8, pI k1), (9, pI s15.2)] [(0, ob0 (roI (c107e7 s15)))] [(0, ow 0 s15.1.length)] [(0, .row 1 s15.1.length (c107e6 s15))] (an g526.1 (an g526.2 (an g527 (an g528.1 (an g528.2 (an g529 (an g530.1 (an g530.2 (an g531 (an g532.1 (an g532.2 (an g533 tv)))))))))))) (by kernel_rfl) (.cons rfl (MLe.ownLen (enc := encI) (d := 0) (f := (c107e6 s15)) (RowIs.updR (RowIs.upd RowIs.elems (c107e1 s15) rfl) (by omega) (s15.1.getD (Int.toNat s15.2) 0) rfl)) .nil) (.cons rfl (BLe.typed (RowIs.updR (RowIs.upd RowIs.elems (c107e1 s15) rfl) (by omega) (s15.1.getD (Int.toNat s15.2) 0) rfl)) .nil) ?_
           refine DW.done ?_
           show DW _ _ _ _ _
           refine RD hnt (nn 3 []) [] [(9, pI (w64 (s15.2 - 1)))] [] [] tv ?_
           exact jD ((c107e7 s15), (w64 (s15.2 - 1))) hm Conv.eqK
         ·intro h519 hm
          refine DW.exit ?_
          refine joinQ_exit ?_
          refine KQ_exit ?_
          refine blockQ_exit ?_
          show DW _ _ _ _ _
          exact jD s15.1 hm Conv.t0
        ·intro h503 hm
         refine Sk ?_
         exact jD (c107e4 s1 s12) hm Conv.t0
   ·rcases bt (decide (s12 < p2)) with h486 | h486
    ·replace hm := if_t h486 hm
     obtain ⟨g487, g488, g489, g490, hm⟩ := go4 hm
     obtain ⟨r491, hr491, hm⟩ := bo hm
     refine RD hnt (nn 13 (o98 [] true r491 :: .no :: pT :: [])) [] [(32, pB (!r491))] [] [] (an3 h486 (an g487.1 (an g487.2 (an h486 (an g488 (an4 h486 (an g489.1 (an g489.2 (an h486 (an g490 (an h486 (an (Less_cmp_intSpec (s1.1.getD (Int.toNat s12) 0) (s1.1.getD (Int.toNat (w64 (s12 - 1))) 0) r491 hr491) (an2 h486 tv))))))))))))) ?_
     exact jD (!r491) hm Conv.eqK
    ·replace hm := if_f h486 hm
     refine RD hnt (nn 4 (sk 11 (pF :: []))) [] [(32, pB false)] [] [] (an6 h486 (an6 h486 tv)) ?_
     exact jD false hm Conv.eqK
 ·intro h391
  have hge1 : ¬ k1 < 5 := by have := of_decide_eq_false h391; omega
  have hm := he1 hge1
  unfold partialInsertionSortOrdered_slices_intD1 at hm
  refine DW.exit ?_
  refine joinQ_exit ?_
  refine KQ_exit ?_
  refine blockQ_exit ?_
  show DW _ _ _ _ _
  refine Sq (RK hnt (.no :: []) [(6, pB false)] [(0, ob0 (roI s1.1))] tv ?_)
  obtain rfl := sj hm
  exact DW.ret (retK [roI s1.1] [] (pB false))
abbrev o107 (ks : List Nat) (b : Bool) (RES : Bool × (List Int)) : Orc := .call 182 ks b (pB RES.1) [roI RES.2] []

abbrev c108e1 (p0 : List Int) (p1 : Int) (p3 : Int) := (updF (updF (elI p0) (Int.toNat p1) [vi (p0.getD (Int.toNat p3) 0)]) (Int.toNat p3) (setRange ((updF (elI p0) (Int.toNat p1) [vi (p0.getD (Int.toNat p3) 0)]) (Int.toNat p3)) 0 [vi (p0.getD (Int.toNat p1) 0)]))
abbrev c108e2 (s1 : (List Int) × Int × Int) (s5 : Int) (s7 : Int) := (updF (updF (elI s1.1) (Int.toNat s5) [vi (s1.1.getD (Int.toNat s7) 0)]) (Int.toNat s7) (setRange ((updF (elI s1.1) (Int.toNat s5) [vi (s1.1.getD (Int.toNat s7) 0)]) (Int.toNat s7)) 0 [vi (s1.1.getD (Int.toNat s5) 0)]))
abbrev c108e3 (s1 : (List Int) × Int × Int) (s5 : Int) (s7 : Int) := ((s1.1.set (Int.toNat s5) (s1.1.getD (Int.toNat s7) 0)).set (Int.toNat s7) (s1.1.getD (Int.toNat s5) 0))
theorem partitionEqualOrdered_slices_intSpec (p0 : List Int) (p1 : Int) (p2 : Int) (p3 : Int) (RES : Int × (List Int)) (hm : partitionEqualOrdered_slices_int p0 p1 p2 p3 = some RES) : Spec Tryz.prog 184 [ow 0 p0.length, pI p1, pI p2, pI p3] [roI p0] (pI RES.1) [roI RES.2] [] := by
 unfold partitionEqualOrdered_slices_int at hm
 refine SO Tryz.func184 rfl rfl [(0, ow 0 p0.length), (1, pI p1), (2, pI p2), (3, pI p3)] [(0, ob0 (roI p0))] ?_
 intro cx hnt
 refine Sq (RD hnt (.no :: []) [] [] [] [] tv ?_)
 obtain ⟨g1, g2, g3, g4, hm⟩ := go4 hm
 obtain ⟨g5, g6, g7, g8, hm⟩ := go4 hm
 refine Sq (RN hnt (nn 16 []) [(0, ow 0 ((p0.set (Int.toNat p1) (p0.getD (Int.toNat p3) 0)).set (Int.toNat p3) (p0.getD (Int.toNat p1) 0)).length), (1, pI p1), (2, pI p2)] [(0, ob0 (roI ((p0.set (Int.toNat p1) (p0.getD (Int.toNat p3) 0)).set (Int.toNat p3) (p0.getD (Int.toNat p1) 0))))] [(0, ow 0 p0.length)] [(0, .row 1 p0.length (c108e1 p0 p1 p3))] (an g1.1 (an g1.2 (an g2 (an g3.1 (an g3.2 (an g4 (an g5.1 (an g5.2 (an g6 (an g7.1 (an g7.2 (an g8 tv)))))))))))) (by kernel_rfl) (.cons rfl (MLe.ownLen (enc := encI) (d := 0) (f := (c108e1 p0 p1 p3)) (RowIs.updR (RowIs.upd RowIs.elems (p0.getD (Int.toNat p3) 0) rfl) (by omega) (p0.getD (Int.toNat p1) 0) rfl)) .nil) (.cons rfl (BLe.typed (RowIs.updR (RowIs.upd RowIs.elems (p0.getD (Int.toNat p3) 0) rfl) (by omega) (p0.getD (Int.toNat p1) 0) rfl)) .nil) ?_)
 refine Sq (RD hnt (nn 6 []) [2] [(9, pI (w64 (p1 + 1))), (10, pI (w64 (p2 - 1)))] [] [] tv ?_)
 refine Sq (Bk ?_)
 refine DW.whileO (fun (s1 : (List Int) × Int × Int) => mkSt [(0, ow 0 s1.1.length), (1, pI p1), (9, pI s1.2.2), (10, pI s1.2.1)] [(0, ob0 (roI s1.1))]) hm Conv.eqK ?_
 intro s1 n1 hm
 unfold partitionEqualOrdered_slices_intL1 at hm
 refine Bk ?_
 refine Sq (Bk ?_)
 refine DW.whileO (fun (s5 : Int) => mkSt [(0, ow 0 s1.1.length), (1, pI p1), (9, pI s5), (10, pI s1.2.1)] [(0, ob0 (roI s1.1))]) hm .refl ?_
 intro s5 n5 hm
 unfold partitionEqualOrdered_slices_intL5 at hm
 refine Sq (Sq ?_)
 refine Jn (ι := Bool) (fun (y10 : Bool) => mkSt [(0, ow 0 s1.1.length), (1, pI p1), (9, pI s5), (10, pI s1.2.1), (43, pB y10)] [(0, ob0 (roI s1.1))]) (fun y10 => (partitionEqualOrdered_slices_intJ10 p1 s1 n1 s5 n5) y10 = some RES) ?_ ?_
 ·intro y10 hm
  unfold partitionEqualOrdered_slices_intJ10 at hm
  refine condM hm ?_ ?_
  ·intro h156 hm
   refine Sk ?_
   refine Bk ?_
   refine RD hnt (nn 3 []) [43] [(9, pI (w64 (s5 + 1)))] [] [] tv ?_
   refine DW.done ?_
   show DW _ _ _ _ _
   exact jD (w64 (s5 + 1)) hm Conv.eqK
  ·intro h156 hm
   refine DW.exit ?_
   refine joinQ_exit ?_
   refine KQ_exit ?_
   refine blockQ_exit ?_
   show DW _ _ _ _ _
   refine Sq (Bk ?_)
   refine DW.whileO (fun (s7 : Int) => mkSt [(0, ow 0 s1.1.length), (1, pI p1), (9, pI s5), (10, pI s7)] [(0, ob0 (roI s1.1))]) hm Conv.t0 ?_
   intro s7 n7 hm
   unfold partitionEqualOrdered_slices_intL7 at hm
   refine Sq (Sq ?_)
   refine Jn (ι := Bool) (fun (y12 : Bool) => mkSt [(0, ow 0 s1.1.length), (1, pI p1), (9, pI s5), (10, pI s7), (59, pB y12)] [(0, ob0 (roI s1.1))]) (fun y12 => (partitionEqualOrdered_slices_intJ12 s1 n1 s5 s7 n7) y12 = some RES) ?_ ?_
   ·intro y12 hm
    unfold partitionEqualOrdered_slices_intJ12 at hm
    refine condM hm ?_ ?_
    ·intro h179 hm
     refine Sk ?_
     refine Bk ?_
     refine RD hnt (nn 3 []) [59] [(10, pI (w64 (s7 - 1)))] [] [] tv ?_
     refine DW.done ?_
     show DW _ _ _ _ _
     exact jD (w64 (s7 - 1)) hm Conv.eqK
    ·intro h179 hm
     refine DW.exit ?_
     refine joinQ_exit ?_
     refine KQ_exit ?_
     refine blockQ_exit ?_
     show DW _ _ _ _ _
     refine Sq (Sq (RD hnt (nn 3 []) [59] [(64, pB (decide (s5 > s7)))] [] [] tv ?_))
     refine condM hm ?_ ?_
     ·intro h180 hm
      refine DW.exit ?_
      refine blockQ_other (by decide) ?_
      refine KQ_exit ?_
      refine joinQ_exit ?_
      refine KQ_exit ?_
      refine blockQ_exit ?_
      show DW _ _ _ _ _
      refine Sq (RK hnt (nn 2 []) [(8, pI s5)] [(0, ob0 (roI s1.1))] tv ?_)
      obtain rfl := sj hm
      exact DW.ret (retK [roI s1.1] [] (pI s5))
     ·intro h180 hm
      refine Sk ?_
      obtain ⟨g181, g182, g183, g184, hm⟩ := go4 hm
      obtain ⟨g185, g186, g187, g188, hm⟩ := go4 hm
      refine Sq (RN hnt (nn 16 []) [(0, ow 0 (c108e3 s1 s5 s7).length), (1, pI p1), (9, pI s5), (10, pI s7)] [(0, ob0 (roI (c108e3 s1 s5 s7)))] [(0, ow 0 s1.1.length)] [(0, .row 1 s1.1.length (c108e2 s1 s5 s7))] (an g181.1 (an g181.2 (an g182 (an g183.1 (an g183.2 (an g184 (an g185.1 (an g185.2 (an g186 (an g187.1 (an g187.2 (an g188 tv)))))))))))) (by kernel_rfl) (.cons rfl (MLe.ownLen (enc := encI) (d := 0) (f := (c108e2 s1 s5 s7)) (RowIs.updR (RowIs.upd RowIs.elems (s1.1.getD (Int.toNat s7) 0) rfl) (by omega) (s1.1.getD (Int.toNat s5) 0) rfl)) .nil) (.cons rfl (BLe.typed (RowIs.updR (RowIs.upd RowIs.elems (s1.1.getD (Int.toNat s7) 0) rfl) (by omega) (s1.1.getD (Int.toNat s5) 0) rfl)) .nil) ?_)
      refine Sq (RD hnt (nn 3 []) [] [(9, pI (w64 (s5 + 1)))] [] [] tv ?_)
      refine RD hnt (nn 3 []) [] [(10, pI (w64 (s7 - 1)))] [] [] tv ?_
      refine DW.done ?_
      show DW _ _ _ _ _
      exact jD ((c108e3 s1 s5 s7), (w64 (s7 - 1)), (w64 (s5 + 1))) hm Conv.eqK
   ·rcases bt (decide (s5 ≤ s7)) with h173 | h173
    ·replace hm := if_t h173 hm
     obtain ⟨g174, g175, g176, g177, hm⟩ := go4 hm
     obtain ⟨r178, hr178, hm⟩ := bo hm
     refine RD hnt (nn 12 (o98 [] true r178 :: pT :: [])) [] [(59, pB r178)] [] [] (an3 h173 (an g174.1 (an g174.2 (an h173 (an g175 (an3 h173 (an g176.1 (an g176.2 (an h173 (an g177 (an h173 (an (Less_cmp_intSpec (s1.1.getD (Int.toNat p1) 0) (s1.1.getD (Int.toNat s7) 0) r178 hr178) (an h173 tv))))))))))))) ?_
     exact jD r178 hm Conv.eqK
    ·replace hm := if_f h173 hm
     refine RD hnt (nn 4 (sk 9 (pF :: []))) [] [(59, pB false)] [] [] (an4 h173 (an6 h173 tv)) ?_
     exact jD false hm Conv.eqK
 ·rcases bt (decide (s5 ≤ s1.2.1)) with h150 | h150
  ·replace hm := if_t h150 hm
   obtain ⟨g151, g152, g153, g154, hm⟩ := go4 hm
   obtain ⟨r155, hr155, hm⟩ := bo hm
   refine RD hnt (nn 12 (o98 [] true r155 :: .no :: pT :: [])) [] [(43, pB (!r155))] [] [] (an3 h150 (an g151.1 (an g151.2 (an h150 (an g152 (an3 h150 (an g153.1 (an g153.2 (an h150 (an g154 (an h150 (an (Less_cmp_intSpec (s1.1.getD (Int.toNat p1) 0) (s1.1.getD (Int.toNat s5) 0) r155 hr155) (an2 h150 tv))))))))))))) ?_
   exact jD (!r155) hm Conv.eqK
  ·replace hm := if_f h150 hm
   refine RD hnt (nn 4 (sk 10 (pF :: []))) [] [(43, pB false)] [] [] (an5 h150 (an6 h150 tv)) ?_
   exact jD false hm Conv.eqK
abbrev o108 (ks : List Nat) (b : Bool) (RES : Int × (List Int)) : Orc := .call 184 ks b (pI RES.1) [roI RES.2] []

abbrev c109e1 (p0 : List Int) (p1 : Int) (p3 : Int) := ((p0.set (Int.toNat p1) (p0.getD (Int.toNat p3) 0)).set (Int.toNat p3) (p0.getD (Int.toNat p1) 0))
abbrev c109e2 (p0 : List Int) (p1 : Int) (p3 : Int) (s1 : Int) (s17 : Int) := (updF (updF (elI (c109e1 p0 p1 p3)) (Int.toNat s1) [vi ((c109e1 p0 p1 p3).getD (Int.toNat s17) 0)]) (Int.toNat s17) (setRange ((updF (elI (c109e1 p0 p1 p3)) (Int.toNat s1) [vi ((c109e1 p0 p1 p3).getD (Int.toNat s17) 0)]) (Int.toNat s17)) 0 [vi ((c109e1 p0 p1 p3).getD (Int.toNat s1) 0)]))
abbrev c109e3 (p0 : List Int) (p1 : Int) (p3 : Int) := (updF (updF (elI p0) (Int.toNat p1) [vi (p0.getD (Int.toNat p3) 0)]) (Int.toNat p3) (setRange ((updF (elI p0) (Int.toNat p1) [vi (p0.getD (Int.toNat p3) 0)]) (Int.toNat p3)) 0 [vi (p0.getD (Int.toNat p1) 0)]))
abbrev c109e4 (s25 : (List Int) × Int × Int) (s29 : Int) (s31 : Int) := (updF (updF (elI s25.1) (Int.toNat s29) [vi (s25.1.getD (Int.toNat s31) 0)]) (Int.toNat s31) (setRange ((updF (elI s25.1) (Int.toNat s29) [vi (s25.1.getD (Int.toNat s31) 0)]) (Int.toNat s31)) 0 [vi (s25.1.getD (Int.toNat s29) 0)]))
abbrev c109e5 (s25 : (List Int) × Int × Int) (s29 : Int) (s31 : Int) := ((s25.1.set (Int.toNat s29) (s25.1.getD (Int.toNat s31) 0)).set (Int.toNat s31) (s25.1.getD (Int.toNat s29) 0))
theorem partitionOrdered_slices_intSpec (p0 : List Int) (p1 : Int) (p2 : Int) (p3 : Int) (RES : Int × Bool × (List Int)) (hm : partitionOrdered_slices_int p0 p1 p2 p3 = some RES) : Spec Tryz.prog 185 [ow 0 p0.length, pI p1, pI p2, pI p3] [roI p0] (.p (.tup [vi RES.1, vb RES.2.1])) [roI RES.2.2] [] := by
 unfold partitionOrdered_slices_int at hm
 refine SO Tryz.func185 rfl rfl [(0, ow 0 p0.length), (1, pI p1), (2, pI p2), (3, pI p3)] [(0, ob0 (roI p0))] ?_
 intro cx hnt
 refine Sq (RD hnt (nn 2 []) [] [] [] [] tv ?_)
 obtain ⟨g1, g2, g3, g4, hm⟩ := go4 hm
 obtain ⟨g5, g6, g7, g8, hm⟩ := go4 hm
 refine Sq (RN hnt (nn 16 []) [(0, ow 0 (c109e1 p0 p1 p3).length), (1, pI p1), (2, pI p2)] [(0, ob0 (roI (c109e1 p0 p1 p3)))] [(0, ow 0 p0.length)] [(0, .row 1 p0.length (c109e3 p0 p1 p3))] (an g1.1 (an g1.2 (an g2 (an g3.1 (an g3.2 (an g4 (an g5.1 (an g5.2 (an g6 (an g7.1 (an g7.2 (an g8 tv)))))))))))) (by kernel_rfl) (.cons rfl (MLe.ownLen (enc := encI) (d := 0) (f := (c109e3 p0 p1 p3)) (RowIs.updR (RowIs.upd RowIs.elems (p0.getD (Int.toNat p3) 0) rfl) (by omega) (p0.getD (Int.toNat p1) 0) rfl)) .nil) (.cons rfl (BLe.typed (RowIs.updR (RowIs.upd RowIs.elems (p0.getD (Int.toNat p3) 0) rfl) (by omega) (p0.getD (Int.toNat p1) 0) rfl)) .nil) ?_)
 refine Sq (RD hnt (nn 6 []) [2] [(10, pI (w64 (p1 + 1))), (11, pI (w64 (p2 - 1)))] [] [] tv ?_)
 refine Sq (Bk ?_)
 refine DW.whileO (fun (s1 : Int) => mkSt [(0, ow 0 (c109e1 p0 p1 p3).length), (1, pI p1), (10, pI s1), (11, pI (w64 (p2 - 1)))] [(0, ob0 (roI (c109e1 p0 p1 p3)))]) hm Conv.eqK ?_
 intro s1 n1 hm
 unfold partitionOrdered_slices_intL1 at hm
 refine Sq (Sq ?_)
 refine Jn (ι := Bool) (fun (y28 : Bool) => mkSt [(0, ow 0 (c109e1 p0 p1 p3).length), (1, pI p1), (10, pI s1), (11, pI (w64 (p2 - 1))), (43, pB y28)] [(0, ob0 (roI (c109e1 p0 p1 p3)))]) (fun y28 => (partitionOrdered_slices_intJ28 p0 p1 p2 p3 s1 n1) y28 = some RES) ?_ ?_
 ·intro y28 hm
  unfold partitionOrdered_slices_intJ28 at hm
  refine condM hm ?_ ?_
  ·intro h588 hm
   refine Sk ?_
   refine Bk ?_
   refine RD hnt (nn 3 []) [43] [(10, pI (w64 (s1 + 1)))] [] [] tv ?_
   refine DW.done ?_
   show DW _ _ _ _ _
   exact jD (w64 (s1 + 1)) hm Conv.eqK
  ·intro h588 hm
   refine DW.exit ?_
   refine joinQ_exit ?_
   refine KQ_exit ?_
   refine blockQ_exit ?_
   show DW _ _ _ _ _
   refine Sq (Bk ?_)
   refine DW.whileO (fun (s17 : Int) => mkSt [(0, ow 0 (c109e1 p0 p1 p3).length), (1, pI p1), (10, pI s1), (11, pI s17)] [(0, ob0 (roI (c109e1 p0 p1 p3)))]) hm Conv.t0 ?_
   intro s17 n17 hm
   unfold partitionOrdered_slices_intL17 at hm
   refine Sq (Sq ?_)
   refine Jn (ι := Bool) (fun (y42 : Bool) => mkSt [(0, ow 0 (c109e1 p0 p1 p3).length), (1, pI p1), (10, pI s1), (11, pI s17), (60, pB y42)] [(0, ob0 (roI (c109e1 p0 p1 p3)))]) (fun y42 => (partitionOrdered_slices_intJ42 p0 p1 p3 s1 s17 n17) y42 = some RES) ?_ ?_
   ·intro y42 hm
    unfold partitionOrdered_slices_intJ42 at hm
    refine condM hm ?_ ?_
    ·intro h875 hm
     refine Sk ?_
     refine Bk ?_
     refine RD hnt (nn 3 []) [60] [(11, pI (w64 (s17 - 1)))] [] [] tv ?_
     refine DW.done ?_
     show DW _ _ _ _ _
     exact jD (w64 (s17 - 1)) hm Conv.eqK
    ·intro h875 hm
     refine DW.exit ?_
     refine joinQ_exit ?_
     refine KQ_exit ?_
     refine blockQ_exit ?_
     show DW _ _ _ _ _
     refine Sq (Sq (RD hnt (nn 3 []) [60] [(65, pB (decide (s1 > s17)))] [] [] tv ?_))
     refine condM hm ?_ ?_
     ·intro h876 hm
      obtain ⟨g877, g878, g879, g880, hm⟩ := go4 hm
      obtain ⟨g881, g882, g883, g884, hm⟩ := go4 hm
      refine Sq (RN hnt (nn 16 []) [(11, pI s17)] [(0, ob0 (roI (((c109e1 p0 p1 p3).set (Int.toNat s17) ((c109e1 p0 p1 p3).getD (Int.toNat p1) 0)).set (Int.toNat p1) ((c109e1 p0 p1 p3).getD (Int.toNat s17) 0))))] [] [(0, .row 1 (c109e1 p0 p1 p3).length (updF (updF (elI (c109e1 p0 p1 p3)) (Int.toNat s17) [vi ((c109e1 p0 p1 p3).getD (Int.toNat p1) 0)]) (Int.toNat p1) (setRange ((updF (elI (c109e1 p0 p1 p3)) (Int.toNat s17) [vi ((c109e1 p0 p1 p3).getD (Int.toNat p1) 0)]) (Int.toNat p1)) 0 [vi ((c109e1 p0 p1 p3).getD (Int.toNat s17) 0)])))] (an g877.1 (an g877.2 (an g878 (an g879.1 (an g879.2 (an g880 (an g881.1 (an g881.2 (an g882 (an g883.1 (an g883.2 (an g884 tv)))))))))))) (by kernel_rfl) .nil (.cons rfl (BLe.typed (RowIs.updR (RowIs.upd RowIs.elems ((c109e1 p0 p1 p3).getD (Int.toNat p1) 0) rfl) (by omega) ((c109e1 p0 p1 p3).getD (Int.toNat s17) 0) rfl)) .nil) ?_)
      refine Sq (RD hnt (nn 3 []) [11] [(8, pI s17), (9, pB true)] [] [] tv ?_)
      obtain rfl := sj hm
      exact DW.ret (retK [roI (((c109e1 p0 p1 p3).set (Int.toNat s17) ((c109e1 p0 p1 p3).getD (Int.toNat p1) 0)).set (Int.toNat p1) ((c109e1 p0 p1 p3).getD (Int.toNat s17) 0))] [] (.p (.tup [vi s17, vb true])))
     ·intro h876 hm
      refine Sk ?_
      obtain ⟨g885, g886, g887, g888, hm⟩ := go4 hm
      obtain ⟨g889, g890, g891, g892, hm⟩ := go4 hm
      refine Sq (RN hnt (nn 16 []) [(0, ow 0 (((c109e1 p0 p1 p3).set (Int.toNat s1) ((c109e1 p0 p1 p3).getD (Int.toNat s17) 0)).set (Int.toNat s17) ((c109e1 p0 p1 p3).getD (Int.toNat s1) 0)).length), (1, pI p1), (10, pI s1), (11, pI s17)] [(0, ob0 (roI (((c109e1 p0 p1 p3).set (Int.toNat s1) ((c109e1 p0 p1 p3).getD (Int.toNat s17) 0)).set (Int.toNat s17) ((c109e1 p0 p1 p3).getD (Int.toNat s1) 0))))] [(0, ow 0 (c109e1 p0 p1 p3).length)] [(0, .row 1 (c109e1 p0 p1 p3).length (c109e2 p0 p1 p3 s1 s17))] (an g885.1 (an g885.2 (an g886 (an g887.1 (an g887.2 (an g888 (an g889.1 (an g889.2 (an g890 (an g891.1 (an g891.2 (an g892 tv)))))))))))) (by kernel_rfl) (.cons rfl (MLe.ownLen (enc := encI) (d := 0) (f := (c109e2 p0 p1 p3 s1 s17)) (RowIs.updR (RowIs.upd RowIs.elems ((c109e1 p0 p1 p3).getD (Int.toNat s17) 0) rfl) (by omega) ((c109e1 p0 p1 p3).getD (Int.toNat s1) 0) rfl)) .nil) (.cons rfl (BLe.typed (RowIs.updR (RowIs.upd RowIs.elems ((c109e1 p0 p1 p3).getD (Int.toNat s17) 0) rfl) (by omega) ((c109e1 p0 p1 p3).getD (Int.toNat s1) 0) rfl)) .nil) ?_)
      refine Sq (RD hnt (nn 3 []) [] [(10, pI (w64 (s1 + 1)))] [] [] tv ?_)
      refine Sq (RD hnt (nn 3 []) [] [(11, pI (w64 (s17 - 1)))] [] [] tv ?_)
      refine Sq (Bk ?_)
      refine DW.whileO (fun (s25 : (List Int) × Int × Int) => mkSt [(0, ow 0 s25.1.length), (1, pI p1), (10, pI s25.2.1), (11, pI s25.2.2)] [(0, ob0 (roI s25.1))]) hm Conv.eqK ?_
      intro s25 n25 hm
      unfold partitionOrdered_slices_intL25 at hm
      refine Bk ?_
      refine Sq (Bk ?_)
      refine DW.whileO (fun (s29 : Int) => mkSt [(0, ow 0 s25.1.length), (1, pI p1), (10, pI s29), (11, pI s25.2.2)] [(0, ob0 (roI s25.1))]) hm .refl ?_
      intro s29 n29 hm
      unfold partitionOrdered_slices_intL29 at hm
      refine Sq (Sq ?_)
      refine Jn (ι := Bool) (fun (y52 : Bool) => mkSt [(0, ow 0 s25.1.length), (1, pI p1), (10, pI s29), (11, pI s25.2.2), (112, pB y52)] [(0, ob0 (roI s25.1))]) (fun y52 => (partitionOrdered_slices_intJ52 p1 s25 n25 s29 n29) y52 = some RES) ?_ ?_
      ·intro y52 hm
       unfold partitionOrdered_slices_intJ52 at hm
       refine condM hm ?_ ?_
       ·intro h1088 hm
        refine Sk ?_
        refine Bk ?_
        refine RD hnt (nn 3 []) [112] [(10, pI (w64 (s29 + 1)))] [] [] tv ?_
        refine DW.done ?_
        show DW _ _ _ _ _
        exact jD (w64 (s29 + 1)) hm Conv.eqK
       ·intro h1088 hm
        refine DW.exit ?_
        refine joinQ_exit ?_
        refine KQ_exit ?_
        refine blockQ_exit ?_
        show DW _ _ _ _ _
        refine Sq (Bk ?_)
        refine DW.whileO (fun (s31 : Int) => mkSt [(0, ow 0 s25.1.length), (1, pI p1), (10, pI s29), (11, pI s31)] [(0, ob0 (roI s25.1))]) hm Conv.t0 ?_
        intro s31 n31 hm
        unfold partitionOrdered_slices_intL31 at hm
        refine Sq (Sq ?_)
        refine Jn (ι := Bool) (fun (y54 : Bool) => mkSt [(0, ow 0 s25.1.length), (1, pI p1), (10, pI s29), (11, pI s31), (129, pB y54)] [(0, ob0 (roI s25.1))]) (fun y54 => (partitionOrdered_slices_intJ54 p1 s25 n25 s29 s31 n31) y54 = some RES) ?_ ?_
        ·intro y54 hm
         unfold partitionOrdered_slices_intJ54 at hm
         refine condM hm ?_ ?_
         ·intro h1119 hm
          refine Sk ?_
          refine Bk ?_
          refine RD hnt (nn 3 []) [129] [(11, pI (w64 (s31 - 1)))] [] [] tv ?_
          refine DW.done ?_
          show DW _ _ _ _ _
          exact jD (w64 (s31 - 1)) hm Conv.eqK
         ·intro h1119 hm
          refine DW.exit ?_
          refine joinQ_exit ?_
          refine KQ_exit ?_
          refine blockQ_exit ?_
          show DW _ _ _ _ _
          refine Sq (Sq (RD hnt (nn 3 []) [129] [(134, pB (decide (s29 > s31)))] [] [] tv ?_))
          refine condM hm ?_ ?_
          ·intro h1120 hm
           refine DW.exit ?_
           refine blockQ_other (by decide) ?_
           refine KQ_exit ?_
           refine joinQ_exit ?_
           refine KQ_exit ?_
           refine blockQ_exit ?_
           show DW _ _ _ _ _
           obtain ⟨g1121, g1122, g1123, g1124, hm⟩ := go4 hm
           obtain ⟨g1125, g1126, g1127, g1128, hm⟩ := go4 hm
           refine Sq (RN hnt (nn 16 []) [(11, pI s31)] [(0, ob0 (roI ((s25.1.set (Int.toNat s31) (s25.1.getD (Int.toNat p1) 0)).set (Int.toNat p1) (s25.1.getD (Int.toNat s31) 0))))] [] [(0, .row 1 s25.1.length (updF (updF (elI s25.1) (Int.toNat s31) [vi (s25.1.getD (Int.toNat p1) 0)]) (Int.toNat p1) (setRange ((updF (elI s25.1) (Int.toNat s31) [vi (s25.1.getD (Int.toNat p1) 0)]) (Int.toNat p1)) 0 [vi (s25.1.getD (Int.toNat s31) 0)])))] (an g1121.1 (an g1121.2 (an g1122 (an g1123.1 (an g1123.2 (an g1124 (an g1125.1 (an g1125.2 (an g1126 (an g1127.1 (an g1127.2 (an g1128 tv)))))))))))) (by kernel_rfl) .nil (.cons rfl (BLe.typed (RowIs.updR (RowIs.upd RowIs.elems (s25.1.getD (Int.toNat p1) 0) rfl) (by omega) (s25.1.getD (Int.toNat s31) 0) rfl)) .nil) ?_)
           refine Sq (RD hnt (nn 3 []) [11] [(8, pI s31), (9, pB false)] [] [] tv ?_)
           obtain rfl := sj hm
           exact DW.ret (retK [roI ((s25.1.set (Int.toNat s31) (s25.1.getD (Int.toNat p1) 0)).set (Int.toNat p1) (s25.1.getD (Int.toNat s31) 0))] [] (.p (.tup [vi s31, vb false])))
          ·intro h1120 hm
           refine Sk ?_
           obtain ⟨g1129, g1130, g1131, g1132, hm⟩ := go4 hm
           obtain ⟨g1133, g1134, g1135, g1136, hm⟩ := go4 hm
           refine Sq (RN hnt (nn 16 []) [(0, ow 0 (c109e5 s25 s29 s31).length), (1, pI p1), (10, pI s29), (11, pI s31)] [(0, ob0 (roI (c109e5 s25 s29 s31)))] [(0, ow 0 s25.1.length)] [(0, .row 1 s25.1.length (c109e4 s25 s29 s31))] (an g1129.1 (an g1129.2 (an g1130 (an g1131.1 (an g1131.2 (an g1132 (an g1133.1 (an g1133.2 (an g1134 (an g1135.1 (an g1135.2 (an g1136 tv)))))))))))) (by kernel_rfl) (.cons rfl (MLe.ownLen (enc := encI) (d := 0) (f := (c109e4 s25 s29 s31)) (RowIs.updR (RowIs.upd RowIs.elems (s25.1.getD (Int.toNat s31) 0) rfl) (by omega) (s25.1.getD (Int.toNat s29) 0) rfl)) .nil) (.cons rfl (BLe.typed (RowIs.updR (RowIs.upd RowIs.elems (s25.1.getD (Int.toNat s31) 0) rfl) (by omega) (s25.1.getD (Int.toNat s29) 0) rfl)) .nil) ?_)
           refine Sq (RD hnt (nn 3 []) [] [(10, pI (w64 (s29 + 1)))] [] [] tv ?_)
           refine RD hnt (nn 3 []) [] [(11, pI (w64 (s31 - 1)))] [] [] tv ?_
           refine DW.done ?_
           show DW _ _ _ _ _
           exact jD ((c109e5 s25 s29 s31), (w64 (s29 + 1)), (w64 (s31 - 1))) hm Conv.eqK
        ·rcases bt (decide (s29 ≤ s31)) with h1113 | h1113
         ·replace hm := if_t h1113 hm
          obtain ⟨g1114, g1115, g1116, g1117, hm⟩ := go4 hm
          obtain ⟨r1118, hr1118, hm⟩ := bo hm
          refine RD hnt (nn 12 (o98 [] true r1118 :: .no :: pT :: [])) [] [(129, pB (!r1118))] [] [] (an3 h1113 (an g1114.1 (an g1114.2 (an h1113 (an g1115 (an3 h1113 (an g1116.1 (an g1116.2 (an h1113 (an g1117 (an h1113 (an (Less_cmp_intSpec (s25.1.getD (Int.toNat s31) 0) (s25.1.getD (Int.toNat p1) 0) r1118 hr1118) (an2 h1113 tv))))))))))))) ?_
          exact jD (!r1118) hm Conv.eqK
         ·replace hm := if_f h1113 hm
          refine RD hnt (nn 4 (sk 10 (pF :: []))) [] [(129, pB false)] [] [] (an5 h1113 (an6 h1113 tv)) ?_
          exact jD false hm Conv.eqK
      ·rcases bt (decide (s29 ≤ s25.2.2)) with h1082 | h1082
       ·replace hm := if_t h1082 hm
        obtain ⟨g1083, g1084, g1085, g1086, hm⟩ := go4 hm
        obtain ⟨r1087, hr1087, hm⟩ := bo hm
        refine RD hnt (nn 12 (o98 [] true r1087 :: pT :: [])) [] [(112, pB r1087)] [] [] (an3 h1082 (an g1083.1 (an g1083.2 (an h1082 (an g1084 (an3 h1082 (an g1085.1 (an g1085.2 (an h1082 (an g1086 (an h1082 (an (Less_cmp_intSpec (s25.1.getD (Int.toNat s29) 0) (s25.1.getD (Int.toNat p1) 0) r1087 hr1087) (an h1082 tv))))))))))))) ?_
        exact jD r1087 hm Conv.eqK
       ·replace hm := if_f h1082 hm
        refine RD hnt (nn 4 (sk 9 (pF :: []))) [] [(112, pB false)] [] [] (an4 h1082 (an6 h1082 tv)) ?_
        exact jD false hm Conv.eqK
   ·rcases bt (decide (s1 ≤ s17)) with h869 | h869
    ·replace hm := if_t h869 hm
     obtain ⟨g870, g871, g872, g873, hm⟩ := go4 hm
     obtain ⟨r874, hr874, hm⟩ := bo hm
     refine RD hnt (nn 12 (o98 [] true r874 :: .no :: pT :: [])) [] [(60, pB (!r874))] [] [] (an3 h869 (an g870.1 (an g870.2 (an h869 (an g871 (an3 h869 (an g872.1 (an g872.2 (an h869 (an g873 (an h869 (an (Less_cmp_intSpec ((c109e1 p0 p1 p3).getD (Int.toNat s17) 0) ((c109e1 p0 p1 p3).getD (Int.toNat p1) 0) r874 hr874) (an2 h869 tv))))))))))))) ?_
     exact jD (!r874) hm Conv.eqK
    ·replace hm := if_f h869 hm
     refine RD hnt (nn 4 (sk 10 (pF :: []))) [] [(60, pB false)] [] [] (an5 h869 (an6 h869 tv)) ?_
     exact jD false hm Conv.eqK
 ·rcases bt (decide (s1 ≤ (w64 (p2 - 1)))) with h582 | h582
  ·replace hm := if_t h582 hm
   obtain ⟨g583, g584, g585, g586, hm⟩ := go4 hm
   obtain ⟨r587, hr587, hm⟩ := bo hm
   refine RD hnt (nn 12 (o98 [] true r587 :: pT :: [])) [] [(43, pB r587)] [] [] (an3 h582 (an g583.1 (an g583.2 (an h582 (an g584 (an3 h582 (an g585.1 (an g585.2 (an h582 (an g586 (an h582 (an (Less_cmp_intSpec ((c109e1 p0 p1 p3).getD (Int.toNat s1) 0) ((c109e1 p0 p1 p3).getD (Int.toNat p1) 0) r587 hr587) (an h582 tv))))))))))))) ?_
   exact jD r587 hm Conv.eqK
  ·replace hm := if_f h582 hm
   refine RD hnt (nn 4 (sk 9 (pF :: []))) [] [(43, pB false)] [] [] (an4 h582 (an6 h582 tv)) ?_
   exact jD false hm Conv.eqK
abbrev o109 (ks : List Nat) (b : Bool) (RES : Int × Bool × (List Int)) : Orc := .call 185 ks b (.p (.tup [vi RES.1, vb RES.2.1])) [roI RES.2.2] []

theorem nextPowerOfTwo_slicesSpec (p0 : Int) (RES : Int) (hm : nextPowerOfTwo_slices p0 = some RES) : Spec Tryz.prog 191 [pI p0] [] (.p (vk .u64 RES)) [] [] := by
 unfold nextPowerOfTwo_slices at hm
 refine SO Tryz.func191 rfl rfl [(0, pI p0)] [] ?_
 intro cx hnt
 refine Sq (RK hnt (.no :: []) [(0, pI p0)] [] tv ?_)
 obtain ⟨r1, hr1, hm⟩ := bo hm
 obtain ⟨g2, hm⟩ := go1 hm
 refine Sq (RK hnt (nn 2 (o94 [] true r1 :: nn 2 [])) [(2, .p (vk .u64 (kshl .u64 1 r1)))] [] (an (Len_bitsSpec (IntKind.u64.wrap p0) r1 hr1) (an g2 tv)) ?_)
 obtain rfl := sj hm
 exact DW.ret (retK [] [] (.p (vk .u64 (kshl .u64 1 r1))))
abbrev o111 (ks : List Nat) (b : Bool) (RES : Int) : Orc := .call 191 ks b (.p (vk .u64 RES)) [] []

theorem Next_xorshift_slicesSpec (p0 : Int) (RES : Int × Int) (hm : Next_xorshift_slices p0 = some RES) : Spec Tryz.prog 192 [rr 0] [.box [.p (vk .u64 p0)]] (.p (vk .u64 RES.1)) [.box [.p (vk .u64 RES.2)]] [] := by
 unfold Next_xorshift_slices at hm
 refine SO Tryz.func192 rfl rfl [(0, rr 0)] [(0, bx [.p (vk .u64 p0)])] ?_
 intro cx hnt
 refine Sq (RD hnt (.no :: []) [] [] [] [] tv ?_)
 refine Sq (RK hnt (nn 10 []) [(0, rr 0)] [(0, bx [.p (vk .u64 (kxor .u64 p0 (kshl .u64 p0 13)))])] (an (by decide : (0 : Int) ≤ 13) tv) ?_)
 refine Sq (RK hnt (nn 10 []) [(0, rr 0)] [(0, bx [.p (vk .u64 (kxor .u64 (kxor .u64 p0 (kshl .u64 p0 13)) (kshr .u64 (kxor .u64 p0 (kshl .u64 p0 13)) 7)))])] (an (by decide : (0 : Int) ≤ 7) tv) ?_)
 refine Sq (RK hnt (nn 10 []) [(0, rr 0)] [(0, bx [.p (vk .u64 (kxor .u64 (kxor .u64 (kxor .u64 p0 (kshl .u64 p0 13)) (kshr .u64 (kxor .u64 p0 (kshl .u64 p0 13)) 7)) (kshl .u64 (kxor .u64 (kxor .u64 p0 (kshl .u64 p0 13)) (kshr .u64 (kxor .u64 p0 (kshl .u64 p0 13)) 7)) 17)))])] (an (by decide : (0 : Int) ≤ 17) tv) ?_)
 refine Sq (RD hnt (nn 4 []) [0] [(2, .p (vk .u64 (kxor .u64 (kxor .u64 (kxor .u64 p0 (kshl .u64 p0 13)) (kshr .u64 (kxor .u64 p0 (kshl .u64 p0 13)) 7)) (kshl .u64 (kxor .u64 (kxor .u64 p0 (kshl .u64 p0 13)) (kshr .u64 (kxor .u64 p0 (kshl .u64 p0 13)) 7)) 17))))] [] [] tv ?_)
 obtain rfl := sj hm
 exact DW.ret (retK [.box [.p (vk .u64 (kxor .u64 (kxor .u64 (kxor .u64 p0 (kshl .u64 p0 13)) (kshr .u64 (kxor .u64 p0 (kshl .u64 p0 13)) 7)) (kshl .u64 (kxor .u64 (kxor .u64 p0 (kshl .u64 p0 13)) (kshr .u64 (kxor .u64 p0 (kshl .u64 p0 13)) 7)) 17)))]] [] (.p (vk .u64 (kxor .u64 (kxor .u64 (kxor .u64 p0 (kshl .u64 p0 13)) (kshr .u64 (kxor .u64 p0 (kshl .u64 p0 13)) 7)) (kshl .u64 (kxor .u64 (kxor .u64 p0 (kshl .u64 p0 13)) (kshr .u64 (kxor .u64 p0 (kshl .u64 p0 13)) 7)) 17)))))
abbrev o112 (ks : List Nat) (b : Bool) (RES : Int × Int) : Orc := .call 192 ks b (.p (vk .u64 RES.1)) [.box [.p (vk .u64 RES.2)]] []

abbrev c110e1 (s1 : (List Int) × Int × Int) (p1 : Int) (y2 : Int) := (updF (updF (elI s1.1) (Int.toNat s1.2.2) [vi (s1.1.getD (Int.toNat (w64 (p1 + y2))) 0)]) (Int.toNat (w64 (p1 + y2))) (setRange ((updF (elI s1.1) (Int.toNat s1.2.2) [vi (s1.1.getD (Int.toNat (w64 (p1 + y2))) 0)]) (Int.toNat (w64 (p1 + y2)))) 0 [vi (s1.1.getD (Int.toNat s1.2.2) 0)]))
abbrev c110e2 (s1 : (List Int) × Int × Int) (p1 : Int) (y2 : Int) := ((s1.1.set (Int.toNat s1.2.2) (s1.1.getD (Int.toNat (w64 (p1 + y2))) 0)).set (Int.toNat (w64 (p1 + y2))) (s1.1.getD (Int.toNat s1.2.2) 0))
abbrev c110e3 (r15 : Int × Int) (r2 : Int) := (w64 (kand .u64 r15.1 (IntKind.u64.wrap (r2 - 1))))
theorem breakPatternsOrdered_slices_intSpec (p0 : List Int) (p1 : Int) (p2 : Int) (RES : List Int) (hm : breakPatternsOrdered_slices_int p0 p1 p2 = some RES) : Spec Tryz.prog 179 [ow 0 p0.length, pI p1, pI p2] [roI p0] (.p (.tup [])) [roI RES] [] := by
 unfold breakPatternsOrdered_slices_int at hm
 refine SO Tryz.func179 rfl rfl [(0, ow 0 p0.length), (1, pI p1), (2, pI p2)] [(0, ob0 (roI p0))] ?_
 intro cx hnt
 refine Sq (RD hnt (nn 4 []) [2] [(6, pI (w64 (p2 - p1)))] [] [] tv ?_)
 refine Sq (RD hnt (nn 2 []) [] [(15, pB (decide ((w64 (p2 - p1)) ≥ 8)))] [] [] tv ?_)
 refine condM hm ?_ ?_
 ·intro h1 hm
  refine Sq (RD hnt (nn 4 []) [15] [(7, rr 1056)] [] [(1056, bx [.p (vk .u64 (IntKind.u64.wrap (w64 (p2 - p1))))])] tv ?_)
  obtain ⟨r2, hr2, hm⟩ := bo hm
  refine Sq (RD hnt (.no :: o111 [] true r2 :: .no :: []) [] [(8, .p (vk .u64 r2))] [] [] (an (nextPowerOfTwo_slicesSpec (w64 (p2 - p1)) r2 hr2) tv) ?_)
  refine Sq (RD hnt (nn 7 []) [] [(9, pI (w64 ((w64 (p1 + (w64 ((w64 (Int.tdiv (w64 (p2 - p1)) 4)) * 2)))) - 1)))] [] [] (an (by decide : (4 : Int) ≠ 0) tv) ?_)
  refine Bk ?_
  refine DW.whileO (fun (s1 : (List Int) × Int × Int) => mkSt [(0, ow 0 s1.1.length), (1, pI p1), (6, pI (w64 (p2 - p1))), (7, rr 1056), (8, .p (vk .u64 r2)), (9, pI s1.2.2)] [(0, ob0 (roI s1.1)), (1056, bx [.p (vk .u64 s1.2.1)])]) hm Conv.eqK ?_
  intro s1 n1 hm
  unfold breakPatternsOrdered_slices_intL1 at hm
  refine Sq (Sq (RD hnt (nn 8 []) [] [(33, pB (decide (s1.2.2 ≤ (w64 ((w64 (p1 + (w64 ((w64 (Int.tdiv (w64 (p2 - p1)) 4)) * 2)))) + 1)))))] [] [] (an (by decide : (4 : Int) ≠ 0) tv) ?_))
  refine condM hm ?_ ?_
  ·intro h14 hm
   refine Sk ?_
   refine Sq (Bk ?_)
   obtain ⟨r15, hr15, hm⟩ := bo hm
   refine Sq (RD hnt (o112 [1056] true r15 :: nn 5 []) [33] [(10, pI (c110e3 r15 r2))] [] [(1056, bx [.p (vk .u64 r15.2)])] (an (Next_xorshift_slicesSpec s1.2.1 r15 hr15) (an tv tv)) ?_)
   refine Sq (Sq (RD hnt (nn 3 []) [] [(43, pB (decide ((c110e3 r15 r2) ≥ (w64 (p2 - p1)))))] [] [] tv ?_))
   refine Jn (ι := Int) (fun (y2 : Int) => mkSt [(0, ow 0 s1.1.length), (1, pI p1), (6, pI (w64 (p2 - p1))), (7, rr 1056), (8, .p (vk .u64 r2)), (9, pI s1.2.2), (10, pI y2)] [(0, ob0 (roI s1.1)), (1056, bx [.p (vk .u64 r15.2)])]) (fun y2 => (breakPatternsOrdered_slices_intJ2 p1 s1 n1 r15) y2 = some RES) ?_ ?_
   ·intro y2 hm
    unfold breakPatternsOrdered_slices_intJ2 at hm
    obtain ⟨g17, g18, g19, g20, hm⟩ := go4 hm
    obtain ⟨g21, g22, g23, g24, hm⟩ := go4 hm
    refine RN hnt (nn 20 []) [(0, ow 0 (c110e2 s1 p1 y2).length), (1, pI p1), (6, pI (w64 (p2 - p1))), (7, rr 1056), (8, .p (vk .u64 r2)), (9, pI s1.2.2)] [(0, ob0 (roI (c110e2 s1 p1 y2))), (1056, bx [.p (vk .u64 r15.2)])] [(0, ow 0 s1.1.length)] [(0, .row 1 s1.1.length (c110e1 s1 p1 y2))] (an g17.1 (an g17.2 (an g18 (an g19.1 (an g19.2 (an g20 (an g21.1 (an g21.2 (an g22 (an g23.1 (an g23.2 (an g24 tv)))))))))))) (by kernel_rfl) (.cons rfl (MLe.ownLen (enc := encI) (d := 0) (f := (c110e1 s1 p1 y2)) (RowIs.updR (RowIs.upd RowIs.elems (s1.1.getD (Int.toNat (w64 (p1 + y2))) 0) rfl) (by omega) (s1.1.getD (Int.toNat s1.2.2) 0) rfl)) .nil) (.cons rfl (BLe.typed (RowIs.updR (RowIs.upd RowIs.elems (s1.1.getD (Int.toNat (w64 (p1 + y2))) 0) rfl) (by omega) (s1.1.getD (Int.toNat s1.2.2) 0) rfl)) .nil) ?_
    refine DW.done ?_
    show DW _ _ _ _ _
    refine RD hnt (nn 3 []) [] [(9, pI (w64 (s1.2.2 + 1)))] [] [] tv ?_
    exact jD ((c110e2 s1 p1 y2), r15.2, (w64 (s1.2.2 + 1))) hm Conv.eqK
   ·refine condM hm ?_ ?_
    ·intro h16 hm
     refine RD hnt (nn 4 []) [43] [(10, pI (w64 ((c110e3 r15 r2) - (w64 (p2 - p1)))))] [] [] tv ?_
     exact jD (w64 ((c110e3 r15 r2) - (w64 (p2 - p1)))) hm Conv.eqK
    ·intro h16 hm
     refine Sk ?_
     exact jD (c110e3 r15 r2) hm Conv.t0
  ·intro h14 hm
   refine DW.exit ?_
   refine joinQ_exit ?_
   refine KQ_exit ?_
   refine blockQ_exit ?_
   show DW _ _ _ _ _
   refine DW.done ?_
   obtain rfl := sj hm
   exact endK [roI s1.1] [] (.p (.tup []))
 ·intro h1 hm
  refine Sk ?_
  refine DW.done ?_
  obtain rfl := sj hm
  exact endK [roI p0] [] (.p (.tup []))
abbrev o110 (ks : List Nat) (b : Bool) (RES : List Int) : Orc := .call 179 ks b (.p (.tup [])) [roI RES] []

abbrev c96e1 (s1 : (List Int) × Int × Int × Int × Bool × Bool) : Nat × MV := (10, pI (w64 (s1.2.2.1 - s1.2.1)))
abbrev c96e2 (s1 : (List Int) × Int × Int × Int × Bool × Bool) := (w64 (Int.tdiv (w64 (s1.2.2.1 - s1.2.1)) 8))
theorem pdqsortOrdered_slices_intBSpec (rec : (List Int) → Int → Int → Int → Option (List Int)) (ih : ∀ (p0 : List Int) (p1 : Int) (p2 : Int) (p3 : Int) (RES : List Int), rec p0 p1 p2 p3 = some RES → Spec Tryz.prog 168 [ow 0 p0.length, pI p1, pI p2, pI p3] [roI p0] (.p (.tup [])) [roI RES] []) (p0 : List Int) (p1 : Int) (p2 : Int) (p3 : Int) (RES : List Int) (hm : pdqsortOrdered_slices_intB rec p0 p1 p2 p3 = some RES) : Spec Tryz.prog 168 [ow 0 p0.length, pI p1, pI p2, pI p3] [roI p0] (.p (.tup [])) [roI RES] [] := by
 unfold pdqsortOrdered_slices_intB at hm
 refine SO Tryz.func168 rfl rfl [(0, ow 0 p0.length), (1, pI p1), (2, pI p2), (3, pI p3)] [(0, ob0 (roI p0))] ?_
 intro cx hnt
 refine Sq (RD hnt (.no :: []) [] [(8, pB true)] [] [] tv ?_)
 refine Sq (RD hnt (.no :: []) [] [(9, pB true)] [] [] tv ?_)
 refine Bk ?_
 refine DW.whileO (fun (s1 : (List Int) × Int × Int × Int × Bool × Bool) => mkSt [(0, ow 0 s1.1.length), (1, pI s1.2.1), (2, pI s1.2.2.1), (3, pI s1.2.2.2.1), (8, pB s1.2.2.2.2.1), (9, pB s1.2.2.2.2.2)] [(0, ob0 (roI s1.1))]) hm Conv.eqK ?_
 intro s1 n1 hm
 unfold pdqsortOrdered_slices_intL1 at hm
 refine Bk ?_
 refine Sq (RD hnt (nn 4 []) [] [(c96e1 s1)] [] [] tv ?_)
 refine Sq (Sq (RD hnt (nn 2 []) [] [(23, pB (decide ((w64 (s1.2.2.1 - s1.2.1)) ≤ 12)))] [] [] tv ?_))
 refine condM hm ?_ ?_
 ·intro h66 hm
  obtain ⟨r67, hr67, hm⟩ := bo hm
  obtain ⟨g68, hm⟩ := go1 hm
  refine Sq (RK hnt (nn 3 (o97 [0] true r67 :: [])) [] [(0, ob0 (roI r67))] (an (insertionSortOrdered_slices_intSpec s1.1 s1.2.1 s1.2.2.1 r67 hr67) (an (⟨rfl, g68⟩ : Body.same (roI s1.1) (roI r67)) tv)) ?_)
  obtain rfl := sj hm
  exact DW.ret (retK [roI r67] [] (.p (.tup [])))
 ·intro h66 hm
  refine Sk ?_
  refine Sq (Sq (RD hnt (nn 2 []) [23] [(29, pB (s1.2.2.2.1 == 0))] [] [] tv ?_))
  refine condM hm ?_ ?_
  ·intro h69 hm
   obtain ⟨r70, hr70, hm⟩ := bo hm
   obtain ⟨g71, hm⟩ := go1 hm
   refine Sq (RK hnt (nn 3 (o100 [0] true r70 :: [])) [] [(0, ob0 (roI r70))] (an (heapSortOrdered_slices_intSpec s1.1 s1.2.1 s1.2.2.1 r70 hr70) (an (⟨rfl, g71⟩ : Body.same (roI s1.1) (roI r70)) tv)) ?_)
   obtain rfl := sj hm
   exact DW.ret (retK [roI r70] [] (.p (.tup [])))
  ·intro h69 hm
   refine Sk ?_
   refine Sq (Sq (RD hnt (nn 2 []) [29] [(35, pB (!s1.2.2.2.2.1))] [] [] tv ?_))
   refine Jn (ι := (List Int) × Int) (fun (y8 : (List Int) × Int) => mkSt [(0, ow 0 y8.1.length), (1, pI s1.2.1), (2, pI s1.2.2.1), (3, pI y8.2), (8, pB s1.2.2.2.2.1), (9, pB s1.2.2.2.2.2), (c96e1 s1)] [(0, ob0 (roI y8.1))]) (fun y8 => (pdqsortOrdered_slices_intJ8 rec s1 n1) y8 = some RES) ?_ ?_
   ·intro y8 hm
    unfold pdqsortOrdered_slices_intJ8 at hm
    obtain ⟨r75, hr75, hm⟩ := bo hm
    refine Sq (RD hnt (nn 3 (o102 [] true r75 :: nn 5 [])) [] [(11, pI r75.1), (12, pI r75.2)] [] [] (an (choosePivotOrdered_slices_intSpec y8.1 s1.2.1 s1.2.2.1 r75 hr75) tv) ?_)
    refine Sq (Sq (RD hnt (nn 2 []) [] [(50, pB (r75.2 == 2))] [] [] tv ?_))
    refine Jn (ι := (List Int) × Int × Int) (fun (y9 : (List Int) × Int × Int) => mkSt [(0, ow 0 y9.1.length), (1, pI s1.2.1), (2, pI s1.2.2.1), (3, pI y8.2), (8, pB s1.2.2.2.2.1), (9, pB s1.2.2.2.2.2), (c96e1 s1), (11, pI y9.2.1), (12, pI y9.2.2)] [(0, ob0 (roI y9.1))]) (fun y9 => (pdqsortOrdered_slices_intJ9 rec s1 n1 y8) y9 = some RES) ?_ ?_
    ·intro y9 hm
     unfold pdqsortOrdered_slices_intJ9 at hm
     refine Sq (Sq (DW.regJ (sl2 := [(0, ow 0 y9.1.length), (1, pI s1.2.1), (2, pI s1.2.2.1), (3, pI y8.2), (8, pB s1.2.2.2.2.1), (9, pB s1.2.2.2.2.2), (c96e1 s1), (11, pI y9.2.1), (68, pB ((s1.2.2.2.2.1 && s1.2.2.2.2.2) && (y9.2.2 == 1)))]) (ob2 := [(0, ob0 (roI y9.1))]) ?_ ?_))
     ·rcases bt s1.2.2.2.2.1 with h79 | h79
      ·rcases bt s1.2.2.2.2.2 with h80 | h80
       ·exact RT hnt (nn 3 (pT :: nn 3 (pT :: []))) [(68, pB (y9.2.2 == 1))] (an2 h79 (an3 h80 tv)) (by kernel_rfl) (.cons rfl (.of_eq (by rw [h79, h80]; try rfl)) .nil)
       ·exact RT hnt (nn 3 (pT :: .no :: sk 2 (pF :: []))) [(68, pB false)] (an2 h79 (an3 h80 tv)) (by kernel_rfl) (.cons rfl (.of_eq (by rw [h79, h80]; try rfl)) .nil)
      ·exact RT hnt (nn 2 (.skip :: pF :: .no :: sk 2 (pF :: []))) [(68, pB false)] (an2 h79 (an3 ff tv)) (by kernel_rfl) (.cons rfl (.of_eq (by rw [h79]; try rfl)) .nil)
     ·refine Jn (ι := List Int) (fun (y10 : List Int) => mkSt [(0, ow 0 y10.length), (1, pI s1.2.1), (2, pI s1.2.2.1), (3, pI y8.2), (8, pB s1.2.2.2.2.1), (9, pB s1.2.2.2.2.2), (c96e1 s1), (11, pI y9.2.1)] [(0, ob0 (roI y10))]) (fun y10 => (pdqsortOrdered_slices_intJ10 rec s1 n1 y8 y9) y10 = some RES) ?_ ?_
      ·intro y10 hm
       unfold pdqsortOrdered_slices_intJ10 at hm
       refine Sq (Sq ?_)
       refine Jn (ι := Bool) (fun (y11 : Bool) => mkSt [(0, ow 0 y10.length), (1, pI s1.2.1), (2, pI s1.2.2.1), (3, pI y8.2), (8, pB s1.2.2.2.2.1), (9, pB s1.2.2.2.2.2), (c96e1 s1), (11, pI y9.2.1), (87, pB y11)] [(0, ob0 (roI y10))]) (fun y11 => (pdqsortOrdered_slices_intJ11 rec s1 n1 y8 y9 y10) y11 = some RES) ?_ ?_
       ·intro y11 hm
        unfold pdqsortOrdered_slices_intJ11 at hm
        refine condM hm ?_ ?_
        ·intro h91 hm
         obtain ⟨r92, hr92, hm⟩ := bo hm
         obtain ⟨g93, hm⟩ := go1 hm
         refine Sq (RN hnt (nn 4 (o108 [0] true r92 :: .no :: [])) [(0, ow 0 r92.2.length), (2, pI s1.2.2.1), (3, pI y8.2), (8, pB s1.2.2.2.2.1), (9, pB s1.2.2.2.2.2), (13, pI r92.1)] [(0, ob0 (roI r92.2))] [(0, ow 0 y10.length)] [] (an (partitionEqualOrdered_slices_intSpec y10 s1.2.1 s1.2.2.1 y9.2.1 r92 hr92) (an (⟨rfl, g93⟩ : Body.same (roI y10) (roI r92.2)) tv)) (by kernel_rfl) (.cons rfl (MLe.of_eq (congrArg (MV.own 0 0 0) g93)) .nil) .nil ?_)
         refine Sq (RD hnt (nn 2 []) [13] [(1, pI r92.1)] [] [] tv ?_)
         refine DW.exit ?_
         refine blockQ_exit ?_
         show DW _ _ _ _ _
         exact jD (r92.2, r92.1, s1.2.2.1, y8.2, s1.2.2.2.2.1, s1.2.2.2.2.2) hm Conv.eqK
        ·intro h91 hm
         refine Sk ?_
         obtain ⟨r94, hr94, hm⟩ := bo hm
         obtain ⟨g95, hm⟩ := go1 hm
         refine Sq (RN hnt (nn 4 (o109 [0] true r94 :: nn 5 [])) [(0, ow 0 r94.2.2.length), (1, pI s1.2.1), (2, pI s1.2.2.1), (3, pI y8.2), (c96e1 s1), (14, pI r94.1), (15, pB r94.2.1)] [(0, ob0 (roI r94.2.2))] [(0, ow 0 y10.length)] [] (an (partitionOrdered_slices_intSpec y10 s1.2.1 s1.2.2.1 y9.2.1 r94 hr94) (an (⟨rfl, g95⟩ : Body.same (roI y10) (roI r94.2.2)) tv)) (by kernel_rfl) (.cons rfl (MLe.of_eq (congrArg (MV.own 0 0 0) g95)) .nil) .nil ?_)
         refine Sq (RD hnt (nn 2 []) [15] [(9, pB r94.2.1)] [] [] tv ?_)
         refine Sq (RD hnt (nn 8 []) [] [(16, pI (w64 (r94.1 - s1.2.1))), (17, pI (w64 (s1.2.2.1 - r94.1)))] [] [] tv ?_)
         refine Sq (RD hnt (nn 3 []) [10] [(18, pI (c96e2 s1))] [] [] (an (by decide : (8 : Int) ≠ 0) tv) ?_)
         refine Sq (RD hnt (nn 3 []) [] [(113, pB (decide ((w64 (r94.1 - s1.2.1)) < (w64 (s1.2.2.1 - r94.1)))))] [] [] tv ?_)
         refine condM hm ?_ ?_
         ·intro h96 hm
          refine Sq (RD hnt (nn 4 []) [16, 17, 18, 113] [(8, pB (decide ((w64 (r94.1 - s1.2.1)) ≥ (c96e2 s1))))] [] [] tv ?_)
          obtain ⟨r97, hr97, hm⟩ := bo hm
          obtain ⟨g98, hm⟩ := go1 hm
          refine Sq (RN hnt (nn 4 (.call 168 [0] true (.p (.tup [])) [roI r97] [] :: [])) [(0, ow 0 r97.length), (2, pI s1.2.2.1), (3, pI y8.2), (8, pB (decide ((w64 (r94.1 - s1.2.1)) ≥ (c96e2 s1)))), (9, pB r94.2.1), (14, pI r94.1)] [(0, ob0 (roI r97))] [(0, ow 0 r94.2.2.length)] [] (an (ih r94.2.2 s1.2.1 r94.1 y8.2 r97 hr97) (an (⟨rfl, g98⟩ : Body.same (roI r94.2.2) (roI r97)) tv)) (by kernel_rfl) (.cons rfl (MLe.of_eq (congrArg (MV.own 0 0 0) g98)) .nil) .nil ?_)
          refine RD hnt (nn 3 []) [14] [(1, pI (w64 (r94.1 + 1)))] [] [] tv ?_
          refine DW.done ?_
          show DW _ _ _ _ _
          exact jD (r97, (w64 (r94.1 + 1)), s1.2.2.1, y8.2, (decide ((w64 (r94.1 - s1.2.1)) ≥ (c96e2 s1))), r94.2.1) hm Conv.eqK
         ·intro h96 hm
          refine Sq (RD hnt (nn 4 []) [16, 17, 18, 113] [(8, pB (decide ((w64 (s1.2.2.1 - r94.1)) ≥ (c96e2 s1))))] [] [] tv ?_)
          obtain ⟨r99, hr99, hm⟩ := bo hm
          obtain ⟨g100, hm⟩ := go1 hm
          refine Sq (RN hnt (nn 5 (.call 168 [0] true (.p (.tup [])) [roI r99] [] :: [])) [(0, ow 0 r99.length), (1, pI s1.2.1), (3, pI y8.2), (8, pB (decide ((w64 (s1.2.2.1 - r94.1)) ≥ (c96e2 s1)))), (9, pB r94.2.1), (14, pI r94.1)] [(0, ob0 (roI r99))] [(0, ow 0 r94.2.2.length)] [] (an (ih r94.2.2 (w64 (r94.1 + 1)) s1.2.2.1 y8.2 r99 hr99) (an (⟨rfl, g100⟩ : Body.same (roI r94.2.2) (roI r99)) tv)) (by kernel_rfl) (.cons rfl (MLe.of_eq (congrArg (MV.own 0 0 0) g100)) .nil) .nil ?_)
          refine RD hnt (nn 2 []) [14] [(2, pI r94.1)] [] [] tv ?_
          refine DW.done ?_
          show DW _ _ _ _ _
          exact jD (r99, s1.2.1, r94.1, y8.2, (decide ((w64 (s1.2.2.1 - r94.1)) ≥ (c96e2 s1))), r94.2.1) hm Conv.eqK
       ·rcases bt (decide (s1.2.1 > 0)) with h85 | h85
        ·replace hm := if_t h85 hm
         obtain ⟨g86, g87, g88, g89, hm⟩ := go4 hm
         obtain ⟨r90, hr90, hm⟩ := bo hm
         refine RD hnt (nn 12 (o98 [] true r90 :: .no :: pT :: [])) [] [(87, pB (!r90))] [] [] (an4 h85 (an g86.1 (an g86.2 (an h85 (an g87 (an3 h85 (an g88.1 (an g88.2 (an h85 (an g89 (an h85 (an (Less_cmp_intSpec (y10.getD (Int.toNat (w64 (s1.2.1 - 1))) 0) (y10.getD (Int.toNat y9.2.1) 0) r90 hr90) (an2 h85 tv))))))))))))) ?_
         exact jD (!r90) hm Conv.eqK
        ·replace hm := if_f h85 hm
         refine RD hnt (nn 3 (sk 11 (pF :: []))) [] [(87, pB false)] [] [] (an6 h85 (an6 h85 tv)) ?_
         exact jD false hm Conv.eqK
      ·refine condM hm ?_ ?_
       ·intro h81 hm
        obtain ⟨r82, hr82, hm⟩ := bo hm
        obtain ⟨g83, hm⟩ := go1 hm
        refine Sq (RN hnt (nn 3 (o107 [0] true r82 :: [])) [(0, ow 0 r82.2.length), (1, pI s1.2.1), (2, pI s1.2.2.1), (3, pI y8.2), (8, pB s1.2.2.2.2.1), (9, pB s1.2.2.2.2.2), (c96e1 s1), (11, pI y9.2.1), (72, pB r82.1)] [(0, ob0 (roI r82.2))] [(0, ow 0 y9.1.length)] [] (an (partialInsertionSortOrdered_slices_intSpec y9.1 s1.2.1 s1.2.2.1 r82 hr82) (an (⟨rfl, g83⟩ : Body.same (roI y9.1) (roI r82.2)) tv)) (by kernel_rfl) (.cons rfl (MLe.of_eq (congrArg (MV.own 0 0 0) g83)) .nil) .nil ?_)
        refine condM hm ?_ ?_
        ·intro h84 hm
         obtain rfl := sj hm
         exact DW.ret (retK [roI r82.2] [] (.p (.tup [])))
        ·intro h84 hm
         refine Sk ?_
         exact jD r82.2 hm Conv.t0
       ·intro h81 hm
        refine Sk ?_
        exact jD y9.1 hm Conv.t0
    ·refine condM hm ?_ ?_
     ·intro h76 hm
      obtain ⟨r77, hr77, hm⟩ := bo hm
      obtain ⟨g78, hm⟩ := go1 hm
      refine Sq (RN hnt (nn 3 (o106 [0] true r77 :: [])) [(0, ow 0 r77.length), (1, pI s1.2.1), (2, pI s1.2.2.1), (3, pI y8.2), (8, pB s1.2.2.2.2.1), (9, pB s1.2.2.2.2.2), (c96e1 s1), (11, pI r75.1)] [(0, ob0 (roI r77))] [(0, ow 0 y8.1.length)] [] (an (reverseRangeOrdered_slices_intSpec y8.1 s1.2.1 s1.2.2.1 r77 hr77) (an (⟨rfl, g78⟩ : Body.same (roI y8.1) (roI r77)) tv)) (by kernel_rfl) (.cons rfl (MLe.of_eq (congrArg (MV.own 0 0 0) g78)) .nil) .nil ?_)
      refine Sq (RD hnt (nn 7 []) [] [(11, pI (w64 ((w64 (s1.2.2.1 - 1)) - (w64 (r75.1 - s1.2.1)))))] [] [] tv ?_)
      refine RD hnt (.no :: []) [] [(12, pI 1)] [] [] tv ?_
      exact jD (r77, (w64 ((w64 (s1.2.2.1 - 1)) - (w64 (r75.1 - s1.2.1)))), 1) hm Conv.eqK
     ·intro h76 hm
      refine Sk ?_
      exact jD (y8.1, r75.1, r75.2) hm Conv.t0
   ·refine condM hm ?_ ?_
    ·intro h72 hm
     obtain ⟨r73, hr73, hm⟩ := bo hm
     obtain ⟨g74, hm⟩ := go1 hm
     refine Sq (RN hnt (nn 3 (o110 [0] true r73 :: [])) [(0, ow 0 r73.length), (1, pI s1.2.1), (2, pI s1.2.2.1), (3, pI s1.2.2.2.1), (8, pB s1.2.2.2.2.1), (9, pB s1.2.2.2.2.2), (c96e1 s1)] [(0, ob0 (roI r73))] [(0, ow 0 s1.1.length)] [] (an (breakPatternsOrdered_slices_intSpec s1.1 s1.2.1 s1.2.2.1 r73 hr73) (an (⟨rfl, g74⟩ : Body.same (roI s1.1) (roI r73)) tv)) (by kernel_rfl) (.cons rfl (MLe.of_eq (congrArg (MV.own 0 0 0) g74)) .nil) .nil ?_)
     refine RD hnt (nn 3 []) [] [(3, pI (w64 (s1.2.2.2.1 - 1)))] [] [] tv ?_
     exact jD (r73, (w64 (s1.2.2.2.1 - 1))) hm Conv.eqK
    ·intro h72 hm
     refine Sk ?_
     exact jD (s1.1, s1.2.2.2.1) hm Conv.t0
theorem pdqsortOrdered_slices_intFSpec : ∀ (n : Nat) (p0 : List Int) (p1 : Int) (p2 : Int) (p3 : Int) (RES : List Int), pdqsortOrdered_slices_intF n p0 p1 p2 p3 = some RES → Spec Tryz.prog 168 [ow 0 p0.length, pI p1, pI p2, pI p3] [roI p0] (.p (.tup [])) [roI RES] []
  | 0, p0, p1, p2, p3, RES, hm => by simp [pdqsortOrdered_slices_intF] at hm
  | n + 1, p0, p1, p2, p3, RES, hm => pdqsortOrdered_slices_intBSpec (pdqsortOrdered_slices_intF n) (pdqsortOrdered_slices_intFSpec n) p0 p1 p2 p3 RES hm
theorem pdqsortOrdered_slices_intSpec (p0 : List Int) (p1 : Int) (p2 : Int) (p3 : Int) (RES : List Int) (hm : pdqsortOrdered_slices_int p0 p1 p2 p3 = some RES) : Spec Tryz.prog 168 [ow 0 p0.length, pI p1, pI p2, pI p3] [roI p0] (.p (.tup [])) [roI RES] [] := pdqsortOrdered_slices_intFSpec FUEL p0 p1 p2 p3 RES hm
abbrev o96 (ks : List Nat) (b : Bool) (RES : List Int) : Orc := .call 168 ks b (.p (.tup [])) [roI RES] []

theorem Sort_slices_intSpec (p0 : List Int) (RES : List Int) (hm : Sort_slices_int p0 = some RES) : Spec Tryz.prog 155 [ow 0 p0.length] [roI p0] (.p (.tup [])) [roI RES] [] := by
 unfold Sort_slices_int at hm
 refine SO Tryz.func155 rfl rfl [(0, ow 0 p0.length)] [(0, ob0 (roI p0))] ?_
 intro cx hnt
 refine Sq (RD hnt (nn 3 []) [] [(2, pI ((p0.length : Nat) : Int))] [] [] tv ?_)
 obtain ⟨r1, hr1, hm⟩ := bo hm
 obtain ⟨r2, hr2, hm⟩ := bo hm
 obtain ⟨g3, hm⟩ := go1 hm
 refine RK hnt (nn 4 (o94 [] true r1 :: o96 [0] true r2 :: [])) [] [(0, ob0 (roI r2))] (an (Len_bitsSpec (IntKind.u64.wrap ((p0.length : Nat) : Int)) r1 hr1) (an (pdqsortOrdered_slices_intSpec p0 0 ((p0.length : Nat) : Int) r1 r2 hr2) (an (⟨rfl, g3⟩ : Body.same (roI p0) (roI r2)) tv))) ?_
 refine DW.done ?_
 obtain rfl := sj hm
 exact endK [roI r2] [] (.p (.tup []))
abbrev o93 (ks : List Nat) (b : Bool) (RES : List Int) : Orc := .call 155 ks b (.p (.tup [])) [roI RES] []
end Go.Dm


/- Go functions compute their models, printed by a program. -/
namespace Go.Dm
open Go.Proofs
set_option linter.unusedVariables false
abbrev c113e1 (s4 : (List Int) × Int) (k1 : Int) (k4 : Int) := (s4.1.getD (addN (Int.toNat k1) (Int.toNat k4)) 0)
abbrev c113e2 (k1 : Int) (p0 : List Int) : Nat × MV := (4, .own 0 0 (Int.toNat k1) (subN p0.length (Int.toNat k1)))
abbrev c113e3 (s4 : (List Int) × Int) := (fillL s4.1 (Int.toNat s4.2) (subN s4.1.length (Int.toNat s4.2)) 0)
theorem Compact_slices_intSpec (p0 : List Int) (RES : Nat × (List Int)) (hm : Compact_slices_int p0 = some RES) : Spec Tryz.prog 156 [ow 0 p0.length] [roI p0] (ow 0 RES.1) [roI RES.2] [] := by
 unfold Compact_slices_int at hm
 refine SO Tryz.func156 rfl rfl [(0, ow 0 p0.length)] [(0, ob0 (roI p0))] ?_
 intro cx hnt
 refine Sq (RD hnt (.no :: []) [] [] [] [] tv ?_)
 refine Sq (Sq (RD hnt (nn 3 []) [] [(8, pB (decide (((p0.length : Nat) : Int) < 2)))] [] [] tv ?_))
 refine condM hm ?_ ?_
 ·intro h1 hm
  refine Sq (RK hnt (nn 2 []) [(2, ow 0 p0.length)] [(0, ob0 (roI p0))] tv ?_)
  obtain rfl := sj hm
  exact DW.ret (retK [roI p0] [] (ow 0 p0.length))
 ·intro h1 hm
  refine Sk ?_
  refine Sq (Sq (RD hnt (.no :: []) [8] [(3, pI 1)] [] [] tv ?_))
  refine Bk ?_
  obtain ⟨hc1, hm⟩ := go1 hm
  refine DW.forO (fun (k1 : Int) (s1 : Unit) => mkSt [(0, ow 0 p0.length), (3, pI k1)] [(0, ob0 (roI p0))]) (lo := 1) (hi := ((p0.length : Nat) : Int)) hm Conv.eqK ?_
  intro k1 s1 n1 hk1 hs1 he1
  refine Sq (Sq (RD hnt (nn 4 []) [] [(13, pB (decide (k1 < ((p0.length : Nat) : Int))))] [] [] tv ?_))
  refine condK (decide (k1 < ((p0.length : Nat) : Int))) ?_ ?_
  ·intro h94
   have hlt1 : k1 < ((p0.length : Nat) : Int) := by have := of_decide_eq_true h94; omega
   have hm := hs1 hlt1
   unfold Compact_slices_intL1 at hm
   refine Sk ?_
   refine Sq (Bk ?_)
   obtain ⟨g95, g96, g97, g98, hm⟩ := go4 hm
   refine Sq (RD hnt (nn 10 []) [13] [(25, pB ((p0.getD (Int.toNat k1) 0) == (p0.getD (Int.toNat (w64 (k1 - 1))) 0)))] [] [] (an g95.1 (an g95.2 (an g96 (an g97.1 (an g97.2 (an g98 tv)))))) ?_)
   refine condM hm ?_ ?_
   ·intro h99 hm
    obtain ⟨g100, hm⟩ := go1 hm
    refine Sq (RD hnt (nn 4 []) [25] [(c113e2 k1 p0)] [] [] (an (by omega : (0 : Int) ≤ k1) (an (by omega : k1 ≤ ((p0.length : Nat) : Int)) (an (by omega : ((p0.length : Nat) : Int) ≤ ((p0.length : Nat) : Int)) tv))) ?_)
    refine Sq (Sq (RD hnt (.no :: []) [] [(5, pI 1)] [] [] tv ?_))
    refine Bk ?_
    obtain ⟨hc4, hm⟩ := go1 hm
    refine DW.forO (fun (k4 : Int) (s4 : (List Int) × Int) => mkSt [(0, ow 0 s4.1.length), (3, pI s4.2), (c113e2 k1 p0), (5, pI k4)] [(0, ob0 (roI s4.1))]) (lo := 1) (hi := (((subN p0.length (Int.toNat k1)) : Nat) : Int)) hm Conv.eqK ?_
    intro k4 s4 n4 hk4 hs4 he4
    refine Sq (Sq (RD hnt (nn 4 []) [] [(32, pB (decide (k4 < (((subN p0.length (Int.toNat k1)) : Nat) : Int))))] [] [] tv ?_))
    refine condK (decide (k4 < (((subN p0.length (Int.toNat k1)) : Nat) : Int))) ?_ ?_
    ·intro h127
     have hlt4 : k4 < (((subN p0.length (Int.toNat k1)) : Nat) : Int) := by have := of_decide_eq_true h127; omega
     have hm := hs4 hlt4
     unfold Compact_slices_intL4 at hm
     refine Sk ?_
     refine Sq ?_
     refine Jn (ι := (List Int) × Int) (fun (y9 : (List Int) × Int) => mkSt [(0, ow 0 y9.1.length), (3, pI y9.2), (c113e2 k1 p0), (5, pI k4)] [(0, ob0 (roI y9.1))]) (fun y9 => (Compact_slices_intJ9 n4) y9 = some RES) ?_ ?_
     ·intro y9 hm
      unfold Compact_slices_intJ9 at hm
      refine RD hnt (nn 3 []) [] [(5, pI (w64 (k4 + 1)))] [] [] tv ?_
      exact jD (y9.1, y9.2) ⟨hlt4, hm⟩ (Conv.tp [(5, pI (w64 (k4 + 1)))] [] (by kernel_rfl) (.cons rfl (.of_eq (congrArg pI (w64_for (lo := 1) (hi := (((subN p0.length (Int.toNat k1)) : Nat) : Int)) (by omega) hk4 hlt4 (by omega)))) .nil) .nil)
     ·refine Bk ?_
      obtain ⟨g128, g129, g130, g131, hm⟩ := go4 hm
      refine Sq (RD hnt (nn 10 []) [32] [(44, pB ((c113e1 s4 k1 k4) != (s4.1.getD (addN (Int.toNat k1) (Int.toNat (w64 (k4 - 1)))) 0)))] [] [] (an g128.1 (an g128.2 (an g129 (an g130.1 (an g130.2 (an g131 tv)))))) ?_)
      refine condM hm ?_ ?_
      ·intro h132 hm
       obtain ⟨g133, g134, g135, g136, hm⟩ := go4 hm
       refine Sq (RN hnt (nn 8 []) [(0, ow 0 (s4.1.set (Int.toNat s4.2) (c113e1 s4 k1 k4)).length), (3, pI s4.2), (c113e2 k1 p0), (5, pI k4)] [(0, ob0 (roI (s4.1.set (Int.toNat s4.2) (c113e1 s4 k1 k4))))] [(0, ow 0 s4.1.length)] [(0, .row 1 s4.1.length (updF (elI s4.1) (Int.toNat s4.2) [vi (c113e1 s4 k1 k4)]))] (an g133.1 (an g133.2 (an g134 (an g135.1 (an g135.2 (an g136 tv)))))) (by kernel_rfl) (.cons rfl (MLe.ownLen (enc := encI) (d := 0) (f := (updF (elI s4.1) (Int.toNat s4.2) [vi (c113e1 s4 k1 k4)])) (RowIs.upd RowIs.elems (c113e1 s4 k1 k4) rfl)) .nil) (.cons rfl (BLe.typed (RowIs.upd RowIs.elems (c113e1 s4 k1 k4) rfl)) .nil) ?_)
       refine RD hnt (nn 3 []) [] [(3, pI (w64 (s4.2 + 1)))] [] [] tv ?_
       exact bD ((s4.1.set (Int.toNat s4.2) (c113e1 s4 k1 k4)), (w64 (s4.2 + 1))) hm Conv.eqK
      ·intro h132 hm
       refine Sk ?_
       exact bD (s4.1, s4.2) hm Conv.t0
    ·intro h127
     have hge4 : ¬ k4 < (((subN p0.length (Int.toNat k1)) : Nat) : Int) := by have := of_decide_eq_false h127; omega
     have hm := he4 hge4
     unfold Compact_slices_intD4 at hm
     refine DW.exit ?_
     refine joinQ_exit ?_
     refine KQ_exit ?_
     refine blockQ_exit ?_
     show DW _ _ _ _ _
     obtain ⟨g137, g138, hm⟩ := go2 hm
     refine Sq (RN hnt (nn 4 []) [(0, ow 0 (c113e3 s4).length), (3, pI s4.2)] [(0, ob0 (roI (c113e3 s4)))] [(0, ow 0 s4.1.length)] [(0, .row 1 s4.1.length (overF (elI s4.1) (Int.toNat s4.2) (subN s4.1.length (Int.toNat s4.2)) (fun _ => [vi 0])))] (an (by omega : (0 : Int) ≤ s4.2) (an (by omega : s4.2 ≤ ((s4.1.length : Nat) : Int)) (an (by omega : ((s4.1.length : Nat) : Int) ≤ ((s4.1.length : Nat) : Int)) (an g138 tv)))) (by kernel_rfl) (.cons rfl (MLe.ownLen (enc := encI) (d := 0) (f := (overF (elI s4.1) (Int.toNat s4.2) (subN s4.1.length (Int.toNat s4.2)) (fun _ => [vi 0]))) (RowIs.fill RowIs.elems 0 rfl (by first | exact g138 | omega))) .nil) (.cons rfl (BLe.typed (RowIs.fill RowIs.elems 0 rfl (by first | exact g138 | omega))) .nil) ?_)
     obtain ⟨g139, hm⟩ := go1 hm
     refine Sq (RD hnt (nn 4 []) [0, 3] [(2, ow 0 (Int.toNat s4.2))] [] [] (an (by omega : (0 : Int) ≤ 0) (an (by omega : (0 : Int) ≤ s4.2) (an (by omega : s4.2 ≤ (((fillL s4.1 (Int.toNat s4.2) (subN s4.1.length (Int.toNat s4.2)) 0).length : Nat) : Int)) tv))) ?_)
     obtain rfl := sj hm
     exact DW.ret (retK [roI (c113e3 s4)] [] (ow 0 (Int.toNat s4.2)))
   ·intro h99 hm
    refine Sk ?_
    refine DW.done ?_
    show DW _ _ _ _ _
    refine RD hnt (nn 3 []) [25] [(3, pI (w64 (k1 + 1)))] [] [] tv ?_
    exact jD () ⟨hlt1, hm⟩ (Conv.tp [(3, pI (w64 (k1 + 1)))] [] (by kernel_rfl) (.cons rfl (.of_eq (congrArg pI (w64_for (lo := 1) (hi := ((p0.length : Nat) : Int)) (by omega) hk1 hlt1 (by omega)))) .nil) .nil)
  ·intro h94
   have hge1 : ¬ k1 < ((p0.length : Nat) : Int) := by have := of_decide_eq_false h94; omega
   have hm := he1 hge1
   unfold Compact_slices_intD1 at hm
   refine DW.exit ?_
   refine joinQ_exit ?_
   refine KQ_exit ?_
   refine blockQ_exit ?_
   show DW _ _ _ _ _
   refine Sq (RK hnt (nn 2 []) [(2, ow 0 p0.length)] [(0, ob0 (roI p0))] tv ?_)
   obtain rfl := sj hm
   exact DW.ret (retK [roI p0] [] (ow 0 p0.length))
abbrev o113 (ks : List Nat) (b : Bool) (RES : Nat × (List Int)) : Orc := .call 156 ks b (ow 0 RES.1) [roI RES.2] []

abbrev c90e1 (p0 : Hierarchy) : Nat × MV := (12, pI ((p0.tasks.length : Nat) : Int))
theorem Those_crewQTasksFa_crewQID_crewSpec (p0 : Hierarchy) (p1c0 : Int) (RES : List Int) (hm : Those_crewQTasksFa_crewQID_crew p0 p1c0 = some RES) : Spec Tryz.prog 112 [.p (.agg (encHierarchy p0)), .fn 151 [rr 0], .p (.fn 148 [])] [.box [pI p1c0]] (.p (slI RES)) [.box [pI p1c0]] [] := by
 unfold Those_crewQTasksFa_crewQID_crew at hm
 refine SO Tryz.func112 rfl rfl [(0, .p (.agg (encHierarchy p0))), (1, .fn 151 [rr 0]), (2, .p (.fn 148 []))] [(0, bx [pI p1c0])] ?_
 intro cx hnt
 refine Sq (RD hnt (nn 2 []) [0] [(3, rr 1024)] [] [(1024, bx (pm (encHierarchy p0)))] tv ?_)
 refine Sq (RD hnt (.no :: []) [] [(7, .p (.sl .nil 0 0 (fun _ => [])))] [] [] tv ?_)
 refine Sq (Sq (RD hnt (nn 4 []) [3] [(11, .p (slTask p0.tasks)), (c90e1 p0), (13, pI 0)] [1024] [] tv ?_))
 refine Bk ?_
 obtain ⟨hc1, hm⟩ := go1 hm
 refine DW.rangeO (fun (k1 : Nat) (s1 : List Int) => mkSt [(1, .fn 151 [rr 0]), (2, .p (.fn 148 [])), (7, ow 1200 s1.length), (11, .p (slTask p0.tasks)), (c90e1 p0), (13, pI ((k1 : Nat) : Int))] [(0, bx [pI p1c0]), (1200, ob0 (roI s1))]) dTask hm (Conv.ads [(.s 7, 1200, 1, elems encI 0 [])]) ?_
 intro k1 s1 n1 hk1 hs1 he1
 refine Sq (RD hnt (.no :: []) [] [(14, pB (decide (((k1 : Nat) : Int) < ((p0.tasks.length : Nat) : Int))))] [] [] tv ?_)
 refine Sq (condK (decide (((k1 : Nat) : Int) < ((p0.tasks.length : Nat) : Int))) ?_ ?_)
 ·intro h22
  have hlt1 : k1 < p0.tasks.length := by have := of_decide_eq_true h22; omega
  have hm := hs1 hlt1
  unfold Those_crewQTasksFa_crewQID_crewL1 at hm
  refine Sk ?_
  refine Sq ?_
  refine Jn (ι := List Int) (fun (y3 : List Int) => mkSt [(1, .fn 151 [rr 0]), (2, .p (.fn 148 [])), (7, ow 1200 y3.length), (11, .p (slTask p0.tasks)), (c90e1 p0), (13, pI ((k1 : Nat) : Int))] [(0, bx [pI p1c0]), (1200, ob0 (roI y3))]) (fun y3 => (Those_crewQTasksFa_crewQID_crewJ3 n1) y3 = some RES) ?_ ?_
  ·intro y3 hm
   unfold Those_crewQTasksFa_crewQID_crewJ3 at hm
   refine RD hnt (nn 2 []) [] [(13, pI (w64 (((k1 : Nat) : Int) + 1)))] [] [] tv ?_
   exact jD y3 ⟨hlt1, hm⟩ (Conv.tp [(13, pI (w64 (((k1 : Nat) : Int) + 1)))] [] (by kernel_rfl) (.cons rfl (.of_eq (congrArg pI (w64_succ hlt1 hc1))) .nil) .nil)
  ·refine Bk ?_
   refine Sq (RD hnt (nn 4 []) [14] [(9, rr 1072)] [] [(1072, bx (pm (encTask (p0.tasks.getD k1 (default : Task)))))] (an (nn0 k1) (an (ltc hlt1) tv)) ?_)
   obtain ⟨r23, hr23, hm⟩ := bo hm
   refine Sq (RD hnt (nn 2 (.call 151 [0] true (pB r23) [.box [pI p1c0]] [] :: [])) [] [(19, pB r23)] [] [] (an (TasksFa_crewSpec (p0.tasks.getD k1 (default : Task)) p1c0 r23 hr23) (an tv tv)) ?_)
   refine condM hm ?_ ?_
   ·intro h24 hm
    obtain ⟨r25, hr25, hm⟩ := bo hm
    obtain ⟨g26, hm⟩ := go1 hm
    refine RN hnt (nn 3 (o92 [] true r25 :: nn 3 [])) [(1, .fn 151 [rr 0]), (2, .p (.fn 148 [])), (7, ow 1200 (s1 ++ [r25]).length), (11, .p (slTask p0.tasks)), (c90e1 p0), (13, pI ((k1 : Nat) : Int))] [(0, bx [pI p1c0]), (1200, ob0 (roI (s1 ++ [r25])))] [(7, ow 1200 (s1.length + 1))] [(1200, .row 1 (s1.length + 1) (catF s1.length (elI s1) (cut 1 [vi r25])))] (an (ID_crewSpec (p0.tasks.getD k1 (default : Task)) r25 hr25) (an (by omega : (s1.length + 1) * 8 ≤ 140737488355328) tv)) (by kernel_rfl) (.cons rfl (MLe.ownLen (enc := encI) (d := 0) (f := (catF s1.length (elI s1) (cut 1 [vi r25]))) (RowIs.cat RowIs.elems (RowIs.lit (enc := encI) (d := 0) (n := 1) (f := (cut 1 [vi r25])) [r25] rfl (fun | 0, _ => rfl | n + 1, h => absurd h (by omega))))) .nil) (.cons rfl (BLe.typed (RowIs.cat RowIs.elems (RowIs.lit (enc := encI) (d := 0) (n := 1) (f := (cut 1 [vi r25])) [r25] rfl (fun | 0, _ => rfl | n + 1, h => absurd h (by omega))))) .nil) ?_
    exact bD (s1 ++ [r25]) hm .refl
   ·intro h24 hm
    refine Sk ?_
    exact bD s1 hm Conv.t0
 ·intro h22
  have hge1 : ¬ k1 < p0.tasks.length := by have := of_decide_eq_false h22; omega
  have hm := he1 hge1
  unfold Those_crewQTasksFa_crewQID_crewD1 at hm
  refine DW.exit ?_
  refine joinQ_exit ?_
  refine KQ_exit ?_
  refine blockQ_exit ?_
  show DW _ _ _ _ _
  obtain ⟨r27, hr27, hm⟩ := bo hm
  obtain ⟨g28, hm⟩ := go1 hm
  refine Sq (RN hnt (.no :: o93 [1200] true r27 :: []) [(7, ow 1200 r27.length)] [(0, bx [pI p1c0]), (1200, ob0 (roI r27))] [(7, ow 1200 s1.length)] [] (an (Sort_slices_intSpec s1 r27 hr27) (an (⟨rfl, g28⟩ : Body.same (roI s1) (roI r27)) tv)) (by kernel_rfl) (.cons rfl (MLe.of_eq (congrArg (MV.own 1200 0 0) g28)) .nil) .nil ?_)
  obtain ⟨r29, hr29, hm⟩ := bo hm
  obtain ⟨g30, g31, hm⟩ := go2 hm
  refine Sq (RD hnt (.no :: o113 [1200] true r29 :: .no :: []) [7] [(6, ow 1200 r29.1)] [] [(1200, ob0 (roI r29.2))] (an (Compact_slices_intSpec r27 r29 hr29) (an (⟨rfl, g30⟩ : Body.same (roI r27) (roI r29.2)) tv)) ?_)
  refine DW.conv (τ := mkSt [(6, .p (slI (r29.2.take r29.1)))] [(0, bx [pI p1c0])]) (Conv.trans (τ := mkSt [(6, .p (.sl .unk 1 r29.1 (elI r29.2)))] [(0, bx [pI p1c0])]) (Conv.frz [1200]) (Conv.tp [(6, .p (.sl .unk 1 r29.1 (elI r29.2)))] [] (by kernel_rfl) (.cons rfl (MLe.typed (RowIs.take RowIs.elems (by first | omega | (simp only [subN_eq, addN_eq] at *; omega)))) .nil) .nil)) ?_
  obtain rfl := sj hm
  exact DW.ret (retK [.box [pI p1c0]] [] (.p (slI (r29.2.take r29.1))))

theorem Tasks_crewSpec (p0 : Hierarchy) (p1 : Int) (RES : List Int) (hm : Tasks_crew p0 p1 = some RES) : Spec Tryz.prog 103 [.p (.agg (encHierarchy p0)), pI p1] [] (.p (slI RES)) [] [] := by
 unfold Tasks_crew at hm
 refine SO Tryz.func103 rfl rfl [(0, .p (.agg (encHierarchy p0))), (1, pI p1)] [] ?_
 intro cx hnt
 refine Sq (RK hnt (nn 3 []) [(2, rr 1016), (3, rr 1024)] [(1016, bx (pm (encHierarchy p0))), (1024, bx [pI p1])] tv ?_)
 obtain ⟨r1, hr1, hm⟩ := bo hm
 refine Sq (RK hnt (nn 2 (.call 112 [1024] true (.p (slI r1)) [.box [pI p1]] [] :: .no :: [])) [(4, .p (slI r1))] [] (an (Those_crewQTasksFa_crewQID_crewSpec p0 p1 r1 hr1) (an tv tv)) ?_)
 obtain rfl := sj hm
 exact DW.ret (retK [] [] (.p (slI r1)))
abbrev o89 (ks : List Nat) (b : Bool) (RES : List Int) : Orc := .call 103 ks b (.p (slI RES)) [] []

abbrev c84e1 : Nat × Body := (1032, .box [.p (.sl .nil 0 0 (fun _ => [])), pI 0, ow 100000 0, pI 0])
abbrev c84e2 : Nat × Obj := (1032, bx [.p (.sl .nil 0 0 (fun _ => [])), pI 0, ow 100000 0, pI 0])
abbrev c84e3 : Nat × Obj := (1032, bx [.p (slNode []), pI 0, ow 100000 0, pI 0])
theorem Remove_memberSpec (p0 : Hierarchy) (p1 : Int) (RES : Hierarchy × Int) (hm : Remove_member p0 p1 = some RES) : Spec Tryz.prog 71 [.p (.agg (encHierarchy p0)), pI p1] [] (.tup [.agg [.p (slNode RES.1.tree.nodes), pI RES.1.tree.next, ow 0 RES.1.tasks.length, pI RES.1.next], pI RES.2]) [] [roTask RES.1.tasks] := by
 unfold Remove_member at hm
 refine SO Tryz.func71 rfl rfl [(0, .p (.agg (encHierarchy p0))), (1, pI p1)] [] ?_
 intro cx hnt
 refine Sq (RK hnt (nn 3 []) [(1, pI p1), (2, rr 1016), (4, rr 1032)] [(1016, bx (pm (encHierarchy p0))), (1032, bx [.p (.sl .nil 0 0 (fun _ => [])), pI 0, .p (.sl .nil 0 0 (fun _ => [])), pI 0])] tv ?_)
 obtain ⟨r1, hr1, hm⟩ := bo hm
 refine Sq (Sq (RD hnt (.no :: o7 [] true r1 :: .no :: []) [] [(11, pB (!r1))] [] [] (an (Check_memberSpec p0 r1 hr1) tv) ?_))
 refine condM hm ?_ ?_
 ·intro h2 hm
  refine Sq (RD hnt (nn 3 []) [1, 2, 11] [(5, pI 1)] [1016] [] tv ?_)
  refine DW.conv (τ := mkSt [(4, rr 1032), (5, pI 1)] [(c84e3), (100000, ob0 (roTask []))]) (Conv.trans (τ := mkSt [(4, rr 1032), (5, pI 1)] [(c84e2), (100000, ob0 (roTask []))]) (Conv.ads [(.o 1032 2, 100000, 4, elems encTask dTask [])]) (Conv.tp [] [(c84e1)] (by kernel_rfl) .nil (.cons rfl (.box (.cons MLe.nilL (.cons .rfl (.cons .rfl (.cons .rfl .nil))))) .nil))) ?_
  obtain rfl := sj hm
  exact DW.ret (retK [roTask []] [100000] (.tup [.agg [.p (slNode []), pI 0, ow 0 0, pI 0], pI 1]))
 ·intro h2 hm
  refine Sk ?_
  obtain ⟨r3, hr3, hm⟩ := bo hm
  refine Sq (RD hnt (nn 3 (o85 [] true r3 :: nn 6 [])) [11] [(6, rr 1048), (7, pI r3.2)] [] [(1048, bx (pm (encTree r3.1)))] (an (Remove_treeSpec p0.tree p1 r3 hr3) tv) ?_)
  refine Sq (Sq (RD hnt (nn 2 []) [] [(21, pB (r3.2 != 0))] [] [] tv ?_))
  refine condM hm ?_ ?_
  ·intro h4 hm
   refine Sq (RD hnt (nn 4 []) [1, 2, 6, 7, 21] [(5, pI r3.2)] [1016, 1048] [] tv ?_)
   refine DW.conv (τ := mkSt [(4, rr 1032), (5, pI r3.2)] [(c84e3), (100000, ob0 (roTask []))]) (Conv.trans (τ := mkSt [(4, rr 1032), (5, pI r3.2)] [(c84e2), (100000, ob0 (roTask []))]) (Conv.ads [(.o 1032 2, 100000, 4, elems encTask dTask [])]) (Conv.tp [] [(c84e1)] (by kernel_rfl) .nil (.cons rfl (.box (.cons MLe.nilL (.cons .rfl (.cons .rfl (.cons .rfl .nil))))) .nil))) ?_
   obtain rfl := sj hm
   exact DW.ret (retK [roTask []] [100000] (.tup [.agg [.p (slNode []), pI 0, ow 0 0, pI 0], pI r3.2]))
  ·intro h4 hm
   refine Sk ?_
   obtain ⟨r5, hr5, hm⟩ := bo hm
   refine Sq (Sq (RD hnt (nn 2 (o89 [] true r5 :: nn 2 [])) [1, 7, 21] [(28, pB (decide (((r5.length : Nat) : Int) > 0)))] [] [] (an (Tasks_crewSpec p0 p1 r5 hr5) tv) ?_))
   refine condM hm ?_ ?_
   ·intro h6 hm
    refine Sq (RD hnt (nn 3 []) [2, 6, 28] [(5, pI 6)] [1016, 1048] [] tv ?_)
    refine DW.conv (τ := mkSt [(4, rr 1032), (5, pI 6)] [(c84e3), (100000, ob0 (roTask []))]) (Conv.trans (τ := mkSt [(4, rr 1032), (5, pI 6)] [(c84e2), (100000, ob0 (roTask []))]) (Conv.ads [(.o 1032 2, 100000, 4, elems encTask dTask [])]) (Conv.tp [] [(c84e1)] (by kernel_rfl) .nil (.cons rfl (.box (.cons MLe.nilL (.cons .rfl (.cons .rfl (.cons .rfl .nil))))) .nil))) ?_
    obtain rfl := sj hm
    exact DW.ret (retK [roTask []] [100000] (.tup [.agg [.p (slNode []), pI 0, ow 0 0, pI 0], pI 6]))
   ·intro h6 hm
    refine Sk ?_
    obtain ⟨r7, hr7, hm⟩ := bo hm
    refine Sq (RD hnt (.no :: o22 [] true r7 :: nn 2 []) [2, 28] [(8, rr 1064)] [1016] [(1064, bx [ow 1248 r7.tree.nodes.length, pI r7.tree.next, ow 1249 r7.tasks.length, pI r7.next]), (1248, ob0 (roNode r7.tree.nodes)), (1249, ob0 (roTask r7.tasks))] (an (Copy_crewSpec p0 r7 hr7) tv) ?_)
    refine Sq (RD hnt (nn 3 []) [6] [] [1048, 1248] [(1064, bx [.p (slNode r3.1.nodes), pI r3.1.next, ow 1249 r7.tasks.length, pI r7.next])] tv ?_)
    refine Sq (RD hnt (nn 3 []) [8] [(5, pI 0)] [1064] [(1032, bx [.p (slNode r3.1.nodes), pI r3.1.next, ow 1249 r7.tasks.length, pI r7.next])] tv ?_)
    obtain rfl := sj hm
    exact DW.ret (retK [roTask r7.tasks] [1249] (.tup [.agg [.p (slNode r3.1.nodes), pI r3.1.next, ow 0 r7.tasks.length, pI r7.next], pI 0]))
abbrev o84 (ks : List Nat) (b : Bool) (RES : Hierarchy × Int) : Orc := .call 71 ks b (.tup [.agg [.p (slNode RES.1.tree.nodes), pI RES.1.tree.next, ow 0 RES.1.tasks.length, pI RES.1.next], pI RES.2]) [] [roTask RES.1.tasks]

abbrev c114e1 : Nat × Obj := (1032, bx [ow 100000 0, pI 0, ow 100001 0, pI 0])
theorem Remove_ref6Spec (p0 : Hierarchy) (p1 : Int) (RES : Hierarchy × Int) (hm : Remove_ref6 p0 p1 = some RES) : Spec Tryz.prog 72 [.p (.agg (encHierarchy p0)), pI p1] [] (.tup [.agg [ow 0 RES.1.tree.nodes.length, pI RES.1.tree.next, ow 1 RES.1.tasks.length, pI RES.1.next], pI RES.2]) [] [roNode RES.1.tree.nodes, roTask RES.1.tasks] := by
 unfold Remove_ref6 at hm
 refine SO Tryz.func72 rfl rfl [(0, .p (.agg (encHierarchy p0))), (1, pI p1)] [] ?_
 intro cx hnt
 refine Sq (RK hnt (nn 3 []) [(1, pI p1), (2, rr 1016), (4, rr 1032)] [(1016, bx (pm (encHierarchy p0))), (1032, bx [.p (.sl .nil 0 0 (fun _ => [])), pI 0, .p (.sl .nil 0 0 (fun _ => [])), pI 0])] tv ?_)
 obtain ⟨r1, hr1, hm⟩ := bo hm
 refine Sq (Sq (RD hnt (.no :: o56 [] true r1 :: .no :: []) [] [(11, pB (!r1))] [] [] (an (Check_ref6Spec p0 r1 hr1) tv) ?_))
 refine condM hm ?_ ?_
 ·intro h2 hm
  refine Sq (RD hnt (nn 3 []) [1, 2, 11] [(5, pI 1)] [1016] [] tv ?_)
  refine DW.cv [] [] [] [(c114e1), (100000, ob0 (roNode [])), (100001, ob0 (roTask []))] (Conv.ads [(.o 1032 0, 100000, 6, elems encNode dNode []), (.o 1032 2, 100001, 4, elems encTask dTask [])]) ?_
  obtain rfl := sj hm
  exact DW.ret (retK [roNode [], roTask []] [100000, 100001] (.tup [.agg [ow 0 0, pI 0, ow 1 0, pI 0], pI 1]))
 ·intro h2 hm
  refine Sk ?_
  obtain ⟨r3, hr3, hm⟩ := bo hm
  refine Sq (RD hnt (nn 3 (o48 [] true r3 :: nn 6 [])) [11] [(6, rr 1048), (7, pI r3.2)] [] [(1048, bx [ow 1136 r3.1.nodes.length, pI r3.1.next]), (1136, ob0 (roNode r3.1.nodes))] (an (Remove_ref5Spec p0.tree p1 r3 hr3) tv) ?_)
  refine Sq (Sq (RD hnt (nn 2 []) [] [(21, pB (r3.2 != 0))] [] [] tv ?_))
  refine condM hm ?_ ?_
  ·intro h4 hm
   refine Sq (RD hnt (nn 4 []) [1, 2, 6, 7, 21] [(5, pI r3.2)] [1016, 1048, 1136] [] tv ?_)
   refine DW.cv [] [] [] [(c114e1), (100000, ob0 (roNode [])), (100001, ob0 (roTask []))] (Conv.ads [(.o 1032 0, 100000, 6, elems encNode dNode []), (.o 1032 2, 100001, 4, elems encTask dTask [])]) ?_
   obtain rfl := sj hm
   exact DW.ret (retK [roNode [], roTask []] [100000, 100001] (.tup [.agg [ow 0 0, pI 0, ow 1 0, pI 0], pI r3.2]))
  ·intro h4 hm
   refine Sk ?_
   obtain ⟨r5, hr5, hm⟩ := bo hm
   refine Sq (Sq (RD hnt (nn 2 (o60 [] true r5 :: nn 2 [])) [1, 7, 21] [(28, pB (decide (((r5.length : Nat) : Int) > 0)))] [] [] (an (Tasks_ref6Spec p0 p1 r5 hr5) tv) ?_))
   refine condM hm ?_ ?_
   ·intro h6 hm
    refine Sq (RD hnt (nn 3 []) [2, 6, 28] [(5, pI 6)] [1016, 1048, 1136] [] tv ?_)
    refine DW.cv [] [] [] [(c114e1), (100000, ob0 (roNode [])), (100001, ob0 (roTask []))] (Conv.ads [(.o 1032 0, 100000, 6, elems encNode dNode []), (.o 1032 2, 100001, 4, elems encTask dTask [])]) ?_
    obtain rfl := sj hm
    exact DW.ret (retK [roNode [], roTask []] [100000, 100001] (.tup [.agg [ow 0 0, pI 0, ow 1 0, pI 0], pI 6]))
   ·intro h6 hm
    refine Sk ?_
    obtain ⟨r7, hr7, hm⟩ := bo hm
    refine Sq (RD hnt (.no :: o66 [] true r7 :: nn 2 []) [2, 28] [(8, rr 1064)] [1016] [(1064, bx [ow 1248 r7.tree.nodes.length, pI r7.tree.next, ow 1249 r7.tasks.length, pI r7.next]), (1248, ob0 (roNode r7.tree.nodes)), (1249, ob0 (roTask r7.tasks))] (an (Copy_ref6Spec p0 r7 hr7) tv) ?_)
    refine Sq (RD hnt (nn 3 []) [6] [] [1048, 1248] [(1064, bx [ow 1136 r3.1.nodes.length, pI r3.1.next, ow 1249 r7.tasks.length, pI r7.next])] tv ?_)
    refine Sq (RD hnt (nn 3 []) [8] [(5, pI 0)] [1064] [(1032, bx [ow 1136 r3.1.nodes.length, pI r3.1.next, ow 1249 r7.tasks.length, pI r7.next])] tv ?_)
    obtain rfl := sj hm
    exact DW.ret (retK [roNode r3.1.nodes, roTask r7.tasks] [1136, 1249] (.tup [.agg [ow 0 r3.1.nodes.length, pI r3.1.next, ow 1 r7.tasks.length, pI r7.next], pI 0]))
abbrev o114 (ks : List Nat) (b : Bool) (RES : Hierarchy × Int) : Orc := .call 72 ks b (.tup [.agg [ow 0 RES.1.tree.nodes.length, pI RES.1.tree.next, ow 1 RES.1.tasks.length, pI RES.1.next], pI RES.2]) [] [roNode RES.1.tree.nodes, roTask RES.1.tasks]

abbrev c1e1 (r5 : Hierarchy × Dice) (r7 : Hierarchy × Dice) (k1 : Nat) : Nat × Obj := (1064, bx (pm (encHierarchy ([r5.1, r7.1].getD k1 (default : Hierarchy)))))
abbrev c1e2 (r5 : Hierarchy × Dice) (r7 : Hierarchy × Dice) : Nat × Obj := (1296, ob0 (roHierarchy [r5.1, r7.1]))
abbrev c1e3 (r5 : Hierarchy × Dice) (r7 : Hierarchy × Dice) : Nat × MV := (37, ow 1296 [r5.1, r7.1].length)
abbrev c1e4 (k1 : Nat) : Nat × MV := (39, pI ((k1 : Nat) : Int))
abbrev c1e5 (r183 : Int × Dice) : Nat × Obj := (1240, bx (pm (encDice r183.2)))
abbrev c1e6 (r260 : Hierarchy × Int) : Nat × Obj := (1176, bx [ow 2016 r260.1.tree.nodes.length, pI r260.1.tree.next, ow 2017 r260.1.tasks.length, pI r260.1.next])
abbrev c1e7 (r264 : Hierarchy × Int) : Nat × Obj := (1152, bx [ow 2144 r264.1.tree.nodes.length, pI r264.1.tree.next, ow 2145 r264.1.tasks.length, pI r264.1.next])
abbrev c1e8 (r265 : Hierarchy × Int) : Nat × Obj := (1176, bx [ow 2200 r265.1.tree.nodes.length, pI r265.1.tree.next, ow 2201 r265.1.tasks.length, pI r265.1.next])
abbrev c1e9 (r259 : Hierarchy × Int) : Nat × Obj := (1152, bx [ow 1968 r259.1.tree.nodes.length, pI r259.1.tree.next, .p (slTask r259.1.tasks), pI r259.1.next])
abbrev c1e10 (r253 : Hierarchy × Int × Int) : Nat × Obj := (1152, bx [ow 1744 r253.1.tree.nodes.length, pI r253.1.tree.next, ow 1745 r253.1.tasks.length, pI r253.1.next])
abbrev c1e11 (r254 : Hierarchy × Int × Int) : Nat × Obj := (1176, bx [ow 1800 r254.1.tree.nodes.length, pI r254.1.tree.next, ow 1801 r254.1.tasks.length, pI r254.1.next])
theorem MemberChanges_law6Spec (p0 : List Int) (p1 : Int) (RES : Bool) (hm : MemberChanges_law6 p0 p1 = some RES) : Spec Tryz.prog 10 [.p (slI p0), pI p1] [] (pB RES) [] [] := by
 unfold MemberChanges_law6 at hm
 refine SO Tryz.func10 rfl rfl [(0, .p (slI p0)), (1, pI p1)] [] ?_
 intro cx hnt
 refine Sq (RD hnt (.no :: []) [] [] [] [] tv ?_)
 obtain ⟨r1, hr1, hm⟩ := bo hm
 refine Sq (Sq (RD hnt (.no :: o2 [] true r1 :: .no :: []) [] [(27, pB (!r1))] [] [] (an (Light_madeSpec p0 r1 hr1) tv) ?_))
 refine condM hm ?_ ?_
 ·intro h2 hm
  obtain ⟨r3, hr3, hm⟩ := bo hm
  refine Sq (RK hnt (o3 [] true r3 :: .no :: []) [(4, pB r3)] [] (an (sane_law6Spec r3 hr3) tv) ?_)
  obtain rfl := sj hm
  exact DW.ret (retK [] [] (pB r3))
 ·intro h2 hm
  refine Sk ?_
  obtain ⟨r4, hr4, hm⟩ := bo hm
  refine Sq (RK hnt (.no :: o30 [] true r4 :: .no :: []) [(1, pI p1), (5, rr 1240)] [(1240, bx (pm (encDice r4)))] (an (Roll_madeSpec p0 r4 hr4) tv) ?_)
  obtain ⟨r5, hr5, hm⟩ := bo hm
  refine Sq (RD hnt (.no :: o31 [1240] true r5 :: nn 2 []) [] [(6, rr 1048)] [] [(1048, bx (pm (encHierarchy r5.1))), (1240, bx (pm (encDice r5.2)))] (an (Hierarchy_Dice_madeSpec r4 6 8 r5 hr5) (an tv tv)) ?_)
  obtain ⟨r7, hr7, hm⟩ := bo hm
  refine Sq (Sq (RN hnt (nn 3 (o80 [1240] true r7 :: nn 3 [])) [(1, pI p1), (5, rr 1240), (c1e3 r5 r7), (38, pI 2), (39, pI 0)] [(1240, bx (pm (encDice r7.2))), (c1e2 r5 r7)] [(37, ow 1296 2)] [(1296, .row 4 2 (cut 4 [slNode r5.1.tree.nodes, vi r5.1.tree.next, slTask r5.1.tasks, vi r5.1.next, slNode r7.1.tree.nodes, vi r7.1.tree.next, slTask r7.1.tasks, vi r7.1.next]))] (an (OddHierarchy_Dice_madeZSpec r5.2 r5.1 r7 hr7) (an tv tv)) (by kernel_rfl) (.cons rfl (MLe.ownLen (enc := encHierarchy) (d := dHierarchy) (f := (cut 4 [slNode r5.1.tree.nodes, vi r5.1.tree.next, slTask r5.1.tasks, vi r5.1.next, slNode r7.1.tree.nodes, vi r7.1.tree.next, slTask r7.1.tasks, vi r7.1.next])) (RowIs.lit (enc := encHierarchy) (d := dHierarchy) (n := 2) (f := (cut 4 [slNode r5.1.tree.nodes, vi r5.1.tree.next, slTask r5.1.tasks, vi r5.1.next, slNode r7.1.tree.nodes, vi r7.1.tree.next, slTask r7.1.tasks, vi r7.1.next])) [r5.1, r7.1] rfl (fun | 0, _ => rfl | 1, _ => rfl | n + 2, h => absurd h (by omega)))) .nil) (.cons rfl (BLe.typed (RowIs.lit (enc := encHierarchy) (d := dHierarchy) (n := 2) (f := (cut 4 [slNode r5.1.tree.nodes, vi r5.1.tree.next, slTask r5.1.tasks, vi r5.1.next, slNode r7.1.tree.nodes, vi r7.1.tree.next, slTask r7.1.tasks, vi r7.1.next])) [r5.1, r7.1] rfl (fun | 0, _ => rfl | 1, _ => rfl | n + 2, h => absurd h (by omega)))) .nil) ?_))
  refine Bk ?_
  obtain ⟨hc1, hm⟩ := go1 hm
  refine DW.rangeO (fun (k1 : Nat) (s1 : Dice) => mkSt [(1, pI p1), (5, rr 1240), (c1e3 r5 r7), (38, pI 2), (c1e4 k1)] [(1240, bx (pm (encDice s1))), (c1e2 r5 r7)]) dHierarchy hm .refl ?_
  intro k1 s1 n1 hk1 hs1 he1
  refine Sq (RD hnt (.no :: []) [] [(40, pB (decide (((k1 : Nat) : Int) < 2)))] [] [] tv ?_)
  refine Sq (condK (decide (((k1 : Nat) : Int) < 2)) ?_ ?_)
  ·intro h180
   have hlt1 : k1 < [r5.1, r7.1].length := by have := of_decide_eq_true h180; have hL : [r5.1, r7.1].length = 2 := rfl; omega
   have hm := hs1 hlt1
   unfold MemberChanges_law6L1 at hm
   refine Sk ?_
   refine Sq (Bk ?_)
   refine Sq (RD hnt (nn 4 []) [40] [(8, rr 1064)] [] [(c1e1 r5 r7 k1)] (an (nn0 k1) (an (ltc hlt1) (an (by omega : k1 < [r5.1, r7.1].length) tv))) ?_)
   obtain ⟨r181, hr181, hm⟩ := bo hm
   obtain ⟨r182, hr182, hm⟩ := bo hm
   refine Sq (RD hnt (nn 3 (o51 [1240] true r181 :: nn 2 (o72 [1240] true r182 :: nn 2 []))) [] [(9, pI r181.1), (10, pI r182.1)] [] [(1240, bx (pm (encDice r182.2)))] (an (Group_Dice_madeSpec s1 ([r5.1, r7.1].getD k1 (default : Hierarchy)).tree r181 hr181) (an tv (an (Task_Dice_madeSpec r181.2 ([r5.1, r7.1].getD k1 (default : Hierarchy)) r182 hr182) (an tv tv)))) ?_)
   obtain ⟨r183, hr183, hm⟩ := bo hm
   refine Sq (Sq (RN hnt (nn 2 (o79 [1240] true r183 :: nn 3 [])) [(1, pI p1), (5, rr 1240), (8, rr 1064), (9, pI r181.1), (10, pI r182.1), (c1e3 r5 r7), (38, pI 2), (c1e4 k1), (53, ow 1424 [p1, r183.1].length), (54, pI 2), (55, pI 0)] [(c1e1 r5 r7 k1), (c1e5 r183), (c1e2 r5 r7), (1424, ob0 (roI [p1, r183.1]))] [(53, ow 1424 2)] [(1424, .row 1 2 (cut 1 [vi p1, vi r183.1]))] (an (User_Dice_madeSpec r182.2 r183 hr183) (an tv tv)) (by kernel_rfl) (.cons rfl (MLe.ownLen (enc := encI) (d := 0) (f := (cut 1 [vi p1, vi r183.1])) (RowIs.lit (enc := encI) (d := 0) (n := 2) (f := (cut 1 [vi p1, vi r183.1])) [p1, r183.1] rfl (fun | 0, _ => rfl | 1, _ => rfl | n + 2, h => absurd h (by omega)))) .nil) (.cons rfl (BLe.typed (RowIs.lit (enc := encI) (d := 0) (n := 2) (f := (cut 1 [vi p1, vi r183.1])) [p1, r183.1] rfl (fun | 0, _ => rfl | 1, _ => rfl | n + 2, h => absurd h (by omega)))) .nil) ?_))
   refine Bk ?_
   refine DW.forO (fun (k4 : Int) (s4 : Unit) => mkSt [(1, pI p1), (5, rr 1240), (8, rr 1064), (9, pI r181.1), (10, pI r182.1), (c1e3 r5 r7), (38, pI 2), (c1e4 k1), (53, ow 1424 [p1, r183.1].length), (54, pI 2), (55, pI k4)] [(c1e1 r5 r7 k1), (c1e5 r183), (c1e2 r5 r7), (1424, ob0 (roI [p1, r183.1]))]) (lo := 0) (hi := 2) hm .refl ?_
   intro k4 s4 n4 hk4 hs4 he4
   refine Sq (RD hnt (.no :: []) [] [(56, pB (decide (k4 < 2)))] [] [] tv ?_)
   refine Sq (condK (decide (k4 < 2)) ?_ ?_)
   ·intro h244
    have hlt4 : k4 < 2 := by have := of_decide_eq_true h244; omega
    have hm := hs4 hlt4
    unfold MemberChanges_law6L4 at hm
    refine Sk ?_
    refine Sq (Bk ?_)
    obtain ⟨g245, g246, hm⟩ := go2 hm
    refine Sq (RD hnt (nn 3 []) [56] [(12, pI ([p1, r183.1].getD (Int.toNat k4) 0))] [] [] (an g245.1 (an g245.2 (an g246 tv))) ?_)
    obtain ⟨r247, hr247, hm⟩ := bo hm
    refine Sq (RD hnt (nn 3 (o6 [] true r247 :: nn 8 [])) [] [(13, rr 1104), (14, pI r247.2.1), (15, pI r247.2.2)] [] [(1104, bx [ow 1504 r247.1.tree.nodes.length, pI r247.1.tree.next, ow 1505 r247.1.tasks.length, pI r247.1.next]), (1504, ob0 (roNode r247.1.tree.nodes)), (1505, ob0 (roTask r247.1.tasks))] (an (Spawn_memberSpec ([r5.1, r7.1].getD k1 (default : Hierarchy)) r181.1 ([p1, r183.1].getD (Int.toNat k4) 0) r247 hr247) tv) ?_)
    obtain ⟨r248, hr248, hm⟩ := bo hm
    refine Sq (RD hnt (nn 3 (o70 [] true r248 :: nn 8 [])) [12] [(16, rr 1128), (17, pI r248.2.1), (18, pI r248.2.2)] [] [(1128, bx [ow 1568 r248.1.tree.nodes.length, pI r248.1.tree.next, ow 1569 r248.1.tasks.length, pI r248.1.next]), (1568, ob0 (roNode r248.1.tree.nodes)), (1569, ob0 (roTask r248.1.tasks))] (an (Spawn_ref6Spec ([r5.1, r7.1].getD k1 (default : Hierarchy)) r181.1 ([p1, r183.1].getD (Int.toNat k4) 0) r248 hr248) tv) ?_)
    refine Sq ?_
    refine Jn (ι := Bool) (fun (y37 : Bool) => mkSt [(1, pI p1), (5, rr 1240), (8, rr 1064), (9, pI r181.1), (10, pI r182.1), (c1e3 r5 r7), (38, pI 2), (c1e4 k1), (53, ow 1424 [p1, r183.1].length), (54, pI 2), (55, pI k4), (88, pB y37)] [(c1e1 r5 r7 k1), (c1e5 r183), (c1e2 r5 r7), (1424, ob0 (roI [p1, r183.1]))]) (fun y37 => (MemberChanges_law6J37 n4) y37 = some RES) ?_ ?_
    ·intro y37 hm
     unfold MemberChanges_law6J37 at hm
     refine condM hm ?_ ?_
     ·intro h252 hm
      refine Sq (RK hnt (.no :: []) [(4, pB false)] [] tv ?_)
      obtain rfl := sj hm
      exact DW.ret (retK [] [] (pB false))
     ·intro h252 hm
      refine Sk ?_
      refine DW.done ?_
      show DW _ _ _ _ _
      refine RD hnt (nn 2 []) [88] [(55, pI (w64 (k4 + 1)))] [] [] tv ?_
      exact jD () ⟨hlt4, hm⟩ (Conv.tp [(55, pI (w64 (k4 + 1)))] [] (by kernel_rfl) (.cons rfl (.of_eq (congrArg pI (w64_for (lo := 0) (hi := 2) (by omega) hk4 hlt4 (by omega)))) .nil) .nil)
    ·rcases bt (r247.2.1 != r248.2.1) with h249 | h249
     ·replace hm := if_t h249 hm
      refine RD hnt (nn 4 (sk 3 (pT :: .no :: sk 4 (pT :: [])))) [13, 14, 15, 16, 17, 18] [(88, pB true)] [1104, 1128, 1504, 1505, 1568, 1569] [] (an4 h249 (an5 tt tv)) ?_
      exact jD true hm Conv.eqK
     ·replace hm := if_f h249 hm
      rcases bt (r247.2.2 != r248.2.2) with h250 | h250
      ·replace hm := if_t h250 hm
       refine RD hnt (nn 7 (pF :: .no :: sk 4 (pT :: []))) [13, 14, 15, 16, 17, 18] [(88, pB true)] [1104, 1128, 1504, 1505, 1568, 1569] [] (an4 h249 (an5 h250 tv)) ?_
       exact jD true hm Conv.eqK
      ·replace hm := if_f h250 hm
       obtain ⟨r251, hr251, hm⟩ := bo hm
       refine RD hnt (nn 7 (pF :: nn 3 (o81 [] true r251 :: .no :: pF :: []))) [13, 14, 15, 16, 17, 18] [(88, pB (!r251))] [1104, 1128, 1504, 1505, 1568, 1569] [] (an4 h249 (an3 h250 (an (Same_ref6Spec r247.1 r248.1 r251 hr251) (an2 h250 tv)))) ?_
       exact jD (!r251) hm Conv.eqK
   ·intro h244
    have hge4 : ¬ k4 < 2 := by have := of_decide_eq_false h244; omega
    have hm := he4 hge4
    unfold MemberChanges_law6D4 at hm
    refine DW.exit ?_
    refine joinQ_exit ?_
    refine KQ_exit ?_
    refine blockQ_exit ?_
    show DW _ _ _ _ _
    obtain ⟨r253, hr253, hm⟩ := bo hm
    refine Sq (RD hnt (nn 2 (o25 [] true r253 :: nn 8 [])) [53, 54, 55, 56] [(19, rr 1152), (20, pI r253.2.1), (21, pI r253.2.2)] [1424] [(c1e10 r253), (1744, ob0 (roNode r253.1.tree.nodes)), (1745, ob0 (roTask r253.1.tasks))] (an (Clone_memberSpec ([r5.1, r7.1].getD k1 (default : Hierarchy)) r182.1 r253 hr253) tv) ?_)
    obtain ⟨r254, hr254, hm⟩ := bo hm
    refine Sq (RD hnt (nn 2 (o73 [] true r254 :: nn 8 [])) [] [(22, rr 1176), (23, pI r254.2.1), (24, pI r254.2.2)] [] [(c1e11 r254), (1800, ob0 (roNode r254.1.tree.nodes)), (1801, ob0 (roTask r254.1.tasks))] (an (Clone_ref6Spec ([r5.1, r7.1].getD k1 (default : Hierarchy)) r182.1 r254 hr254) tv) ?_)
    refine Sq (Sq ?_)
    refine Jn (ι := Bool) (fun (y38 : Bool) => mkSt [(1, pI p1), (5, rr 1240), (8, rr 1064), (9, pI r181.1), (10, pI r182.1), (19, rr 1152), (22, rr 1176), (c1e3 r5 r7), (38, pI 2), (c1e4 k1), (117, pB y38)] [(c1e1 r5 r7 k1), (c1e10 r253), (c1e11 r254), (c1e5 r183), (c1e2 r5 r7), (1744, ob0 (roNode r253.1.tree.nodes)), (1745, ob0 (roTask r253.1.tasks)), (1800, ob0 (roNode r254.1.tree.nodes)), (1801, ob0 (roTask r254.1.tasks))]) (fun y38 => (MemberChanges_law6J38 ([r5.1, r7.1].getD k1 (default : Hierarchy)) n1 r181 r182 r183) y38 = some RES) ?_ ?_
    ·intro y38 hm
     unfold MemberChanges_law6J38 at hm
     refine condM hm ?_ ?_
     ·intro h258 hm
      refine Sq (RK hnt (.no :: []) [(4, pB false)] [] tv ?_)
      obtain rfl := sj hm
      exact DW.ret (retK [] [] (pB false))
     ·intro h258 hm
      refine Sk ?_
      obtain ⟨r259, hr259, hm⟩ := bo hm
      refine Sq (RD hnt (nn 2 (o26 [] true r259 :: nn 5 [])) [117] [(21, pI r259.2)] [1744, 1745] [(c1e9 r259), (1968, ob0 (roNode r259.1.tree.nodes))] (an (Exit_memberSpec ([r5.1, r7.1].getD k1 (default : Hierarchy)) r182.1 r259 hr259) tv) ?_)
      obtain ⟨r260, hr260, hm⟩ := bo hm
      refine Sq (RD hnt (nn 2 (o76 [] true r260 :: nn 5 [])) [] [(24, pI r260.2)] [1800, 1801] [(c1e6 r260), (2016, ob0 (roNode r260.1.tree.nodes)), (2017, ob0 (roTask r260.1.tasks))] (an (Exit_ref6Spec ([r5.1, r7.1].getD k1 (default : Hierarchy)) r182.1 r260 hr260) tv) ?_)
      refine Sq (Sq ?_)
      refine Jn (ι := Bool) (fun (y39 : Bool) => mkSt [(1, pI p1), (5, rr 1240), (8, rr 1064), (9, pI r181.1), (10, pI r182.1), (19, rr 1152), (22, rr 1176), (c1e3 r5 r7), (38, pI 2), (c1e4 k1), (138, pB y39)] [(c1e1 r5 r7 k1), (c1e9 r259), (c1e6 r260), (c1e5 r183), (c1e2 r5 r7), (1968, ob0 (roNode r259.1.tree.nodes)), (2016, ob0 (roNode r260.1.tree.nodes)), (2017, ob0 (roTask r260.1.tasks))]) (fun y39 => (MemberChanges_law6J39 ([r5.1, r7.1].getD k1 (default : Hierarchy)) n1 r181 r182 r183) y39 = some RES) ?_ ?_
      ·intro y39 hm
       unfold MemberChanges_law6J39 at hm
       refine condM hm ?_ ?_
       ·intro h263 hm
        refine Sq (RK hnt (.no :: []) [(4, pB false)] [] tv ?_)
        obtain rfl := sj hm
        exact DW.ret (retK [] [] (pB false))
       ·intro h263 hm
        refine Sk ?_
        obtain ⟨r264, hr264, hm⟩ := bo hm
        refine Sq (RD hnt (nn 3 (o83 [] true r264 :: nn 5 [])) [138] [(21, pI r264.2)] [1968] [(c1e7 r264), (2144, ob0 (roNode r264.1.tree.nodes)), (2145, ob0 (roTask r264.1.tasks))] (an (Place_memberSpec ([r5.1, r7.1].getD k1 (default : Hierarchy)) r182.1 r181.1 r264 hr264) tv) ?_)
        obtain ⟨r265, hr265, hm⟩ := bo hm
        refine Sq (RD hnt (nn 3 (o75 [] true r265 :: nn 5 [])) [10] [(24, pI r265.2)] [2016, 2017] [(c1e8 r265), (2200, ob0 (roNode r265.1.tree.nodes)), (2201, ob0 (roTask r265.1.tasks))] (an (Place_ref6Spec ([r5.1, r7.1].getD k1 (default : Hierarchy)) r182.1 r181.1 r265 hr265) tv) ?_)
        refine Sq (Sq ?_)
        refine Jn (ι := Bool) (fun (y40 : Bool) => mkSt [(1, pI p1), (5, rr 1240), (8, rr 1064), (9, pI r181.1), (19, rr 1152), (22, rr 1176), (c1e3 r5 r7), (38, pI 2), (c1e4 k1), (161, pB y40)] [(c1e1 r5 r7 k1), (c1e7 r264), (c1e8 r265), (c1e5 r183), (c1e2 r5 r7), (2144, ob0 (roNode r264.1.tree.nodes)), (2145, ob0 (roTask r264.1.tasks)), (2200, ob0 (roNode r265.1.tree.nodes)), (2201, ob0 (roTask r265.1.tasks))]) (fun y40 => (MemberChanges_law6J40 ([r5.1, r7.1].getD k1 (default : Hierarchy)) n1 r181 r183) y40 = some RES) ?_ ?_
        ·intro y40 hm
         unfold MemberChanges_law6J40 at hm
         refine condM hm ?_ ?_
         ·intro h268 hm
          refine Sq (RK hnt (.no :: []) [(4, pB false)] [] tv ?_)
          obtain rfl := sj hm
          exact DW.ret (retK [] [] (pB false))
         ·intro h268 hm
          refine Sk ?_
          obtain ⟨r269, hr269, hm⟩ := bo hm
          refine Sq (RD hnt (nn 2 (o84 [] true r269 :: nn 5 [])) [161] [(21, pI r269.2)] [2144, 2145] [(1152, bx [.p (slNode r269.1.tree.nodes), pI r269.1.tree.next, ow 2320 r269.1.tasks.length, pI r269.1.next]), (2320, ob0 (roTask r269.1.tasks))] (an (Remove_memberSpec ([r5.1, r7.1].getD k1 (default : Hierarchy)) r181.1 r269 hr269) tv) ?_)
          obtain ⟨r270, hr270, hm⟩ := bo hm
          refine Sq (RD hnt (nn 2 (o114 [] true r270 :: nn 5 [])) [8, 9] [(24, pI r270.2)] [1064, 2200, 2201] [(1176, bx [ow 2368 r270.1.tree.nodes.length, pI r270.1.tree.next, ow 2369 r270.1.tasks.length, pI r270.1.next]), (2368, ob0 (roNode r270.1.tree.nodes)), (2369, ob0 (roTask r270.1.tasks))] (an (Remove_ref6Spec ([r5.1, r7.1].getD k1 (default : Hierarchy)) r181.1 r270 hr270) tv) ?_)
          refine Sq ?_
          refine Jn (ι := Bool) (fun (y41 : Bool) => mkSt [(1, pI p1), (5, rr 1240), (c1e3 r5 r7), (38, pI 2), (c1e4 k1), (182, pB y41)] [(c1e5 r183), (c1e2 r5 r7)]) (fun y41 => (MemberChanges_law6J41 n1 r183) y41 = some RES) ?_ ?_
          ·intro y41 hm
           unfold MemberChanges_law6J41 at hm
           refine condM hm ?_ ?_
           ·intro h273 hm
            refine Sq (RK hnt (.no :: []) [(4, pB false)] [] tv ?_)
            obtain rfl := sj hm
            exact DW.ret (retK [] [] (pB false))
           ·intro h273 hm
            refine Sk ?_
            refine DW.done ?_
            show DW _ _ _ _ _
            refine RD hnt (nn 2 []) [182] [(39, pI (w64 (((k1 : Nat) : Int) + 1)))] [] [] tv ?_
            exact jD r183.2 ⟨hlt1, hm⟩ (Conv.tp [(39, pI (w64 (((k1 : Nat) : Int) + 1)))] [] (by kernel_rfl) (.cons rfl (.of_eq (congrArg pI (w64_succ hlt1 hc1))) .nil) .nil)
          ·rcases bt (r269.2 != r270.2) with h271 | h271
           ·replace hm := if_t h271 hm
            refine RD hnt (nn 4 (sk 4 (pT :: []))) [19, 21, 22, 24] [(182, pB true)] [1152, 1176, 2320, 2368, 2369] [] (an5 h271 tv) ?_
            exact jD true hm Conv.eqK
           ·replace hm := if_f h271 hm
            obtain ⟨r272, hr272, hm⟩ := bo hm
            refine RD hnt (nn 6 (o81 [] true r272 :: .no :: pF :: [])) [19, 21, 22, 24] [(182, pB (!r272))] [1152, 1176, 2320, 2368, 2369] [] (an3 h271 (an (Same_ref6Spec r269.1 r270.1 r272 hr272) (an2 h271 tv))) ?_
            exact jD (!r272) hm Conv.eqK
        ·rcases bt (r264.2 != r265.2) with h266 | h266
         ·replace hm := if_t h266 hm
          refine RD hnt (nn 4 (sk 4 (pT :: []))) [21, 24] [(161, pB true)] [] [] (an5 h266 tv) ?_
          exact jD true hm Conv.eqK
         ·replace hm := if_f h266 hm
          obtain ⟨r267, hr267, hm⟩ := bo hm
          refine RD hnt (nn 6 (o81 [] true r267 :: .no :: pF :: [])) [21, 24] [(161, pB (!r267))] [] [] (an3 h266 (an (Same_ref6Spec r264.1 r265.1 r267 hr267) (an2 h266 tv))) ?_
          exact jD (!r267) hm Conv.eqK
      ·rcases bt (r259.2 != r260.2) with h261 | h261
       ·replace hm := if_t h261 hm
        refine RD hnt (nn 4 (sk 4 (pT :: []))) [21, 24] [(138, pB true)] [] [] (an5 h261 tv) ?_
        exact jD true hm Conv.eqK
       ·replace hm := if_f h261 hm
        obtain ⟨r262, hr262, hm⟩ := bo hm
        refine RD hnt (nn 6 (o81 [] true r262 :: .no :: pF :: [])) [21, 24] [(138, pB (!r262))] [] [] (an3 h261 (an (Same_ref6Spec r259.1 r260.1 r262 hr262) (an2 h261 tv))) ?_
        exact jD (!r262) hm Conv.eqK
    ·rcases bt (r253.2.1 != r254.2.1) with h255 | h255
     ·replace hm := if_t h255 hm
      refine RD hnt (nn 4 (sk 3 (pT :: .no :: sk 4 (pT :: [])))) [20, 21, 23, 24] [(117, pB true)] [] [] (an4 h255 (an5 tt tv)) ?_
      exact jD true hm Conv.eqK
     ·replace hm := if_f h255 hm
      rcases bt (r253.2.2 != r254.2.2) with h256 | h256
      ·replace hm := if_t h256 hm
       refine RD hnt (nn 7 (pF :: .no :: sk 4 (pT :: []))) [20, 21, 23, 24] [(117, pB true)] [] [] (an4 h255 (an5 h256 tv)) ?_
       exact jD true hm Conv.eqK
      ·replace hm := if_f h256 hm
       obtain ⟨r257, hr257, hm⟩ := bo hm
       refine RD hnt (nn 7 (pF :: nn 3 (o81 [] true r257 :: .no :: pF :: []))) [20, 21, 23, 24] [(117, pB (!r257))] [] [] (an4 h255 (an3 h256 (an (Same_ref6Spec r253.1 r254.1 r257 hr257) (an2 h256 tv)))) ?_
       exact jD (!r257) hm Conv.eqK
  ·intro h180
   have hge1 : ¬ k1 < [r5.1, r7.1].length := by have := of_decide_eq_false h180; have hL : [r5.1, r7.1].length = 2 := rfl; omega
   have hm := he1 hge1
   unfold MemberChanges_law6D1 at hm
   refine DW.exit ?_
   refine joinQ_exit ?_
   refine KQ_exit ?_
   refine blockQ_exit ?_
   show DW _ _ _ _ _
   obtain ⟨r274, hr274, hm⟩ := bo hm
   refine Sq (RK hnt (o3 [] true r274 :: .no :: []) [(4, pB r274)] [] (an (sane_law6Spec r274 hr274) tv) ?_)
   obtain rfl := sj hm
   exact DW.ret (retK [] [] (pB r274))
abbrev o1 (ks : List Nat) (b : Bool) (RES : Bool) : Orc := .call 10 ks b (pB RES) [] []
end Go.Dm

