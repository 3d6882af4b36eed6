/- Texts of the proof of MemberMoves: the data machine, the models of the Go functions, their contracts. -/
import Derived.Test.YtdckdjkjjmadeaaMemberMovesA3
set_option linter.unusedVariables false
set_option linter.unusedSimpArgs false
/- Go functions compute their models, printed by a program. -/
namespace Go.Dm
open Go.Proofs
set_option linter.unusedVariables false
theorem Group_Dice_madeSpec (p0 : Dice) (p1 : Tree) (RES : Int × Dice) (hm : Group_Dice_made p0 p1 = some RES) : Spec Try.prog 34 [rr 0, .p (.agg (encTree p1))] [.box (pm (encDice p0))] (pI RES.1) [.box (pm (encDice RES.2))] [] := by
 unfold Group_Dice_made at hm
 refine spec_of Tgood (T := Tt) Try.func34 (by decide) (c := _) rfl rfl (sl := [(0, rr 0), (1, .p (.agg (encTree p1)))]) (ob := [(0, bx (pm (encDice p0)))]) (Nat.le_of_ble_eq_true rfl) (Nat.le_of_ble_eq_true rfl) (by kernel_rfl) (by kernel_rfl) ?_
 intro cx hnt
 refine DW.start ?_
 refine DW.seq (RK hnt (nn 2 []) [(0, rr 0), (3, rr 1024)] [(0, bx (pm (encDice p0))), (1024, bx (pm (encTree p1)))] trivial (by kernel_rfl) ?_)
 obtain ⟨r1, hr1, hm⟩ := bind_open hm
 refine DW.seq (DW.seq ?_)
 refine DW.join (ι := Bool) (fun (y1 : Bool) => mkSt [(0, rr 0), (3, rr 1024), (12, pB y1)] [(0, bx (pm (encDice r1.2))), (1024, bx (pm (encTree p1)))]) (fun y1 => (Group_Dice_madeJ1 p1 r1) y1 = some RES) ?_ ?_
 ·
  intro y1 hm
  unfold Group_Dice_madeJ1 at hm
  refine DW.cond y1 rfl rfl ?_ ?_
  ·
   intro h3
   replace hm := if_t h3 hm
   obtain ⟨r4, hr4, hm⟩ := bind_open hm
   refine DW.seq (RK hnt (.no :: .call 15 [0] true (pI r4.1) [.box (pm (encDice r4.2))] [] :: nn 2 []) [(4, pI (w64 (r4.1 - 1)))] [(0, bx (pm (encDice r4.2)))] (an (Next_Dice_madeSpec r1.2 9 r4 hr4) (an trivial trivial)) (by kernel_rfl) ?_)
   refine DW.ret ?_
   obtain rfl := Option.some.inj hm
   refine retOK (bs' := [.box (pm (encDice r4.2))]) [] (pI (w64 (r4.1 - 1))) (by kernel_rfl) ?_ ?_
   · rfl
   · rfl
  ·
   intro h3
   replace hm := if_f h3 hm
   refine DW.skip ?_
   obtain ⟨r5, hr5, hm⟩ := bind_open hm
   obtain ⟨g6, hm⟩ := guard_open hm
   refine DW.seq (RK hnt (nn 6 (.call 15 [0] true (pI r5.1) [.box (pm (encDice r5.2))] [] :: nn 4 [])) [(4, pI (p1.nodes.getD (Int.toNat r5.1) dNode).id)] [(0, bx (pm (encDice r5.2)))] (an (Next_Dice_madeSpec r1.2 ((p1.nodes.length : Nat) : Int) r5 hr5) (an trivial (an g6.1 (an g6.2 trivial)))) (by kernel_rfl) ?_)
   refine DW.ret ?_
   obtain rfl := Option.some.inj hm
   refine retOK (bs' := [.box (pm (encDice r5.2))]) [] (pI (p1.nodes.getD (Int.toNat r5.1) dNode).id) (by kernel_rfl) ?_ ?_
   · rfl
   · rfl
 ·
  rcases bt r1.1 with h2 | h2
  ·
   replace hm := if_t h2 hm
   refine RK hnt (.no :: .call 36 [0] true (pB r1.1) [.box (pm (encDice r1.2))] [] :: .no :: sk 4 (pT :: [])) [(0, rr 0), (3, rr 1024), (12, pB true)] [(0, bx (pm (encDice r1.2))), (1024, bx (pm (encTree p1)))] (an (Bool_Dice_madeSpec p0 15 r1 hr1) (an trivial (an5 h2 trivial))) (by kernel_rfl) ?_
   exact joinDone true hm .refl
  ·
   replace hm := if_f h2 hm
   refine RK hnt (.no :: .call 36 [0] true (pB r1.1) [.box (pm (encDice r1.2))] [] :: nn 5 (pF :: [])) [(0, rr 0), (3, rr 1024), (12, pB (((p1.nodes.length : Nat) : Int) == 0))] [(0, bx (pm (encDice r1.2))), (1024, bx (pm (encTree p1)))] (an (Bool_Dice_madeSpec p0 15 r1 hr1) (an trivial (an5 h2 trivial))) (by kernel_rfl) ?_
   exact joinDone (((p1.nodes.length : Nat) : Int) == 0) hm .refl

theorem Controllers_Dice_madeSpec (p0 : Dice) (RES : Int × Dice) (hm : Controllers_Dice_made p0 = some RES) : Spec Try.prog 60 [rr 0] [.box (pm (encDice p0))] (pI RES.1) [.box (pm (encDice RES.2))] [] := by
 unfold Controllers_Dice_made at hm
 refine spec_of Tgood (T := Tt) Try.func60 (by decide) (c := _) rfl rfl (sl := [(0, rr 0)]) (ob := [(0, bx (pm (encDice p0)))]) (Nat.le_of_ble_eq_true rfl) (Nat.le_of_ble_eq_true rfl) (by kernel_rfl) (by kernel_rfl) ?_
 intro cx hnt
 refine DW.start ?_
 refine DW.seq (RK hnt (.no :: []) [(0, rr 0)] [(0, bx (pm (encDice p0)))] trivial (by kernel_rfl) ?_)
 obtain ⟨r3, hr3, hm⟩ := bind_open hm
 obtain ⟨g4, hm⟩ := guard_open hm
 obtain ⟨g5, hm⟩ := guard_open hm
 refine DW.seq (RK hnt (.asR (ow 1024 [1, 9, 31, 2, 25, 4, 0, 32, (-1)].length) [1, 9, 31, 2, 25, 4, 0, 32, (-1)].length (elems encI 0 [1, 9, 31, 2, 25, 4, 0, 32, (-1)]) :: .no :: .call 15 [0] true (pI r3.1) [.box (pm (encDice r3.2))] [] :: nn 3 []) [(2, pI ([1, 9, 31, 2, 25, 4, 0, 32, (-1)].getD (Int.toNat r3.1) 0))] [(0, bx (pm (encDice r3.2)))] (an (congrArg (MV.own 1024 0 0) (RowIs.asP (enc := encI) (d := 0) (L := [1, 9, 31, 2, 25, 4, 0, 32, (-1)]) (RowIs.lit (enc := encI) (d := 0) (n := 9) (f := (cut 1 [vi 1, vi 9, vi 31, vi 2, vi 25, vi 4, vi 0, vi 32, vi (-1)])) [1, 9, 31, 2, 25, 4, 0, 32, (-1)] rfl (fun | 0, _ => rfl | 1, _ => rfl | 2, _ => rfl | 3, _ => rfl | 4, _ => rfl | 5, _ => rfl | 6, _ => rfl | 7, _ => rfl | 8, _ => rfl | n + 9, h => absurd h (by omega)))).1) (an (RowIs.asP (enc := encI) (d := 0) (L := [1, 9, 31, 2, 25, 4, 0, 32, (-1)]) (RowIs.lit (enc := encI) (d := 0) (n := 9) (f := (cut 1 [vi 1, vi 9, vi 31, vi 2, vi 25, vi 4, vi 0, vi 32, vi (-1)])) [1, 9, 31, 2, 25, 4, 0, 32, (-1)] rfl (fun | 0, _ => rfl | 1, _ => rfl | 2, _ => rfl | 3, _ => rfl | 4, _ => rfl | 5, _ => rfl | 6, _ => rfl | 7, _ => rfl | 8, _ => rfl | n + 9, h => absurd h (by omega)))) (an (Next_Dice_madeSpec p0 9 r3 hr3) (an trivial (an g4.1 (an g4.2 (an g5 trivial))))))) (by kernel_rfl) ?_)
 refine DW.ret ?_
 obtain rfl := Option.some.inj hm
 refine retOK (bs' := [.box (pm (encDice r3.2))]) [] (pI ([1, 9, 31, 2, 25, 4, 0, 32, (-1)].getD (Int.toNat r3.1) 0)) (by kernel_rfl) ?_ ?_
 · rfl
 · rfl

theorem leader_ref6Spec (p0 : List Task) (p1 : Int) (RES : Task × Bool) (hm : leader_ref6 p0 p1 = some RES) : Spec Try.prog 50 [.p (slTask p0), pI p1] [] (.p (.tup [.agg (encTask RES.1), vb RES.2])) [] [] := by
 unfold leader_ref6 at hm
 refine spec_of Tgood (T := Tt) Try.func50 (by decide) (c := _) rfl rfl (sl := [(0, .p (slTask p0)), (1, pI p1)]) (ob := []) (Nat.le_of_ble_eq_true rfl) (Nat.le_of_ble_eq_true rfl) (by kernel_rfl) (by kernel_rfl) ?_
 intro cx hnt
 refine DW.start ?_
 refine DW.seq (RK hnt (nn 2 []) [(0, .p (slTask p0)), (1, pI p1), (4, rr 1032)] [(1032, bx [pI 0, pI 0, pI 0, pI 0])] trivial (by kernel_rfl) ?_)
 refine DW.seq (DW.seq (RK hnt (.no :: []) [(0, .p (slTask p0)), (1, pI p1), (4, rr 1032), (6, pI 0)] [(1032, bx [pI 0, pI 0, pI 0, pI 0])] trivial (by kernel_rfl) ?_))
 refine DW.block ?_
 obtain ⟨hc1, hm⟩ := guard_open hm
 refine DW.rangeO (fun (k1 : Nat) (s1 : Unit) => mkSt [(0, .p (slTask p0)), (1, pI p1), (4, rr 1032), (6, pI ((k1 : Nat) : Int))] [(1032, bx [pI 0, pI 0, pI 0, pI 0])]) dTask hm .refl ?_
 intro k1 s1 n1 hk1 hs1 he1
 refine DW.seq (DW.seq (RK hnt (nn 4 []) [(0, .p (slTask p0)), (1, pI p1), (4, rr 1032), (6, pI ((k1 : Nat) : Int)), (10, pB (decide (((k1 : Nat) : Int) < ((p0.length : Nat) : Int))))] [(1032, bx [pI 0, pI 0, pI 0, pI 0])] trivial (by kernel_rfl) ?_))
 refine DW.cond (decide (((k1 : Nat) : Int) < ((p0.length : Nat) : Int))) rfl rfl ?_ ?_
 ·
  intro h11
  have hlt1 : k1 < p0.length := by have := of_decide_eq_true h11; omega
  have hm := hs1 hlt1
  unfold leader_ref6L1 at hm
  refine DW.skip ?_
  refine DW.seq (DW.block ?_)
  refine DW.seq (RK hnt (nn 7 []) [(0, .p (slTask p0)), (1, pI p1), (4, rr 1032), (6, pI ((k1 : Nat) : Int)), (19, pB ((p0.getD k1 (default : Task)).id == p1))] [(1032, bx [pI 0, pI 0, pI 0, pI 0])] (an (nn0 k1) (an (ltc hlt1) trivial)) (by kernel_rfl) ?_)
  refine DW.cond ((p0.getD k1 (default : Task)).id == p1) rfl rfl ?_ ?_
  ·
   intro h12
   replace hm := if_t h12 hm
   refine DW.seq (RK hnt (nn 13 []) [(4, rr 1032), (5, pB ((p0.getD k1 (default : Task)).process == p1))] [(1032, bx (pm (encTask (p0.getD k1 (default : Task)))))] (an (nn0 k1) (an (ltc hlt1) (an (nn0 k1) (an (ltc hlt1) trivial)))) (by kernel_rfl) ?_)
   refine DW.ret ?_
   obtain rfl := Option.some.inj hm
   refine retOK (bs' := []) [] (.p (.tup [.agg (encTask (p0.getD k1 (default : Task))), vb ((p0.getD k1 (default : Task)).process == p1)])) (by kernel_rfl) ?_ ?_
   · rfl
   · rfl
  ·
   intro h12
   replace hm := if_f h12 hm
   refine DW.skip ?_
   refine DW.done ?_
   show DW _ _ _ _ _
   refine RK hnt (nn 3 []) [(0, .p (slTask p0)), (1, pI p1), (4, rr 1032), (6, pI (w64 (((k1 : Nat) : Int) + 1)))] [(1032, bx [pI 0, pI 0, pI 0, pI 0])] trivial (by kernel_rfl) ?_
   exact joinDone () ⟨hlt1, hm⟩ (Conv.tp [(6, pI (w64 (((k1 : Nat) : Int) + 1)))] [] (by kernel_rfl) (.cons rfl (.of_eq (congrArg pI (w64_succ hlt1 hc1))) .nil) .nil)
 ·
  intro h11
  have hge1 : ¬ k1 < p0.length := by have := of_decide_eq_false h11; omega
  have hm := he1 hge1
  unfold leader_ref6D1 at hm
  refine DW.exit ?_
  refine joinQ_exit ?_
  refine KQ_exit ?_
  refine blockQ_exit ?_
  show DW _ _ _ _ _
  refine DW.seq (RK hnt (nn 3 []) [(4, rr 1032), (5, pB false)] [(1032, bx [pI 0, pI 0, pI 0, pI 0])] trivial (by kernel_rfl) ?_)
  refine DW.ret ?_
  obtain rfl := Option.some.inj hm
  refine retOK (bs' := []) [] (.p (.tup [.agg [vi 0, vi 0, vi 0, vi 0], vb false])) (by kernel_rfl) ?_ ?_
  · rfl
  · rfl

theorem Check_ref6Spec (p0 : Hierarchy) (RES : Bool) (hm : Check_ref6 p0 = some RES) : Spec Try.prog 24 [.p (.agg (encHierarchy p0))] [] (pB RES) [] [] := by
 unfold Check_ref6 at hm
 refine spec_of Tgood (T := Tt) Try.func24 (by decide) (c := _) rfl rfl (sl := [(0, .p (.agg (encHierarchy p0)))]) (ob := []) (Nat.le_of_ble_eq_true rfl) (Nat.le_of_ble_eq_true rfl) (by kernel_rfl) (by kernel_rfl) ?_
 intro cx hnt
 refine DW.start ?_
 refine DW.seq (RK hnt (nn 2 []) [(1, rr 1008)] [(1008, bx (pm (encHierarchy p0)))] trivial (by kernel_rfl) ?_)
 refine DW.seq (RK hnt (nn 4 []) [(1, rr 1008), (3, pI ((p0.tasks.length : Nat) : Int))] [(1008, bx (pm (encHierarchy p0)))] trivial (by kernel_rfl) ?_)
 obtain ⟨r1, hr1, hm⟩ := bind_open hm
 refine DW.seq (DW.seq ?_)
 refine DW.join (ι := Bool) (fun (y1 : Bool) => mkSt [(1, rr 1008), (3, pI ((p0.tasks.length : Nat) : Int)), (44, pB y1)] [(1008, bx (pm (encHierarchy p0)))]) (fun y1 => (Check_ref6J1 p0) y1 = some RES) ?_ ?_
 ·
  intro y1 hm
  unfold Check_ref6J1 at hm
  refine DW.cond y1 rfl rfl ?_ ?_
  ·
   intro h8
   replace hm := if_t h8 hm
   refine DW.seq (RK hnt (.no :: []) [(2, pB false)] [] trivial (by kernel_rfl) ?_)
   refine DW.ret ?_
   obtain rfl := Option.some.inj hm
   refine retOK (bs' := []) [] (pB false) (by kernel_rfl) ?_ ?_
   · rfl
   · rfl
  ·
   intro h8
   replace hm := if_f h8 hm
   refine DW.skip ?_
   refine DW.seq (DW.seq (RK hnt (.no :: []) [(1, rr 1008), (3, pI ((p0.tasks.length : Nat) : Int)), (4, pI 0)] [(1008, bx (pm (encHierarchy p0)))] trivial (by kernel_rfl) ?_))
   refine DW.block ?_
   obtain ⟨hc1, hm⟩ := guard_open hm
   refine DW.rangeO (fun (k1 : Nat) (s1 : Unit) => mkSt [(1, rr 1008), (3, pI ((p0.tasks.length : Nat) : Int)), (4, pI ((k1 : Nat) : Int))] [(1008, bx (pm (encHierarchy p0)))]) dTask hm .refl ?_
   intro k1 s1 n1 hk1 hs1 he1
   refine DW.seq (DW.seq (RK hnt (nn 3 []) [(1, rr 1008), (3, pI ((p0.tasks.length : Nat) : Int)), (4, pI ((k1 : Nat) : Int)), (47, pB (decide (((k1 : Nat) : Int) < ((p0.tasks.length : Nat) : Int))))] [(1008, bx (pm (encHierarchy p0)))] trivial (by kernel_rfl) ?_))
   refine DW.cond (decide (((k1 : Nat) : Int) < ((p0.tasks.length : Nat) : Int))) rfl rfl ?_ ?_
   ·
    intro h45
    have hlt1 : k1 < p0.tasks.length := by have := of_decide_eq_true h45; omega
    have hm := hs1 hlt1
    unfold Check_ref6L1 at hm
    refine DW.skip ?_
    refine DW.seq (DW.block ?_)
    refine DW.seq (RK hnt (nn 7 []) [(1, rr 1008), (3, pI ((p0.tasks.length : Nat) : Int)), (4, pI ((k1 : Nat) : Int)), (5, rr 1040)] [(1008, bx (pm (encHierarchy p0))), (1040, bx (pm (encTask (p0.tasks.getD k1 (default : Task)))))] (an (nn0 k1) (an (ltc hlt1) trivial)) (by kernel_rfl) ?_)
    obtain ⟨r46, hr46, hm⟩ := bind_open hm
    refine DW.seq (RK hnt (nn 4 (.call 50 [] true (.p (.tup [.agg (encTask r46.1), vb r46.2])) [] [] :: nn 6 [])) [(1, rr 1008), (3, pI ((p0.tasks.length : Nat) : Int)), (4, pI ((k1 : Nat) : Int)), (5, rr 1040), (6, rr 1048), (7, pB r46.2)] [(1008, bx (pm (encHierarchy p0))), (1040, bx (pm (encTask (p0.tasks.getD k1 (default : Task))))), (1048, bx (pm (encTask r46.1)))] (an (leader_ref6Spec p0.tasks (p0.tasks.getD k1 (default : Task)).process r46 hr46) trivial) (by kernel_rfl) ?_)
    refine DW.seq ?_
    refine DW.join (ι := Bool) (fun (y4 : Bool) => mkSt [(1, rr 1008), (3, pI ((p0.tasks.length : Nat) : Int)), (4, pI ((k1 : Nat) : Int)), (110, pB y4)] [(1008, bx (pm (encHierarchy p0)))]) (fun y4 => (Check_ref6J4 n1) y4 = some RES) ?_ ?_
    ·
     intro y4 hm
     unfold Check_ref6J4 at hm
     refine DW.cond y4 rfl rfl ?_ ?_
     ·
      intro h61
      replace hm := if_t h61 hm
      refine DW.seq (RK hnt (.no :: []) [(2, pB false)] [] trivial (by kernel_rfl) ?_)
      refine DW.ret ?_
      obtain rfl := Option.some.inj hm
      refine retOK (bs' := []) [] (pB false) (by kernel_rfl) ?_ ?_
      · rfl
      · rfl
     ·
      intro h61
      replace hm := if_f h61 hm
      refine DW.skip ?_
      refine DW.done ?_
      show DW _ _ _ _ _
      refine RK hnt (nn 3 []) [(1, rr 1008), (3, pI ((p0.tasks.length : Nat) : Int)), (4, pI (w64 (((k1 : Nat) : Int) + 1)))] [(1008, bx (pm (encHierarchy p0)))] trivial (by kernel_rfl) ?_
      exact joinDone () ⟨hlt1, hm⟩ (Conv.tp [(4, pI (w64 (((k1 : Nat) : Int) + 1)))] [] (by kernel_rfl) (.cons rfl (.of_eq (congrArg pI (w64_succ hlt1 hc1))) .nil) .nil)
    ·
     rcases bt (decide ((p0.tasks.getD k1 (default : Task)).id < 1)) with h47 | h47
     ·
      replace hm := if_t h47 hm
      refine RK hnt (nn 4 (sk 14 (pT :: .no :: sk 6 (pT :: .no :: sk 3 (pT :: .no :: sk 3 (pT :: .no :: sk 2 (pT :: .no :: sk 5 (pT :: [])))))))) [(1, rr 1008), (3, pI ((p0.tasks.length : Nat) : Int)), (4, pI ((k1 : Nat) : Int)), (110, pB true)] [(1008, bx (pm (encHierarchy p0)))] (an5 h47 (an6 tt (an6 tt (an6 tt (an6 tt trivial))))) (by kernel_rfl) ?_
      exact joinDone true hm .refl
     ·
      replace hm := if_f h47 hm
      rcases bt (decide (((k1 : Nat) : Int) > 0)) with h48 | h48
      ·
       replace hm := if_t h48 hm
       obtain ⟨g49, hm⟩ := guard_open hm
       rcases bt (decide ((p0.tasks.getD (Int.toNat (w64 (((k1 : Nat) : Int) - 1))) dTask).id ≥ (p0.tasks.getD k1 (default : Task)).id)) with h50 | h50
       ·
        replace hm := if_t h50 hm
        refine RK hnt (nn 17 (pT :: pF :: .no :: sk 6 (pT :: .no :: sk 3 (pT :: .no :: sk 3 (pT :: .no :: sk 2 (pT :: .no :: sk 5 (pT :: []))))))) [(1, rr 1008), (3, pI ((p0.tasks.length : Nat) : Int)), (4, pI ((k1 : Nat) : Int)), (110, pB true)] [(1008, bx (pm (encHierarchy p0)))] (an3 h47 (an5 h48 (an g49.1 (an g49.2 (an5 h48 (an h47 (an h48 (an h47 (an h50 (an6 h50 (an5 tt (an6 tt (an6 tt trivial))))))))))))) (by kernel_rfl) ?_
        exact joinDone true hm .refl
       ·
        replace hm := if_f h50 hm
        obtain ⟨r51, hr51, hm⟩ := bind_open hm
        rcases bt (!r51) with h52 | h52
        ·
         replace hm := if_t h52 hm
         refine RK hnt (nn 17 (pT :: pF :: nn 5 (.call 25 [] true (pB r51) [] [] :: .no :: pF :: .no :: sk 3 (pT :: .no :: sk 3 (pT :: .no :: sk 2 (pT :: .no :: sk 5 (pT :: []))))))) [(1, rr 1008), (3, pI ((p0.tasks.length : Nat) : Int)), (4, pI ((k1 : Nat) : Int)), (110, pB true)] [(1008, bx (pm (encHierarchy p0)))] (an3 h47 (an5 h48 (an g49.1 (an g49.2 (an5 h48 (an h47 (an h48 (an h47 (an5 h50 (an (Has_ref5Spec p0.tree (p0.tasks.getD k1 (default : Task)).group r51 hr51) (an2 h50 (an4 h52 (an tt (an6 tt (an6 tt trivial))))))))))))))) (by kernel_rfl) ?_
         exact joinDone true hm .refl
        ·
         replace hm := if_f h52 hm
         rcases bt (decide ((p0.tasks.getD k1 (default : Task)).user < 0)) with h53 | h53
         ·
          replace hm := if_t h53 hm
          refine RK hnt (nn 17 (pT :: pF :: nn 5 (.call 25 [] true (pB r51) [] [] :: .no :: pF :: nn 4 (pF :: .no :: sk 3 (pT :: .no :: sk 2 (pT :: .no :: sk 5 (pT :: []))))))) [(1, rr 1008), (3, pI ((p0.tasks.length : Nat) : Int)), (4, pI ((k1 : Nat) : Int)), (110, pB true)] [(1008, bx (pm (encHierarchy p0)))] (an3 h47 (an5 h48 (an g49.1 (an g49.2 (an5 h48 (an h47 (an h48 (an h47 (an5 h50 (an (Has_ref5Spec p0.tree (p0.tasks.getD k1 (default : Task)).group r51 hr51) (an2 h50 (an4 h52 (an4 h53 (an3 tt (an6 tt trivial))))))))))))))) (by kernel_rfl) ?_
          exact joinDone true hm .refl
         ·
          replace hm := if_f h53 hm
          rcases bt (decide ((p0.tasks.getD k1 (default : Task)).user > 1048576)) with h54 | h54
          ·
           replace hm := if_t h54 hm
           refine RK hnt (nn 17 (pT :: pF :: nn 5 (.call 25 [] true (pB r51) [] [] :: .no :: pF :: nn 4 (pF :: nn 4 (pF :: .no :: sk 2 (pT :: .no :: sk 5 (pT :: []))))))) [(1, rr 1008), (3, pI ((p0.tasks.length : Nat) : Int)), (4, pI ((k1 : Nat) : Int)), (110, pB true)] [(1008, bx (pm (encHierarchy p0)))] (an3 h47 (an5 h48 (an g49.1 (an g49.2 (an5 h48 (an h47 (an h48 (an h47 (an5 h50 (an (Has_ref5Spec p0.tree (p0.tasks.getD k1 (default : Task)).group r51 hr51) (an2 h50 (an4 h52 (an4 h53 (an3 h54 (an6 tt trivial))))))))))))))) (by kernel_rfl) ?_
           exact joinDone true hm .refl
          ·
           replace hm := if_f h54 hm
           rcases bt (!r46.2) with h55 | h55
           ·
            replace hm := if_t h55 hm
            refine RK hnt (nn 17 (pT :: pF :: nn 5 (.call 25 [] true (pB r51) [] [] :: .no :: pF :: nn 4 (pF :: nn 4 (pF :: nn 3 (pF :: .no :: sk 5 (pT :: []))))))) [(1, rr 1008), (3, pI ((p0.tasks.length : Nat) : Int)), (4, pI ((k1 : Nat) : Int)), (110, pB true)] [(1008, bx (pm (encHierarchy p0)))] (an3 h47 (an5 h48 (an g49.1 (an g49.2 (an5 h48 (an h47 (an h48 (an h47 (an5 h50 (an (Has_ref5Spec p0.tree (p0.tasks.getD k1 (default : Task)).group r51 hr51) (an2 h50 (an4 h52 (an4 h53 (an3 h54 (an6 h55 trivial))))))))))))))) (by kernel_rfl) ?_
            exact joinDone true hm .refl
           ·
            replace hm := if_f h55 hm
            refine RK hnt (nn 17 (pT :: pF :: nn 5 (.call 25 [] true (pB r51) [] [] :: .no :: pF :: nn 4 (pF :: nn 4 (pF :: nn 3 (pF :: nn 6 (pF :: []))))))) [(1, rr 1008), (3, pI ((p0.tasks.length : Nat) : Int)), (4, pI ((k1 : Nat) : Int)), (110, pB (r46.1.user != (p0.tasks.getD k1 (default : Task)).user))] [(1008, bx (pm (encHierarchy p0)))] (an3 h47 (an5 h48 (an g49.1 (an g49.2 (an5 h48 (an h47 (an h48 (an h47 (an5 h50 (an (Has_ref5Spec p0.tree (p0.tasks.getD k1 (default : Task)).group r51 hr51) (an2 h50 (an4 h52 (an4 h53 (an3 h54 (an6 h55 trivial))))))))))))))) (by kernel_rfl) ?_
            exact joinDone (r46.1.user != (p0.tasks.getD k1 (default : Task)).user) hm .refl
      ·
       replace hm := if_f h48 hm
       obtain ⟨r56, hr56, hm⟩ := bind_open hm
       rcases bt (!r56) with h57 | h57
       ·
        replace hm := if_t h57 hm
        refine RK hnt (nn 7 (sk 10 (pF :: pF :: nn 5 (.call 25 [] true (pB r56) [] [] :: .no :: pF :: .no :: sk 3 (pT :: .no :: sk 3 (pT :: .no :: sk 2 (pT :: .no :: sk 5 (pT :: [])))))))) [(1, rr 1008), (3, pI ((p0.tasks.length : Nat) : Int)), (4, pI ((k1 : Nat) : Int)), (110, pB true)] [(1008, bx (pm (encHierarchy p0)))] (an3 h47 (an4 h48 (an6 h48 (an h47 (an h48 (an h47 (an5 ff (an (Has_ref5Spec p0.tree (p0.tasks.getD k1 (default : Task)).group r56 hr56) (an2 ff (an4 h57 (an tt (an6 tt (an6 tt trivial))))))))))))) (by kernel_rfl) ?_
        exact joinDone true hm .refl
       ·
        replace hm := if_f h57 hm
        rcases bt (decide ((p0.tasks.getD k1 (default : Task)).user < 0)) with h58 | h58
        ·
         replace hm := if_t h58 hm
         refine RK hnt (nn 7 (sk 10 (pF :: pF :: nn 5 (.call 25 [] true (pB r56) [] [] :: .no :: pF :: nn 4 (pF :: .no :: sk 3 (pT :: .no :: sk 2 (pT :: .no :: sk 5 (pT :: [])))))))) [(1, rr 1008), (3, pI ((p0.tasks.length : Nat) : Int)), (4, pI ((k1 : Nat) : Int)), (110, pB true)] [(1008, bx (pm (encHierarchy p0)))] (an3 h47 (an4 h48 (an6 h48 (an h47 (an h48 (an h47 (an5 ff (an (Has_ref5Spec p0.tree (p0.tasks.getD k1 (default : Task)).group r56 hr56) (an2 ff (an4 h57 (an4 h58 (an3 tt (an6 tt trivial))))))))))))) (by kernel_rfl) ?_
         exact joinDone true hm .refl
        ·
         replace hm := if_f h58 hm
         rcases bt (decide ((p0.tasks.getD k1 (default : Task)).user > 1048576)) with h59 | h59
         ·
          replace hm := if_t h59 hm
          refine RK hnt (nn 7 (sk 10 (pF :: pF :: nn 5 (.call 25 [] true (pB r56) [] [] :: .no :: pF :: nn 4 (pF :: nn 4 (pF :: .no :: sk 2 (pT :: .no :: sk 5 (pT :: [])))))))) [(1, rr 1008), (3, pI ((p0.tasks.length : Nat) : Int)), (4, pI ((k1 : Nat) : Int)), (110, pB true)] [(1008, bx (pm (encHierarchy p0)))] (an3 h47 (an4 h48 (an6 h48 (an h47 (an h48 (an h47 (an5 ff (an (Has_ref5Spec p0.tree (p0.tasks.getD k1 (default : Task)).group r56 hr56) (an2 ff (an4 h57 (an4 h58 (an3 h59 (an6 tt trivial))))))))))))) (by kernel_rfl) ?_
          exact joinDone true hm .refl
         ·
          replace hm := if_f h59 hm
          rcases bt (!r46.2) with h60 | h60
          ·
           replace hm := if_t h60 hm
           refine RK hnt (nn 7 (sk 10 (pF :: pF :: nn 5 (.call 25 [] true (pB r56) [] [] :: .no :: pF :: nn 4 (pF :: nn 4 (pF :: nn 3 (pF :: .no :: sk 5 (pT :: [])))))))) [(1, rr 1008), (3, pI ((p0.tasks.length : Nat) : Int)), (4, pI ((k1 : Nat) : Int)), (110, pB true)] [(1008, bx (pm (encHierarchy p0)))] (an3 h47 (an4 h48 (an6 h48 (an h47 (an h48 (an h47 (an5 ff (an (Has_ref5Spec p0.tree (p0.tasks.getD k1 (default : Task)).group r56 hr56) (an2 ff (an4 h57 (an4 h58 (an3 h59 (an6 h60 trivial))))))))))))) (by kernel_rfl) ?_
           exact joinDone true hm .refl
          ·
           replace hm := if_f h60 hm
           refine RK hnt (nn 7 (sk 10 (pF :: pF :: nn 5 (.call 25 [] true (pB r56) [] [] :: .no :: pF :: nn 4 (pF :: nn 4 (pF :: nn 3 (pF :: nn 6 (pF :: [])))))))) [(1, rr 1008), (3, pI ((p0.tasks.length : Nat) : Int)), (4, pI ((k1 : Nat) : Int)), (110, pB (r46.1.user != (p0.tasks.getD k1 (default : Task)).user))] [(1008, bx (pm (encHierarchy p0)))] (an3 h47 (an4 h48 (an6 h48 (an h47 (an h48 (an h47 (an5 ff (an (Has_ref5Spec p0.tree (p0.tasks.getD k1 (default : Task)).group r56 hr56) (an2 ff (an4 h57 (an4 h58 (an3 h59 (an6 h60 trivial))))))))))))) (by kernel_rfl) ?_
           exact joinDone (r46.1.user != (p0.tasks.getD k1 (default : Task)).user) hm .refl
   ·
    intro h45
    have hge1 : ¬ k1 < p0.tasks.length := by have := of_decide_eq_false h45; omega
    have hm := he1 hge1
    unfold Check_ref6D1 at hm
    refine DW.exit ?_
    refine joinQ_exit ?_
    refine KQ_exit ?_
    refine blockQ_exit ?_
    show DW _ _ _ _ _
    refine DW.seq (RK hnt (.no :: []) [(2, pB true)] [] trivial (by kernel_rfl) ?_)
    refine DW.ret ?_
    obtain rfl := Option.some.inj hm
    refine retOK (bs' := []) [] (pB true) (by kernel_rfl) ?_ ?_
    · rfl
    · rfl
 ·
  rcases bt (!r1) with h2 | h2
  ·
   replace hm := if_t h2 hm
   refine RK hnt (nn 2 (.call 49 [] true (pB r1) [] [] :: nn 2 (sk 2 (pT :: .no :: sk 3 (pT :: .no :: sk 3 (pT :: .no :: sk 14 (pT :: []))))))) [(1, rr 1008), (3, pI ((p0.tasks.length : Nat) : Int)), (44, pB true)] [(1008, bx (pm (encHierarchy p0)))] (an (Check_ref5Spec p0.tree r1 hr1) (an3 h2 (an tt (an6 tt (an6 tt trivial))))) (by kernel_rfl) ?_
   exact joinDone true hm .refl
  ·
   replace hm := if_f h2 hm
   rcases bt (decide (((p0.tasks.length : Nat) : Int) > 128)) with h3 | h3
   ·
    replace hm := if_t h3 hm
    refine RK hnt (nn 2 (.call 49 [] true (pB r1) [] [] :: nn 4 (pF :: .no :: sk 3 (pT :: .no :: sk 3 (pT :: .no :: sk 14 (pT :: [])))))) [(1, rr 1008), (3, pI ((p0.tasks.length : Nat) : Int)), (44, pB true)] [(1008, bx (pm (encHierarchy p0)))] (an (Check_ref5Spec p0.tree r1 hr1) (an3 h2 (an4 h3 (an3 tt (an6 tt trivial))))) (by kernel_rfl) ?_
    exact joinDone true hm .refl
   ·
    replace hm := if_f h3 hm
    rcases bt (decide (p0.next < 1)) with h4 | h4
    ·
     replace hm := if_t h4 hm
     refine RK hnt (nn 2 (.call 49 [] true (pB r1) [] [] :: nn 4 (pF :: nn 4 (pF :: .no :: sk 3 (pT :: .no :: sk 14 (pT :: [])))))) [(1, rr 1008), (3, pI ((p0.tasks.length : Nat) : Int)), (44, pB true)] [(1008, bx (pm (encHierarchy p0)))] (an (Check_ref5Spec p0.tree r1 hr1) (an3 h2 (an4 h3 (an4 h4 (an5 tt trivial))))) (by kernel_rfl) ?_
     exact joinDone true hm .refl
    ·
     replace hm := if_f h4 hm
     rcases bt (decide (p0.next > 2147483648)) with h5 | h5
     ·
      replace hm := if_t h5 hm
      refine RK hnt (nn 2 (.call 49 [] true (pB r1) [] [] :: nn 4 (pF :: nn 4 (pF :: nn 4 (pF :: .no :: sk 14 (pT :: [])))))) [(1, rr 1008), (3, pI ((p0.tasks.length : Nat) : Int)), (44, pB true)] [(1008, bx (pm (encHierarchy p0)))] (an (Check_ref5Spec p0.tree r1 hr1) (an3 h2 (an4 h3 (an4 h4 (an5 h5 trivial))))) (by kernel_rfl) ?_
      exact joinDone true hm .refl
     ·
      replace hm := if_f h5 hm
      rcases bt (decide (((p0.tasks.length : Nat) : Int) > 0)) with h6 | h6
      ·
       replace hm := if_t h6 hm
       obtain ⟨g7, hm⟩ := guard_open hm
       refine RK hnt (nn 2 (.call 49 [] true (pB r1) [] [] :: nn 4 (pF :: nn 4 (pF :: nn 4 (pF :: nn 14 (pT :: pF :: [])))))) [(1, rr 1008), (3, pI ((p0.tasks.length : Nat) : Int)), (44, pB (decide (p0.next ≤ (p0.tasks.getD (Int.toNat (w64 (((p0.tasks.length : Nat) : Int) - 1))) dTask).id)))] [(1008, bx (pm (encHierarchy p0)))] (an (Check_ref5Spec p0.tree r1 hr1) (an3 h2 (an4 h3 (an4 h4 (an3 h5 (an h6 (an6 h6 (an g7.1 (an g7.2 (an3 h6 (an h5 (an h6 (an h5 trivial))))))))))))) (by kernel_rfl) ?_
       exact joinDone (decide (p0.next ≤ (p0.tasks.getD (Int.toNat (w64 (((p0.tasks.length : Nat) : Int) - 1))) dTask).id)) hm .refl
      ·
       replace hm := if_f h6 hm
       refine RK hnt (nn 2 (.call 49 [] true (pB r1) [] [] :: nn 4 (pF :: nn 4 (pF :: nn 4 (pF :: nn 4 (sk 10 (pF :: pF :: []))))))) [(1, rr 1008), (3, pI ((p0.tasks.length : Nat) : Int)), (44, pB false)] [(1008, bx (pm (encHierarchy p0)))] (an (Check_ref5Spec p0.tree r1 hr1) (an3 h2 (an4 h3 (an4 h4 (an3 h5 (an4 h6 (an6 h6 (an h5 (an h6 (an h5 trivial)))))))))) (by kernel_rfl) ?_
       exact joinDone false hm .refl

theorem Acting_ref7Spec (p0 : Tree) (p1 : Int) (RES : Int) (hm : Acting_ref7 p0 p1 = some RES) : Spec Try.prog 89 [.p (.agg (encTree p0)), pI p1] [] (pI RES) [] [] := by
 unfold Acting_ref7 at hm
 refine spec_of Tgood (T := Tt) Try.func89 (by decide) (c := _) rfl rfl (sl := [(0, .p (.agg (encTree p0))), (1, pI p1)]) (ob := []) (Nat.le_of_ble_eq_true rfl) (Nat.le_of_ble_eq_true rfl) (by kernel_rfl) (by kernel_rfl) ?_
 intro cx hnt
 refine DW.start ?_
 refine DW.seq (RK hnt (nn 2 []) [(1, pI p1), (2, rr 1016)] [(1016, bx (pm (encTree p0)))] trivial (by kernel_rfl) ?_)
 obtain ⟨r1, hr1, hm⟩ := bind_open hm
 refine DW.seq (RK hnt (nn 2 (.call 51 [] true (.p (.tup [.agg (encNode r1.1), vb r1.2])) [] [] :: nn 6 [])) [(1, pI p1), (2, rr 1016), (5, rr 1040), (6, pB r1.2)] [(1016, bx (pm (encTree p0))), (1040, bx (pm (encNode r1.1)))] (an (Find_ref5Spec p0 p1 r1 hr1) trivial) (by kernel_rfl) ?_)
 refine DW.seq (DW.seq (DW.regJ (sl2 := [(2, rr 1016), (5, rr 1040), (20, pB ((!r1.2) || (p1 == 1)))]) (ob2 := [(1016, bx (pm (encTree p0))), (1040, bx (pm (encNode r1.1)))]) ?_ ?_))
 ·
  rcases bt (!r1.2) with h2 | h2
  ·
   exact RT hnt (nn 3 (sk 2 (pT :: []))) [(20, pB true)] (an3 h2 trivial) (by kernel_rfl) (.cons rfl (.of_eq (by rw [h2]; try rfl)) .nil)
  ·
   exact RT hnt (nn 5 (pF :: [])) [(20, pB (p1 == 1))] (an3 h2 trivial) (by kernel_rfl) (.cons rfl (.of_eq (by rw [h2]; try rfl)) .nil)
 ·
  refine DW.cond ((!r1.2) || (p1 == 1)) rfl rfl ?_ ?_
  ·
   intro h3
   replace hm := if_t h3 hm
   refine DW.seq (RK hnt (.no :: []) [(4, pI 0)] [] trivial (by kernel_rfl) ?_)
   refine DW.ret ?_
   obtain rfl := Option.some.inj hm
   refine retOK (bs' := []) [] (pI 0) (by kernel_rfl) ?_ ?_
   · rfl
   · rfl
  ·
   intro h3
   replace hm := if_f h3 hm
   refine DW.skip ?_
   obtain ⟨r4, hr4, hm⟩ := bind_open hm
   refine DW.seq (RK hnt (nn 3 (.call 51 [] true (.p (.tup [.agg (encNode r4.1), vb r4.2])) [] [] :: nn 6 [])) [(5, rr 1040), (7, rr 1056)] [(1040, bx (pm (encNode r1.1))), (1056, bx (pm (encNode r4.1)))] (an (Find_ref5Spec p0 r1.1.parent r4 hr4) trivial) (by kernel_rfl) ?_)
   refine DW.seq (DW.seq (RK hnt (nn 3 []) [(7, rr 1056), (30, pB (r1.1.kind == 1))] [(1056, bx (pm (encNode r4.1)))] trivial (by kernel_rfl) ?_))
   refine DW.cond (r1.1.kind == 1) rfl rfl ?_ ?_
   ·
    intro h5
    replace hm := if_t h5 hm
    refine DW.seq (RK hnt (nn 4 []) [(4, pI (kandNot .i64 r4.1.control 6))] [] trivial (by kernel_rfl) ?_)
    refine DW.ret ?_
    obtain rfl := Option.some.inj hm
    refine retOK (bs' := []) [] (pI (kandNot .i64 r4.1.control 6)) (by kernel_rfl) ?_ ?_
    · rfl
    · rfl
   ·
    intro h5
    replace hm := if_f h5 hm
    refine DW.skip ?_
    refine DW.seq (RK hnt (nn 3 []) [(4, pI r4.1.control)] [] trivial (by kernel_rfl) ?_)
    refine DW.ret ?_
    obtain rfl := Option.some.inj hm
    refine retOK (bs' := []) [] (pI r4.1.control) (by kernel_rfl) ?_ ?_
    · rfl
    · rfl

theorem Available_ref7Spec (p0 : Tree) (p1 : Int) (RES : Int) (hm : Available_ref7 p0 p1 = some RES) : Spec Try.prog 87 [.p (.agg (encTree p0)), pI p1] [] (pI RES) [] [] := by
 unfold Available_ref7 at hm
 refine spec_of Tgood (T := Tt) Try.func87 (by decide) (c := _) rfl rfl (sl := [(0, .p (.agg (encTree p0))), (1, pI p1)]) (ob := []) (Nat.le_of_ble_eq_true rfl) (Nat.le_of_ble_eq_true rfl) (by kernel_rfl) (by kernel_rfl) ?_
 intro cx hnt
 refine DW.start ?_
 refine DW.seq (RK hnt (nn 2 []) [(1, pI p1), (2, rr 1016)] [(1016, bx (pm (encTree p0)))] trivial (by kernel_rfl) ?_)
 obtain ⟨r1, hr1, hm⟩ := bind_open hm
 refine DW.seq (RK hnt (nn 2 (.call 51 [] true (.p (.tup [.agg (encNode r1.1), vb r1.2])) [] [] :: nn 6 [])) [(1, pI p1), (2, rr 1016), (5, rr 1040), (6, pB r1.2)] [(1016, bx (pm (encTree p0))), (1040, bx (pm (encNode r1.1)))] (an (Find_ref5Spec p0 p1 r1 hr1) trivial) (by kernel_rfl) ?_)
 refine DW.seq (DW.seq (RK hnt (nn 2 []) [(1, pI p1), (2, rr 1016), (5, rr 1040), (15, pB (!r1.2))] [(1016, bx (pm (encTree p0))), (1040, bx (pm (encNode r1.1)))] trivial (by kernel_rfl) ?_))
 refine DW.cond (!r1.2) rfl rfl ?_ ?_
 ·
  intro h2
  replace hm := if_t h2 hm
  refine DW.seq (RK hnt (.no :: []) [(4, pI 0)] [] trivial (by kernel_rfl) ?_)
  refine DW.ret ?_
  obtain rfl := Option.some.inj hm
  refine retOK (bs' := []) [] (pI 0) (by kernel_rfl) ?_ ?_
  · rfl
  · rfl
 ·
  intro h2
  replace hm := if_f h2 hm
  refine DW.skip ?_
  refine DW.seq (RK hnt (.no :: []) [(1, pI p1), (2, rr 1016), (5, rr 1040), (7, pI 31)] [(1016, bx (pm (encTree p0))), (1040, bx (pm (encNode r1.1)))] trivial (by kernel_rfl) ?_)
  refine DW.seq (DW.seq (RK hnt (nn 2 []) [(1, pI p1), (2, rr 1016), (5, rr 1040), (7, pI 31), (17, pB (p1 != 1))] [(1016, bx (pm (encTree p0))), (1040, bx (pm (encNode r1.1)))] trivial (by kernel_rfl) ?_))
  refine DW.join (ι := Int) (fun (y1 : Int) => mkSt [(5, rr 1040), (7, pI y1)] [(1040, bx (pm (encNode r1.1)))]) (fun y1 => (Available_ref7J1 r1) y1 = some RES) ?_ ?_
  ·
   intro y1 hm
   unfold Available_ref7J1 at hm
   refine DW.seq (DW.seq (RK hnt (nn 3 []) [(7, pI y1), (23, pB (r1.1.kind == 1))] [] trivial (by kernel_rfl) ?_))
   refine DW.join (ι := Int) (fun (y2 : Int) => mkSt [(7, pI y2)] []) (fun y2 => Available_ref7J2 y2 = some RES) ?_ ?_
   ·
    intro y2 hm
    unfold Available_ref7J2 at hm
    refine DW.seq (RK hnt (nn 2 []) [(4, pI y2)] [] trivial (by kernel_rfl) ?_)
    refine DW.ret ?_
    obtain rfl := Option.some.inj hm
    refine retOK (bs' := []) [] (pI y2) (by kernel_rfl) ?_ ?_
    · rfl
    · rfl
   ·
    refine DW.cond (r1.1.kind == 1) rfl rfl ?_ ?_
    ·
     intro h5
     replace hm := if_t h5 hm
     refine RK hnt (nn 3 []) [(7, pI (kandNot .i64 y1 6))] [] trivial (by kernel_rfl) ?_
     exact joinDone (kandNot .i64 y1 6) hm .refl
    ·
     intro h5
     replace hm := if_f h5 hm
     refine DW.skip ?_
     exact joinDone y1 hm (Conv.tp [] [] (by kernel_rfl) .nil .nil)
  ·
   refine DW.cond (p1 != 1) rfl rfl ?_ ?_
   ·
    intro h3
    replace hm := if_t h3 hm
    obtain ⟨r4, hr4, hm⟩ := bind_open hm
    refine RK hnt (nn 2 (.call 89 [] true (pI r4) [] [] :: .no :: [])) [(5, rr 1040), (7, pI r4)] [(1040, bx (pm (encNode r1.1)))] (an (Acting_ref7Spec p0 p1 r4 hr4) trivial) (by kernel_rfl) ?_
    exact joinDone r4 hm .refl
   ·
    intro h3
    replace hm := if_f h3 hm
    refine DW.skip ?_
    exact joinDone 31 hm (Conv.tp [] [] (by kernel_rfl) .nil .nil)

theorem Tasks_ref6Spec (p0 : Hierarchy) (p1 : Int) (RES : List Int) (hm : Tasks_ref6 p0 p1 = some RES) : Spec Try.prog 81 [.p (.agg (encHierarchy p0)), pI p1] [] (ow 0 RES.length) [] [roI RES] := by
 unfold Tasks_ref6 at hm
 refine spec_of Tgood (T := Tt) Try.func81 (by decide) (c := _) rfl rfl (sl := [(0, .p (.agg (encHierarchy p0))), (1, pI p1)]) (ob := []) (Nat.le_of_ble_eq_true rfl) (Nat.le_of_ble_eq_true rfl) (by kernel_rfl) (by kernel_rfl) ?_
 intro cx hnt
 refine DW.start ?_
 refine DW.seq (RK hnt (nn 2 []) [(1, pI p1), (2, rr 1016)] [(1016, bx (pm (encHierarchy p0)))] trivial (by kernel_rfl) ?_)
 obtain ⟨r1, hr1, hm⟩ := bind_open hm
 refine DW.seq (DW.seq (RK hnt (.no :: .call 24 [] true (pB r1) [] [] :: .no :: []) [(1, pI p1), (2, rr 1016), (9, pB (!r1))] [(1016, bx (pm (encHierarchy p0)))] (an (Check_ref6Spec p0 r1 hr1) trivial) (by kernel_rfl) ?_))
 refine DW.cond (!r1) rfl rfl ?_ ?_
 ·
  intro h2
  replace hm := if_t h2 hm
  refine DW.seq (RK hnt (.no :: []) [(4, .p (.sl .nil 0 0 (fun _ => [])))] [] trivial (by kernel_rfl) ?_)
  refine DW.conv (τ := mkSt [(4, ow 100000 0)] [(100000, ob0 (roI []))]) (Conv.trans (τ := mkSt [(4, ow 100000 0)] ((100000, ⟨0, .row 1 0 (elems encI 0 [])⟩) :: [])) (Conv.adopt 100000 1 (elems encI 0 []) rfl rfl (.cons (.one (.nil _ _)) (.rfl _)) (.rfl _)) (Conv.trans (τ := mkSt [(4, ow 100000 0)] [(100000, ob0 (roI []))]) (Conv.tp [] [] (by kernel_rfl) .nil .nil) .refl)) ?_
  refine DW.ret ?_
  obtain rfl := Option.some.inj hm
  refine retOK (bs' := [roI []]) [100000] (ow 0 0) (by kernel_rfl) ?_ ?_
  · rfl
  · rfl
 ·
  intro h2
  replace hm := if_f h2 hm
  refine DW.skip ?_
  refine DW.seq (RK hnt (.no :: []) [(1, pI p1), (2, rr 1016), (5, .p (.sl .nil 0 0 (fun _ => [])))] [(1016, bx (pm (encHierarchy p0)))] trivial (by kernel_rfl) ?_)
  refine DW.seq (DW.seq (RK hnt (.no :: []) [(1, pI p1), (2, rr 1016), (5, .p (.sl .nil 0 0 (fun _ => []))), (6, pI 0)] [(1016, bx (pm (encHierarchy p0)))] trivial (by kernel_rfl) ?_))
  refine DW.block ?_
  obtain ⟨hc1, hm⟩ := guard_open hm
  refine DW.rangeO (fun (k1 : Nat) (s1 : List Int) => mkSt [(1, pI p1), (2, rr 1016), (5, ow 1264 s1.length), (6, pI ((k1 : Nat) : Int))] [(1016, bx (pm (encHierarchy p0))), (1264, ob0 (roI s1))]) dTask hm (Conv.trans (τ := mkSt [(1, pI p1), (2, rr 1016), (5, ow 1264 0), (6, pI 0)] ((1264, ⟨0, .row 1 0 (elems encI 0 [])⟩) :: [(1016, bx (pm (encHierarchy p0)))])) (Conv.adopt 1264 1 (elems encI 0 []) rfl rfl (.cons (.one (.rfl _)) (.cons (.one (.rfl _)) (.cons (.one (.nil _ _)) (.cons (.one (.rfl _)) (.rfl _))))) (.rfl _)) (Conv.trans (τ := mkSt [(1, pI p1), (2, rr 1016), (5, ow 1264 0), (6, pI 0)] [(1016, bx (pm (encHierarchy p0))), (1264, ob0 (roI []))]) (Conv.tp [] [] (by kernel_rfl) .nil .nil) .refl)) ?_
  intro k1 s1 n1 hk1 hs1 he1
  refine DW.seq (DW.seq (RK hnt (nn 5 []) [(1, pI p1), (2, rr 1016), (5, ow 1264 s1.length), (6, pI ((k1 : Nat) : Int)), (14, pB (decide (((k1 : Nat) : Int) < ((p0.tasks.length : Nat) : Int))))] [(1016, bx (pm (encHierarchy p0))), (1264, ob0 (roI s1))] trivial (by kernel_rfl) ?_))
  refine DW.cond (decide (((k1 : Nat) : Int) < ((p0.tasks.length : Nat) : Int))) rfl rfl ?_ ?_
  ·
   intro h12
   have hlt1 : k1 < p0.tasks.length := by have := of_decide_eq_true h12; omega
   have hm := hs1 hlt1
   unfold Tasks_ref6L1 at hm
   refine DW.skip ?_
   refine DW.seq ?_
   refine DW.join (ι := List Int) (fun (y3 : List Int) => mkSt [(1, pI p1), (2, rr 1016), (5, ow 1264 y3.length), (6, pI ((k1 : Nat) : Int))] [(1016, bx (pm (encHierarchy p0))), (1264, ob0 (roI y3))]) (fun y3 => (Tasks_ref6J3 n1) y3 = some RES) ?_ ?_
   ·
    intro y3 hm
    unfold Tasks_ref6J3 at hm
    refine RK hnt (nn 3 []) [(1, pI p1), (2, rr 1016), (5, ow 1264 y3.length), (6, pI (w64 (((k1 : Nat) : Int) + 1)))] [(1016, bx (pm (encHierarchy p0))), (1264, ob0 (roI y3))] trivial (by kernel_rfl) ?_
    exact joinDone y3 ⟨hlt1, hm⟩ (Conv.tp [(6, pI (w64 (((k1 : Nat) : Int) + 1)))] [] (by kernel_rfl) (.cons rfl (.of_eq (congrArg pI (w64_succ hlt1 hc1))) .nil) .nil)
   ·
    refine DW.block ?_
    refine DW.seq (RK hnt (nn 8 []) [(1, pI p1), (2, rr 1016), (5, ow 1264 s1.length), (6, pI ((k1 : Nat) : Int)), (24, pB ((p0.tasks.getD k1 (default : Task)).group == p1))] [(1016, bx (pm (encHierarchy p0))), (1264, ob0 (roI s1))] (an (nn0 k1) (an (ltc hlt1) trivial)) (by kernel_rfl) ?_)
    refine DW.cond ((p0.tasks.getD k1 (default : Task)).group == p1) rfl rfl ?_ ?_
    ·
     intro h13
     replace hm := if_t h13 hm
     obtain ⟨g14, hm⟩ := guard_open hm
     refine RN hnt (nn 10 []) [(1, pI p1), (2, rr 1016), (5, ow 1264 (s1 ++ [(p0.tasks.getD k1 (default : Task)).id]).length), (6, pI ((k1 : Nat) : Int))] [(1016, bx (pm (encHierarchy p0))), (1264, ob0 (roI (s1 ++ [(p0.tasks.getD k1 (default : Task)).id])))] [(5, ow 1264 (s1.length + 1))] [(1264, .row 1 (s1.length + 1) (catF s1.length (elI s1) (cut 1 [vi (p0.tasks.getD k1 (default : Task)).id])))] (an (nn0 k1) (an (ltc hlt1) (an (by omega : (s1.length + 1) * 8 ≤ 140737488355328) trivial))) (by kernel_rfl) (.cons rfl (MLe.ownLen (enc := encI) (d := 0) (f := (catF s1.length (elI s1) (cut 1 [vi (p0.tasks.getD k1 (default : Task)).id]))) (RowIs.cat RowIs.elems (RowIs.lit (enc := encI) (d := 0) (n := 1) (f := (cut 1 [vi (p0.tasks.getD k1 (default : Task)).id])) [(p0.tasks.getD k1 (default : Task)).id] rfl (fun | 0, _ => rfl | n + 1, h => absurd h (by omega))))) .nil) (.cons rfl (BLe.typed (RowIs.cat RowIs.elems (RowIs.lit (enc := encI) (d := 0) (n := 1) (f := (cut 1 [vi (p0.tasks.getD k1 (default : Task)).id])) [(p0.tasks.getD k1 (default : Task)).id] rfl (fun | 0, _ => rfl | n + 1, h => absurd h (by omega))))) .nil) ?_
     exact blockDone (s1 ++ [(p0.tasks.getD k1 (default : Task)).id]) hm .refl
    ·
     intro h13
     replace hm := if_f h13 hm
     refine DW.skip ?_
     exact blockDone s1 hm (Conv.tp [] [] (by kernel_rfl) .nil .nil)
  ·
   intro h12
   have hge1 : ¬ k1 < p0.tasks.length := by have := of_decide_eq_false h12; omega
   have hm := he1 hge1
   unfold Tasks_ref6D1 at hm
   refine DW.exit ?_
   refine joinQ_exit ?_
   refine KQ_exit ?_
   refine blockQ_exit ?_
   show DW _ _ _ _ _
   refine DW.seq (RK hnt (nn 2 []) [(4, ow 1264 s1.length)] [(1264, ob0 (roI s1))] trivial (by kernel_rfl) ?_)
   refine DW.ret ?_
   obtain rfl := Option.some.inj hm
   refine retOK (bs' := [roI s1]) [1264] (ow 0 s1.length) (by kernel_rfl) ?_ ?_
   · rfl
   · rfl

theorem Sound_ref7Spec (p0 : Hierarchy) (RES : Bool) (hm : Sound_ref7 p0 = some RES) : Spec Try.prog 82 [.p (.agg (encHierarchy p0))] [] (pB RES) [] [] := by
 unfold Sound_ref7 at hm
 refine spec_of Tgood (T := Tt) Try.func82 (by decide) (c := _) rfl rfl (sl := [(0, .p (.agg (encHierarchy p0)))]) (ob := []) (Nat.le_of_ble_eq_true rfl) (Nat.le_of_ble_eq_true rfl) (by kernel_rfl) (by kernel_rfl) ?_
 intro cx hnt
 refine DW.start ?_
 refine DW.seq (RK hnt (nn 2 []) [(1, rr 1008)] [(1008, bx (pm (encHierarchy p0)))] trivial (by kernel_rfl) ?_)
 obtain ⟨r1, hr1, hm⟩ := bind_open hm
 refine DW.seq (DW.seq (RK hnt (.no :: .call 24 [] true (pB r1) [] [] :: .no :: []) [(1, rr 1008), (7, pB (!r1))] [(1008, bx (pm (encHierarchy p0)))] (an (Check_ref6Spec p0 r1 hr1) trivial) (by kernel_rfl) ?_))
 refine DW.cond (!r1) rfl rfl ?_ ?_
 ·
  intro h2
  replace hm := if_t h2 hm
  refine DW.seq (RK hnt (.no :: []) [(2, pB false)] [] trivial (by kernel_rfl) ?_)
  refine DW.ret ?_
  obtain rfl := Option.some.inj hm
  refine retOK (bs' := []) [] (pB false) (by kernel_rfl) ?_ ?_
  · rfl
  · rfl
 ·
  intro h2
  replace hm := if_f h2 hm
  refine DW.skip ?_
  refine DW.seq (DW.seq (RK hnt (.no :: []) [(1, rr 1008), (3, pI 0)] [(1008, bx (pm (encHierarchy p0)))] trivial (by kernel_rfl) ?_))
  refine DW.block ?_
  obtain ⟨hc1, hm⟩ := guard_open hm
  refine DW.rangeO (fun (k1 : Nat) (s1 : Unit) => mkSt [(1, rr 1008), (3, pI ((k1 : Nat) : Int))] [(1008, bx (pm (encHierarchy p0)))]) dNode hm .refl ?_
  intro k1 s1 n1 hk1 hs1 he1
  refine DW.seq (DW.seq (RK hnt (nn 6 []) [(1, rr 1008), (3, pI ((k1 : Nat) : Int)), (13, pB (decide (((k1 : Nat) : Int) < ((p0.tree.nodes.length : Nat) : Int))))] [(1008, bx (pm (encHierarchy p0)))] trivial (by kernel_rfl) ?_))
  refine DW.cond (decide (((k1 : Nat) : Int) < ((p0.tree.nodes.length : Nat) : Int))) rfl rfl ?_ ?_
  ·
   intro h19
   have hlt1 : k1 < p0.tree.nodes.length := by have := of_decide_eq_true h19; omega
   have hm := hs1 hlt1
   unfold Sound_ref7L1 at hm
   refine DW.skip ?_
   refine DW.seq (DW.block ?_)
   refine DW.seq (RK hnt (nn 8 []) [(1, rr 1008), (3, pI ((k1 : Nat) : Int)), (4, rr 1032)] [(1008, bx (pm (encHierarchy p0))), (1032, bx (pm (encNode (p0.tree.nodes.getD k1 (default : Node)))))] (an (nn0 k1) (an (ltc hlt1) trivial)) (by kernel_rfl) ?_)
   obtain ⟨r20, hr20, hm⟩ := bind_open hm
   refine DW.seq ?_
   refine DW.join (ι := Bool) (fun (y3 : Bool) => mkSt [(1, rr 1008), (3, pI ((k1 : Nat) : Int)), (49, pB y3)] [(1008, bx (pm (encHierarchy p0)))]) (fun y3 => (Sound_ref7J3 n1) y3 = some RES) ?_ ?_
   ·
    intro y3 hm
    unfold Sound_ref7J3 at hm
    refine DW.cond y3 rfl rfl ?_ ?_
    ·
     intro h25
     replace hm := if_t h25 hm
     refine DW.seq (RK hnt (.no :: []) [(2, pB false)] [] trivial (by kernel_rfl) ?_)
     refine DW.ret ?_
     obtain rfl := Option.some.inj hm
     refine retOK (bs' := []) [] (pB false) (by kernel_rfl) ?_ ?_
     · rfl
     · rfl
    ·
     intro h25
     replace hm := if_f h25 hm
     refine DW.skip ?_
     refine DW.done ?_
     show DW _ _ _ _ _
     refine RK hnt (nn 3 []) [(1, rr 1008), (3, pI (w64 (((k1 : Nat) : Int) + 1)))] [(1008, bx (pm (encHierarchy p0)))] trivial (by kernel_rfl) ?_
     exact joinDone () ⟨hlt1, hm⟩ (Conv.tp [(3, pI (w64 (((k1 : Nat) : Int) + 1)))] [] (by kernel_rfl) (.cons rfl (.of_eq (congrArg pI (w64_succ hlt1 hc1))) .nil) .nil)
   ·
    rcases bt ((kandNot .i64 (p0.tree.nodes.getD k1 (default : Node)).control r20) != 0) with h21 | h21
    ·
     replace hm := if_t h21 hm
     refine RK hnt (nn 6 (.call 87 [] true (pI r20) [] [] :: nn 3 (sk 17 (pT :: [])))) [(1, rr 1008), (3, pI ((k1 : Nat) : Int)), (49, pB true)] [(1008, bx (pm (encHierarchy p0)))] (an (Available_ref7Spec p0.tree (p0.tree.nodes.getD k1 (default : Node)).id r20 hr20) (an2 h21 (an6 h21 trivial))) (by kernel_rfl) ?_
     exact joinDone true hm .refl
    ·
     replace hm := if_f h21 hm
     rcases bt ((p0.tree.nodes.getD k1 (default : Node)).id != 1) with h22 | h22
     ·
      replace hm := if_t h22 hm
      rcases bt ((kand .i64 (p0.tree.nodes.getD k1 (default : Node)).control 6) != 0) with h23 | h23
      ·
       replace hm := if_t h23 hm
       obtain ⟨r24, hr24, hm⟩ := bind_open hm
       refine RK hnt (nn 6 (.call 87 [] true (pI r20) [] [] :: nn 11 (pT :: nn 4 (.call 81 [] true (ow 0 r24.length) [] [roI r24] :: nn 2 (pT :: pF :: []))))) [(1, rr 1008), (3, pI ((k1 : Nat) : Int)), (49, pB (decide (((r24.length : Nat) : Int) > 0)))] [(1008, bx (pm (encHierarchy p0)))] (an (Available_ref7Spec p0.tree (p0.tree.nodes.getD k1 (default : Node)).id r20 hr20) (an4 h21 (an4 h22 (an h21 (an h22 (an h21 (an4 h23 (an (Tasks_ref6Spec p0 (p0.tree.nodes.getD k1 (default : Node)).id r24 hr24) (an2 h23 (an h21 (an h23 (an h21 trivial)))))))))))) (by kernel_rfl) ?_
       exact joinDone (decide (((r24.length : Nat) : Int) > 0)) hm .refl
      ·
       replace hm := if_f h23 hm
       refine RK hnt (nn 6 (.call 87 [] true (pI r20) [] [] :: nn 11 (pT :: .no :: sk 6 (pF :: pF :: [])))) [(1, rr 1008), (3, pI ((k1 : Nat) : Int)), (49, pB false)] [(1008, bx (pm (encHierarchy p0)))] (an (Available_ref7Spec p0.tree (p0.tree.nodes.getD k1 (default : Node)).id r20 hr20) (an4 h21 (an4 h22 (an h21 (an h22 (an h21 (an6 h23 (an h21 (an h23 (an h21 trivial)))))))))) (by kernel_rfl) ?_
       exact joinDone false hm .refl
     ·
      replace hm := if_f h22 hm
      refine RK hnt (nn 6 (.call 87 [] true (pI r20) [] [] :: nn 7 (sk 4 (pF :: .no :: sk 6 (pF :: pF :: []))))) [(1, rr 1008), (3, pI ((k1 : Nat) : Int)), (49, pB false)] [(1008, bx (pm (encHierarchy p0)))] (an (Available_ref7Spec p0.tree (p0.tree.nodes.getD k1 (default : Node)).id r20 hr20) (an4 h21 (an4 h22 (an h21 (an h22 (an h21 (an6 ff (an h21 (an ff (an h21 trivial)))))))))) (by kernel_rfl) ?_
      exact joinDone false hm .refl
  ·
   intro h19
   have hge1 : ¬ k1 < p0.tree.nodes.length := by have := of_decide_eq_false h19; omega
   have hm := he1 hge1
   unfold Sound_ref7D1 at hm
   refine DW.exit ?_
   refine joinQ_exit ?_
   refine KQ_exit ?_
   refine blockQ_exit ?_
   show DW _ _ _ _ _
   refine DW.seq (RK hnt (.no :: []) [(2, pB true)] [] trivial (by kernel_rfl) ?_)
   refine DW.ret ?_
   obtain rfl := Option.some.inj hm
   refine retOK (bs' := []) [] (pB true) (by kernel_rfl) ?_ ?_
   · rfl
   · rfl

theorem Find_ref6Spec (p0 : Hierarchy) (p1 : Int) (RES : Task × Bool) (hm : Find_ref6 p0 p1 = some RES) : Spec Try.prog 28 [.p (.agg (encHierarchy p0)), pI p1] [] (.p (.tup [.agg (encTask RES.1), vb RES.2])) [] [] := by
 unfold Find_ref6 at hm
 refine spec_of Tgood (T := Tt) Try.func28 (by decide) (c := _) rfl rfl (sl := [(0, .p (.agg (encHierarchy p0))), (1, pI p1)]) (ob := []) (Nat.le_of_ble_eq_true rfl) (Nat.le_of_ble_eq_true rfl) (by kernel_rfl) (by kernel_rfl) ?_
 intro cx hnt
 refine DW.start ?_
 refine DW.seq (RK hnt (nn 3 []) [(1, pI p1), (2, rr 1016), (4, rr 1032)] [(1016, bx (pm (encHierarchy p0))), (1032, bx [pI 0, pI 0, pI 0, pI 0])] trivial (by kernel_rfl) ?_)
 obtain ⟨r1, hr1, hm⟩ := bind_open hm
 refine DW.seq (DW.seq (RK hnt (.no :: .call 24 [] true (pB r1) [] [] :: .no :: []) [(1, pI p1), (2, rr 1016), (4, rr 1032), (9, pB (!r1))] [(1016, bx (pm (encHierarchy p0))), (1032, bx [pI 0, pI 0, pI 0, pI 0])] (an (Check_ref6Spec p0 r1 hr1) trivial) (by kernel_rfl) ?_))
 refine DW.cond (!r1) rfl rfl ?_ ?_
 ·
  intro h2
  replace hm := if_t h2 hm
  refine DW.seq (RK hnt (nn 3 []) [(4, rr 1032), (5, pB false)] [(1032, bx [pI 0, pI 0, pI 0, pI 0])] trivial (by kernel_rfl) ?_)
  refine DW.ret ?_
  obtain rfl := Option.some.inj hm
  refine retOK (bs' := []) [] (.p (.tup [.agg [vi 0, vi 0, vi 0, vi 0], vb false])) (by kernel_rfl) ?_ ?_
  · rfl
  · rfl
 ·
  intro h2
  replace hm := if_f h2 hm
  refine DW.skip ?_
  refine DW.seq (DW.seq (RK hnt (.no :: []) [(1, pI p1), (2, rr 1016), (4, rr 1032), (6, pI 0)] [(1016, bx (pm (encHierarchy p0))), (1032, bx [pI 0, pI 0, pI 0, pI 0])] trivial (by kernel_rfl) ?_))
  refine DW.block ?_
  obtain ⟨hc1, hm⟩ := guard_open hm
  refine DW.rangeO (fun (k1 : Nat) (s1 : Unit) => mkSt [(1, pI p1), (2, rr 1016), (4, rr 1032), (6, pI ((k1 : Nat) : Int))] [(1016, bx (pm (encHierarchy p0))), (1032, bx [pI 0, pI 0, pI 0, pI 0])]) dTask hm .refl ?_
  intro k1 s1 n1 hk1 hs1 he1
  refine DW.seq (DW.seq (RK hnt (nn 5 []) [(1, pI p1), (2, rr 1016), (4, rr 1032), (6, pI ((k1 : Nat) : Int)), (15, pB (decide (((k1 : Nat) : Int) < ((p0.tasks.length : Nat) : Int))))] [(1016, bx (pm (encHierarchy p0))), (1032, bx [pI 0, pI 0, pI 0, pI 0])] trivial (by kernel_rfl) ?_))
  refine DW.cond (decide (((k1 : Nat) : Int) < ((p0.tasks.length : Nat) : Int))) rfl rfl ?_ ?_
  ·
   intro h11
   have hlt1 : k1 < p0.tasks.length := by have := of_decide_eq_true h11; omega
   have hm := hs1 hlt1
   unfold Find_ref6L1 at hm
   refine DW.skip ?_
   refine DW.seq (DW.block ?_)
   refine DW.seq (RK hnt (nn 8 []) [(1, pI p1), (2, rr 1016), (4, rr 1032), (6, pI ((k1 : Nat) : Int)), (25, pB ((p0.tasks.getD k1 (default : Task)).id == p1))] [(1016, bx (pm (encHierarchy p0))), (1032, bx [pI 0, pI 0, pI 0, pI 0])] (an (nn0 k1) (an (ltc hlt1) trivial)) (by kernel_rfl) ?_)
   refine DW.cond ((p0.tasks.getD k1 (default : Task)).id == p1) rfl rfl ?_ ?_
   ·
    intro h12
    replace hm := if_t h12 hm
    refine DW.seq (RK hnt (nn 7 []) [(4, rr 1032), (5, pB true)] [(1032, bx (pm (encTask (p0.tasks.getD k1 (default : Task)))))] (an (nn0 k1) (an (ltc hlt1) trivial)) (by kernel_rfl) ?_)
    refine DW.ret ?_
    obtain rfl := Option.some.inj hm
    refine retOK (bs' := []) [] (.p (.tup [.agg (encTask (p0.tasks.getD k1 (default : Task))), vb true])) (by kernel_rfl) ?_ ?_
    · rfl
    · rfl
   ·
    intro h12
    replace hm := if_f h12 hm
    refine DW.skip ?_
    refine DW.done ?_
    show DW _ _ _ _ _
    refine RK hnt (nn 3 []) [(1, pI p1), (2, rr 1016), (4, rr 1032), (6, pI (w64 (((k1 : Nat) : Int) + 1)))] [(1016, bx (pm (encHierarchy p0))), (1032, bx [pI 0, pI 0, pI 0, pI 0])] trivial (by kernel_rfl) ?_
    exact joinDone () ⟨hlt1, hm⟩ (Conv.tp [(6, pI (w64 (((k1 : Nat) : Int) + 1)))] [] (by kernel_rfl) (.cons rfl (.of_eq (congrArg pI (w64_succ hlt1 hc1))) .nil) .nil)
  ·
   intro h11
   have hge1 : ¬ k1 < p0.tasks.length := by have := of_decide_eq_false h11; omega
   have hm := he1 hge1
   unfold Find_ref6D1 at hm
   refine DW.exit ?_
   refine joinQ_exit ?_
   refine KQ_exit ?_
   refine blockQ_exit ?_
   show DW _ _ _ _ _
   refine DW.seq (RK hnt (nn 3 []) [(4, rr 1032), (5, pB false)] [(1032, bx [pI 0, pI 0, pI 0, pI 0])] trivial (by kernel_rfl) ?_)
   refine DW.ret ?_
   obtain rfl := Option.some.inj hm
   refine retOK (bs' := []) [] (.p (.tup [.agg [vi 0, vi 0, vi 0, vi 0], vb false])) (by kernel_rfl) ?_ ?_
   · rfl
   · rfl

theorem Domain_ref8Spec (p0 : Tree) (p1 : Int) (RES : Int × Bool) (hm : Domain_ref8 p0 p1 = some RES) : Spec Try.prog 65 [.p (.agg (encTree p0)), pI p1] [] (.p (.tup [vi RES.1, vb RES.2])) [] [] := by
 unfold Domain_ref8 at hm
 refine spec_of Tgood (T := Tt) Try.func65 (by decide) (c := _) rfl rfl (sl := [(0, .p (.agg (encTree p0))), (1, pI p1)]) (ob := []) (Nat.le_of_ble_eq_true rfl) (Nat.le_of_ble_eq_true rfl) (by kernel_rfl) (by kernel_rfl) ?_
 intro cx hnt
 refine DW.start ?_
 refine DW.seq (RK hnt (nn 3 []) [(1, pI p1), (2, rr 1016)] [(1016, bx (pm (encTree p0)))] trivial (by kernel_rfl) ?_)
 obtain ⟨r1, hr1, hm⟩ := bind_open hm
 refine DW.seq (RK hnt (nn 2 (.call 17 [] true (ow 0 r1.length) [] [roI r1] :: .no :: [])) [(2, rr 1016), (6, ow 1096 r1.length)] [(1016, bx (pm (encTree p0))), (1096, ob0 (roI r1))] (an (Ancestors_ref5Spec p0 p1 r1 hr1) trivial) (by kernel_rfl) ?_)
 refine DW.seq (DW.seq (RK hnt (.no :: []) [(2, rr 1016), (6, ow 1096 r1.length), (7, pI 0)] [(1016, bx (pm (encTree p0))), (1096, ob0 (roI r1))] trivial (by kernel_rfl) ?_))
 refine DW.block ?_
 obtain ⟨hc1, hm⟩ := guard_open hm
 refine DW.rangeO (fun (k1 : Nat) (s1 : Unit) => mkSt [(2, rr 1016), (6, ow 1096 r1.length), (7, pI ((k1 : Nat) : Int))] [(1016, bx (pm (encTree p0))), (1096, ob0 (roI r1))]) 0 hm .refl ?_
 intro k1 s1 n1 hk1 hs1 he1
 refine DW.seq (DW.seq (RK hnt (nn 4 []) [(2, rr 1016), (6, ow 1096 r1.length), (7, pI ((k1 : Nat) : Int)), (16, pB (decide (((k1 : Nat) : Int) < ((r1.length : Nat) : Int))))] [(1016, bx (pm (encTree p0))), (1096, ob0 (roI r1))] trivial (by kernel_rfl) ?_))
 refine DW.cond (decide (((k1 : Nat) : Int) < ((r1.length : Nat) : Int))) rfl rfl ?_ ?_
 ·
  intro h16
  have hlt1 : k1 < r1.length := by have := of_decide_eq_true h16; omega
  have hm := hs1 hlt1
  unfold Domain_ref8L1 at hm
  refine DW.skip ?_
  refine DW.seq (DW.block ?_)
  obtain ⟨r17, hr17, hm⟩ := bind_open hm
  refine DW.seq (RK hnt (nn 5 (.call 51 [] true (.p (.tup [.agg (encNode r17.1), vb r17.2])) [] [] :: nn 6 [])) [(2, rr 1016), (6, ow 1096 r1.length), (7, pI ((k1 : Nat) : Int)), (8, rr 1064)] [(1016, bx (pm (encTree p0))), (1064, bx (pm (encNode r17.1))), (1096, ob0 (roI r1))] (an (nn0 k1) (an (ltc hlt1) (an (by omega : k1 < r1.length) (an (Find_ref5Spec p0 (r1.getD k1 0) r17 hr17) trivial)))) (by kernel_rfl) ?_)
  refine DW.seq (RK hnt (nn 3 []) [(2, rr 1016), (6, ow 1096 r1.length), (7, pI ((k1 : Nat) : Int)), (30, pB (r17.1.kind != 1))] [(1016, bx (pm (encTree p0))), (1096, ob0 (roI r1))] trivial (by kernel_rfl) ?_)
  refine DW.cond (r17.1.kind != 1) rfl rfl ?_ ?_
  ·
   intro h18
   replace hm := if_t h18 hm
   refine DW.seq (RK hnt (nn 6 []) [(4, pI (r1.getD k1 0)), (5, pB true)] [] (an (nn0 k1) (an (ltc hlt1) (an (by omega : k1 < r1.length) trivial))) (by kernel_rfl) ?_)
   refine DW.ret ?_
   obtain rfl := Option.some.inj hm
   refine retOK (bs' := []) [] (.p (.tup [vi (r1.getD k1 0), vb true])) (by kernel_rfl) ?_ ?_
   · rfl
   · rfl
  ·
   intro h18
   replace hm := if_f h18 hm
   refine DW.skip ?_
   refine DW.done ?_
   show DW _ _ _ _ _
   refine RK hnt (nn 3 []) [(2, rr 1016), (6, ow 1096 r1.length), (7, pI (w64 (((k1 : Nat) : Int) + 1)))] [(1016, bx (pm (encTree p0))), (1096, ob0 (roI r1))] trivial (by kernel_rfl) ?_
   exact joinDone () ⟨hlt1, hm⟩ (Conv.tp [(7, pI (w64 (((k1 : Nat) : Int) + 1)))] [] (by kernel_rfl) (.cons rfl (.of_eq (congrArg pI (w64_succ hlt1 hc1))) .nil) .nil)
 ·
  intro h16
  have hge1 : ¬ k1 < r1.length := by have := of_decide_eq_false h16; omega
  have hm := he1 hge1
  unfold Domain_ref8D1 at hm
  refine DW.exit ?_
  refine joinQ_exit ?_
  refine KQ_exit ?_
  refine blockQ_exit ?_
  show DW _ _ _ _ _
  refine DW.seq (RK hnt (nn 2 []) [(4, pI 0), (5, pB false)] [] trivial (by kernel_rfl) ?_)
  refine DW.ret ?_
  obtain rfl := Option.some.inj hm
  refine retOK (bs' := []) [] (.p (.tup [vi 0, vb false])) (by kernel_rfl) ?_ ?_
  · rfl
  · rfl

theorem Type_ref8BSpec (rec : Tree → Int → Option Int) (ih : ∀ (p0 : Tree) (p1 : Int) (RES : Int), rec p0 p1 = some RES → Spec Try.prog 64 [.p (.agg (encTree p0)), pI p1] [] (pI RES) [] []) (p0 : Tree) (p1 : Int) (RES : Int) (hm : Type_ref8B rec p0 p1 = some RES) : Spec Try.prog 64 [.p (.agg (encTree p0)), pI p1] [] (pI RES) [] [] := by
 unfold Type_ref8B at hm
 refine spec_of Tgood (T := Tt) Try.func64 (by decide) (c := _) rfl rfl (sl := [(0, .p (.agg (encTree p0))), (1, pI p1)]) (ob := []) (Nat.le_of_ble_eq_true rfl) (Nat.le_of_ble_eq_true rfl) (by kernel_rfl) (by kernel_rfl) ?_
 intro cx hnt
 refine DW.start ?_
 refine DW.seq (RK hnt (nn 2 []) [(1, pI p1), (2, rr 1016)] [(1016, bx (pm (encTree p0)))] trivial (by kernel_rfl) ?_)
 obtain ⟨r1, hr1, hm⟩ := bind_open hm
 refine DW.seq (RK hnt (nn 2 (.call 51 [] true (.p (.tup [.agg (encNode r1.1), vb r1.2])) [] [] :: nn 6 [])) [(1, pI p1), (2, rr 1016), (5, rr 1040), (6, pB r1.2)] [(1016, bx (pm (encTree p0))), (1040, bx (pm (encNode r1.1)))] (an (Find_ref5Spec p0 p1 r1 hr1) trivial) (by kernel_rfl) ?_)
 refine DW.seq (DW.seq (RK hnt (nn 2 []) [(1, pI p1), (2, rr 1016), (5, rr 1040), (20, pB (!r1.2))] [(1016, bx (pm (encTree p0))), (1040, bx (pm (encNode r1.1)))] trivial (by kernel_rfl) ?_))
 refine DW.cond (!r1.2) rfl rfl ?_ ?_
 ·
  intro h2
  replace hm := if_t h2 hm
  refine DW.seq (RK hnt (.no :: []) [(4, pI 0)] [] trivial (by kernel_rfl) ?_)
  refine DW.ret ?_
  obtain rfl := Option.some.inj hm
  refine retOK (bs' := []) [] (pI 0) (by kernel_rfl) ?_ ?_
  · rfl
  · rfl
 ·
  intro h2
  replace hm := if_f h2 hm
  refine DW.skip ?_
  refine DW.seq (DW.seq (RK hnt (nn 3 []) [(1, pI p1), (2, rr 1016), (5, rr 1040), (23, pB (r1.1.kind == 1))] [(1016, bx (pm (encTree p0))), (1040, bx (pm (encNode r1.1)))] trivial (by kernel_rfl) ?_))
  refine DW.cond (r1.1.kind == 1) rfl rfl ?_ ?_
  ·
   intro h3
   replace hm := if_t h3 hm
   refine DW.seq (RK hnt (.no :: []) [(4, pI 2)] [] trivial (by kernel_rfl) ?_)
   refine DW.ret ?_
   obtain rfl := Option.some.inj hm
   refine retOK (bs' := []) [] (pI 2) (by kernel_rfl) ?_ ?_
   · rfl
   · rfl
  ·
   intro h3
   replace hm := if_f h3 hm
   refine DW.skip ?_
   obtain ⟨r4, hr4, hm⟩ := bind_open hm
   refine DW.seq (DW.seq (RK hnt (nn 3 (.call 51 [] true (.p (.tup [.agg (encNode r4.1), vb r4.2])) [] [] :: nn 6 [])) [(1, pI p1), (2, rr 1016), (7, rr 1056), (8, pB r4.2)] [(1016, bx (pm (encTree p0))), (1056, bx (pm (encNode r4.1)))] (an (Find_ref5Spec p0 r1.1.parent r4 hr4) trivial) (by kernel_rfl) ?_))
   refine DW.seq ?_
   refine DW.join (ι := Bool) (fun (y1 : Bool) => mkSt [(1, pI p1), (2, rr 1016), (43, pB y1)] [(1016, bx (pm (encTree p0)))]) (fun y1 => (Type_ref8J1 p0 p1) y1 = some RES) ?_ ?_
   ·
    intro y1 hm
    unfold Type_ref8J1 at hm
    refine DW.cond y1 rfl rfl ?_ ?_
    ·
     intro h8
     replace hm := if_t h8 hm
     refine DW.seq (RK hnt (.no :: []) [(4, pI 3)] [] trivial (by kernel_rfl) ?_)
     refine DW.ret ?_
     obtain rfl := Option.some.inj hm
     refine retOK (bs' := []) [] (pI 3) (by kernel_rfl) ?_ ?_
     · rfl
     · rfl
    ·
     intro h8
     replace hm := if_f h8 hm
     refine DW.skip ?_
     obtain ⟨r9, hr9, hm⟩ := bind_open hm
     refine DW.seq (RK hnt (nn 2 (.call 79 [] true (ow 0 r9.length) [] [roI r9] :: .no :: [])) [(2, rr 1016), (9, ow 1368 r9.length)] [(1016, bx (pm (encTree p0))), (1368, ob0 (roI r9))] (an (Children_ref5Spec p0 p1 r9 hr9) trivial) (by kernel_rfl) ?_)
     refine DW.seq (DW.seq (RK hnt (.no :: []) [(2, rr 1016), (9, ow 1368 r9.length), (10, pI 0)] [(1016, bx (pm (encTree p0))), (1368, ob0 (roI r9))] trivial (by kernel_rfl) ?_))
     refine DW.block ?_
     obtain ⟨hc1, hm⟩ := guard_open hm
     refine DW.rangeO (fun (k1 : Nat) (s1 : Unit) => mkSt [(2, rr 1016), (9, ow 1368 r9.length), (10, pI ((k1 : Nat) : Int))] [(1016, bx (pm (encTree p0))), (1368, ob0 (roI r9))]) 0 hm .refl ?_
     intro k1 s1 n1 hk1 hs1 he1
     refine DW.seq (DW.seq (RK hnt (nn 4 []) [(2, rr 1016), (9, ow 1368 r9.length), (10, pI ((k1 : Nat) : Int)), (50, pB (decide (((k1 : Nat) : Int) < ((r9.length : Nat) : Int))))] [(1016, bx (pm (encTree p0))), (1368, ob0 (roI r9))] trivial (by kernel_rfl) ?_))
     refine DW.cond (decide (((k1 : Nat) : Int) < ((r9.length : Nat) : Int))) rfl rfl ?_ ?_
     ·
      intro h20
      have hlt1 : k1 < r9.length := by have := of_decide_eq_true h20; omega
      have hm := hs1 hlt1
      unfold Type_ref8L1 at hm
      refine DW.skip ?_
      refine DW.seq (DW.block ?_)
      obtain ⟨r21, hr21, hm⟩ := bind_open hm
      refine DW.seq (RK hnt (nn 5 (.call 51 [] true (.p (.tup [.agg (encNode r21.1), vb r21.2])) [] [] :: nn 6 [])) [(2, rr 1016), (9, ow 1368 r9.length), (10, pI ((k1 : Nat) : Int)), (11, rr 1088)] [(1016, bx (pm (encTree p0))), (1088, bx (pm (encNode r21.1))), (1368, ob0 (roI r9))] (an (nn0 k1) (an (ltc hlt1) (an (by omega : k1 < r9.length) (an (Find_ref5Spec p0 (r9.getD k1 0) r21 hr21) trivial)))) (by kernel_rfl) ?_)
      refine DW.seq (RK hnt (nn 3 []) [(2, rr 1016), (9, ow 1368 r9.length), (10, pI ((k1 : Nat) : Int)), (64, pB (r21.1.kind == 1))] [(1016, bx (pm (encTree p0))), (1368, ob0 (roI r9))] trivial (by kernel_rfl) ?_)
      refine DW.cond (r21.1.kind == 1) rfl rfl ?_ ?_
      ·
       intro h22
       replace hm := if_t h22 hm
       refine DW.seq (RK hnt (.no :: []) [(4, pI 1)] [] trivial (by kernel_rfl) ?_)
       refine DW.ret ?_
       obtain rfl := Option.some.inj hm
       refine retOK (bs' := []) [] (pI 1) (by kernel_rfl) ?_ ?_
       · rfl
       · rfl
      ·
       intro h22
       replace hm := if_f h22 hm
       refine DW.skip ?_
       refine DW.done ?_
       show DW _ _ _ _ _
       refine RK hnt (nn 3 []) [(2, rr 1016), (9, ow 1368 r9.length), (10, pI (w64 (((k1 : Nat) : Int) + 1)))] [(1016, bx (pm (encTree p0))), (1368, ob0 (roI r9))] trivial (by kernel_rfl) ?_
       exact joinDone () ⟨hlt1, hm⟩ (Conv.tp [(10, pI (w64 (((k1 : Nat) : Int) + 1)))] [] (by kernel_rfl) (.cons rfl (.of_eq (congrArg pI (w64_succ hlt1 hc1))) .nil) .nil)
     ·
      intro h20
      have hge1 : ¬ k1 < r9.length := by have := of_decide_eq_false h20; omega
      have hm := he1 hge1
      unfold Type_ref8D1 at hm
      refine DW.exit ?_
      refine joinQ_exit ?_
      refine KQ_exit ?_
      refine blockQ_exit ?_
      show DW _ _ _ _ _
      refine DW.seq (RK hnt (.no :: []) [(4, pI 0)] [] trivial (by kernel_rfl) ?_)
      refine DW.ret ?_
      obtain rfl := Option.some.inj hm
      refine retOK (bs' := []) [] (pI 0) (by kernel_rfl) ?_ ?_
      · rfl
      · rfl
   ·
    rcases bt r4.2 with h5 | h5
    ·
     replace hm := if_t h5 hm
     rcases bt (r4.1.kind == 1) with h6 | h6
     ·
      replace hm := if_t h6 hm
      refine RK hnt (nn 6 (sk 5 (pT :: pT :: []))) [(1, pI p1), (2, rr 1016), (43, pB true)] [(1016, bx (pm (encTree p0)))] (an4 h5 (an5 h6 (an h5 (an h6 (an h5 trivial))))) (by kernel_rfl) ?_
      exact joinDone true hm .refl
     ·
      replace hm := if_f h6 hm
      obtain ⟨r7, hr7, hm⟩ := bind_open hm
      refine RK hnt (nn 9 (.call 64 [] true (pI r7) [] [] :: .no :: pF :: pT :: [])) [(1, pI p1), (2, rr 1016), (43, pB (r7 == 3))] [(1016, bx (pm (encTree p0)))] (an4 h5 (an4 h6 (an (ih p0 r4.1.id r7 hr7) (an h6 (an h5 (an h6 (an h5 trivial))))))) (by kernel_rfl) ?_
      exact joinDone (r7 == 3) hm .refl
    ·
     replace hm := if_f h5 hm
     refine RK hnt (nn 2 (sk 10 (pF :: []))) [(1, pI p1), (2, rr 1016), (43, pB false)] [(1016, bx (pm (encTree p0)))] (an6 h5 trivial) (by kernel_rfl) ?_
     exact joinDone false hm .refl
theorem Type_ref8FSpec : ∀ (n : Nat) (p0 : Tree) (p1 : Int) (RES : Int), Type_ref8F n p0 p1 = some RES → Spec Try.prog 64 [.p (.agg (encTree p0)), pI p1] [] (pI RES) [] []
  | 0, p0, p1, RES, hm => by simp [Type_ref8F] at hm
  | n + 1, p0, p1, RES, hm => Type_ref8BSpec (Type_ref8F n) (Type_ref8FSpec n) p0 p1 RES hm
theorem Type_ref8Spec (p0 : Tree) (p1 : Int) (RES : Int) (hm : Type_ref8 p0 p1 = some RES) : Spec Try.prog 64 [.p (.agg (encTree p0)), pI p1] [] (pI RES) [] [] := Type_ref8FSpec FUEL p0 p1 RES hm

theorem Fits_ref8Spec (p0 : Hierarchy) (RES : Bool) (hm : Fits_ref8 p0 = some RES) : Spec Try.prog 63 [.p (.agg (encHierarchy p0))] [] (pB RES) [] [] := by
 unfold Fits_ref8 at hm
 refine spec_of Tgood (T := Tt) Try.func63 (by decide) (c := _) rfl rfl (sl := [(0, .p (.agg (encHierarchy p0)))]) (ob := []) (Nat.le_of_ble_eq_true rfl) (Nat.le_of_ble_eq_true rfl) (by kernel_rfl) (by kernel_rfl) ?_
 intro cx hnt
 refine DW.start ?_
 refine DW.seq (RK hnt (nn 2 []) [(1, rr 1008)] [(1008, bx (pm (encHierarchy p0)))] trivial (by kernel_rfl) ?_)
 obtain ⟨r1, hr1, hm⟩ := bind_open hm
 refine DW.seq (DW.seq (RK hnt (.no :: .call 82 [] true (pB r1) [] [] :: .no :: []) [(1, rr 1008), (16, pB (!r1))] [(1008, bx (pm (encHierarchy p0)))] (an (Sound_ref7Spec p0 r1 hr1) trivial) (by kernel_rfl) ?_))
 refine DW.cond (!r1) rfl rfl ?_ ?_
 ·
  intro h2
  replace hm := if_t h2 hm
  refine DW.seq (RK hnt (.no :: []) [(2, pB false)] [] trivial (by kernel_rfl) ?_)
  refine DW.ret ?_
  obtain rfl := Option.some.inj hm
  refine retOK (bs' := []) [] (pB false) (by kernel_rfl) ?_ ?_
  · rfl
  · rfl
 ·
  intro h2
  replace hm := if_f h2 hm
  refine DW.skip ?_
  refine DW.seq (DW.seq (RK hnt (.no :: []) [(1, rr 1008), (3, pI 0)] [(1008, bx (pm (encHierarchy p0)))] trivial (by kernel_rfl) ?_))
  refine DW.block ?_
  obtain ⟨hc1, hm⟩ := guard_open hm
  refine DW.rangeO (fun (k1 : Nat) (s1 : Unit) => mkSt [(1, rr 1008), (3, pI ((k1 : Nat) : Int))] [(1008, bx (pm (encHierarchy p0)))]) dTask hm .refl ?_
  intro k1 s1 n1 hk1 hs1 he1
  refine DW.seq (DW.seq (RK hnt (nn 5 []) [(1, rr 1008), (3, pI ((k1 : Nat) : Int)), (21, pB (decide (((k1 : Nat) : Int) < ((p0.tasks.length : Nat) : Int))))] [(1008, bx (pm (encHierarchy p0)))] trivial (by kernel_rfl) ?_))
  refine DW.cond (decide (((k1 : Nat) : Int) < ((p0.tasks.length : Nat) : Int))) rfl rfl ?_ ?_
  ·
   intro h99
   have hlt1 : k1 < p0.tasks.length := by have := of_decide_eq_true h99; omega
   have hm := hs1 hlt1
   unfold Fits_ref8L1 at hm
   refine DW.skip ?_
   refine DW.seq (DW.block ?_)
   obtain ⟨r100, hr100, hm⟩ := bind_open hm
   refine DW.seq (RK hnt (nn 7 (.call 28 [] true (.p (.tup [.agg (encTask r100.1), vb r100.2])) [] [] :: nn 6 [])) [(1, rr 1008), (3, pI ((k1 : Nat) : Int)), (4, rr 1032)] [(1008, bx (pm (encHierarchy p0))), (1032, bx (pm (encTask r100.1)))] (an (nn0 k1) (an (ltc hlt1) (an (Find_ref6Spec p0 (p0.tasks.getD k1 (default : Task)).process r100 hr100) trivial))) (by kernel_rfl) ?_)
   obtain ⟨r101, hr101, hm⟩ := bind_open hm
   refine DW.seq (RK hnt (nn 8 (.call 65 [] true (.p (.tup [vi r101.1, vb r101.2])) [] [] :: nn 5 [])) [(1, rr 1008), (3, pI ((k1 : Nat) : Int)), (4, rr 1032), (6, pI r101.1)] [(1008, bx (pm (encHierarchy p0))), (1032, bx (pm (encTask r100.1)))] (an (nn0 k1) (an (ltc hlt1) (an (Domain_ref8Spec p0.tree (p0.tasks.getD k1 (default : Task)).group r101 hr101) trivial))) (by kernel_rfl) ?_)
   obtain ⟨r102, hr102, hm⟩ := bind_open hm
   refine DW.seq (RK hnt (nn 4 (.call 65 [] true (.p (.tup [vi r102.1, vb r102.2])) [] [] :: nn 5 [])) [(1, rr 1008), (3, pI ((k1 : Nat) : Int)), (6, pI r101.1), (8, pI r102.1)] [(1008, bx (pm (encHierarchy p0)))] (an (Domain_ref8Spec p0.tree r100.1.group r102 hr102) trivial) (by kernel_rfl) ?_)
   refine DW.seq (RK hnt (nn 3 []) [(1, rr 1008), (3, pI ((k1 : Nat) : Int)), (57, pB (r101.1 != r102.1))] [(1008, bx (pm (encHierarchy p0)))] trivial (by kernel_rfl) ?_)
   refine DW.cond (r101.1 != r102.1) rfl rfl ?_ ?_
   ·
    intro h103
    replace hm := if_t h103 hm
    refine DW.seq (RK hnt (.no :: []) [(2, pB false)] [] trivial (by kernel_rfl) ?_)
    refine DW.ret ?_
    obtain rfl := Option.some.inj hm
    refine retOK (bs' := []) [] (pB false) (by kernel_rfl) ?_ ?_
    · rfl
    · rfl
   ·
    intro h103
    replace hm := if_f h103 hm
    refine DW.skip ?_
    refine DW.done ?_
    show DW _ _ _ _ _
    refine RK hnt (nn 3 []) [(1, rr 1008), (3, pI (w64 (((k1 : Nat) : Int) + 1)))] [(1008, bx (pm (encHierarchy p0)))] trivial (by kernel_rfl) ?_
    exact joinDone () ⟨hlt1, hm⟩ (Conv.tp [(3, pI (w64 (((k1 : Nat) : Int) + 1)))] [] (by kernel_rfl) (.cons rfl (.of_eq (congrArg pI (w64_succ hlt1 hc1))) .nil) .nil)
  ·
   intro h99
   have hge1 : ¬ k1 < p0.tasks.length := by have := of_decide_eq_false h99; omega
   have hm := he1 hge1
   unfold Fits_ref8D1 at hm
   refine DW.exit ?_
   refine joinQ_exit ?_
   refine KQ_exit ?_
   refine blockQ_exit ?_
   show DW _ _ _ _ _
   refine DW.seq (DW.seq (RK hnt (.no :: []) [(1, rr 1008), (10, pI 0)] [(1008, bx (pm (encHierarchy p0)))] trivial (by kernel_rfl) ?_))
   refine DW.block ?_
   obtain ⟨hc4, hm⟩ := guard_open hm
   refine DW.rangeO (fun (k4 : Nat) (s4 : Unit) => mkSt [(1, rr 1008), (10, pI ((k4 : Nat) : Int))] [(1008, bx (pm (encHierarchy p0)))]) dNode hm .refl ?_
   intro k4 s4 n4 hk4 hs4 he4
   refine DW.seq (DW.seq (RK hnt (nn 6 []) [(1, rr 1008), (10, pI ((k4 : Nat) : Int)), (63, pB (decide (((k4 : Nat) : Int) < ((p0.tree.nodes.length : Nat) : Int))))] [(1008, bx (pm (encHierarchy p0)))] trivial (by kernel_rfl) ?_))
   refine DW.cond (decide (((k4 : Nat) : Int) < ((p0.tree.nodes.length : Nat) : Int))) rfl rfl ?_ ?_
   ·
    intro h132
    have hlt4 : k4 < p0.tree.nodes.length := by have := of_decide_eq_true h132; omega
    have hm := hs4 hlt4
    unfold Fits_ref8L4 at hm
    refine DW.skip ?_
    refine DW.seq (DW.block ?_)
    refine DW.seq (RK hnt (nn 8 []) [(1, rr 1008), (10, pI ((k4 : Nat) : Int)), (11, rr 1088)] [(1008, bx (pm (encHierarchy p0))), (1088, bx (pm (encNode (p0.tree.nodes.getD k4 (default : Node)))))] (an (nn0 k4) (an (ltc hlt4) trivial)) (by kernel_rfl) ?_)
    obtain ⟨r133, hr133, hm⟩ := bind_open hm
    refine DW.seq (RK hnt (nn 4 (.call 51 [] true (.p (.tup [.agg (encNode r133.1), vb r133.2])) [] [] :: nn 6 [])) [(1, rr 1008), (10, pI ((k4 : Nat) : Int)), (11, rr 1088), (12, rr 1096)] [(1008, bx (pm (encHierarchy p0))), (1088, bx (pm (encNode (p0.tree.nodes.getD k4 (default : Node))))), (1096, bx (pm (encNode r133.1)))] (an (Find_ref5Spec p0.tree (p0.tree.nodes.getD k4 (default : Node)).parent r133 hr133) trivial) (by kernel_rfl) ?_)
    obtain ⟨r134, hr134, hm⟩ := bind_open hm
    refine DW.seq (DW.seq ?_)
    refine DW.join (ι := Bool) (fun (y17 : Bool) => mkSt [(1, rr 1008), (10, pI ((k4 : Nat) : Int)), (11, rr 1088), (12, rr 1096), (98, pB y17)] [(1008, bx (pm (encHierarchy p0))), (1088, bx (pm (encNode (p0.tree.nodes.getD k4 (default : Node))))), (1096, bx (pm (encNode r133.1)))]) (fun y17 => (Fits_ref8J17 p0 (p0.tree.nodes.getD k4 (default : Node)) n4 r133) y17 = some RES) ?_ ?_
    ·
     intro y17 hm
     unfold Fits_ref8J17 at hm
     refine DW.cond y17 rfl rfl ?_ ?_
     ·
      intro h138
      replace hm := if_t h138 hm
      refine DW.seq (RK hnt (.no :: []) [(2, pB false)] [] trivial (by kernel_rfl) ?_)
      refine DW.ret ?_
      obtain rfl := Option.some.inj hm
      refine retOK (bs' := []) [] (pB false) (by kernel_rfl) ?_ ?_
      · rfl
      · rfl
     ·
      intro h138
      replace hm := if_f h138 hm
      refine DW.skip ?_
      refine DW.seq ?_
      refine DW.join (ι := Bool) (fun (y18 : Bool) => mkSt [(1, rr 1008), (10, pI ((k4 : Nat) : Int)), (120, pB y18)] [(1008, bx (pm (encHierarchy p0)))]) (fun y18 => (Fits_ref8J18 n4) y18 = some RES) ?_ ?_
      ·
       intro y18 hm
       unfold Fits_ref8J18 at hm
       refine DW.cond y18 rfl rfl ?_ ?_
       ·
        intro h144
        replace hm := if_t h144 hm
        refine DW.seq (RK hnt (.no :: []) [(2, pB false)] [] trivial (by kernel_rfl) ?_)
        refine DW.ret ?_
        obtain rfl := Option.some.inj hm
        refine retOK (bs' := []) [] (pB false) (by kernel_rfl) ?_ ?_
        · rfl
        · rfl
       ·
        intro h144
        replace hm := if_f h144 hm
        refine DW.skip ?_
        refine DW.done ?_
        show DW _ _ _ _ _
        refine RK hnt (nn 3 []) [(1, rr 1008), (10, pI (w64 (((k4 : Nat) : Int) + 1)))] [(1008, bx (pm (encHierarchy p0)))] trivial (by kernel_rfl) ?_
        exact joinDone () ⟨hlt4, hm⟩ (Conv.tp [(10, pI (w64 (((k4 : Nat) : Int) + 1)))] [] (by kernel_rfl) (.cons rfl (.of_eq (congrArg pI (w64_succ hlt4 hc4))) .nil) .nil)
      ·
       rcases bt ((p0.tree.nodes.getD k4 (default : Node)).kind == 1) with h139 | h139
       ·
        replace hm := if_t h139 hm
        rcases bt (r133.1.id != 1) with h140 | h140
        ·
         replace hm := if_t h140 hm
         rcases bt ((kand .i64 r133.1.control 6) != 0) with h141 | h141
         ·
          replace hm := if_t h141 hm
          refine RK hnt (nn 12 (pT :: .no :: sk 6 (pT :: pT :: []))) [(1, rr 1008), (10, pI ((k4 : Nat) : Int)), (120, pB true)] [(1008, bx (pm (encHierarchy p0)))] (an4 h139 (an4 h140 (an h139 (an h140 (an h139 (an6 h141 (an h139 (an h141 (an h139 trivial))))))))) (by kernel_rfl) ?_
          exact joinDone true hm .refl
         ·
          replace hm := if_f h141 hm
          obtain ⟨r142, hr142, hm⟩ := bind_open hm
          refine RK hnt (nn 12 (pT :: nn 5 (.call 64 [] true (pI r142) [] [] :: .no :: pF :: pT :: []))) [(1, rr 1008), (10, pI ((k4 : Nat) : Int)), (120, pB (r142 == 3))] [(1008, bx (pm (encHierarchy p0)))] (an4 h139 (an4 h140 (an h139 (an h140 (an h139 (an5 h141 (an (Type_ref8Spec p0.tree r133.1.id r142 hr142) (an h141 (an h139 (an h141 (an h139 trivial))))))))))) (by kernel_rfl) ?_
          exact joinDone (r142 == 3) hm .refl
        ·
         replace hm := if_f h140 hm
         obtain ⟨r143, hr143, hm⟩ := bind_open hm
         refine RK hnt (nn 8 (sk 4 (pF :: nn 5 (.call 64 [] true (pI r143) [] [] :: .no :: pF :: pT :: [])))) [(1, rr 1008), (10, pI ((k4 : Nat) : Int)), (120, pB (r143 == 3))] [(1008, bx (pm (encHierarchy p0)))] (an4 h139 (an4 h140 (an h139 (an h140 (an h139 (an5 ff (an (Type_ref8Spec p0.tree r133.1.id r143 hr143) (an ff (an h139 (an ff (an h139 trivial))))))))))) (by kernel_rfl) ?_
         exact joinDone (r143 == 3) hm .refl
       ·
        replace hm := if_f h139 hm
        refine RK hnt (nn 4 (sk 17 (pF :: []))) [(1, rr 1008), (10, pI ((k4 : Nat) : Int)), (120, pB false)] [(1008, bx (pm (encHierarchy p0)))] (an2 h139 (an6 h139 trivial)) (by kernel_rfl) ?_
        exact joinDone false hm .refl
    ·
     rcases bt (r134 == 3) with h135 | h135
     ·
      replace hm := if_t h135 hm
      rcases bt ((p0.tree.nodes.getD k4 (default : Node)).control != 0) with h136 | h136
      ·
       replace hm := if_t h136 hm
       refine RK hnt (nn 4 (.call 64 [] true (pI r134) [] [] :: nn 6 (sk 6 (pT :: pT :: [])))) [(1, rr 1008), (10, pI ((k4 : Nat) : Int)), (11, rr 1088), (12, rr 1096), (98, pB true)] [(1008, bx (pm (encHierarchy p0))), (1088, bx (pm (encNode (p0.tree.nodes.getD k4 (default : Node))))), (1096, bx (pm (encNode r133.1)))] (an (Type_ref8Spec p0.tree (p0.tree.nodes.getD k4 (default : Node)).id r134 hr134) (an4 h135 (an6 h136 (an h135 (an h136 (an h135 trivial)))))) (by kernel_rfl) ?_
       exact joinDone true hm .refl
      ·
       replace hm := if_f h136 hm
       obtain ⟨r137, hr137, hm⟩ := bind_open hm
       refine RK hnt (nn 4 (.call 64 [] true (pI r134) [] [] :: nn 9 (.call 81 [] true (ow 0 r137.length) [] [roI r137] :: nn 2 (pF :: pT :: [])))) [(1, rr 1008), (10, pI ((k4 : Nat) : Int)), (11, rr 1088), (12, rr 1096), (98, pB (decide (((r137.length : Nat) : Int) > 0)))] [(1008, bx (pm (encHierarchy p0))), (1088, bx (pm (encNode (p0.tree.nodes.getD k4 (default : Node))))), (1096, bx (pm (encNode r133.1)))] (an (Type_ref8Spec p0.tree (p0.tree.nodes.getD k4 (default : Node)).id r134 hr134) (an4 h135 (an4 h136 (an (Tasks_ref6Spec p0 (p0.tree.nodes.getD k4 (default : Node)).id r137 hr137) (an2 h136 (an h135 (an h136 (an h135 trivial)))))))) (by kernel_rfl) ?_
       exact joinDone (decide (((r137.length : Nat) : Int) > 0)) hm .refl
     ·
      replace hm := if_f h135 hm
      refine RK hnt (nn 4 (.call 64 [] true (pI r134) [] [] :: nn 2 (sk 11 (pF :: [])))) [(1, rr 1008), (10, pI ((k4 : Nat) : Int)), (11, rr 1088), (12, rr 1096), (98, pB false)] [(1008, bx (pm (encHierarchy p0))), (1088, bx (pm (encNode (p0.tree.nodes.getD k4 (default : Node))))), (1096, bx (pm (encNode r133.1)))] (an (Type_ref8Spec p0.tree (p0.tree.nodes.getD k4 (default : Node)).id r134 hr134) (an6 h135 trivial)) (by kernel_rfl) ?_
      exact joinDone false hm .refl
   ·
    intro h132
    have hge4 : ¬ k4 < p0.tree.nodes.length := by have := of_decide_eq_false h132; omega
    have hm := he4 hge4
    unfold Fits_ref8D4 at hm
    refine DW.exit ?_
    refine joinQ_exit ?_
    refine KQ_exit ?_
    refine blockQ_exit ?_
    show DW _ _ _ _ _
    refine DW.seq (RK hnt (.no :: []) [(2, pB true)] [] trivial (by kernel_rfl) ?_)
    refine DW.ret ?_
    obtain rfl := Option.some.inj hm
    refine retOK (bs' := []) [] (pB true) (by kernel_rfl) ?_ ?_
    · rfl
    · rfl

theorem Set_ref7Spec (p0 : Int) (RES : Bool) (hm : Set_ref7 p0 = some RES) : Spec Try.prog 86 [pI p0] [] (pB RES) [] [] := by
 unfold Set_ref7 at hm
 refine spec_of Tgood (T := Tt) Try.func86 (by decide) (c := _) rfl rfl (sl := [(0, pI p0)]) (ob := []) (Nat.le_of_ble_eq_true rfl) (Nat.le_of_ble_eq_true rfl) (by kernel_rfl) (by kernel_rfl) ?_
 intro cx hnt
 refine DW.start ?_
 refine DW.seq (RK hnt (.no :: []) [(0, pI p0)] [] trivial (by kernel_rfl) ?_)
 refine DW.seq (DW.regJ (sl2 := [(2, pB ((decide (p0 ≥ 0)) && (decide (p0 ≤ 31))))]) (ob2 := []) ?_ ?_)
 ·
  rcases bt (decide (p0 ≥ 0)) with h1 | h1
  ·
   exact RT hnt (nn 5 (pT :: .no :: [])) [(2, pB (decide (p0 ≤ 31)))] (an3 h1 trivial) (by kernel_rfl) (.cons rfl (.of_eq (by rw [h1]; try rfl)) .nil)
  ·
   exact RT hnt (nn 3 (sk 2 (pF :: .no :: []))) [(2, pB false)] (an3 h1 trivial) (by kernel_rfl) (.cons rfl (.of_eq (by rw [h1]; try rfl)) .nil)
 ·
  refine DW.ret ?_
  obtain rfl := Option.some.inj hm
  refine retOK (bs' := []) [] (pB ((decide (p0 ≥ 0)) && (decide (p0 ≤ 31)))) (by kernel_rfl) ?_ ?_
  · rfl
  · rfl

theorem Copy_ref6Spec (p0 : Hierarchy) (RES : Hierarchy) (hm : Copy_ref6 p0 = some RES) : Spec Try.prog 52 [.p (.agg (encHierarchy p0))] [] (.agg [ow 0 RES.tree.nodes.length, pI RES.tree.next, ow 1 RES.tasks.length, pI RES.next]) [] [roNode RES.tree.nodes, roTask RES.tasks] := by
 unfold Copy_ref6 at hm
 refine spec_of Tgood (T := Tt) Try.func52 (by decide) (c := _) rfl rfl (sl := [(0, .p (.agg (encHierarchy p0)))]) (ob := []) (Nat.le_of_ble_eq_true rfl) (Nat.le_of_ble_eq_true rfl) (by kernel_rfl) (by kernel_rfl) ?_
 intro cx hnt
 refine DW.start ?_
 refine DW.seq (RK hnt (nn 2 []) [(1, rr 1008), (2, rr 1016)] [(1008, bx (pm (encHierarchy p0))), (1016, bx [.p (.sl .nil 0 0 (fun _ => [])), pI 0, .p (.sl .nil 0 0 (fun _ => [])), pI 0])] trivial (by kernel_rfl) ?_)
 obtain ⟨r1, hr1, hm⟩ := bind_open hm
 obtain ⟨g2, hm⟩ := guard_open hm
 refine DW.seq (RN hnt (nn 2 (.call 67 [] true (.agg [ow 0 r1.nodes.length, pI r1.next]) [] [roNode r1.nodes] :: nn 7 [])) [(2, rr 1016)] [(1016, bx [ow 1040 r1.nodes.length, pI r1.next, ow 1064 p0.tasks.length, pI p0.next]), (1040, ob0 (roNode r1.nodes)), (1064, ob0 (roTask p0.tasks))] [] [(1064, .row 4 p0.tasks.length (elTask p0.tasks))] (an (Copy_ref5Spec p0.tree r1 hr1) (an (by omega : p0.tasks.length * 32 ≤ 140737488355328) trivial)) (by kernel_rfl) .nil (.cons rfl (BLe.typed RowIs.elems) .nil) ?_)
 refine DW.ret ?_
 obtain rfl := Option.some.inj hm
 refine retOK (bs' := [roNode r1.nodes, roTask p0.tasks]) [1040, 1064] (.agg [ow 0 r1.nodes.length, pI r1.next, ow 1 p0.tasks.length, pI p0.next]) (by kernel_rfl) ?_ ?_
 · rfl
 · rfl

theorem Set_ref5Spec (p0 : Tree) (p1 : Node) (RES : Tree) (hm : Set_ref5 p0 p1 = some RES) : Spec Try.prog 62 [.p (.agg (encTree p0)), .p (.agg (encNode p1))] [] (.agg [ow 0 RES.nodes.length, pI RES.next]) [] [roNode RES.nodes] := by
 unfold Set_ref5 at hm
 refine spec_of Tgood (T := Tt) Try.func62 (by decide) (c := _) rfl rfl (sl := [(0, .p (.agg (encTree p0))), (1, .p (.agg (encNode p1)))]) (ob := []) (Nat.le_of_ble_eq_true rfl) (Nat.le_of_ble_eq_true rfl) (by kernel_rfl) (by kernel_rfl) ?_
 intro cx hnt
 refine DW.start ?_
 refine DW.seq (RK hnt (nn 3 []) [(2, rr 1016), (3, rr 1024), (4, rr 1032)] [(1016, bx (pm (encTree p0))), (1024, bx (pm (encNode p1))), (1032, bx [.p (.sl .nil 0 0 (fun _ => [])), pI 0])] trivial (by kernel_rfl) ?_)
 obtain ⟨r1, hr1, hm⟩ := bind_open hm
 refine DW.seq (RK hnt (.no :: .call 67 [] true (.agg [ow 0 r1.nodes.length, pI r1.next]) [] [roNode r1.nodes] :: nn 2 []) [(3, rr 1024), (4, rr 1032), (5, rr 1040)] [(1024, bx (pm (encNode p1))), (1032, bx [.p (.sl .nil 0 0 (fun _ => [])), pI 0]), (1040, bx [ow 1064 r1.nodes.length, pI r1.next]), (1064, ob0 (roNode r1.nodes))] (an (Copy_ref5Spec p0 r1 hr1) trivial) (by kernel_rfl) ?_)
 refine DW.seq (DW.seq (RK hnt (.no :: []) [(3, rr 1024), (4, rr 1032), (5, rr 1040), (6, pI 0)] [(1024, bx (pm (encNode p1))), (1032, bx [.p (.sl .nil 0 0 (fun _ => [])), pI 0]), (1040, bx [ow 1064 r1.nodes.length, pI r1.next]), (1064, ob0 (roNode r1.nodes))] trivial (by kernel_rfl) ?_))
 refine DW.block ?_
 refine DW.whileO (fun (s1 : (List Node) × Int) => mkSt [(3, rr 1024), (4, rr 1032), (5, rr 1040), (6, pI s1.2)] [(1024, bx (pm (encNode p1))), (1032, bx [.p (.sl .nil 0 0 (fun _ => [])), pI 0]), (1040, bx [ow 1064 s1.1.length, pI r1.next]), (1064, ob0 (roNode s1.1))]) hm .refl ?_
 intro s1 n1 hm
 unfold Set_ref5L1 at hm
 refine DW.seq (DW.seq (RK hnt (nn 5 []) [(3, rr 1024), (4, rr 1032), (5, rr 1040), (6, pI s1.2), (13, pB (decide (s1.2 < ((s1.1.length : Nat) : Int))))] [(1024, bx (pm (encNode p1))), (1032, bx [.p (.sl .nil 0 0 (fun _ => [])), pI 0]), (1040, bx [ow 1064 s1.1.length, pI r1.next]), (1064, ob0 (roNode s1.1))] trivial (by kernel_rfl) ?_))
 refine DW.cond (decide (s1.2 < ((s1.1.length : Nat) : Int))) rfl rfl ?_ ?_
 ·
  intro h8
  replace hm := if_t h8 hm
  refine DW.skip ?_
  refine DW.seq ?_
  refine DW.join (ι := List Node) (fun (y2 : List Node) => mkSt [(3, rr 1024), (4, rr 1032), (5, rr 1040), (6, pI s1.2)] [(1024, bx (pm (encNode p1))), (1032, bx [.p (.sl .nil 0 0 (fun _ => [])), pI 0]), (1040, bx [ow 1064 y2.length, pI r1.next]), (1064, ob0 (roNode y2))]) (fun y2 => (Set_ref5J2 s1 n1) y2 = some RES) ?_ ?_
  ·
   intro y2 hm
   unfold Set_ref5J2 at hm
   refine RK hnt (nn 3 []) [(3, rr 1024), (4, rr 1032), (5, rr 1040), (6, pI (w64 (s1.2 + 1)))] [(1024, bx (pm (encNode p1))), (1032, bx [.p (.sl .nil 0 0 (fun _ => [])), pI 0]), (1040, bx [ow 1064 y2.length, pI r1.next]), (1064, ob0 (roNode y2))] trivial (by kernel_rfl) ?_
   exact joinDone (y2, (w64 (s1.2 + 1))) hm .refl
  ·
   refine DW.block ?_
   obtain ⟨g9, hm⟩ := guard_open hm
   obtain ⟨g10, hm⟩ := guard_open hm
   refine DW.seq (RK hnt (nn 9 []) [(3, rr 1024), (4, rr 1032), (5, rr 1040), (6, pI s1.2), (24, pB ((s1.1.getD (Int.toNat s1.2) dNode).id == p1.id))] [(1024, bx (pm (encNode p1))), (1032, bx [.p (.sl .nil 0 0 (fun _ => [])), pI 0]), (1040, bx [ow 1064 s1.1.length, pI r1.next]), (1064, ob0 (roNode s1.1))] (an g9.1 (an g9.2 (an g10 trivial))) (by kernel_rfl) ?_)
   refine DW.cond ((s1.1.getD (Int.toNat s1.2) dNode).id == p1.id) rfl rfl ?_ ?_
   ·
    intro h11
    replace hm := if_t h11 hm
    obtain ⟨g12, hm⟩ := guard_open hm
    obtain ⟨g13, hm⟩ := guard_open hm
    refine RN hnt (nn 6 []) [(3, rr 1024), (4, rr 1032), (5, rr 1040), (6, pI s1.2)] [(1024, bx (pm (encNode p1))), (1032, bx [.p (.sl .nil 0 0 (fun _ => [])), pI 0]), (1040, bx [ow 1064 (s1.1.set (Int.toNat s1.2) p1).length, pI r1.next]), (1064, ob0 (roNode (s1.1.set (Int.toNat s1.2) p1)))] [] [(1040, .box [ow 1064 s1.1.length, pI r1.next]), (1064, .row 6 s1.1.length (updF (elNode s1.1) (Int.toNat s1.2) [vi p1.id, vi p1.parent, vs p1.name, vi p1.control, vi p1.kind, vi p1.owner]))] (an g12.1 (an g12.2 (an g13 trivial))) (by kernel_rfl) .nil (.cons rfl (.box (.cons (MLe.ownLen (enc := encNode) (d := dNode) (f := (updF (elNode s1.1) (Int.toNat s1.2) [vi p1.id, vi p1.parent, vs p1.name, vi p1.control, vi p1.kind, vi p1.owner])) (RowIs.upd RowIs.elems p1 rfl)) (.cons .rfl .nil))) (.cons rfl (BLe.typed (RowIs.upd RowIs.elems p1 rfl)) .nil)) ?_
    exact blockDone (s1.1.set (Int.toNat s1.2) p1) hm .refl
   ·
    intro h11
    replace hm := if_f h11 hm
    refine DW.skip ?_
    exact blockDone s1.1 hm (Conv.tp [] [] (by kernel_rfl) .nil .nil)
 ·
  intro h8
  replace hm := if_f h8 hm
  refine DW.exit ?_
  refine joinQ_exit ?_
  refine KQ_exit ?_
  refine blockQ_exit ?_
  show DW _ _ _ _ _
  refine DW.seq (RK hnt (nn 2 []) [(4, rr 1032)] [(1032, bx [ow 1064 s1.1.length, pI r1.next]), (1064, ob0 (roNode s1.1))] trivial (by kernel_rfl) ?_)
  refine DW.ret ?_
  obtain rfl := Option.some.inj hm
  refine retOK (bs' := [roNode s1.1]) [1064] (.agg [ow 0 s1.1.length, pI r1.next]) (by kernel_rfl) ?_ ?_
  · rfl
  · rfl

theorem Write_ref7Spec (p0 : Hierarchy) (p1 : Int) (p2 : Int) (p3 : Int) (RES : Hierarchy × Int) (hm : Write_ref7 p0 p1 p2 p3 = some RES) : Spec Try.prog 80 [.p (.agg (encHierarchy p0)), pI p1, pI p2, pI p3] [] (.tup [.agg [ow 0 RES.1.tree.nodes.length, pI RES.1.tree.next, ow 1 RES.1.tasks.length, pI RES.1.next], pI RES.2]) [] [roNode RES.1.tree.nodes, roTask RES.1.tasks] := by
 unfold Write_ref7 at hm
 refine spec_of Tgood (T := Tt) Try.func80 (by decide) (c := _) rfl rfl (sl := [(0, .p (.agg (encHierarchy p0))), (1, pI p1), (2, pI p2), (3, pI p3)]) (ob := []) (Nat.le_of_ble_eq_true rfl) (Nat.le_of_ble_eq_true rfl) (by kernel_rfl) (by kernel_rfl) ?_
 intro cx hnt
 refine DW.start ?_
 refine DW.seq (RK hnt (nn 3 []) [(1, pI p1), (2, pI p2), (3, pI p3), (4, rr 1032), (8, rr 1064)] [(1032, bx (pm (encHierarchy p0))), (1064, bx [.p (.sl .nil 0 0 (fun _ => [])), pI 0, .p (.sl .nil 0 0 (fun _ => [])), pI 0])] trivial (by kernel_rfl) ?_)
 obtain ⟨r1, hr1, hm⟩ := bind_open hm
 refine DW.seq (DW.seq ?_)
 refine DW.join (ι := Bool) (fun (y1 : Bool) => mkSt [(1, pI p1), (2, pI p2), (3, pI p3), (4, rr 1032), (8, rr 1064), (37, pB y1)] [(1032, bx (pm (encHierarchy p0))), (1064, bx [.p (.sl .nil 0 0 (fun _ => [])), pI 0, .p (.sl .nil 0 0 (fun _ => [])), pI 0])]) (fun y1 => (Write_ref7J1 p0 p1 p2 p3) y1 = some RES) ?_ ?_
 ·
  intro y1 hm
  unfold Write_ref7J1 at hm
  refine DW.cond y1 rfl rfl ?_ ?_
  ·
   intro h7
   replace hm := if_t h7 hm
   refine DW.seq (RK hnt (nn 3 []) [(8, rr 1064), (9, pI 1)] [(1064, bx [.p (.sl .nil 0 0 (fun _ => [])), pI 0, .p (.sl .nil 0 0 (fun _ => [])), pI 0])] trivial (by kernel_rfl) ?_)
   refine DW.conv (τ := mkSt [(8, rr 1064), (9, pI 1)] [(1064, bx [ow 100000 0, pI 0, ow 100001 0, pI 0]), (100000, ob0 (roNode [])), (100001, ob0 (roTask []))]) (Conv.trans (τ := mkSt [(8, rr 1064), (9, pI 1)] ((100000, ⟨0, .row 6 0 (elems encNode dNode [])⟩) :: [(1064, bx [ow 100000 0, pI 0, .p (.sl .nil 0 0 (fun _ => [])), pI 0])])) (Conv.adopt 100000 6 (elems encNode dNode []) rfl rfl (.rfl _) (.box (.cons (.nil _ _) (.cons (.rfl _) (.cons (.rfl _) (.cons (.rfl _) (.rfl _))))) (.rfl _))) (Conv.trans (τ := mkSt [(8, rr 1064), (9, pI 1)] [(1064, bx [ow 100000 0, pI 0, .p (.sl .nil 0 0 (fun _ => [])), pI 0]), (100000, ob0 (roNode []))]) (Conv.tp [] [] (by kernel_rfl) .nil .nil) (Conv.trans (τ := mkSt [(8, rr 1064), (9, pI 1)] ((100001, ⟨0, .row 4 0 (elems encTask dTask [])⟩) :: [(1064, bx [ow 100000 0, pI 0, ow 100001 0, pI 0]), (100000, ob0 (roNode []))])) (Conv.adopt 100001 4 (elems encTask dTask []) rfl rfl (.rfl _) (.box (.cons (.rfl _) (.cons (.rfl _) (.cons (.nil _ _) (.cons (.rfl _) (.rfl _))))) (.keep (.rfl _)))) (Conv.trans (τ := mkSt [(8, rr 1064), (9, pI 1)] [(1064, bx [ow 100000 0, pI 0, ow 100001 0, pI 0]), (100000, ob0 (roNode [])), (100001, ob0 (roTask []))]) (Conv.tp [] [] (by kernel_rfl) .nil .nil) .refl)))) ?_
   refine DW.ret ?_
   obtain rfl := Option.some.inj hm
   refine retOK (bs' := [roNode [], roTask []]) [100000, 100001] (.tup [.agg [ow 0 0, pI 0, ow 1 0, pI 0], pI 1]) (by kernel_rfl) ?_ ?_
   · rfl
   · rfl
  ·
   intro h7
   replace hm := if_f h7 hm
   refine DW.skip ?_
   obtain ⟨r8, hr8, hm⟩ := bind_open hm
   refine DW.seq (RK hnt (nn 3 (.call 51 [] true (.p (.tup [.agg (encNode r8.1), vb r8.2])) [] [] :: nn 6 [])) [(1, pI p1), (2, pI p2), (3, pI p3), (4, rr 1032), (8, rr 1064), (10, rr 1080), (11, pB r8.2)] [(1032, bx (pm (encHierarchy p0))), (1064, bx [.p (.sl .nil 0 0 (fun _ => [])), pI 0, .p (.sl .nil 0 0 (fun _ => [])), pI 0]), (1080, bx (pm (encNode r8.1)))] (an (Find_ref5Spec p0.tree p1 r8 hr8) trivial) (by kernel_rfl) ?_)
   refine DW.seq (DW.seq (RK hnt (nn 2 []) [(1, pI p1), (2, pI p2), (3, pI p3), (4, rr 1032), (8, rr 1064), (10, rr 1080), (47, pB (!r8.2))] [(1032, bx (pm (encHierarchy p0))), (1064, bx [.p (.sl .nil 0 0 (fun _ => [])), pI 0, .p (.sl .nil 0 0 (fun _ => [])), pI 0]), (1080, bx (pm (encNode r8.1)))] trivial (by kernel_rfl) ?_))
   refine DW.cond (!r8.2) rfl rfl ?_ ?_
   ·
    intro h9
    replace hm := if_t h9 hm
    refine DW.seq (RK hnt (nn 3 []) [(8, rr 1064), (9, pI 4)] [(1064, bx [.p (.sl .nil 0 0 (fun _ => [])), pI 0, .p (.sl .nil 0 0 (fun _ => [])), pI 0])] trivial (by kernel_rfl) ?_)
    refine DW.conv (τ := mkSt [(8, rr 1064), (9, pI 4)] [(1064, bx [ow 100000 0, pI 0, ow 100001 0, pI 0]), (100000, ob0 (roNode [])), (100001, ob0 (roTask []))]) (Conv.trans (τ := mkSt [(8, rr 1064), (9, pI 4)] ((100000, ⟨0, .row 6 0 (elems encNode dNode [])⟩) :: [(1064, bx [ow 100000 0, pI 0, .p (.sl .nil 0 0 (fun _ => [])), pI 0])])) (Conv.adopt 100000 6 (elems encNode dNode []) rfl rfl (.rfl _) (.box (.cons (.nil _ _) (.cons (.rfl _) (.cons (.rfl _) (.cons (.rfl _) (.rfl _))))) (.rfl _))) (Conv.trans (τ := mkSt [(8, rr 1064), (9, pI 4)] [(1064, bx [ow 100000 0, pI 0, .p (.sl .nil 0 0 (fun _ => [])), pI 0]), (100000, ob0 (roNode []))]) (Conv.tp [] [] (by kernel_rfl) .nil .nil) (Conv.trans (τ := mkSt [(8, rr 1064), (9, pI 4)] ((100001, ⟨0, .row 4 0 (elems encTask dTask [])⟩) :: [(1064, bx [ow 100000 0, pI 0, ow 100001 0, pI 0]), (100000, ob0 (roNode []))])) (Conv.adopt 100001 4 (elems encTask dTask []) rfl rfl (.rfl _) (.box (.cons (.rfl _) (.cons (.rfl _) (.cons (.nil _ _) (.cons (.rfl _) (.rfl _))))) (.keep (.rfl _)))) (Conv.trans (τ := mkSt [(8, rr 1064), (9, pI 4)] [(1064, bx [ow 100000 0, pI 0, ow 100001 0, pI 0]), (100000, ob0 (roNode [])), (100001, ob0 (roTask []))]) (Conv.tp [] [] (by kernel_rfl) .nil .nil) .refl)))) ?_
    refine DW.ret ?_
    obtain rfl := Option.some.inj hm
    refine retOK (bs' := [roNode [], roTask []]) [100000, 100001] (.tup [.agg [ow 0 0, pI 0, ow 1 0, pI 0], pI 4]) (by kernel_rfl) ?_ ?_
    · rfl
    · rfl
   ·
    intro h9
    replace hm := if_f h9 hm
    refine DW.skip ?_
    obtain ⟨r10, hr10, hm⟩ := bind_open hm
    refine DW.seq (DW.seq (RK hnt (nn 4 (.call 87 [] true (pI r10) [] [] :: nn 2 [])) [(1, pI p1), (2, pI p2), (3, pI p3), (4, rr 1032), (8, rr 1064), (10, rr 1080), (55, pB ((kandNot .i64 p2 r10) != 0))] [(1032, bx (pm (encHierarchy p0))), (1064, bx [.p (.sl .nil 0 0 (fun _ => [])), pI 0, .p (.sl .nil 0 0 (fun _ => [])), pI 0]), (1080, bx (pm (encNode r8.1)))] (an (Available_ref7Spec p0.tree p1 r10 hr10) trivial) (by kernel_rfl) ?_))
    refine DW.cond ((kandNot .i64 p2 r10) != 0) rfl rfl ?_ ?_
    ·
     intro h11
     replace hm := if_t h11 hm
     refine DW.seq (RK hnt (nn 3 []) [(8, rr 1064), (9, pI 9)] [(1064, bx [.p (.sl .nil 0 0 (fun _ => [])), pI 0, .p (.sl .nil 0 0 (fun _ => [])), pI 0])] trivial (by kernel_rfl) ?_)
     refine DW.conv (τ := mkSt [(8, rr 1064), (9, pI 9)] [(1064, bx [ow 100000 0, pI 0, ow 100001 0, pI 0]), (100000, ob0 (roNode [])), (100001, ob0 (roTask []))]) (Conv.trans (τ := mkSt [(8, rr 1064), (9, pI 9)] ((100000, ⟨0, .row 6 0 (elems encNode dNode [])⟩) :: [(1064, bx [ow 100000 0, pI 0, .p (.sl .nil 0 0 (fun _ => [])), pI 0])])) (Conv.adopt 100000 6 (elems encNode dNode []) rfl rfl (.rfl _) (.box (.cons (.nil _ _) (.cons (.rfl _) (.cons (.rfl _) (.cons (.rfl _) (.rfl _))))) (.rfl _))) (Conv.trans (τ := mkSt [(8, rr 1064), (9, pI 9)] [(1064, bx [ow 100000 0, pI 0, .p (.sl .nil 0 0 (fun _ => [])), pI 0]), (100000, ob0 (roNode []))]) (Conv.tp [] [] (by kernel_rfl) .nil .nil) (Conv.trans (τ := mkSt [(8, rr 1064), (9, pI 9)] ((100001, ⟨0, .row 4 0 (elems encTask dTask [])⟩) :: [(1064, bx [ow 100000 0, pI 0, ow 100001 0, pI 0]), (100000, ob0 (roNode []))])) (Conv.adopt 100001 4 (elems encTask dTask []) rfl rfl (.rfl _) (.box (.cons (.rfl _) (.cons (.rfl _) (.cons (.nil _ _) (.cons (.rfl _) (.rfl _))))) (.keep (.rfl _)))) (Conv.trans (τ := mkSt [(8, rr 1064), (9, pI 9)] [(1064, bx [ow 100000 0, pI 0, ow 100001 0, pI 0]), (100000, ob0 (roNode [])), (100001, ob0 (roTask []))]) (Conv.tp [] [] (by kernel_rfl) .nil .nil) .refl)))) ?_
     refine DW.ret ?_
     obtain rfl := Option.some.inj hm
     refine retOK (bs' := [roNode [], roTask []]) [100000, 100001] (.tup [.agg [ow 0 0, pI 0, ow 1 0, pI 0], pI 9]) (by kernel_rfl) ?_ ?_
     · rfl
     · rfl
    ·
     intro h11
     replace hm := if_f h11 hm
     refine DW.skip ?_
     obtain ⟨r12, hr12, hm⟩ := bind_open hm
     refine DW.seq (RK hnt (nn 3 (.call 79 [] true (ow 0 r12.length) [] [roI r12] :: .no :: [])) [(1, pI p1), (2, pI p2), (3, pI p3), (4, rr 1032), (8, rr 1064), (10, rr 1080), (12, ow 1480 r12.length)] [(1032, bx (pm (encHierarchy p0))), (1064, bx [.p (.sl .nil 0 0 (fun _ => [])), pI 0, .p (.sl .nil 0 0 (fun _ => [])), pI 0]), (1080, bx (pm (encNode r8.1))), (1480, ob0 (roI r12))] (an (Children_ref5Spec p0.tree p1 r12 hr12) trivial) (by kernel_rfl) ?_)
     refine DW.seq (DW.seq (RK hnt (.no :: []) [(1, pI p1), (2, pI p2), (3, pI p3), (4, rr 1032), (8, rr 1064), (10, rr 1080), (12, ow 1480 r12.length), (13, pI 0)] [(1032, bx (pm (encHierarchy p0))), (1064, bx [.p (.sl .nil 0 0 (fun _ => [])), pI 0, .p (.sl .nil 0 0 (fun _ => [])), pI 0]), (1080, bx (pm (encNode r8.1))), (1480, ob0 (roI r12))] trivial (by kernel_rfl) ?_))
     refine DW.block ?_
     obtain ⟨hc1, hm⟩ := guard_open hm
     refine DW.rangeO (fun (k1 : Nat) (s1 : Unit) => mkSt [(1, pI p1), (2, pI p2), (3, pI p3), (4, rr 1032), (8, rr 1064), (10, rr 1080), (12, ow 1480 r12.length), (13, pI ((k1 : Nat) : Int))] [(1032, bx (pm (encHierarchy p0))), (1064, bx [.p (.sl .nil 0 0 (fun _ => [])), pI 0, .p (.sl .nil 0 0 (fun _ => [])), pI 0]), (1080, bx (pm (encNode r8.1))), (1480, ob0 (roI r12))]) 0 hm .refl ?_
     intro k1 s1 n1 hk1 hs1 he1
     refine DW.seq (DW.seq (RK hnt (nn 4 []) [(1, pI p1), (2, pI p2), (3, pI p3), (4, rr 1032), (8, rr 1064), (10, rr 1080), (12, ow 1480 r12.length), (13, pI ((k1 : Nat) : Int)), (64, pB (decide (((k1 : Nat) : Int) < ((r12.length : Nat) : Int))))] [(1032, bx (pm (encHierarchy p0))), (1064, bx [.p (.sl .nil 0 0 (fun _ => [])), pI 0, .p (.sl .nil 0 0 (fun _ => [])), pI 0]), (1080, bx (pm (encNode r8.1))), (1480, ob0 (roI r12))] trivial (by kernel_rfl) ?_))
     refine DW.cond (decide (((k1 : Nat) : Int) < ((r12.length : Nat) : Int))) rfl rfl ?_ ?_
     ·
      intro h35
      have hlt1 : k1 < r12.length := by have := of_decide_eq_true h35; omega
      have hm := hs1 hlt1
      unfold Write_ref7L1 at hm
      refine DW.skip ?_
      refine DW.seq (DW.block ?_)
      obtain ⟨r36, hr36, hm⟩ := bind_open hm
      refine DW.seq (RK hnt (nn 6 (.call 51 [] true (.p (.tup [.agg (encNode r36.1), vb r36.2])) [] [] :: nn 6 [])) [(1, pI p1), (2, pI p2), (3, pI p3), (4, rr 1032), (8, rr 1064), (10, rr 1080), (12, ow 1480 r12.length), (13, pI ((k1 : Nat) : Int)), (14, rr 1112)] [(1032, bx (pm (encHierarchy p0))), (1064, bx [.p (.sl .nil 0 0 (fun _ => [])), pI 0, .p (.sl .nil 0 0 (fun _ => [])), pI 0]), (1080, bx (pm (encNode r8.1))), (1112, bx (pm (encNode r36.1))), (1480, ob0 (roI r12))] (an (nn0 k1) (an (ltc hlt1) (an (by omega : k1 < r12.length) (an (Find_ref5Spec p0.tree (r12.getD k1 0) r36 hr36) trivial)))) (by kernel_rfl) ?_)
      refine DW.seq (RK hnt (nn 5 []) [(1, pI p1), (2, pI p2), (3, pI p3), (4, rr 1032), (8, rr 1064), (10, rr 1080), (12, ow 1480 r12.length), (13, pI ((k1 : Nat) : Int)), (81, pB ((kand .i64 r36.1.control p3) != 0))] [(1032, bx (pm (encHierarchy p0))), (1064, bx [.p (.sl .nil 0 0 (fun _ => [])), pI 0, .p (.sl .nil 0 0 (fun _ => [])), pI 0]), (1080, bx (pm (encNode r8.1))), (1480, ob0 (roI r12))] trivial (by kernel_rfl) ?_)
      refine DW.cond ((kand .i64 r36.1.control p3) != 0) rfl rfl ?_ ?_
      ·
       intro h37
       replace hm := if_t h37 hm
       refine DW.seq (RK hnt (nn 3 []) [(8, rr 1064), (9, pI 9)] [(1064, bx [.p (.sl .nil 0 0 (fun _ => [])), pI 0, .p (.sl .nil 0 0 (fun _ => [])), pI 0])] trivial (by kernel_rfl) ?_)
       refine DW.conv (τ := mkSt [(8, rr 1064), (9, pI 9)] [(1064, bx [ow 100000 0, pI 0, ow 100001 0, pI 0]), (100000, ob0 (roNode [])), (100001, ob0 (roTask []))]) (Conv.trans (τ := mkSt [(8, rr 1064), (9, pI 9)] ((100000, ⟨0, .row 6 0 (elems encNode dNode [])⟩) :: [(1064, bx [ow 100000 0, pI 0, .p (.sl .nil 0 0 (fun _ => [])), pI 0])])) (Conv.adopt 100000 6 (elems encNode dNode []) rfl rfl (.rfl _) (.box (.cons (.nil _ _) (.cons (.rfl _) (.cons (.rfl _) (.cons (.rfl _) (.rfl _))))) (.rfl _))) (Conv.trans (τ := mkSt [(8, rr 1064), (9, pI 9)] [(1064, bx [ow 100000 0, pI 0, .p (.sl .nil 0 0 (fun _ => [])), pI 0]), (100000, ob0 (roNode []))]) (Conv.tp [] [] (by kernel_rfl) .nil .nil) (Conv.trans (τ := mkSt [(8, rr 1064), (9, pI 9)] ((100001, ⟨0, .row 4 0 (elems encTask dTask [])⟩) :: [(1064, bx [ow 100000 0, pI 0, ow 100001 0, pI 0]), (100000, ob0 (roNode []))])) (Conv.adopt 100001 4 (elems encTask dTask []) rfl rfl (.rfl _) (.box (.cons (.rfl _) (.cons (.rfl _) (.cons (.nil _ _) (.cons (.rfl _) (.rfl _))))) (.keep (.rfl _)))) (Conv.trans (τ := mkSt [(8, rr 1064), (9, pI 9)] [(1064, bx [ow 100000 0, pI 0, ow 100001 0, pI 0]), (100000, ob0 (roNode [])), (100001, ob0 (roTask []))]) (Conv.tp [] [] (by kernel_rfl) .nil .nil) .refl)))) ?_
       refine DW.ret ?_
       obtain rfl := Option.some.inj hm
       refine retOK (bs' := [roNode [], roTask []]) [100000, 100001] (.tup [.agg [ow 0 0, pI 0, ow 1 0, pI 0], pI 9]) (by kernel_rfl) ?_ ?_
       · rfl
       · rfl
      ·
       intro h37
       replace hm := if_f h37 hm
       refine DW.skip ?_
       refine DW.done ?_
       show DW _ _ _ _ _
       refine RK hnt (nn 3 []) [(1, pI p1), (2, pI p2), (3, pI p3), (4, rr 1032), (8, rr 1064), (10, rr 1080), (12, ow 1480 r12.length), (13, pI (w64 (((k1 : Nat) : Int) + 1)))] [(1032, bx (pm (encHierarchy p0))), (1064, bx [.p (.sl .nil 0 0 (fun _ => [])), pI 0, .p (.sl .nil 0 0 (fun _ => [])), pI 0]), (1080, bx (pm (encNode r8.1))), (1480, ob0 (roI r12))] trivial (by kernel_rfl) ?_
       exact joinDone () ⟨hlt1, hm⟩ (Conv.tp [(13, pI (w64 (((k1 : Nat) : Int) + 1)))] [] (by kernel_rfl) (.cons rfl (.of_eq (congrArg pI (w64_succ hlt1 hc1))) .nil) .nil)
     ·
      intro h35
      have hge1 : ¬ k1 < r12.length := by have := of_decide_eq_false h35; omega
      have hm := he1 hge1
      unfold Write_ref7D1 at hm
      refine DW.exit ?_
      refine joinQ_exit ?_
      refine KQ_exit ?_
      refine blockQ_exit ?_
      show DW _ _ _ _ _
      refine DW.seq (RK hnt (nn 3 []) [(1, pI p1), (2, pI p2), (3, pI p3), (4, rr 1032), (8, rr 1064), (10, rr 1080), (16, pI r8.1.control)] [(1032, bx (pm (encHierarchy p0))), (1064, bx [.p (.sl .nil 0 0 (fun _ => [])), pI 0, .p (.sl .nil 0 0 (fun _ => [])), pI 0]), (1080, bx (pm (encNode r8.1)))] trivial (by kernel_rfl) ?_)
      refine DW.seq (RK hnt (nn 7 []) [(1, pI p1), (4, rr 1032), (8, rr 1064), (10, rr 1080), (16, pI r8.1.control)] [(1032, bx (pm (encHierarchy p0))), (1064, bx [.p (.sl .nil 0 0 (fun _ => [])), pI 0, .p (.sl .nil 0 0 (fun _ => [])), pI 0]), (1080, bx [pI r8.1.id, pI r8.1.parent, pS r8.1.name, pI (kor .i64 (kandNot .i64 r8.1.control p3) p2), pI r8.1.kind, pI r8.1.owner])] trivial (by kernel_rfl) ?_)
      refine DW.seq (DW.seq (RK hnt (nn 4 []) [(1, pI p1), (4, rr 1032), (8, rr 1064), (10, rr 1080), (16, pI r8.1.control), (17, pI (kand .i64 (kor .i64 (kandNot .i64 r8.1.control p3) p2) 6))] [(1032, bx (pm (encHierarchy p0))), (1064, bx [.p (.sl .nil 0 0 (fun _ => [])), pI 0, .p (.sl .nil 0 0 (fun _ => [])), pI 0]), (1080, bx [pI r8.1.id, pI r8.1.parent, pS r8.1.name, pI (kor .i64 (kandNot .i64 r8.1.control p3) p2), pI r8.1.kind, pI r8.1.owner])] trivial (by kernel_rfl) ?_))
      refine DW.seq ?_
      refine DW.join (ι := Bool) (fun (y4 : Bool) => mkSt [(4, rr 1032), (8, rr 1064), (10, rr 1080), (108, pB y4)] [(1032, bx (pm (encHierarchy p0))), (1064, bx [.p (.sl .nil 0 0 (fun _ => [])), pI 0, .p (.sl .nil 0 0 (fun _ => [])), pI 0]), (1080, bx [pI r8.1.id, pI r8.1.parent, pS r8.1.name, pI (kor .i64 (kandNot .i64 r8.1.control p3) p2), pI r8.1.kind, pI r8.1.owner])]) (fun y4 => (Write_ref7J4 p0 p2 p3 r8) y4 = some RES) ?_ ?_
      ·
       intro y4 hm
       unfold Write_ref7J4 at hm
       refine DW.cond y4 rfl rfl ?_ ?_
       ·
        intro h41
        replace hm := if_t h41 hm
        refine DW.seq (RK hnt (nn 3 []) [(8, rr 1064), (9, pI 6)] [(1064, bx [.p (.sl .nil 0 0 (fun _ => [])), pI 0, .p (.sl .nil 0 0 (fun _ => [])), pI 0])] trivial (by kernel_rfl) ?_)
        refine DW.conv (τ := mkSt [(8, rr 1064), (9, pI 6)] [(1064, bx [ow 100000 0, pI 0, ow 100001 0, pI 0]), (100000, ob0 (roNode [])), (100001, ob0 (roTask []))]) (Conv.trans (τ := mkSt [(8, rr 1064), (9, pI 6)] ((100000, ⟨0, .row 6 0 (elems encNode dNode [])⟩) :: [(1064, bx [ow 100000 0, pI 0, .p (.sl .nil 0 0 (fun _ => [])), pI 0])])) (Conv.adopt 100000 6 (elems encNode dNode []) rfl rfl (.rfl _) (.box (.cons (.nil _ _) (.cons (.rfl _) (.cons (.rfl _) (.cons (.rfl _) (.rfl _))))) (.rfl _))) (Conv.trans (τ := mkSt [(8, rr 1064), (9, pI 6)] [(1064, bx [ow 100000 0, pI 0, .p (.sl .nil 0 0 (fun _ => [])), pI 0]), (100000, ob0 (roNode []))]) (Conv.tp [] [] (by kernel_rfl) .nil .nil) (Conv.trans (τ := mkSt [(8, rr 1064), (9, pI 6)] ((100001, ⟨0, .row 4 0 (elems encTask dTask [])⟩) :: [(1064, bx [ow 100000 0, pI 0, ow 100001 0, pI 0]), (100000, ob0 (roNode []))])) (Conv.adopt 100001 4 (elems encTask dTask []) rfl rfl (.rfl _) (.box (.cons (.rfl _) (.cons (.rfl _) (.cons (.nil _ _) (.cons (.rfl _) (.rfl _))))) (.keep (.rfl _)))) (Conv.trans (τ := mkSt [(8, rr 1064), (9, pI 6)] [(1064, bx [ow 100000 0, pI 0, ow 100001 0, pI 0]), (100000, ob0 (roNode [])), (100001, ob0 (roTask []))]) (Conv.tp [] [] (by kernel_rfl) .nil .nil) .refl)))) ?_
        refine DW.ret ?_
        obtain rfl := Option.some.inj hm
        refine retOK (bs' := [roNode [], roTask []]) [100000, 100001] (.tup [.agg [ow 0 0, pI 0, ow 1 0, pI 0], pI 6]) (by kernel_rfl) ?_ ?_
        · rfl
        · rfl
       ·
        intro h41
        replace hm := if_f h41 hm
        refine DW.skip ?_
        obtain ⟨r42, hr42, hm⟩ := bind_open hm
        refine DW.seq (RK hnt (.no :: .call 52 [] true (.agg [ow 0 r42.tree.nodes.length, pI r42.tree.next, ow 1 r42.tasks.length, pI r42.next]) [] [roNode r42.tree.nodes, roTask r42.tasks] :: nn 2 []) [(4, rr 1032), (8, rr 1064), (10, rr 1080), (18, rr 1144)] [(1032, bx (pm (encHierarchy p0))), (1064, bx [.p (.sl .nil 0 0 (fun _ => [])), pI 0, .p (.sl .nil 0 0 (fun _ => [])), pI 0]), (1080, bx [pI r8.1.id, pI r8.1.parent, pS r8.1.name, pI (kor .i64 (kandNot .i64 r8.1.control p3) p2), pI r8.1.kind, pI r8.1.owner]), (1144, bx [ow 1888 r42.tree.nodes.length, pI r42.tree.next, ow 1889 r42.tasks.length, pI r42.next]), (1888, ob0 (roNode r42.tree.nodes)), (1889, ob0 (roTask r42.tasks))] (an (Copy_ref6Spec p0 r42 hr42) trivial) (by kernel_rfl) ?_)
        obtain ⟨r43, hr43, hm⟩ := bind_open hm
        refine DW.seq (RK hnt (nn 3 (.call 62 [] true (.agg [ow 0 r43.nodes.length, pI r43.next]) [] [roNode r43.nodes] :: nn 2 [])) [(8, rr 1064), (18, rr 1144)] [(1064, bx [.p (.sl .nil 0 0 (fun _ => [])), pI 0, .p (.sl .nil 0 0 (fun _ => [])), pI 0]), (1144, bx [ow 1920 r43.nodes.length, pI r43.next, ow 1889 r42.tasks.length, pI r42.next]), (1889, ob0 (roTask r42.tasks)), (1920, ob0 (roNode r43.nodes))] (an (Set_ref5Spec p0.tree ({ id := r8.1.id, parent := r8.1.parent, name := r8.1.name, control := (kor .i64 (kandNot .i64 r8.1.control p3) p2), kind := r8.1.kind, owner := r8.1.owner } : Node) r43 hr43) trivial) (by kernel_rfl) ?_)
        refine DW.seq (RK hnt (nn 3 []) [(8, rr 1064), (9, pI 0)] [(1064, bx [ow 1920 r43.nodes.length, pI r43.next, ow 1889 r42.tasks.length, pI r42.next]), (1889, ob0 (roTask r42.tasks)), (1920, ob0 (roNode r43.nodes))] trivial (by kernel_rfl) ?_)
        refine DW.ret ?_
        obtain rfl := Option.some.inj hm
        refine retOK (bs' := [roNode r43.nodes, roTask r42.tasks]) [1920, 1889] (.tup [.agg [ow 0 r43.nodes.length, pI r43.next, ow 1 r42.tasks.length, pI r42.next], pI 0]) (by kernel_rfl) ?_ ?_
        · rfl
        · rfl
      ·
       rcases bt ((kandNot .i64 (kand .i64 (kor .i64 (kandNot .i64 r8.1.control p3) p2) 6) r8.1.control) != 0) with h38 | h38
       ·
        replace hm := if_t h38 hm
        rcases bt (p1 != 1) with h39 | h39
        ·
         replace hm := if_t h39 hm
         obtain ⟨r40, hr40, hm⟩ := bind_open hm
         refine RK hnt (nn 7 (pT :: nn 3 (.call 81 [] true (ow 0 r40.length) [] [roI r40] :: nn 2 (pT :: [])))) [(4, rr 1032), (8, rr 1064), (10, rr 1080), (108, pB (decide (((r40.length : Nat) : Int) > 0)))] [(1032, bx (pm (encHierarchy p0))), (1064, bx [.p (.sl .nil 0 0 (fun _ => [])), pI 0, .p (.sl .nil 0 0 (fun _ => [])), pI 0]), (1080, bx [pI r8.1.id, pI r8.1.parent, pS r8.1.name, pI (kor .i64 (kandNot .i64 r8.1.control p3) p2), pI r8.1.kind, pI r8.1.owner])] (an3 h38 (an3 h39 (an (Tasks_ref6Spec p0 p1 r40 hr40) (an3 h39 trivial)))) (by kernel_rfl) ?_
         exact joinDone (decide (((r40.length : Nat) : Int) > 0)) hm .refl
        ·
         replace hm := if_f h39 hm
         refine RK hnt (nn 7 (pT :: .no :: sk 5 (pF :: []))) [(4, rr 1032), (8, rr 1064), (10, rr 1080), (108, pB false)] [(1032, bx (pm (encHierarchy p0))), (1064, bx [.p (.sl .nil 0 0 (fun _ => [])), pI 0, .p (.sl .nil 0 0 (fun _ => [])), pI 0]), (1080, bx [pI r8.1.id, pI r8.1.parent, pS r8.1.name, pI (kor .i64 (kandNot .i64 r8.1.control p3) p2), pI r8.1.kind, pI r8.1.owner])] (an3 h38 (an6 h39 trivial)) (by kernel_rfl) ?_
         exact joinDone false hm .refl
       ·
        replace hm := if_f h38 hm
        refine RK hnt (nn 5 (sk 2 (pF :: .no :: sk 5 (pF :: [])))) [(4, rr 1032), (8, rr 1064), (10, rr 1080), (108, pB false)] [(1032, bx (pm (encHierarchy p0))), (1064, bx [.p (.sl .nil 0 0 (fun _ => [])), pI 0, .p (.sl .nil 0 0 (fun _ => [])), pI 0]), (1080, bx [pI r8.1.id, pI r8.1.parent, pS r8.1.name, pI (kor .i64 (kandNot .i64 r8.1.control p3) p2), pI r8.1.kind, pI r8.1.owner])] (an3 h38 (an6 ff trivial)) (by kernel_rfl) ?_
        exact joinDone false hm .refl
 ·
  rcases bt (!r1) with h2 | h2
  ·
   replace hm := if_t h2 hm
   refine RK hnt (.no :: .call 82 [] true (pB r1) [] [] :: nn 2 (sk 3 (pT :: .no :: sk 3 (pT :: .no :: sk 4 (pT :: []))))) [(1, pI p1), (2, pI p2), (3, pI p3), (4, rr 1032), (8, rr 1064), (37, pB true)] [(1032, bx (pm (encHierarchy p0))), (1064, bx [.p (.sl .nil 0 0 (fun _ => [])), pI 0, .p (.sl .nil 0 0 (fun _ => [])), pI 0])] (an (Sound_ref7Spec p0 r1 hr1) (an4 h2 (an3 tt (an6 tt trivial)))) (by kernel_rfl) ?_
   exact joinDone true hm .refl
  ·
   replace hm := if_f h2 hm
   obtain ⟨r3, hr3, hm⟩ := bind_open hm
   rcases bt (!r3) with h4 | h4
   ·
    replace hm := if_t h4 hm
    refine RK hnt (.no :: .call 82 [] true (pB r1) [] [] :: nn 3 (.call 86 [] true (pB r3) [] [] :: .no :: pF :: .no :: sk 3 (pT :: .no :: sk 4 (pT :: [])))) [(1, pI p1), (2, pI p2), (3, pI p3), (4, rr 1032), (8, rr 1064), (37, pB true)] [(1032, bx (pm (encHierarchy p0))), (1064, bx [.p (.sl .nil 0 0 (fun _ => [])), pI 0, .p (.sl .nil 0 0 (fun _ => [])), pI 0])] (an (Sound_ref7Spec p0 r1 hr1) (an2 h2 (an (Set_ref7Spec p2 r3 hr3) (an2 h2 (an4 h4 (an5 tt trivial)))))) (by kernel_rfl) ?_
    exact joinDone true hm .refl
   ·
    replace hm := if_f h4 hm
    obtain ⟨r5, hr5, hm⟩ := bind_open hm
    rcases bt (!r5) with h6 | h6
    ·
     replace hm := if_t h6 hm
     refine RK hnt (.no :: .call 82 [] true (pB r1) [] [] :: nn 3 (.call 86 [] true (pB r3) [] [] :: .no :: pF :: nn 2 (.call 86 [] true (pB r5) [] [] :: .no :: pF :: .no :: sk 4 (pT :: [])))) [(1, pI p1), (2, pI p2), (3, pI p3), (4, rr 1032), (8, rr 1064), (37, pB true)] [(1032, bx (pm (encHierarchy p0))), (1064, bx [.p (.sl .nil 0 0 (fun _ => [])), pI 0, .p (.sl .nil 0 0 (fun _ => [])), pI 0])] (an (Sound_ref7Spec p0 r1 hr1) (an2 h2 (an (Set_ref7Spec p2 r3 hr3) (an2 h2 (an2 h4 (an (Set_ref7Spec p3 r5 hr5) (an2 h4 (an5 h6 trivial)))))))) (by kernel_rfl) ?_
     exact joinDone true hm .refl
    ·
     replace hm := if_f h6 hm
     refine RK hnt (.no :: .call 82 [] true (pB r1) [] [] :: nn 3 (.call 86 [] true (pB r3) [] [] :: .no :: pF :: nn 2 (.call 86 [] true (pB r5) [] [] :: .no :: pF :: nn 5 (pF :: [])))) [(1, pI p1), (2, pI p2), (3, pI p3), (4, rr 1032), (8, rr 1064), (37, pB ((kand .i64 p2 p3) != 0))] [(1032, bx (pm (encHierarchy p0))), (1064, bx [.p (.sl .nil 0 0 (fun _ => [])), pI 0, .p (.sl .nil 0 0 (fun _ => [])), pI 0])] (an (Sound_ref7Spec p0 r1 hr1) (an2 h2 (an (Set_ref7Spec p2 r3 hr3) (an2 h2 (an2 h4 (an (Set_ref7Spec p3 r5 hr5) (an2 h4 (an5 h6 trivial)))))))) (by kernel_rfl) ?_
     exact joinDone ((kand .i64 p2 p3) != 0) hm .refl

theorem Enable_ref8Spec (p0 : Hierarchy) (p1 : Int) (p2 : Int) (p3 : Int) (RES : Hierarchy × Int) (hm : Enable_ref8 p0 p1 p2 p3 = some RES) : Spec Try.prog 59 [.p (.agg (encHierarchy p0)), pI p1, pI p2, pI p3] [] (.tup [.agg [ow 0 RES.1.tree.nodes.length, pI RES.1.tree.next, ow 1 RES.1.tasks.length, pI RES.1.next], pI RES.2]) [] [roNode RES.1.tree.nodes, roTask RES.1.tasks] := by
 unfold Enable_ref8 at hm
 refine spec_of Tgood (T := Tt) Try.func59 (by decide) (c := _) rfl rfl (sl := [(0, .p (.agg (encHierarchy p0))), (1, pI p1), (2, pI p2), (3, pI p3)]) (ob := []) (Nat.le_of_ble_eq_true rfl) (Nat.le_of_ble_eq_true rfl) (by kernel_rfl) (by kernel_rfl) ?_
 intro cx hnt
 refine DW.start ?_
 refine DW.seq (RK hnt (nn 3 []) [(1, pI p1), (2, pI p2), (3, pI p3), (4, rr 1032), (8, rr 1064)] [(1032, bx (pm (encHierarchy p0))), (1064, bx [.p (.sl .nil 0 0 (fun _ => [])), pI 0, .p (.sl .nil 0 0 (fun _ => [])), pI 0])] trivial (by kernel_rfl) ?_)
 obtain ⟨r1, hr1, hm⟩ := bind_open hm
 refine DW.seq (DW.seq (RK hnt (.no :: .call 63 [] true (pB r1) [] [] :: .no :: []) [(1, pI p1), (2, pI p2), (3, pI p3), (4, rr 1032), (8, rr 1064), (14, pB (!r1))] [(1032, bx (pm (encHierarchy p0))), (1064, bx [.p (.sl .nil 0 0 (fun _ => [])), pI 0, .p (.sl .nil 0 0 (fun _ => [])), pI 0])] (an (Fits_ref8Spec p0 r1 hr1) trivial) (by kernel_rfl) ?_))
 refine DW.cond (!r1) rfl rfl ?_ ?_
 ·
  intro h2
  replace hm := if_t h2 hm
  refine DW.seq (RK hnt (nn 3 []) [(8, rr 1064), (9, pI 1)] [(1064, bx [.p (.sl .nil 0 0 (fun _ => [])), pI 0, .p (.sl .nil 0 0 (fun _ => [])), pI 0])] trivial (by kernel_rfl) ?_)
  refine DW.conv (τ := mkSt [(8, rr 1064), (9, pI 1)] [(1064, bx [ow 100000 0, pI 0, ow 100001 0, pI 0]), (100000, ob0 (roNode [])), (100001, ob0 (roTask []))]) (Conv.trans (τ := mkSt [(8, rr 1064), (9, pI 1)] ((100000, ⟨0, .row 6 0 (elems encNode dNode [])⟩) :: [(1064, bx [ow 100000 0, pI 0, .p (.sl .nil 0 0 (fun _ => [])), pI 0])])) (Conv.adopt 100000 6 (elems encNode dNode []) rfl rfl (.rfl _) (.box (.cons (.nil _ _) (.cons (.rfl _) (.cons (.rfl _) (.cons (.rfl _) (.rfl _))))) (.rfl _))) (Conv.trans (τ := mkSt [(8, rr 1064), (9, pI 1)] [(1064, bx [ow 100000 0, pI 0, .p (.sl .nil 0 0 (fun _ => [])), pI 0]), (100000, ob0 (roNode []))]) (Conv.tp [] [] (by kernel_rfl) .nil .nil) (Conv.trans (τ := mkSt [(8, rr 1064), (9, pI 1)] ((100001, ⟨0, .row 4 0 (elems encTask dTask [])⟩) :: [(1064, bx [ow 100000 0, pI 0, ow 100001 0, pI 0]), (100000, ob0 (roNode []))])) (Conv.adopt 100001 4 (elems encTask dTask []) rfl rfl (.rfl _) (.box (.cons (.rfl _) (.cons (.rfl _) (.cons (.nil _ _) (.cons (.rfl _) (.rfl _))))) (.keep (.rfl _)))) (Conv.trans (τ := mkSt [(8, rr 1064), (9, pI 1)] [(1064, bx [ow 100000 0, pI 0, ow 100001 0, pI 0]), (100000, ob0 (roNode [])), (100001, ob0 (roTask []))]) (Conv.tp [] [] (by kernel_rfl) .nil .nil) .refl)))) ?_
  refine DW.ret ?_
  obtain rfl := Option.some.inj hm
  refine retOK (bs' := [roNode [], roTask []]) [100000, 100001] (.tup [.agg [ow 0 0, pI 0, ow 1 0, pI 0], pI 1]) (by kernel_rfl) ?_ ?_
  · rfl
  · rfl
 ·
  intro h2
  replace hm := if_f h2 hm
  refine DW.skip ?_
  obtain ⟨r3, hr3, hm⟩ := bind_open hm
  refine DW.seq (RK hnt (nn 4 (.call 80 [] true (.tup [.agg [ow 0 r3.1.tree.nodes.length, pI r3.1.tree.next, ow 1 r3.1.tasks.length, pI r3.1.next], pI r3.2]) [] [roNode r3.1.tree.nodes, roTask r3.1.tasks] :: nn 6 [])) [(8, rr 1064), (10, rr 1080), (11, pI r3.2)] [(1064, bx [.p (.sl .nil 0 0 (fun _ => [])), pI 0, .p (.sl .nil 0 0 (fun _ => [])), pI 0]), (1080, bx [ow 1168 r3.1.tree.nodes.length, pI r3.1.tree.next, ow 1169 r3.1.tasks.length, pI r3.1.next]), (1168, ob0 (roNode r3.1.tree.nodes)), (1169, ob0 (roTask r3.1.tasks))] (an (Write_ref7Spec p0 p1 p2 p3 r3 hr3) trivial) (by kernel_rfl) ?_)
  refine DW.seq (DW.seq (RK hnt (nn 2 []) [(8, rr 1064), (10, rr 1080), (11, pI r3.2), (25, pB (r3.2 != 0))] [(1064, bx [.p (.sl .nil 0 0 (fun _ => [])), pI 0, .p (.sl .nil 0 0 (fun _ => [])), pI 0]), (1080, bx [ow 1168 r3.1.tree.nodes.length, pI r3.1.tree.next, ow 1169 r3.1.tasks.length, pI r3.1.next]), (1168, ob0 (roNode r3.1.tree.nodes)), (1169, ob0 (roTask r3.1.tasks))] trivial (by kernel_rfl) ?_))
  refine DW.cond (r3.2 != 0) rfl rfl ?_ ?_
  ·
   intro h4
   replace hm := if_t h4 hm
   refine DW.seq (RK hnt (nn 4 []) [(8, rr 1064), (9, pI r3.2)] [(1064, bx [.p (.sl .nil 0 0 (fun _ => [])), pI 0, .p (.sl .nil 0 0 (fun _ => [])), pI 0])] trivial (by kernel_rfl) ?_)
   refine DW.conv (τ := mkSt [(8, rr 1064), (9, pI r3.2)] [(1064, bx [ow 100000 0, pI 0, ow 100001 0, pI 0]), (100000, ob0 (roNode [])), (100001, ob0 (roTask []))]) (Conv.trans (τ := mkSt [(8, rr 1064), (9, pI r3.2)] ((100000, ⟨0, .row 6 0 (elems encNode dNode [])⟩) :: [(1064, bx [ow 100000 0, pI 0, .p (.sl .nil 0 0 (fun _ => [])), pI 0])])) (Conv.adopt 100000 6 (elems encNode dNode []) rfl rfl (.rfl _) (.box (.cons (.nil _ _) (.cons (.rfl _) (.cons (.rfl _) (.cons (.rfl _) (.rfl _))))) (.rfl _))) (Conv.trans (τ := mkSt [(8, rr 1064), (9, pI r3.2)] [(1064, bx [ow 100000 0, pI 0, .p (.sl .nil 0 0 (fun _ => [])), pI 0]), (100000, ob0 (roNode []))]) (Conv.tp [] [] (by kernel_rfl) .nil .nil) (Conv.trans (τ := mkSt [(8, rr 1064), (9, pI r3.2)] ((100001, ⟨0, .row 4 0 (elems encTask dTask [])⟩) :: [(1064, bx [ow 100000 0, pI 0, ow 100001 0, pI 0]), (100000, ob0 (roNode []))])) (Conv.adopt 100001 4 (elems encTask dTask []) rfl rfl (.rfl _) (.box (.cons (.rfl _) (.cons (.rfl _) (.cons (.nil _ _) (.cons (.rfl _) (.rfl _))))) (.keep (.rfl _)))) (Conv.trans (τ := mkSt [(8, rr 1064), (9, pI r3.2)] [(1064, bx [ow 100000 0, pI 0, ow 100001 0, pI 0]), (100000, ob0 (roNode [])), (100001, ob0 (roTask []))]) (Conv.tp [] [] (by kernel_rfl) .nil .nil) .refl)))) ?_
   refine DW.ret ?_
   obtain rfl := Option.some.inj hm
   refine retOK (bs' := [roNode [], roTask []]) [100000, 100001] (.tup [.agg [ow 0 0, pI 0, ow 1 0, pI 0], pI r3.2]) (by kernel_rfl) ?_ ?_
   · rfl
   · rfl
  ·
   intro h4
   replace hm := if_f h4 hm
   refine DW.skip ?_
   obtain ⟨r5, hr5, hm⟩ := bind_open hm
   refine DW.seq (DW.seq (RK hnt (.no :: .call 63 [] true (pB r5) [] [] :: .no :: []) [(8, rr 1064), (10, rr 1080), (30, pB (!r5))] [(1064, bx [.p (.sl .nil 0 0 (fun _ => [])), pI 0, .p (.sl .nil 0 0 (fun _ => [])), pI 0]), (1080, bx [ow 1168 r3.1.tree.nodes.length, pI r3.1.tree.next, ow 1169 r3.1.tasks.length, pI r3.1.next]), (1168, ob0 (roNode r3.1.tree.nodes)), (1169, ob0 (roTask r3.1.tasks))] (an (Fits_ref8Spec r3.1 r5 hr5) trivial) (by kernel_rfl) ?_))
   refine DW.cond (!r5) rfl rfl ?_ ?_
   ·
    intro h6
    replace hm := if_t h6 hm
    refine DW.seq (RK hnt (nn 3 []) [(8, rr 1064), (9, pI 10)] [(1064, bx [.p (.sl .nil 0 0 (fun _ => [])), pI 0, .p (.sl .nil 0 0 (fun _ => [])), pI 0])] trivial (by kernel_rfl) ?_)
    refine DW.conv (τ := mkSt [(8, rr 1064), (9, pI 10)] [(1064, bx [ow 100000 0, pI 0, ow 100001 0, pI 0]), (100000, ob0 (roNode [])), (100001, ob0 (roTask []))]) (Conv.trans (τ := mkSt [(8, rr 1064), (9, pI 10)] ((100000, ⟨0, .row 6 0 (elems encNode dNode [])⟩) :: [(1064, bx [ow 100000 0, pI 0, .p (.sl .nil 0 0 (fun _ => [])), pI 0])])) (Conv.adopt 100000 6 (elems encNode dNode []) rfl rfl (.rfl _) (.box (.cons (.nil _ _) (.cons (.rfl _) (.cons (.rfl _) (.cons (.rfl _) (.rfl _))))) (.rfl _))) (Conv.trans (τ := mkSt [(8, rr 1064), (9, pI 10)] [(1064, bx [ow 100000 0, pI 0, .p (.sl .nil 0 0 (fun _ => [])), pI 0]), (100000, ob0 (roNode []))]) (Conv.tp [] [] (by kernel_rfl) .nil .nil) (Conv.trans (τ := mkSt [(8, rr 1064), (9, pI 10)] ((100001, ⟨0, .row 4 0 (elems encTask dTask [])⟩) :: [(1064, bx [ow 100000 0, pI 0, ow 100001 0, pI 0]), (100000, ob0 (roNode []))])) (Conv.adopt 100001 4 (elems encTask dTask []) rfl rfl (.rfl _) (.box (.cons (.rfl _) (.cons (.rfl _) (.cons (.nil _ _) (.cons (.rfl _) (.rfl _))))) (.keep (.rfl _)))) (Conv.trans (τ := mkSt [(8, rr 1064), (9, pI 10)] [(1064, bx [ow 100000 0, pI 0, ow 100001 0, pI 0]), (100000, ob0 (roNode [])), (100001, ob0 (roTask []))]) (Conv.tp [] [] (by kernel_rfl) .nil .nil) .refl)))) ?_
    refine DW.ret ?_
    obtain rfl := Option.some.inj hm
    refine retOK (bs' := [roNode [], roTask []]) [100000, 100001] (.tup [.agg [ow 0 0, pI 0, ow 1 0, pI 0], pI 10]) (by kernel_rfl) ?_ ?_
    · rfl
    · rfl
   ·
    intro h6
    replace hm := if_f h6 hm
    refine DW.skip ?_
    refine DW.seq (RK hnt (nn 3 []) [(8, rr 1064), (9, pI 0)] [(1064, bx [ow 1168 r3.1.tree.nodes.length, pI r3.1.tree.next, ow 1169 r3.1.tasks.length, pI r3.1.next]), (1168, ob0 (roNode r3.1.tree.nodes)), (1169, ob0 (roTask r3.1.tasks))] trivial (by kernel_rfl) ?_)
    refine DW.ret ?_
    obtain rfl := Option.some.inj hm
    refine retOK (bs' := [roNode r3.1.tree.nodes, roTask r3.1.tasks]) [1168, 1169] (.tup [.agg [ow 0 r3.1.tree.nodes.length, pI r3.1.tree.next, ow 1 r3.1.tasks.length, pI r3.1.next], pI 0]) (by kernel_rfl) ?_ ?_
    · rfl
    · rfl
end Go.Dm

/- Go functions compute their models, printed by a program. -/
namespace Go.Dm
open Go.Proofs
set_option linter.unusedVariables false
theorem Convert_ref8Spec (p0 : Hierarchy) (p1 : Int) (RES : Hierarchy × Int) (hm : Convert_ref8 p0 p1 = some RES) : Spec Try.prog 61 [.p (.agg (encHierarchy p0)), pI p1] [] (.tup [.agg [ow 0 RES.1.tree.nodes.length, pI RES.1.tree.next, ow 1 RES.1.tasks.length, pI RES.1.next], pI RES.2]) [] [roNode RES.1.tree.nodes, roTask RES.1.tasks] := by
 unfold Convert_ref8 at hm
 refine spec_of Tgood (T := Tt) Try.func61 (by decide) (c := _) rfl rfl (sl := [(0, .p (.agg (encHierarchy p0))), (1, pI p1)]) (ob := []) (Nat.le_of_ble_eq_true rfl) (Nat.le_of_ble_eq_true rfl) (by kernel_rfl) (by kernel_rfl) ?_
 intro cx hnt
 refine DW.start ?_
 refine DW.seq (RK hnt (nn 3 []) [(1, pI p1), (2, rr 1016), (4, rr 1032)] [(1016, bx (pm (encHierarchy p0))), (1032, bx [.p (.sl .nil 0 0 (fun _ => [])), pI 0, .p (.sl .nil 0 0 (fun _ => [])), pI 0])] trivial (by kernel_rfl) ?_)
 obtain ⟨r1, hr1, hm⟩ := bind_open hm
 refine DW.seq (DW.seq (RK hnt (.no :: .call 63 [] true (pB r1) [] [] :: .no :: []) [(1, pI p1), (2, rr 1016), (4, rr 1032), (13, pB (!r1))] [(1016, bx (pm (encHierarchy p0))), (1032, bx [.p (.sl .nil 0 0 (fun _ => [])), pI 0, .p (.sl .nil 0 0 (fun _ => [])), pI 0])] (an (Fits_ref8Spec p0 r1 hr1) trivial) (by kernel_rfl) ?_))
 refine DW.cond (!r1) rfl rfl ?_ ?_
 ·
  intro h2
  replace hm := if_t h2 hm
  refine DW.seq (RK hnt (nn 3 []) [(4, rr 1032), (5, pI 1)] [(1032, bx [.p (.sl .nil 0 0 (fun _ => [])), pI 0, .p (.sl .nil 0 0 (fun _ => [])), pI 0])] trivial (by kernel_rfl) ?_)
  refine DW.conv (τ := mkSt [(4, rr 1032), (5, pI 1)] [(1032, bx [ow 100000 0, pI 0, ow 100001 0, pI 0]), (100000, ob0 (roNode [])), (100001, ob0 (roTask []))]) (Conv.trans (τ := mkSt [(4, rr 1032), (5, pI 1)] ((100000, ⟨0, .row 6 0 (elems encNode dNode [])⟩) :: [(1032, bx [ow 100000 0, pI 0, .p (.sl .nil 0 0 (fun _ => [])), pI 0])])) (Conv.adopt 100000 6 (elems encNode dNode []) rfl rfl (.rfl _) (.box (.cons (.nil _ _) (.cons (.rfl _) (.cons (.rfl _) (.cons (.rfl _) (.rfl _))))) (.rfl _))) (Conv.trans (τ := mkSt [(4, rr 1032), (5, pI 1)] [(1032, bx [ow 100000 0, pI 0, .p (.sl .nil 0 0 (fun _ => [])), pI 0]), (100000, ob0 (roNode []))]) (Conv.tp [] [] (by kernel_rfl) .nil .nil) (Conv.trans (τ := mkSt [(4, rr 1032), (5, pI 1)] ((100001, ⟨0, .row 4 0 (elems encTask dTask [])⟩) :: [(1032, bx [ow 100000 0, pI 0, ow 100001 0, pI 0]), (100000, ob0 (roNode []))])) (Conv.adopt 100001 4 (elems encTask dTask []) rfl rfl (.rfl _) (.box (.cons (.rfl _) (.cons (.rfl _) (.cons (.nil _ _) (.cons (.rfl _) (.rfl _))))) (.keep (.rfl _)))) (Conv.trans (τ := mkSt [(4, rr 1032), (5, pI 1)] [(1032, bx [ow 100000 0, pI 0, ow 100001 0, pI 0]), (100000, ob0 (roNode [])), (100001, ob0 (roTask []))]) (Conv.tp [] [] (by kernel_rfl) .nil .nil) .refl)))) ?_
  refine DW.ret ?_
  obtain rfl := Option.some.inj hm
  refine retOK (bs' := [roNode [], roTask []]) [100000, 100001] (.tup [.agg [ow 0 0, pI 0, ow 1 0, pI 0], pI 1]) (by kernel_rfl) ?_ ?_
  · rfl
  · rfl
 ·
  intro h2
  replace hm := if_f h2 hm
  refine DW.skip ?_
  obtain ⟨r3, hr3, hm⟩ := bind_open hm
  refine DW.seq (RK hnt (nn 3 (.call 51 [] true (.p (.tup [.agg (encNode r3.1), vb r3.2])) [] [] :: nn 6 [])) [(1, pI p1), (2, rr 1016), (4, rr 1032), (6, rr 1048), (7, pB r3.2)] [(1016, bx (pm (encHierarchy p0))), (1032, bx [.p (.sl .nil 0 0 (fun _ => [])), pI 0, .p (.sl .nil 0 0 (fun _ => [])), pI 0]), (1048, bx (pm (encNode r3.1)))] (an (Find_ref5Spec p0.tree p1 r3 hr3) trivial) (by kernel_rfl) ?_)
  refine DW.seq (DW.seq (RK hnt (nn 2 []) [(1, pI p1), (2, rr 1016), (4, rr 1032), (6, rr 1048), (23, pB (!r3.2))] [(1016, bx (pm (encHierarchy p0))), (1032, bx [.p (.sl .nil 0 0 (fun _ => [])), pI 0, .p (.sl .nil 0 0 (fun _ => [])), pI 0]), (1048, bx (pm (encNode r3.1)))] trivial (by kernel_rfl) ?_))
  refine DW.cond (!r3.2) rfl rfl ?_ ?_
  ·
   intro h4
   replace hm := if_t h4 hm
   refine DW.seq (RK hnt (nn 3 []) [(4, rr 1032), (5, pI 4)] [(1032, bx [.p (.sl .nil 0 0 (fun _ => [])), pI 0, .p (.sl .nil 0 0 (fun _ => [])), pI 0])] trivial (by kernel_rfl) ?_)
   refine DW.conv (τ := mkSt [(4, rr 1032), (5, pI 4)] [(1032, bx [ow 100000 0, pI 0, ow 100001 0, pI 0]), (100000, ob0 (roNode [])), (100001, ob0 (roTask []))]) (Conv.trans (τ := mkSt [(4, rr 1032), (5, pI 4)] ((100000, ⟨0, .row 6 0 (elems encNode dNode [])⟩) :: [(1032, bx [ow 100000 0, pI 0, .p (.sl .nil 0 0 (fun _ => [])), pI 0])])) (Conv.adopt 100000 6 (elems encNode dNode []) rfl rfl (.rfl _) (.box (.cons (.nil _ _) (.cons (.rfl _) (.cons (.rfl _) (.cons (.rfl _) (.rfl _))))) (.rfl _))) (Conv.trans (τ := mkSt [(4, rr 1032), (5, pI 4)] [(1032, bx [ow 100000 0, pI 0, .p (.sl .nil 0 0 (fun _ => [])), pI 0]), (100000, ob0 (roNode []))]) (Conv.tp [] [] (by kernel_rfl) .nil .nil) (Conv.trans (τ := mkSt [(4, rr 1032), (5, pI 4)] ((100001, ⟨0, .row 4 0 (elems encTask dTask [])⟩) :: [(1032, bx [ow 100000 0, pI 0, ow 100001 0, pI 0]), (100000, ob0 (roNode []))])) (Conv.adopt 100001 4 (elems encTask dTask []) rfl rfl (.rfl _) (.box (.cons (.rfl _) (.cons (.rfl _) (.cons (.nil _ _) (.cons (.rfl _) (.rfl _))))) (.keep (.rfl _)))) (Conv.trans (τ := mkSt [(4, rr 1032), (5, pI 4)] [(1032, bx [ow 100000 0, pI 0, ow 100001 0, pI 0]), (100000, ob0 (roNode [])), (100001, ob0 (roTask []))]) (Conv.tp [] [] (by kernel_rfl) .nil .nil) .refl)))) ?_
   refine DW.ret ?_
   obtain rfl := Option.some.inj hm
   refine retOK (bs' := [roNode [], roTask []]) [100000, 100001] (.tup [.agg [ow 0 0, pI 0, ow 1 0, pI 0], pI 4]) (by kernel_rfl) ?_ ?_
   · rfl
   · rfl
  ·
   intro h4
   replace hm := if_f h4 hm
   refine DW.skip ?_
   refine DW.seq (DW.seq (DW.regJ (sl2 := [(1, pI p1), (2, rr 1016), (4, rr 1032), (6, rr 1048), (31, pB ((p1 == 1) || (r3.1.kind == 1)))]) (ob2 := [(1016, bx (pm (encHierarchy p0))), (1032, bx [.p (.sl .nil 0 0 (fun _ => [])), pI 0, .p (.sl .nil 0 0 (fun _ => [])), pI 0]), (1048, bx (pm (encNode r3.1)))]) ?_ ?_))
   ·
    rcases bt (p1 == 1) with h5 | h5
    ·
     exact RT hnt (nn 3 (sk 3 (pT :: []))) [(31, pB true)] (an4 h5 trivial) (by kernel_rfl) (.cons rfl (.of_eq (by rw [h5]; try rfl)) .nil)
    ·
     exact RT hnt (nn 6 (pF :: [])) [(31, pB (r3.1.kind == 1))] (an4 h5 trivial) (by kernel_rfl) (.cons rfl (.of_eq (by rw [h5]; try rfl)) .nil)
   ·
    refine DW.cond ((p1 == 1) || (r3.1.kind == 1)) rfl rfl ?_ ?_
    ·
     intro h6
     replace hm := if_t h6 hm
     refine DW.seq (RK hnt (nn 3 []) [(4, rr 1032), (5, pI 9)] [(1032, bx [.p (.sl .nil 0 0 (fun _ => [])), pI 0, .p (.sl .nil 0 0 (fun _ => [])), pI 0])] trivial (by kernel_rfl) ?_)
     refine DW.conv (τ := mkSt [(4, rr 1032), (5, pI 9)] [(1032, bx [ow 100000 0, pI 0, ow 100001 0, pI 0]), (100000, ob0 (roNode [])), (100001, ob0 (roTask []))]) (Conv.trans (τ := mkSt [(4, rr 1032), (5, pI 9)] ((100000, ⟨0, .row 6 0 (elems encNode dNode [])⟩) :: [(1032, bx [ow 100000 0, pI 0, .p (.sl .nil 0 0 (fun _ => [])), pI 0])])) (Conv.adopt 100000 6 (elems encNode dNode []) rfl rfl (.rfl _) (.box (.cons (.nil _ _) (.cons (.rfl _) (.cons (.rfl _) (.cons (.rfl _) (.rfl _))))) (.rfl _))) (Conv.trans (τ := mkSt [(4, rr 1032), (5, pI 9)] [(1032, bx [ow 100000 0, pI 0, .p (.sl .nil 0 0 (fun _ => [])), pI 0]), (100000, ob0 (roNode []))]) (Conv.tp [] [] (by kernel_rfl) .nil .nil) (Conv.trans (τ := mkSt [(4, rr 1032), (5, pI 9)] ((100001, ⟨0, .row 4 0 (elems encTask dTask [])⟩) :: [(1032, bx [ow 100000 0, pI 0, ow 100001 0, pI 0]), (100000, ob0 (roNode []))])) (Conv.adopt 100001 4 (elems encTask dTask []) rfl rfl (.rfl _) (.box (.cons (.rfl _) (.cons (.rfl _) (.cons (.nil _ _) (.cons (.rfl _) (.rfl _))))) (.keep (.rfl _)))) (Conv.trans (τ := mkSt [(4, rr 1032), (5, pI 9)] [(1032, bx [ow 100000 0, pI 0, ow 100001 0, pI 0]), (100000, ob0 (roNode [])), (100001, ob0 (roTask []))]) (Conv.tp [] [] (by kernel_rfl) .nil .nil) .refl)))) ?_
     refine DW.ret ?_
     obtain rfl := Option.some.inj hm
     refine retOK (bs' := [roNode [], roTask []]) [100000, 100001] (.tup [.agg [ow 0 0, pI 0, ow 1 0, pI 0], pI 9]) (by kernel_rfl) ?_ ?_
     · rfl
     · rfl
    ·
     intro h6
     replace hm := if_f h6 hm
     refine DW.skip ?_
     obtain ⟨r7, hr7, hm⟩ := bind_open hm
     refine DW.seq (RK hnt (nn 4 (.call 51 [] true (.p (.tup [.agg (encNode r7.1), vb r7.2])) [] [] :: nn 6 [])) [(1, pI p1), (2, rr 1016), (4, rr 1032), (6, rr 1048), (8, rr 1064)] [(1016, bx (pm (encHierarchy p0))), (1032, bx [.p (.sl .nil 0 0 (fun _ => [])), pI 0, .p (.sl .nil 0 0 (fun _ => [])), pI 0]), (1048, bx (pm (encNode r3.1))), (1064, bx (pm (encNode r7.1)))] (an (Find_ref5Spec p0.tree r3.1.parent r7 hr7) trivial) (by kernel_rfl) ?_)
     obtain ⟨r8, hr8, hm⟩ := bind_open hm
     refine DW.seq (DW.seq ?_)
     refine DW.join (ι := Bool) (fun (y1 : Bool) => mkSt [(1, pI p1), (2, rr 1016), (4, rr 1032), (6, rr 1048), (57, pB y1)] [(1016, bx (pm (encHierarchy p0))), (1032, bx [.p (.sl .nil 0 0 (fun _ => [])), pI 0, .p (.sl .nil 0 0 (fun _ => [])), pI 0]), (1048, bx (pm (encNode r3.1)))]) (fun y1 => (Convert_ref8J1 p0 p1 r3) y1 = some RES) ?_ ?_
     ·
      intro y1 hm
      unfold Convert_ref8J1 at hm
      refine DW.cond y1 rfl rfl ?_ ?_
      ·
       intro h11
       replace hm := if_t h11 hm
       refine DW.seq (RK hnt (nn 3 []) [(4, rr 1032), (5, pI 10)] [(1032, bx [.p (.sl .nil 0 0 (fun _ => [])), pI 0, .p (.sl .nil 0 0 (fun _ => [])), pI 0])] trivial (by kernel_rfl) ?_)
       refine DW.conv (τ := mkSt [(4, rr 1032), (5, pI 10)] [(1032, bx [ow 100000 0, pI 0, ow 100001 0, pI 0]), (100000, ob0 (roNode [])), (100001, ob0 (roTask []))]) (Conv.trans (τ := mkSt [(4, rr 1032), (5, pI 10)] ((100000, ⟨0, .row 6 0 (elems encNode dNode [])⟩) :: [(1032, bx [ow 100000 0, pI 0, .p (.sl .nil 0 0 (fun _ => [])), pI 0])])) (Conv.adopt 100000 6 (elems encNode dNode []) rfl rfl (.rfl _) (.box (.cons (.nil _ _) (.cons (.rfl _) (.cons (.rfl _) (.cons (.rfl _) (.rfl _))))) (.rfl _))) (Conv.trans (τ := mkSt [(4, rr 1032), (5, pI 10)] [(1032, bx [ow 100000 0, pI 0, .p (.sl .nil 0 0 (fun _ => [])), pI 0]), (100000, ob0 (roNode []))]) (Conv.tp [] [] (by kernel_rfl) .nil .nil) (Conv.trans (τ := mkSt [(4, rr 1032), (5, pI 10)] ((100001, ⟨0, .row 4 0 (elems encTask dTask [])⟩) :: [(1032, bx [ow 100000 0, pI 0, ow 100001 0, pI 0]), (100000, ob0 (roNode []))])) (Conv.adopt 100001 4 (elems encTask dTask []) rfl rfl (.rfl _) (.box (.cons (.rfl _) (.cons (.rfl _) (.cons (.nil _ _) (.cons (.rfl _) (.rfl _))))) (.keep (.rfl _)))) (Conv.trans (τ := mkSt [(4, rr 1032), (5, pI 10)] [(1032, bx [ow 100000 0, pI 0, ow 100001 0, pI 0]), (100000, ob0 (roNode [])), (100001, ob0 (roTask []))]) (Conv.tp [] [] (by kernel_rfl) .nil .nil) .refl)))) ?_
       refine DW.ret ?_
       obtain rfl := Option.some.inj hm
       refine retOK (bs' := [roNode [], roTask []]) [100000, 100001] (.tup [.agg [ow 0 0, pI 0, ow 1 0, pI 0], pI 10]) (by kernel_rfl) ?_ ?_
       · rfl
       · rfl
      ·
       intro h11
       replace hm := if_f h11 hm
       refine DW.skip ?_
       refine DW.seq (DW.seq (RK hnt (nn 4 []) [(1, pI p1), (2, rr 1016), (4, rr 1032), (6, rr 1048), (62, pB ((kand .i64 r3.1.control 6) != 0))] [(1016, bx (pm (encHierarchy p0))), (1032, bx [.p (.sl .nil 0 0 (fun _ => [])), pI 0, .p (.sl .nil 0 0 (fun _ => [])), pI 0]), (1048, bx (pm (encNode r3.1)))] trivial (by kernel_rfl) ?_))
       refine DW.cond ((kand .i64 r3.1.control 6) != 0) rfl rfl ?_ ?_
       ·
        intro h12
        replace hm := if_t h12 hm
        refine DW.seq (RK hnt (nn 3 []) [(4, rr 1032), (5, pI 9)] [(1032, bx [.p (.sl .nil 0 0 (fun _ => [])), pI 0, .p (.sl .nil 0 0 (fun _ => [])), pI 0])] trivial (by kernel_rfl) ?_)
        refine DW.conv (τ := mkSt [(4, rr 1032), (5, pI 9)] [(1032, bx [ow 100000 0, pI 0, ow 100001 0, pI 0]), (100000, ob0 (roNode [])), (100001, ob0 (roTask []))]) (Conv.trans (τ := mkSt [(4, rr 1032), (5, pI 9)] ((100000, ⟨0, .row 6 0 (elems encNode dNode [])⟩) :: [(1032, bx [ow 100000 0, pI 0, .p (.sl .nil 0 0 (fun _ => [])), pI 0])])) (Conv.adopt 100000 6 (elems encNode dNode []) rfl rfl (.rfl _) (.box (.cons (.nil _ _) (.cons (.rfl _) (.cons (.rfl _) (.cons (.rfl _) (.rfl _))))) (.rfl _))) (Conv.trans (τ := mkSt [(4, rr 1032), (5, pI 9)] [(1032, bx [ow 100000 0, pI 0, .p (.sl .nil 0 0 (fun _ => [])), pI 0]), (100000, ob0 (roNode []))]) (Conv.tp [] [] (by kernel_rfl) .nil .nil) (Conv.trans (τ := mkSt [(4, rr 1032), (5, pI 9)] ((100001, ⟨0, .row 4 0 (elems encTask dTask [])⟩) :: [(1032, bx [ow 100000 0, pI 0, ow 100001 0, pI 0]), (100000, ob0 (roNode []))])) (Conv.adopt 100001 4 (elems encTask dTask []) rfl rfl (.rfl _) (.box (.cons (.rfl _) (.cons (.rfl _) (.cons (.nil _ _) (.cons (.rfl _) (.rfl _))))) (.keep (.rfl _)))) (Conv.trans (τ := mkSt [(4, rr 1032), (5, pI 9)] [(1032, bx [ow 100000 0, pI 0, ow 100001 0, pI 0]), (100000, ob0 (roNode [])), (100001, ob0 (roTask []))]) (Conv.tp [] [] (by kernel_rfl) .nil .nil) .refl)))) ?_
        refine DW.ret ?_
        obtain rfl := Option.some.inj hm
        refine retOK (bs' := [roNode [], roTask []]) [100000, 100001] (.tup [.agg [ow 0 0, pI 0, ow 1 0, pI 0], pI 9]) (by kernel_rfl) ?_ ?_
        · rfl
        · rfl
       ·
        intro h12
        replace hm := if_f h12 hm
        refine DW.skip ?_
        refine DW.seq (RK hnt (nn 2 []) [(1, pI p1), (2, rr 1016), (4, rr 1032), (6, rr 1048)] [(1016, bx (pm (encHierarchy p0))), (1032, bx [.p (.sl .nil 0 0 (fun _ => [])), pI 0, .p (.sl .nil 0 0 (fun _ => [])), pI 0]), (1048, bx [pI r3.1.id, pI r3.1.parent, pS r3.1.name, pI r3.1.control, pI 1, pI r3.1.owner])] trivial (by kernel_rfl) ?_)
        obtain ⟨r13, hr13, hm⟩ := bind_open hm
        refine DW.seq (RK hnt (.no :: .call 52 [] true (.agg [ow 0 r13.tree.nodes.length, pI r13.tree.next, ow 1 r13.tasks.length, pI r13.next]) [] [roNode r13.tree.nodes, roTask r13.tasks] :: nn 2 []) [(1, pI p1), (2, rr 1016), (4, rr 1032), (6, rr 1048), (10, rr 1080)] [(1016, bx (pm (encHierarchy p0))), (1032, bx [.p (.sl .nil 0 0 (fun _ => [])), pI 0, .p (.sl .nil 0 0 (fun _ => [])), pI 0]), (1048, bx [pI r3.1.id, pI r3.1.parent, pS r3.1.name, pI r3.1.control, pI 1, pI r3.1.owner]), (1080, bx [ow 1528 r13.tree.nodes.length, pI r13.tree.next, ow 1529 r13.tasks.length, pI r13.next]), (1528, ob0 (roNode r13.tree.nodes)), (1529, ob0 (roTask r13.tasks))] (an (Copy_ref6Spec p0 r13 hr13) trivial) (by kernel_rfl) ?_)
        obtain ⟨r14, hr14, hm⟩ := bind_open hm
        refine DW.seq (RK hnt (nn 3 (.call 62 [] true (.agg [ow 0 r14.nodes.length, pI r14.next]) [] [roNode r14.nodes] :: nn 2 [])) [(1, pI p1), (2, rr 1016), (4, rr 1032), (10, rr 1080)] [(1016, bx (pm (encHierarchy p0))), (1032, bx [.p (.sl .nil 0 0 (fun _ => [])), pI 0, .p (.sl .nil 0 0 (fun _ => [])), pI 0]), (1080, bx [ow 1560 r14.nodes.length, pI r14.next, ow 1529 r13.tasks.length, pI r13.next]), (1529, ob0 (roTask r13.tasks)), (1560, ob0 (roNode r14.nodes))] (an (Set_ref5Spec p0.tree ({ id := r3.1.id, parent := r3.1.parent, name := r3.1.name, control := r3.1.control, kind := 1, owner := r3.1.owner } : Node) r14 hr14) trivial) (by kernel_rfl) ?_)
        obtain ⟨r15, hr15, hm⟩ := bind_open hm
        refine DW.seq (DW.seq ?_)
        refine DW.join (ι := Bool) (fun (y2 : Bool) => mkSt [(4, rr 1032), (10, rr 1080), (81, pB y2)] [(1032, bx [.p (.sl .nil 0 0 (fun _ => [])), pI 0, .p (.sl .nil 0 0 (fun _ => [])), pI 0]), (1080, bx [ow 1560 r14.nodes.length, pI r14.next, ow 1529 r13.tasks.length, pI r13.next]), (1529, ob0 (roTask r13.tasks)), (1560, ob0 (roNode r14.nodes))]) (fun y2 => (Convert_ref8J2 r13 r14) y2 = some RES) ?_ ?_
        ·
         intro y2 hm
         unfold Convert_ref8J2 at hm
         refine DW.cond y2 rfl rfl ?_ ?_
         ·
          intro h18
          replace hm := if_t h18 hm
          refine DW.seq (RK hnt (nn 3 []) [(4, rr 1032), (5, pI 6)] [(1032, bx [.p (.sl .nil 0 0 (fun _ => [])), pI 0, .p (.sl .nil 0 0 (fun _ => [])), pI 0])] trivial (by kernel_rfl) ?_)
          refine DW.conv (τ := mkSt [(4, rr 1032), (5, pI 6)] [(1032, bx [ow 100000 0, pI 0, ow 100001 0, pI 0]), (100000, ob0 (roNode [])), (100001, ob0 (roTask []))]) (Conv.trans (τ := mkSt [(4, rr 1032), (5, pI 6)] ((100000, ⟨0, .row 6 0 (elems encNode dNode [])⟩) :: [(1032, bx [ow 100000 0, pI 0, .p (.sl .nil 0 0 (fun _ => [])), pI 0])])) (Conv.adopt 100000 6 (elems encNode dNode []) rfl rfl (.rfl _) (.box (.cons (.nil _ _) (.cons (.rfl _) (.cons (.rfl _) (.cons (.rfl _) (.rfl _))))) (.rfl _))) (Conv.trans (τ := mkSt [(4, rr 1032), (5, pI 6)] [(1032, bx [ow 100000 0, pI 0, .p (.sl .nil 0 0 (fun _ => [])), pI 0]), (100000, ob0 (roNode []))]) (Conv.tp [] [] (by kernel_rfl) .nil .nil) (Conv.trans (τ := mkSt [(4, rr 1032), (5, pI 6)] ((100001, ⟨0, .row 4 0 (elems encTask dTask [])⟩) :: [(1032, bx [ow 100000 0, pI 0, ow 100001 0, pI 0]), (100000, ob0 (roNode []))])) (Conv.adopt 100001 4 (elems encTask dTask []) rfl rfl (.rfl _) (.box (.cons (.rfl _) (.cons (.rfl _) (.cons (.nil _ _) (.cons (.rfl _) (.rfl _))))) (.keep (.rfl _)))) (Conv.trans (τ := mkSt [(4, rr 1032), (5, pI 6)] [(1032, bx [ow 100000 0, pI 0, ow 100001 0, pI 0]), (100000, ob0 (roNode [])), (100001, ob0 (roTask []))]) (Conv.tp [] [] (by kernel_rfl) .nil .nil) .refl)))) ?_
          refine DW.ret ?_
          obtain rfl := Option.some.inj hm
          refine retOK (bs' := [roNode [], roTask []]) [100000, 100001] (.tup [.agg [ow 0 0, pI 0, ow 1 0, pI 0], pI 6]) (by kernel_rfl) ?_ ?_
          · rfl
          · rfl
         ·
          intro h18
          replace hm := if_f h18 hm
          refine DW.skip ?_
          refine DW.seq (RK hnt (nn 3 []) [(4, rr 1032), (5, pI 0)] [(1032, bx [ow 1560 r14.nodes.length, pI r14.next, ow 1529 r13.tasks.length, pI r13.next]), (1529, ob0 (roTask r13.tasks)), (1560, ob0 (roNode r14.nodes))] trivial (by kernel_rfl) ?_)
          refine DW.ret ?_
          obtain rfl := Option.some.inj hm
          refine retOK (bs' := [roNode r14.nodes, roTask r13.tasks]) [1560, 1529] (.tup [.agg [ow 0 r14.nodes.length, pI r14.next, ow 1 r13.tasks.length, pI r13.next], pI 0]) (by kernel_rfl) ?_ ?_
          · rfl
          · rfl
        ·
         rcases bt (decide (((r15.length : Nat) : Int) > 0)) with h16 | h16
         ·
          replace hm := if_t h16 hm
          refine RK hnt (nn 2 (.call 81 [] true (ow 0 r15.length) [] [roI r15] :: nn 3 (sk 3 (pT :: [])))) [(4, rr 1032), (10, rr 1080), (81, pB true)] [(1032, bx [.p (.sl .nil 0 0 (fun _ => [])), pI 0, .p (.sl .nil 0 0 (fun _ => [])), pI 0]), (1080, bx [ow 1560 r14.nodes.length, pI r14.next, ow 1529 r13.tasks.length, pI r13.next]), (1529, ob0 (roTask r13.tasks)), (1560, ob0 (roNode r14.nodes))] (an (Tasks_ref6Spec p0 p1 r15 hr15) (an4 h16 trivial)) (by kernel_rfl) ?_
          exact joinDone true hm .refl
         ·
          replace hm := if_f h16 hm
          obtain ⟨r17, hr17, hm⟩ := bind_open hm
          refine RK hnt (nn 2 (.call 81 [] true (ow 0 r15.length) [] [roI r15] :: nn 4 (.call 63 [] true (pB r17) [] [] :: .no :: pF :: []))) [(4, rr 1032), (10, rr 1080), (81, pB (!r17))] [(1032, bx [.p (.sl .nil 0 0 (fun _ => [])), pI 0, .p (.sl .nil 0 0 (fun _ => [])), pI 0]), (1080, bx [ow 1560 r14.nodes.length, pI r14.next, ow 1529 r13.tasks.length, pI r13.next]), (1529, ob0 (roTask r13.tasks)), (1560, ob0 (roNode r14.nodes))] (an (Tasks_ref6Spec p0 p1 r15 hr15) (an2 h16 (an (Fits_ref8Spec ({ tree := r14, tasks := r13.tasks, next := r13.next } : Hierarchy) r17 hr17) (an2 h16 trivial)))) (by kernel_rfl) ?_
          exact joinDone (!r17) hm .refl
     ·
      rcases bt (r8 == 3) with h9 | h9
      ·
       replace hm := if_t h9 hm
       refine RK hnt (nn 4 (.call 64 [] true (pI r8) [] [] :: nn 2 (sk 9 (pT :: [])))) [(1, pI p1), (2, rr 1016), (4, rr 1032), (6, rr 1048), (57, pB true)] [(1016, bx (pm (encHierarchy p0))), (1032, bx [.p (.sl .nil 0 0 (fun _ => [])), pI 0, .p (.sl .nil 0 0 (fun _ => [])), pI 0]), (1048, bx (pm (encNode r3.1)))] (an (Type_ref8Spec p0.tree r7.1.id r8 hr8) (an6 h9 trivial)) (by kernel_rfl) ?_
       exact joinDone true hm .refl
      ·
       replace hm := if_f h9 hm
       rcases bt (r7.1.id != 1) with h10 | h10
       ·
        replace hm := if_t h10 hm
        refine RK hnt (nn 4 (.call 64 [] true (pI r8) [] [] :: nn 10 (pT :: pF :: []))) [(1, pI p1), (2, rr 1016), (4, rr 1032), (6, rr 1048), (57, pB ((kand .i64 r7.1.control 6) != 0))] [(1016, bx (pm (encHierarchy p0))), (1032, bx [.p (.sl .nil 0 0 (fun _ => [])), pI 0, .p (.sl .nil 0 0 (fun _ => [])), pI 0]), (1048, bx (pm (encNode r3.1)))] (an (Type_ref8Spec p0.tree r7.1.id r8 hr8) (an4 h9 (an4 h10 (an h9 (an h10 (an h9 trivial)))))) (by kernel_rfl) ?_
        exact joinDone ((kand .i64 r7.1.control 6) != 0) hm .refl
       ·
        replace hm := if_f h10 hm
        refine RK hnt (nn 4 (.call 64 [] true (pI r8) [] [] :: nn 6 (sk 4 (pF :: pF :: [])))) [(1, pI p1), (2, rr 1016), (4, rr 1032), (6, rr 1048), (57, pB false)] [(1016, bx (pm (encHierarchy p0))), (1032, bx [.p (.sl .nil 0 0 (fun _ => [])), pI 0, .p (.sl .nil 0 0 (fun _ => [])), pI 0]), (1048, bx (pm (encNode r3.1)))] (an (Type_ref8Spec p0.tree r7.1.id r8 hr8) (an4 h9 (an4 h10 (an h9 (an h10 (an h9 trivial)))))) (by kernel_rfl) ?_
        exact joinDone false hm .refl

theorem step_Dice_madeSpec (p0 : Dice) (p1 : Hierarchy) (RES : Hierarchy × Dice) (hm : step_Dice_made p0 p1 = some RES) : Spec Try.prog 33 [rr 0, .p (.agg (encHierarchy p1))] [.box (pm (encDice p0))] (.p (.agg (encHierarchy RES.1))) [.box (pm (encDice RES.2))] [] := by
 unfold step_Dice_made at hm
 refine spec_of Tgood (T := Tt) Try.func33 (by decide) (c := _) rfl rfl (sl := [(0, rr 0), (1, .p (.agg (encHierarchy p1)))]) (ob := [(0, bx (pm (encDice p0)))]) (Nat.le_of_ble_eq_true rfl) (Nat.le_of_ble_eq_true rfl) (by kernel_rfl) (by kernel_rfl) ?_
 intro cx hnt
 refine DW.start ?_
 refine DW.seq (RK hnt (nn 2 []) [(0, rr 0), (3, rr 1024), (4, rr 1032)] [(0, bx (pm (encDice p0))), (1024, bx (pm (encHierarchy p1))), (1032, bx [.p (.sl .nil 0 0 (fun _ => [])), pI 0, .p (.sl .nil 0 0 (fun _ => [])), pI 0])] trivial (by kernel_rfl) ?_)
 obtain ⟨r1, hr1, hm⟩ := bind_open hm
 refine DW.seq (RK hnt (nn 3 (.call 34 [0] true (pI r1.1) [.box (pm (encDice r1.2))] [] :: .no :: [])) [(0, rr 0), (3, rr 1024), (4, rr 1032), (5, pI r1.1)] [(0, bx (pm (encDice r1.2))), (1024, bx (pm (encHierarchy p1))), (1032, bx [.p (.sl .nil 0 0 (fun _ => [])), pI 0, .p (.sl .nil 0 0 (fun _ => [])), pI 0])] (an (Group_Dice_madeSpec p0 p1.tree r1 hr1) (an trivial trivial)) (by kernel_rfl) ?_)
 obtain ⟨r2, hr2, hm⟩ := bind_open hm
 refine DW.seq (DW.seq (RK hnt (.no :: .call 15 [0] true (pI r2.1) [.box (pm (encDice r2.2))] [] :: []) [(0, rr 0), (3, rr 1024), (4, rr 1032), (5, pI r1.1), (17, pI r2.1)] [(0, bx (pm (encDice r2.2))), (1024, bx (pm (encHierarchy p1))), (1032, bx [.p (.sl .nil 0 0 (fun _ => [])), pI 0, .p (.sl .nil 0 0 (fun _ => [])), pI 0])] (an (Next_Dice_madeSpec r1.2 5 r2 hr2) (an trivial trivial)) (by kernel_rfl) ?_))
 refine DW.join (ι := Dice × Hierarchy) (fun (y1 : Dice × Hierarchy) => mkSt [(3, rr 1024), (4, rr 1032)] [(0, bx (pm (encDice y1.1))), (1024, bx (pm (encHierarchy y1.2))), (1032, bx [.p (.sl .nil 0 0 (fun _ => [])), pI 0, .p (.sl .nil 0 0 (fun _ => [])), pI 0])]) (fun y1 => step_Dice_madeJ1 y1 = some RES) ?_ ?_
 ·
  intro y1 hm
  unfold step_Dice_madeJ1 at hm
  refine DW.seq (RK hnt (nn 2 []) [(4, rr 1032)] [(0, bx (pm (encDice y1.1))), (1032, bx (pm (encHierarchy y1.2)))] trivial (by kernel_rfl) ?_)
  refine DW.ret ?_
  obtain rfl := Option.some.inj hm
  refine retOK (bs' := [.box (pm (encDice y1.1))]) [] (.p (.agg (encHierarchy y1.2))) (by kernel_rfl) ?_ ?_
  · rfl
  · rfl
 ·
  refine DW.block ?_
  refine DW.seq (DW.seq (RK hnt (nn 2 []) [(0, rr 0), (3, rr 1024), (4, rr 1032), (5, pI r1.1), (17, pI r2.1), (18, pB (r2.1 == 0))] [(0, bx (pm (encDice r2.2))), (1024, bx (pm (encHierarchy p1))), (1032, bx [.p (.sl .nil 0 0 (fun _ => [])), pI 0, .p (.sl .nil 0 0 (fun _ => [])), pI 0])] trivial (by kernel_rfl) ?_))
  refine DW.join (ι := Bool) (fun (y2 : Bool) => mkSt [(0, rr 0), (3, rr 1024), (4, rr 1032), (5, pI r1.1), (17, pI r2.1), (18, pB y2)] [(0, bx (pm (encDice r2.2))), (1024, bx (pm (encHierarchy p1))), (1032, bx [.p (.sl .nil 0 0 (fun _ => [])), pI 0, .p (.sl .nil 0 0 (fun _ => [])), pI 0])]) (fun y2 => (step_Dice_madeJ2 p1 r1 r2) y2 = some RES) ?_ ?_
  ·
   intro y2 hm
   unfold step_Dice_madeJ2 at hm
   refine DW.cond y2 rfl rfl ?_ ?_
   ·
    intro h4
    replace hm := if_t h4 hm
    obtain ⟨r5, hr5, hm⟩ := bind_open hm
    obtain ⟨r6, hr6, hm⟩ := bind_open hm
    refine DW.seq (RK hnt (nn 3 (.call 60 [0] true (pI r5.1) [.box (pm (encDice r5.2))] [] :: .call 59 [] true (.tup [.agg [ow 0 r6.1.tree.nodes.length, pI r6.1.tree.next, ow 1 r6.1.tasks.length, pI r6.1.next], pI r6.2]) [] [roNode r6.1.tree.nodes, roTask r6.1.tasks] :: nn 6 [])) [(3, rr 1024), (4, rr 1032), (6, rr 1048), (7, pI r6.2)] [(0, bx (pm (encDice r5.2))), (1024, bx (pm (encHierarchy p1))), (1032, bx [.p (.sl .nil 0 0 (fun _ => [])), pI 0, .p (.sl .nil 0 0 (fun _ => [])), pI 0]), (1048, bx [ow 1208 r6.1.tree.nodes.length, pI r6.1.tree.next, ow 1209 r6.1.tasks.length, pI r6.1.next]), (1208, ob0 (roNode r6.1.tree.nodes)), (1209, ob0 (roTask r6.1.tasks))] (an (Controllers_Dice_madeSpec r2.2 r5 hr5) (an trivial (an (Enable_ref8Spec p1 r1.1 r5.1 0 r6 hr6) trivial))) (by kernel_rfl) ?_)
    refine DW.seq (RK hnt (nn 2 []) [(3, rr 1024), (4, rr 1032), (6, rr 1048), (30, pB (r6.2 == 0))] [(0, bx (pm (encDice r5.2))), (1024, bx (pm (encHierarchy p1))), (1032, bx [.p (.sl .nil 0 0 (fun _ => [])), pI 0, .p (.sl .nil 0 0 (fun _ => [])), pI 0]), (1048, bx [ow 1208 r6.1.tree.nodes.length, pI r6.1.tree.next, ow 1209 r6.1.tasks.length, pI r6.1.next]), (1208, ob0 (roNode r6.1.tree.nodes)), (1209, ob0 (roTask r6.1.tasks))] trivial (by kernel_rfl) ?_)
    refine DW.cond (r6.2 == 0) rfl rfl ?_ ?_
    ·
     intro h7
     replace hm := if_t h7 hm
     refine DW.seq (RK hnt (nn 2 []) [(4, rr 1032)] [(0, bx (pm (encDice r5.2))), (1032, bx [ow 1208 r6.1.tree.nodes.length, pI r6.1.tree.next, ow 1209 r6.1.tasks.length, pI r6.1.next]), (1208, ob0 (roNode r6.1.tree.nodes)), (1209, ob0 (roTask r6.1.tasks))] trivial (by kernel_rfl) ?_)
     refine DW.ret ?_
     obtain rfl := Option.some.inj hm
     refine retOK (bs' := [.box (pm (encDice r5.2))]) [] (.p (.agg (encHierarchy r6.1))) (by kernel_rfl) ?_ ?_
     · rfl
     · rfl
    ·
     intro h7
     replace hm := if_f h7 hm
     refine DW.skip ?_
     exact blockDone (r5.2, p1) hm (Conv.tp [] [] (by kernel_rfl) .nil .nil)
   ·
    intro h4
    replace hm := if_f h4 hm
    refine DW.seq (RK hnt (nn 2 []) [(0, rr 0), (3, rr 1024), (4, rr 1032), (5, pI r1.1), (17, pI r2.1), (32, pB (r2.1 == 2))] [(0, bx (pm (encDice r2.2))), (1024, bx (pm (encHierarchy p1))), (1032, bx [.p (.sl .nil 0 0 (fun _ => [])), pI 0, .p (.sl .nil 0 0 (fun _ => [])), pI 0])] trivial (by kernel_rfl) ?_)
    refine DW.cond (r2.1 == 2) rfl rfl ?_ ?_
    ·
     intro h8
     replace hm := if_t h8 hm
     obtain ⟨r9, hr9, hm⟩ := bind_open hm
     refine DW.seq (RK hnt (nn 2 (.call 61 [] true (.tup [.agg [ow 0 r9.1.tree.nodes.length, pI r9.1.tree.next, ow 1 r9.1.tasks.length, pI r9.1.next], pI r9.2]) [] [roNode r9.1.tree.nodes, roTask r9.1.tasks] :: nn 6 [])) [(3, rr 1024), (4, rr 1032), (8, rr 1064), (9, pI r9.2)] [(0, bx (pm (encDice r2.2))), (1024, bx (pm (encHierarchy p1))), (1032, bx [.p (.sl .nil 0 0 (fun _ => [])), pI 0, .p (.sl .nil 0 0 (fun _ => [])), pI 0]), (1064, bx [ow 1296 r9.1.tree.nodes.length, pI r9.1.tree.next, ow 1297 r9.1.tasks.length, pI r9.1.next]), (1296, ob0 (roNode r9.1.tree.nodes)), (1297, ob0 (roTask r9.1.tasks))] (an (Convert_ref8Spec p1 r1.1 r9 hr9) trivial) (by kernel_rfl) ?_)
     refine DW.seq (RK hnt (nn 2 []) [(3, rr 1024), (4, rr 1032), (8, rr 1064), (41, pB (r9.2 == 0))] [(0, bx (pm (encDice r2.2))), (1024, bx (pm (encHierarchy p1))), (1032, bx [.p (.sl .nil 0 0 (fun _ => [])), pI 0, .p (.sl .nil 0 0 (fun _ => [])), pI 0]), (1064, bx [ow 1296 r9.1.tree.nodes.length, pI r9.1.tree.next, ow 1297 r9.1.tasks.length, pI r9.1.next]), (1296, ob0 (roNode r9.1.tree.nodes)), (1297, ob0 (roTask r9.1.tasks))] trivial (by kernel_rfl) ?_)
     refine DW.cond (r9.2 == 0) rfl rfl ?_ ?_
     ·
      intro h10
      replace hm := if_t h10 hm
      refine DW.seq (RK hnt (nn 2 []) [(4, rr 1032)] [(0, bx (pm (encDice r2.2))), (1032, bx [ow 1296 r9.1.tree.nodes.length, pI r9.1.tree.next, ow 1297 r9.1.tasks.length, pI r9.1.next]), (1296, ob0 (roNode r9.1.tree.nodes)), (1297, ob0 (roTask r9.1.tasks))] trivial (by kernel_rfl) ?_)
      refine DW.ret ?_
      obtain rfl := Option.some.inj hm
      refine retOK (bs' := [.box (pm (encDice r2.2))]) [] (.p (.agg (encHierarchy r9.1))) (by kernel_rfl) ?_ ?_
      · rfl
      · rfl
     ·
      intro h10
      replace hm := if_f h10 hm
      refine DW.skip ?_
      exact blockDone (r2.2, p1) hm (Conv.tp [] [] (by kernel_rfl) .nil .nil)
    ·
     intro h8
     replace hm := if_f h8 hm
     refine DW.seq (RK hnt (nn 2 []) [(0, rr 0), (3, rr 1024), (4, rr 1032), (5, pI r1.1), (43, pB (r2.1 == 3))] [(0, bx (pm (encDice r2.2))), (1024, bx (pm (encHierarchy p1))), (1032, bx [.p (.sl .nil 0 0 (fun _ => [])), pI 0, .p (.sl .nil 0 0 (fun _ => [])), pI 0])] trivial (by kernel_rfl) ?_)
     refine DW.cond (r2.1 == 3) rfl rfl ?_ ?_
     ·
      intro h11
      replace hm := if_t h11 hm
      obtain ⟨r12, hr12, hm⟩ := bind_open hm
      refine DW.seq (RK hnt (nn 3 (.call 51 [] true (.p (.tup [.agg (encNode r12.1), vb r12.2])) [] [] :: nn 6 [])) [(0, rr 0), (3, rr 1024), (4, rr 1032), (5, pI r1.1), (10, rr 1080), (11, pB r12.2)] [(0, bx (pm (encDice r2.2))), (1024, bx (pm (encHierarchy p1))), (1032, bx [.p (.sl .nil 0 0 (fun _ => [])), pI 0, .p (.sl .nil 0 0 (fun _ => [])), pI 0]), (1080, bx (pm (encNode r12.1)))] (an (Find_ref5Spec p1.tree r1.1 r12 hr12) trivial) (by kernel_rfl) ?_)
      refine DW.seq (DW.regJ (sl2 := [(0, rr 0), (3, rr 1024), (4, rr 1032), (10, rr 1080), (56, pB (r12.2 && (r1.1 != 1)))]) (ob2 := [(0, bx (pm (encDice r2.2))), (1024, bx (pm (encHierarchy p1))), (1032, bx [.p (.sl .nil 0 0 (fun _ => [])), pI 0, .p (.sl .nil 0 0 (fun _ => [])), pI 0]), (1080, bx (pm (encNode r12.1)))]) ?_ ?_)
      ·
       rcases bt r12.2 with h13 | h13
       ·
        exact RT hnt (nn 4 (pT :: [])) [(56, pB (r1.1 != 1))] (an3 h13 trivial) (by kernel_rfl) (.cons rfl (.of_eq (by rw [h13]; try rfl)) .nil)
       ·
        exact RT hnt (nn 2 (sk 2 (pF :: []))) [(56, pB false)] (an3 h13 trivial) (by kernel_rfl) (.cons rfl (.of_eq (by rw [h13]; try rfl)) .nil)
      ·
       refine DW.cond (r12.2 && (r1.1 != 1)) rfl rfl ?_ ?_
       ·
        intro h14
        replace hm := if_t h14 hm
        obtain ⟨r15, hr15, hm⟩ := bind_open hm
        refine DW.seq (RK hnt (.no :: .call 15 [0] true (pI r15.1) [.box (pm (encDice r15.2))] [] :: nn 2 []) [(3, rr 1024), (4, rr 1032), (10, rr 1080)] [(0, bx (pm (encDice r15.2))), (1024, bx (pm (encHierarchy p1))), (1032, bx [.p (.sl .nil 0 0 (fun _ => [])), pI 0, .p (.sl .nil 0 0 (fun _ => [])), pI 0]), (1080, bx [pI r12.1.id, pI r12.1.parent, pS r12.1.name, pI r12.1.control, pI r12.1.kind, pI r15.1])] (an (Next_Dice_madeSpec r2.2 3 r15 hr15) (an trivial trivial)) (by kernel_rfl) ?_)
        obtain ⟨r16, hr16, hm⟩ := bind_open hm
        refine RK hnt (nn 3 (.call 62 [] true (.agg [ow 0 r16.nodes.length, pI r16.next]) [] [roNode r16.nodes] :: nn 2 [])) [(3, rr 1024), (4, rr 1032)] [(0, bx (pm (encDice r15.2))), (1024, bx [ow 1504 r16.nodes.length, pI r16.next, .p (slTask p1.tasks), pI p1.next]), (1032, bx [.p (.sl .nil 0 0 (fun _ => [])), pI 0, .p (.sl .nil 0 0 (fun _ => [])), pI 0]), (1504, ob0 (roNode r16.nodes))] (an (Set_ref5Spec p1.tree ({ id := r12.1.id, parent := r12.1.parent, name := r12.1.name, control := r12.1.control, kind := r12.1.kind, owner := r15.1 } : Node) r16 hr16) trivial) (by kernel_rfl) ?_
        exact blockDone (r15.2, ({ tree := r16, tasks := p1.tasks, next := p1.next } : Hierarchy)) hm (Conv.trans (τ := mkSt [(3, rr 1024), (4, rr 1032)] [(0, bx (pm (encDice r15.2))), (1024, bx [.p (slNode r16.nodes), pI r16.next, .p (slTask p1.tasks), pI p1.next]), (1032, bx [.p (.sl .nil 0 0 (fun _ => [])), pI 0, .p (.sl .nil 0 0 (fun _ => [])), pI 0])]) (Conv.freezes [1504] (by kernel_rfl)) .refl)
       ·
        intro h14
        replace hm := if_f h14 hm
        refine DW.skip ?_
        exact blockDone (r2.2, p1) hm (Conv.tp [] [] (by kernel_rfl) .nil .nil)
     ·
      intro h11
      replace hm := if_f h11 hm
      refine DW.skip ?_
      exact blockDone (r2.2, p1) hm (Conv.tp [] [] (by kernel_rfl) .nil .nil)
  ·
   refine DW.cond (r2.1 == 0) rfl rfl ?_ ?_
   ·
    intro h3
    replace hm := if_t h3 hm
    refine DW.skip ?_
    exact joinDone (r2.1 == 0) hm .refl
   ·
    intro h3
    replace hm := if_f h3 hm
    refine RK hnt (nn 2 []) [(0, rr 0), (3, rr 1024), (4, rr 1032), (5, pI r1.1), (17, pI r2.1), (18, pB (r2.1 == 1))] [(0, bx (pm (encDice r2.2))), (1024, bx (pm (encHierarchy p1))), (1032, bx [.p (.sl .nil 0 0 (fun _ => [])), pI 0, .p (.sl .nil 0 0 (fun _ => [])), pI 0])] trivial (by kernel_rfl) ?_
    exact joinDone (r2.1 == 1) hm .refl

theorem Admits_ref8Spec (p0 : Hierarchy) (p1 : Int) (RES : Int) (hm : Admits_ref8 p0 p1 = some RES) : Spec Try.prog 35 [.p (.agg (encHierarchy p0)), pI p1] [] (pI RES) [] [] := by
 unfold Admits_ref8 at hm
 refine spec_of Tgood (T := Tt) Try.func35 (by decide) (c := _) rfl rfl (sl := [(0, .p (.agg (encHierarchy p0))), (1, pI p1)]) (ob := []) (Nat.le_of_ble_eq_true rfl) (Nat.le_of_ble_eq_true rfl) (by kernel_rfl) (by kernel_rfl) ?_
 intro cx hnt
 refine DW.start ?_
 refine DW.seq (RK hnt (nn 2 []) [(1, pI p1), (2, rr 1016)] [(1016, bx (pm (encHierarchy p0)))] trivial (by kernel_rfl) ?_)
 obtain ⟨r1, hr1, hm⟩ := bind_open hm
 refine DW.seq (DW.seq (RK hnt (.no :: .call 63 [] true (pB r1) [] [] :: .no :: []) [(1, pI p1), (2, rr 1016), (9, pB (!r1))] [(1016, bx (pm (encHierarchy p0)))] (an (Fits_ref8Spec p0 r1 hr1) trivial) (by kernel_rfl) ?_))
 refine DW.cond (!r1) rfl rfl ?_ ?_
 ·
  intro h2
  replace hm := if_t h2 hm
  refine DW.seq (RK hnt (.no :: []) [(4, pI 1)] [] trivial (by kernel_rfl) ?_)
  refine DW.ret ?_
  obtain rfl := Option.some.inj hm
  refine retOK (bs' := []) [] (pI 1) (by kernel_rfl) ?_ ?_
  · rfl
  · rfl
 ·
  intro h2
  replace hm := if_f h2 hm
  refine DW.skip ?_
  obtain ⟨r3, hr3, hm⟩ := bind_open hm
  refine DW.seq (RK hnt (nn 3 (.call 51 [] true (.p (.tup [.agg (encNode r3.1), vb r3.2])) [] [] :: nn 6 [])) [(1, pI p1), (2, rr 1016), (5, rr 1040), (6, pB r3.2)] [(1016, bx (pm (encHierarchy p0))), (1040, bx (pm (encNode r3.1)))] (an (Find_ref5Spec p0.tree p1 r3 hr3) trivial) (by kernel_rfl) ?_)
  refine DW.seq (DW.block ?_)
  refine DW.seq (RK hnt (nn 3 []) [(1, pI p1), (2, rr 1016), (5, rr 1040), (17, pB (!r3.2))] [(1016, bx (pm (encHierarchy p0))), (1040, bx (pm (encNode r3.1)))] trivial (by kernel_rfl) ?_)
  refine DW.cond (!r3.2) rfl rfl ?_ ?_
  ·
   intro h4
   replace hm := if_t h4 hm
   refine DW.seq (RK hnt (.no :: []) [(4, pI 4)] [] trivial (by kernel_rfl) ?_)
   refine DW.ret ?_
   obtain rfl := Option.some.inj hm
   refine retOK (bs' := []) [] (pI 4) (by kernel_rfl) ?_ ?_
   · rfl
   · rfl
  ·
   intro h4
   replace hm := if_f h4 hm
   obtain ⟨r5, hr5, hm⟩ := bind_open hm
   refine DW.seq (RK hnt (nn 3 (.call 64 [] true (pI r5) [] [] :: nn 2 [])) [(1, pI p1), (5, rr 1040), (20, pB (r5 == 3))] [(1040, bx (pm (encNode r3.1)))] (an (Type_ref8Spec p0.tree p1 r5 hr5) trivial) (by kernel_rfl) ?_)
   refine DW.cond (r5 == 3) rfl rfl ?_ ?_
   ·
    intro h6
    replace hm := if_t h6 hm
    refine DW.seq (RK hnt (.no :: []) [(4, pI 10)] [] trivial (by kernel_rfl) ?_)
    refine DW.ret ?_
    obtain rfl := Option.some.inj hm
    refine retOK (bs' := []) [] (pI 10) (by kernel_rfl) ?_ ?_
    · rfl
    · rfl
   ·
    intro h6
    replace hm := if_f h6 hm
    refine DW.seq (DW.regJ (sl2 := [(26, pB ((p1 != 1) && ((kand .i64 r3.1.control 6) != 0)))]) (ob2 := []) ?_ ?_)
    ·
     rcases bt (p1 != 1) with h7 | h7
     ·
      exact RT hnt (nn 7 (pT :: .no :: [])) [(26, pB ((kand .i64 r3.1.control 6) != 0))] (an5 h7 trivial) (by kernel_rfl) (.cons rfl (.of_eq (by rw [h7]; try rfl)) .nil)
     ·
      exact RT hnt (nn 3 (sk 4 (pF :: .no :: []))) [(26, pB false)] (an5 h7 trivial) (by kernel_rfl) (.cons rfl (.of_eq (by rw [h7]; try rfl)) .nil)
    ·
     refine DW.cond ((p1 != 1) && ((kand .i64 r3.1.control 6) != 0)) rfl rfl ?_ ?_
     ·
      intro h8
      replace hm := if_t h8 hm
      refine DW.seq (RK hnt (.no :: []) [(4, pI 6)] [] trivial (by kernel_rfl) ?_)
      refine DW.ret ?_
      obtain rfl := Option.some.inj hm
      refine retOK (bs' := []) [] (pI 6) (by kernel_rfl) ?_ ?_
      · rfl
      · rfl
     ·
      intro h8
      replace hm := if_f h8 hm
      refine DW.skip ?_
      refine DW.done ?_
      show DW _ _ _ _ _
      refine DW.seq (RK hnt (.no :: []) [(4, pI 0)] [] trivial (by kernel_rfl) ?_)
      refine DW.ret ?_
      obtain rfl := Option.some.inj hm
      refine retOK (bs' := []) [] (pI 0) (by kernel_rfl) ?_ ?_
      · rfl
      · rfl

theorem add_ref6Spec (p0 : Hierarchy) (p1 : Task) (RES : Hierarchy × Int × Int) (hm : add_ref6 p0 p1 = some RES) : Spec Try.prog 26 [.p (.agg (encHierarchy p0)), .p (.agg (encTask p1))] [] (.tup [.agg [ow 0 RES.1.tree.nodes.length, pI RES.1.tree.next, ow 1 RES.1.tasks.length, pI RES.1.next], pI RES.2.1, pI RES.2.2]) [] [roNode RES.1.tree.nodes, roTask RES.1.tasks] := by
 unfold add_ref6 at hm
 refine spec_of Tgood (T := Tt) Try.func26 (by decide) (c := _) rfl rfl (sl := [(0, .p (.agg (encHierarchy p0))), (1, .p (.agg (encTask p1)))]) (ob := []) (Nat.le_of_ble_eq_true rfl) (Nat.le_of_ble_eq_true rfl) (by kernel_rfl) (by kernel_rfl) ?_
 intro cx hnt
 refine DW.start ?_
 refine DW.seq (RK hnt (nn 5 []) [(2, rr 1016), (3, rr 1024), (4, rr 1032)] [(1016, bx (pm (encHierarchy p0))), (1024, bx (pm (encTask p1))), (1032, bx [.p (.sl .nil 0 0 (fun _ => [])), pI 0, .p (.sl .nil 0 0 (fun _ => [])), pI 0])] trivial (by kernel_rfl) ?_)
 refine DW.seq (DW.seq (DW.regJ (sl2 := [(2, rr 1016), (3, rr 1024), (4, rr 1032), (16, pB ((decide (((p0.tasks.length : Nat) : Int) ≥ 128)) || (decide (p0.next > 2147483647))))]) (ob2 := [(1016, bx (pm (encHierarchy p0))), (1024, bx (pm (encTask p1))), (1032, bx [.p (.sl .nil 0 0 (fun _ => [])), pI 0, .p (.sl .nil 0 0 (fun _ => [])), pI 0])]) ?_ ?_))
 ·
  rcases bt (decide (((p0.tasks.length : Nat) : Int) ≥ 128)) with h1 | h1
  ·
   exact RT hnt (nn 5 (sk 3 (pT :: []))) [(16, pB true)] (an4 h1 trivial) (by kernel_rfl) (.cons rfl (.of_eq (by rw [h1]; try rfl)) .nil)
  ·
   exact RT hnt (nn 8 (pF :: [])) [(16, pB (decide (p0.next > 2147483647)))] (an4 h1 trivial) (by kernel_rfl) (.cons rfl (.of_eq (by rw [h1]; try rfl)) .nil)
 ·
  refine DW.cond ((decide (((p0.tasks.length : Nat) : Int) ≥ 128)) || (decide (p0.next > 2147483647))) rfl rfl ?_ ?_
  ·
   intro h2
   replace hm := if_t h2 hm
   refine DW.seq (RK hnt (nn 4 []) [(4, rr 1032), (5, pI 0), (6, pI 7)] [(1032, bx [.p (.sl .nil 0 0 (fun _ => [])), pI 0, .p (.sl .nil 0 0 (fun _ => [])), pI 0])] trivial (by kernel_rfl) ?_)
   refine DW.conv (τ := mkSt [(4, rr 1032), (5, pI 0), (6, pI 7)] [(1032, bx [ow 100000 0, pI 0, ow 100001 0, pI 0]), (100000, ob0 (roNode [])), (100001, ob0 (roTask []))]) (Conv.trans (τ := mkSt [(4, rr 1032), (5, pI 0), (6, pI 7)] ((100000, ⟨0, .row 6 0 (elems encNode dNode [])⟩) :: [(1032, bx [ow 100000 0, pI 0, .p (.sl .nil 0 0 (fun _ => [])), pI 0])])) (Conv.adopt 100000 6 (elems encNode dNode []) rfl rfl (.rfl _) (.box (.cons (.nil _ _) (.cons (.rfl _) (.cons (.rfl _) (.cons (.rfl _) (.rfl _))))) (.rfl _))) (Conv.trans (τ := mkSt [(4, rr 1032), (5, pI 0), (6, pI 7)] [(1032, bx [ow 100000 0, pI 0, .p (.sl .nil 0 0 (fun _ => [])), pI 0]), (100000, ob0 (roNode []))]) (Conv.tp [] [] (by kernel_rfl) .nil .nil) (Conv.trans (τ := mkSt [(4, rr 1032), (5, pI 0), (6, pI 7)] ((100001, ⟨0, .row 4 0 (elems encTask dTask [])⟩) :: [(1032, bx [ow 100000 0, pI 0, ow 100001 0, pI 0]), (100000, ob0 (roNode []))])) (Conv.adopt 100001 4 (elems encTask dTask []) rfl rfl (.rfl _) (.box (.cons (.rfl _) (.cons (.rfl _) (.cons (.nil _ _) (.cons (.rfl _) (.rfl _))))) (.keep (.rfl _)))) (Conv.trans (τ := mkSt [(4, rr 1032), (5, pI 0), (6, pI 7)] [(1032, bx [ow 100000 0, pI 0, ow 100001 0, pI 0]), (100000, ob0 (roNode [])), (100001, ob0 (roTask []))]) (Conv.tp [] [] (by kernel_rfl) .nil .nil) .refl)))) ?_
   refine DW.ret ?_
   obtain rfl := Option.some.inj hm
   refine retOK (bs' := [roNode [], roTask []]) [100000, 100001] (.tup [.agg [ow 0 0, pI 0, ow 1 0, pI 0], pI 0, pI 7]) (by kernel_rfl) ?_ ?_
   · rfl
   · rfl
  ·
   intro h2
   replace hm := if_f h2 hm
   refine DW.skip ?_
   obtain ⟨r3, hr3, hm⟩ := bind_open hm
   refine DW.seq (RK hnt (.no :: .call 52 [] true (.agg [ow 0 r3.tree.nodes.length, pI r3.tree.next, ow 1 r3.tasks.length, pI r3.next]) [] [roNode r3.tree.nodes, roTask r3.tasks] :: nn 2 []) [(2, rr 1016), (3, rr 1024), (4, rr 1032), (7, rr 1056)] [(1016, bx (pm (encHierarchy p0))), (1024, bx (pm (encTask p1))), (1032, bx [.p (.sl .nil 0 0 (fun _ => [])), pI 0, .p (.sl .nil 0 0 (fun _ => [])), pI 0]), (1056, bx [ow 1152 r3.tree.nodes.length, pI r3.tree.next, ow 1153 r3.tasks.length, pI r3.next]), (1152, ob0 (roNode r3.tree.nodes)), (1153, ob0 (roTask r3.tasks))] (an (Copy_ref6Spec p0 r3 hr3) trivial) (by kernel_rfl) ?_)
   refine DW.seq (RK hnt (nn 4 []) [(3, rr 1024), (4, rr 1032), (7, rr 1056)] [(1024, bx [pI p0.next, pI p1.process, pI p1.group, pI p1.user]), (1032, bx [.p (.sl .nil 0 0 (fun _ => [])), pI 0, .p (.sl .nil 0 0 (fun _ => [])), pI 0]), (1056, bx [ow 1152 r3.tree.nodes.length, pI r3.tree.next, ow 1153 r3.tasks.length, pI r3.next]), (1152, ob0 (roNode r3.tree.nodes)), (1153, ob0 (roTask r3.tasks))] trivial (by kernel_rfl) ?_)
   refine DW.seq (DW.seq (RK hnt (nn 3 []) [(3, rr 1024), (4, rr 1032), (7, rr 1056), (25, pB (p1.process == 0))] [(1024, bx [pI p0.next, pI p1.process, pI p1.group, pI p1.user]), (1032, bx [.p (.sl .nil 0 0 (fun _ => [])), pI 0, .p (.sl .nil 0 0 (fun _ => [])), pI 0]), (1056, bx [ow 1152 r3.tree.nodes.length, pI r3.tree.next, ow 1153 r3.tasks.length, pI r3.next]), (1152, ob0 (roNode r3.tree.nodes)), (1153, ob0 (roTask r3.tasks))] trivial (by kernel_rfl) ?_))
   refine DW.join (ι := Task) (fun (y1 : Task) => mkSt [(3, rr 1024), (4, rr 1032), (7, rr 1056)] [(1024, bx (pm (encTask y1))), (1032, bx [.p (.sl .nil 0 0 (fun _ => [])), pI 0, .p (.sl .nil 0 0 (fun _ => [])), pI 0]), (1056, bx [ow 1152 r3.tree.nodes.length, pI r3.tree.next, ow 1153 r3.tasks.length, pI r3.next]), (1152, ob0 (roNode r3.tree.nodes)), (1153, ob0 (roTask r3.tasks))]) (fun y1 => (add_ref6J1 r3) y1 = some RES) ?_ ?_
   ·
    intro y1 hm
    unfold add_ref6J1 at hm
    obtain ⟨g5, hm⟩ := guard_open hm
    refine DW.seq (RN hnt (nn 7 []) [(3, rr 1024), (4, rr 1032), (7, rr 1056)] [(1024, bx (pm (encTask y1))), (1032, bx [.p (.sl .nil 0 0 (fun _ => [])), pI 0, .p (.sl .nil 0 0 (fun _ => [])), pI 0]), (1056, bx [ow 1152 r3.tree.nodes.length, pI r3.tree.next, ow 1153 (r3.tasks ++ [y1]).length, pI r3.next]), (1152, ob0 (roNode r3.tree.nodes)), (1153, ob0 (roTask (r3.tasks ++ [y1])))] [] [(1056, .box [ow 1152 r3.tree.nodes.length, pI r3.tree.next, ow 1153 (r3.tasks.length + 1), pI r3.next]), (1153, .row 4 (r3.tasks.length + 1) (catF r3.tasks.length (elTask r3.tasks) (cut 4 [vi y1.id, vi y1.process, vi y1.group, vi y1.user])))] (an (by omega : (r3.tasks.length + 1) * 32 ≤ 140737488355328) trivial) (by kernel_rfl) .nil (.cons rfl (.box (.cons .rfl (.cons .rfl (.cons (MLe.ownLen (enc := encTask) (d := dTask) (f := (catF r3.tasks.length (elTask r3.tasks) (cut 4 [vi y1.id, vi y1.process, vi y1.group, vi y1.user]))) (RowIs.cat RowIs.elems (RowIs.lit (enc := encTask) (d := dTask) (n := 1) (f := (cut 4 [vi y1.id, vi y1.process, vi y1.group, vi y1.user])) [y1] rfl (fun | 0, _ => rfl | n + 1, h => absurd h (by omega))))) (.cons .rfl .nil))))) (.cons rfl (BLe.typed (RowIs.cat RowIs.elems (RowIs.lit (enc := encTask) (d := dTask) (n := 1) (f := (cut 4 [vi y1.id, vi y1.process, vi y1.group, vi y1.user])) [y1] rfl (fun | 0, _ => rfl | n + 1, h => absurd h (by omega))))) .nil)) ?_)
    refine DW.seq (RK hnt (nn 5 []) [(3, rr 1024), (4, rr 1032), (7, rr 1056)] [(1024, bx (pm (encTask y1))), (1032, bx [.p (.sl .nil 0 0 (fun _ => [])), pI 0, .p (.sl .nil 0 0 (fun _ => [])), pI 0]), (1056, bx [ow 1152 r3.tree.nodes.length, pI r3.tree.next, ow 1153 (r3.tasks ++ [y1]).length, pI (w64 (r3.next + 1))]), (1152, ob0 (roNode r3.tree.nodes)), (1153, ob0 (roTask (r3.tasks ++ [y1])))] trivial (by kernel_rfl) ?_)
    refine DW.seq (RK hnt (nn 6 []) [(4, rr 1032), (5, pI y1.id), (6, pI 0)] [(1032, bx [ow 1152 r3.tree.nodes.length, pI r3.tree.next, ow 1153 (r3.tasks ++ [y1]).length, pI (w64 (r3.next + 1))]), (1152, ob0 (roNode r3.tree.nodes)), (1153, ob0 (roTask (r3.tasks ++ [y1])))] trivial (by kernel_rfl) ?_)
    refine DW.ret ?_
    obtain rfl := Option.some.inj hm
    refine retOK (bs' := [roNode r3.tree.nodes, roTask (r3.tasks ++ [y1])]) [1152, 1153] (.tup [.agg [ow 0 r3.tree.nodes.length, pI r3.tree.next, ow 1 (r3.tasks ++ [y1]).length, pI (w64 (r3.next + 1))], pI y1.id, pI 0]) (by kernel_rfl) ?_ ?_
    · rfl
    · rfl
   ·
    refine DW.cond (p1.process == 0) rfl rfl ?_ ?_
    ·
     intro h4
     replace hm := if_t h4 hm
     refine RK hnt (nn 4 []) [(3, rr 1024), (4, rr 1032), (7, rr 1056)] [(1024, bx [pI p0.next, pI p0.next, pI p1.group, pI p1.user]), (1032, bx [.p (.sl .nil 0 0 (fun _ => [])), pI 0, .p (.sl .nil 0 0 (fun _ => [])), pI 0]), (1056, bx [ow 1152 r3.tree.nodes.length, pI r3.tree.next, ow 1153 r3.tasks.length, pI r3.next]), (1152, ob0 (roNode r3.tree.nodes)), (1153, ob0 (roTask r3.tasks))] trivial (by kernel_rfl) ?_
     exact joinDone ({ id := p0.next, process := p0.next, group := p1.group, user := p1.user } : Task) hm .refl
    ·
     intro h4
     replace hm := if_f h4 hm
     refine DW.skip ?_
     exact joinDone ({ id := p0.next, process := p1.process, group := p1.group, user := p1.user } : Task) hm (Conv.tp [] [] (by kernel_rfl) .nil .nil)

theorem Spawn_ref6Spec (p0 : Hierarchy) (p1 : Int) (p2 : Int) (RES : Hierarchy × Int × Int) (hm : Spawn_ref6 p0 p1 p2 = some RES) : Spec Try.prog 7 [.p (.agg (encHierarchy p0)), pI p1, pI p2] [] (.tup [.agg [ow 0 RES.1.tree.nodes.length, pI RES.1.tree.next, ow 1 RES.1.tasks.length, pI RES.1.next], pI RES.2.1, pI RES.2.2]) [] [roNode RES.1.tree.nodes, roTask RES.1.tasks] := by
 unfold Spawn_ref6 at hm
 refine spec_of Tgood (T := Tt) Try.func7 (by decide) (c := _) rfl rfl (sl := [(0, .p (.agg (encHierarchy p0))), (1, pI p1), (2, pI p2)]) (ob := []) (Nat.le_of_ble_eq_true rfl) (Nat.le_of_ble_eq_true rfl) (by kernel_rfl) (by kernel_rfl) ?_
 intro cx hnt
 refine DW.start ?_
 refine DW.seq (RK hnt (nn 4 []) [(1, pI p1), (2, pI p2), (3, rr 1024), (6, rr 1048)] [(1024, bx (pm (encHierarchy p0))), (1048, bx [.p (.sl .nil 0 0 (fun _ => [])), pI 0, .p (.sl .nil 0 0 (fun _ => [])), pI 0])] trivial (by kernel_rfl) ?_)
 obtain ⟨r1, hr1, hm⟩ := bind_open hm
 refine DW.seq (DW.seq ?_)
 refine DW.join (ι := Bool) (fun (y1 : Bool) => mkSt [(1, pI p1), (2, pI p2), (3, rr 1024), (6, rr 1048), (19, pB y1)] [(1024, bx (pm (encHierarchy p0))), (1048, bx [.p (.sl .nil 0 0 (fun _ => [])), pI 0, .p (.sl .nil 0 0 (fun _ => [])), pI 0])]) (fun y1 => (Spawn_ref6J1 p0 p1 p2) y1 = some RES) ?_ ?_
 ·
  intro y1 hm
  unfold Spawn_ref6J1 at hm
  refine DW.cond y1 rfl rfl ?_ ?_
  ·
   intro h4
   replace hm := if_t h4 hm
   refine DW.seq (RK hnt (nn 4 []) [(6, rr 1048), (7, pI 0), (8, pI 1)] [(1048, bx [.p (.sl .nil 0 0 (fun _ => [])), pI 0, .p (.sl .nil 0 0 (fun _ => [])), pI 0])] trivial (by kernel_rfl) ?_)
   refine DW.conv (τ := mkSt [(6, rr 1048), (7, pI 0), (8, pI 1)] [(1048, bx [ow 100000 0, pI 0, ow 100001 0, pI 0]), (100000, ob0 (roNode [])), (100001, ob0 (roTask []))]) (Conv.trans (τ := mkSt [(6, rr 1048), (7, pI 0), (8, pI 1)] ((100000, ⟨0, .row 6 0 (elems encNode dNode [])⟩) :: [(1048, bx [ow 100000 0, pI 0, .p (.sl .nil 0 0 (fun _ => [])), pI 0])])) (Conv.adopt 100000 6 (elems encNode dNode []) rfl rfl (.rfl _) (.box (.cons (.nil _ _) (.cons (.rfl _) (.cons (.rfl _) (.cons (.rfl _) (.rfl _))))) (.rfl _))) (Conv.trans (τ := mkSt [(6, rr 1048), (7, pI 0), (8, pI 1)] [(1048, bx [ow 100000 0, pI 0, .p (.sl .nil 0 0 (fun _ => [])), pI 0]), (100000, ob0 (roNode []))]) (Conv.tp [] [] (by kernel_rfl) .nil .nil) (Conv.trans (τ := mkSt [(6, rr 1048), (7, pI 0), (8, pI 1)] ((100001, ⟨0, .row 4 0 (elems encTask dTask [])⟩) :: [(1048, bx [ow 100000 0, pI 0, ow 100001 0, pI 0]), (100000, ob0 (roNode []))])) (Conv.adopt 100001 4 (elems encTask dTask []) rfl rfl (.rfl _) (.box (.cons (.rfl _) (.cons (.rfl _) (.cons (.nil _ _) (.cons (.rfl _) (.rfl _))))) (.keep (.rfl _)))) (Conv.trans (τ := mkSt [(6, rr 1048), (7, pI 0), (8, pI 1)] [(1048, bx [ow 100000 0, pI 0, ow 100001 0, pI 0]), (100000, ob0 (roNode [])), (100001, ob0 (roTask []))]) (Conv.tp [] [] (by kernel_rfl) .nil .nil) .refl)))) ?_
   refine DW.ret ?_
   obtain rfl := Option.some.inj hm
   refine retOK (bs' := [roNode [], roTask []]) [100000, 100001] (.tup [.agg [ow 0 0, pI 0, ow 1 0, pI 0], pI 0, pI 1]) (by kernel_rfl) ?_ ?_
   · rfl
   · rfl
  ·
   intro h4
   replace hm := if_f h4 hm
   refine DW.skip ?_
   obtain ⟨r5, hr5, hm⟩ := bind_open hm
   refine DW.seq (DW.seq (RK hnt (nn 3 (.call 25 [] true (pB r5) [] [] :: .no :: [])) [(1, pI p1), (2, pI p2), (3, rr 1024), (6, rr 1048), (25, pB (!r5))] [(1024, bx (pm (encHierarchy p0))), (1048, bx [.p (.sl .nil 0 0 (fun _ => [])), pI 0, .p (.sl .nil 0 0 (fun _ => [])), pI 0])] (an (Has_ref5Spec p0.tree p1 r5 hr5) trivial) (by kernel_rfl) ?_))
   refine DW.cond (!r5) rfl rfl ?_ ?_
   ·
    intro h6
    replace hm := if_t h6 hm
    refine DW.seq (RK hnt (nn 4 []) [(6, rr 1048), (7, pI 0), (8, pI 4)] [(1048, bx [.p (.sl .nil 0 0 (fun _ => [])), pI 0, .p (.sl .nil 0 0 (fun _ => [])), pI 0])] trivial (by kernel_rfl) ?_)
    refine DW.conv (τ := mkSt [(6, rr 1048), (7, pI 0), (8, pI 4)] [(1048, bx [ow 100000 0, pI 0, ow 100001 0, pI 0]), (100000, ob0 (roNode [])), (100001, ob0 (roTask []))]) (Conv.trans (τ := mkSt [(6, rr 1048), (7, pI 0), (8, pI 4)] ((100000, ⟨0, .row 6 0 (elems encNode dNode [])⟩) :: [(1048, bx [ow 100000 0, pI 0, .p (.sl .nil 0 0 (fun _ => [])), pI 0])])) (Conv.adopt 100000 6 (elems encNode dNode []) rfl rfl (.rfl _) (.box (.cons (.nil _ _) (.cons (.rfl _) (.cons (.rfl _) (.cons (.rfl _) (.rfl _))))) (.rfl _))) (Conv.trans (τ := mkSt [(6, rr 1048), (7, pI 0), (8, pI 4)] [(1048, bx [ow 100000 0, pI 0, .p (.sl .nil 0 0 (fun _ => [])), pI 0]), (100000, ob0 (roNode []))]) (Conv.tp [] [] (by kernel_rfl) .nil .nil) (Conv.trans (τ := mkSt [(6, rr 1048), (7, pI 0), (8, pI 4)] ((100001, ⟨0, .row 4 0 (elems encTask dTask [])⟩) :: [(1048, bx [ow 100000 0, pI 0, ow 100001 0, pI 0]), (100000, ob0 (roNode []))])) (Conv.adopt 100001 4 (elems encTask dTask []) rfl rfl (.rfl _) (.box (.cons (.rfl _) (.cons (.rfl _) (.cons (.nil _ _) (.cons (.rfl _) (.rfl _))))) (.keep (.rfl _)))) (Conv.trans (τ := mkSt [(6, rr 1048), (7, pI 0), (8, pI 4)] [(1048, bx [ow 100000 0, pI 0, ow 100001 0, pI 0]), (100000, ob0 (roNode [])), (100001, ob0 (roTask []))]) (Conv.tp [] [] (by kernel_rfl) .nil .nil) .refl)))) ?_
    refine DW.ret ?_
    obtain rfl := Option.some.inj hm
    refine retOK (bs' := [roNode [], roTask []]) [100000, 100001] (.tup [.agg [ow 0 0, pI 0, ow 1 0, pI 0], pI 0, pI 4]) (by kernel_rfl) ?_ ?_
    · rfl
    · rfl
   ·
    intro h6
    replace hm := if_f h6 hm
    refine DW.skip ?_
    obtain ⟨r7, hr7, hm⟩ := bind_open hm
    refine DW.seq (RK hnt (nn 4 (.call 26 [] true (.tup [.agg [ow 0 r7.1.tree.nodes.length, pI r7.1.tree.next, ow 1 r7.1.tasks.length, pI r7.1.next], pI r7.2.1, pI r7.2.2]) [] [roNode r7.1.tree.nodes, roTask r7.1.tasks] :: nn 6 [])) [(6, rr 1048), (7, pI r7.2.1), (8, pI r7.2.2)] [(1048, bx [ow 1248 r7.1.tree.nodes.length, pI r7.1.tree.next, ow 1249 r7.1.tasks.length, pI r7.1.next]), (1248, ob0 (roNode r7.1.tree.nodes)), (1249, ob0 (roTask r7.1.tasks))] (an (add_ref6Spec p0 ({ id := 0, process := 0, group := p1, user := p2 } : Task) r7 hr7) trivial) (by kernel_rfl) ?_)
    refine DW.ret ?_
    obtain rfl := Option.some.inj hm
    refine retOK (bs' := [roNode r7.1.tree.nodes, roTask r7.1.tasks]) [1248, 1249] (.tup [.agg [ow 0 r7.1.tree.nodes.length, pI r7.1.tree.next, ow 1 r7.1.tasks.length, pI r7.1.next], pI r7.2.1, pI r7.2.2]) (by kernel_rfl) ?_ ?_
    · rfl
    · rfl
 ·
  rcases bt (!r1) with h2 | h2
  ·
   replace hm := if_t h2 hm
   refine RK hnt (.no :: .call 24 [] true (pB r1) [] [] :: nn 2 (sk 2 (pT :: .no :: sk 2 (pT :: [])))) [(1, pI p1), (2, pI p2), (3, rr 1024), (6, rr 1048), (19, pB true)] [(1024, bx (pm (encHierarchy p0))), (1048, bx [.p (.sl .nil 0 0 (fun _ => [])), pI 0, .p (.sl .nil 0 0 (fun _ => [])), pI 0])] (an (Check_ref6Spec p0 r1 hr1) (an3 h2 (an3 tt trivial))) (by kernel_rfl) ?_
   exact joinDone true hm .refl
  ·
   replace hm := if_f h2 hm
   rcases bt (decide (p2 < 0)) with h3 | h3
   ·
    replace hm := if_t h3 hm
    refine RK hnt (.no :: .call 24 [] true (pB r1) [] [] :: nn 4 (pF :: .no :: sk 2 (pT :: []))) [(1, pI p1), (2, pI p2), (3, rr 1024), (6, rr 1048), (19, pB true)] [(1024, bx (pm (encHierarchy p0))), (1048, bx [.p (.sl .nil 0 0 (fun _ => [])), pI 0, .p (.sl .nil 0 0 (fun _ => [])), pI 0])] (an (Check_ref6Spec p0 r1 hr1) (an3 h2 (an3 h3 trivial))) (by kernel_rfl) ?_
    exact joinDone true hm .refl
   ·
    replace hm := if_f h3 hm
    refine RK hnt (.no :: .call 24 [] true (pB r1) [] [] :: nn 4 (pF :: nn 3 (pF :: []))) [(1, pI p1), (2, pI p2), (3, rr 1024), (6, rr 1048), (19, pB (decide (p2 > 1048576)))] [(1024, bx (pm (encHierarchy p0))), (1048, bx [.p (.sl .nil 0 0 (fun _ => [])), pI 0, .p (.sl .nil 0 0 (fun _ => [])), pI 0])] (an (Check_ref6Spec p0 r1 hr1) (an3 h2 (an3 h3 trivial))) (by kernel_rfl) ?_
    exact joinDone (decide (p2 > 1048576)) hm .refl

theorem Task_Dice_madeSpec (p0 : Dice) (p1 : Hierarchy) (RES : Int × Dice) (hm : Task_Dice_made p0 p1 = some RES) : Spec Try.prog 37 [rr 0, .p (.agg (encHierarchy p1))] [.box (pm (encDice p0))] (pI RES.1) [.box (pm (encDice RES.2))] [] := by
 unfold Task_Dice_made at hm
 refine spec_of Tgood (T := Tt) Try.func37 (by decide) (c := _) rfl rfl (sl := [(0, rr 0), (1, .p (.agg (encHierarchy p1)))]) (ob := [(0, bx (pm (encDice p0)))]) (Nat.le_of_ble_eq_true rfl) (Nat.le_of_ble_eq_true rfl) (by kernel_rfl) (by kernel_rfl) ?_
 intro cx hnt
 refine DW.start ?_
 refine DW.seq (RK hnt (nn 2 []) [(0, rr 0), (3, rr 1024)] [(0, bx (pm (encDice p0))), (1024, bx (pm (encHierarchy p1)))] trivial (by kernel_rfl) ?_)
 obtain ⟨r1, hr1, hm⟩ := bind_open hm
 refine DW.seq (DW.seq ?_)
 refine DW.join (ι := Bool) (fun (y1 : Bool) => mkSt [(0, rr 0), (3, rr 1024), (12, pB y1)] [(0, bx (pm (encDice r1.2))), (1024, bx (pm (encHierarchy p1)))]) (fun y1 => (Task_Dice_madeJ1 p1 r1) y1 = some RES) ?_ ?_
 ·
  intro y1 hm
  unfold Task_Dice_madeJ1 at hm
  refine DW.cond y1 rfl rfl ?_ ?_
  ·
   intro h3
   replace hm := if_t h3 hm
   obtain ⟨r4, hr4, hm⟩ := bind_open hm
   refine DW.seq (RK hnt (.no :: .call 15 [0] true (pI r4.1) [.box (pm (encDice r4.2))] [] :: nn 2 []) [(4, pI (w64 (r4.1 - 1)))] [(0, bx (pm (encDice r4.2)))] (an (Next_Dice_madeSpec r1.2 9 r4 hr4) (an trivial trivial)) (by kernel_rfl) ?_)
   refine DW.ret ?_
   obtain rfl := Option.some.inj hm
   refine retOK (bs' := [.box (pm (encDice r4.2))]) [] (pI (w64 (r4.1 - 1))) (by kernel_rfl) ?_ ?_
   · rfl
   · rfl
  ·
   intro h3
   replace hm := if_f h3 hm
   refine DW.skip ?_
   obtain ⟨r5, hr5, hm⟩ := bind_open hm
   obtain ⟨g6, hm⟩ := guard_open hm
   refine DW.seq (RK hnt (nn 6 (.call 15 [0] true (pI r5.1) [.box (pm (encDice r5.2))] [] :: nn 4 [])) [(4, pI (p1.tasks.getD (Int.toNat r5.1) dTask).id)] [(0, bx (pm (encDice r5.2)))] (an (Next_Dice_madeSpec r1.2 ((p1.tasks.length : Nat) : Int) r5 hr5) (an trivial (an g6.1 (an g6.2 trivial)))) (by kernel_rfl) ?_)
   refine DW.ret ?_
   obtain rfl := Option.some.inj hm
   refine retOK (bs' := [.box (pm (encDice r5.2))]) [] (pI (p1.tasks.getD (Int.toNat r5.1) dTask).id) (by kernel_rfl) ?_ ?_
   · rfl
   · rfl
 ·
  rcases bt r1.1 with h2 | h2
  ·
   replace hm := if_t h2 hm
   refine RK hnt (.no :: .call 36 [0] true (pB r1.1) [.box (pm (encDice r1.2))] [] :: .no :: sk 4 (pT :: [])) [(0, rr 0), (3, rr 1024), (12, pB true)] [(0, bx (pm (encDice r1.2))), (1024, bx (pm (encHierarchy p1)))] (an (Bool_Dice_madeSpec p0 15 r1 hr1) (an trivial (an5 h2 trivial))) (by kernel_rfl) ?_
   exact joinDone true hm .refl
  ·
   replace hm := if_f h2 hm
   refine RK hnt (.no :: .call 36 [0] true (pB r1.1) [.box (pm (encDice r1.2))] [] :: nn 5 (pF :: [])) [(0, rr 0), (3, rr 1024), (12, pB (((p1.tasks.length : Nat) : Int) == 0))] [(0, bx (pm (encDice r1.2))), (1024, bx (pm (encHierarchy p1)))] (an (Bool_Dice_madeSpec p0 15 r1 hr1) (an trivial (an5 h2 trivial))) (by kernel_rfl) ?_
   exact joinDone (((p1.tasks.length : Nat) : Int) == 0) hm .refl

theorem Clone_ref6Spec (p0 : Hierarchy) (p1 : Int) (RES : Hierarchy × Int × Int) (hm : Clone_ref6 p0 p1 = some RES) : Spec Try.prog 9 [.p (.agg (encHierarchy p0)), pI p1] [] (.tup [.agg [ow 0 RES.1.tree.nodes.length, pI RES.1.tree.next, ow 1 RES.1.tasks.length, pI RES.1.next], pI RES.2.1, pI RES.2.2]) [] [roNode RES.1.tree.nodes, roTask RES.1.tasks] := by
 unfold Clone_ref6 at hm
 refine spec_of Tgood (T := Tt) Try.func9 (by decide) (c := _) rfl rfl (sl := [(0, .p (.agg (encHierarchy p0))), (1, pI p1)]) (ob := []) (Nat.le_of_ble_eq_true rfl) (Nat.le_of_ble_eq_true rfl) (by kernel_rfl) (by kernel_rfl) ?_
 intro cx hnt
 refine DW.start ?_
 refine DW.seq (RK hnt (nn 4 []) [(1, pI p1), (2, rr 1016), (4, rr 1032)] [(1016, bx (pm (encHierarchy p0))), (1032, bx [.p (.sl .nil 0 0 (fun _ => [])), pI 0, .p (.sl .nil 0 0 (fun _ => [])), pI 0])] trivial (by kernel_rfl) ?_)
 obtain ⟨r1, hr1, hm⟩ := bind_open hm
 refine DW.seq (DW.seq (RK hnt (.no :: .call 24 [] true (pB r1) [] [] :: .no :: []) [(1, pI p1), (2, rr 1016), (4, rr 1032), (11, pB (!r1))] [(1016, bx (pm (encHierarchy p0))), (1032, bx [.p (.sl .nil 0 0 (fun _ => [])), pI 0, .p (.sl .nil 0 0 (fun _ => [])), pI 0])] (an (Check_ref6Spec p0 r1 hr1) trivial) (by kernel_rfl) ?_))
 refine DW.cond (!r1) rfl rfl ?_ ?_
 ·
  intro h2
  replace hm := if_t h2 hm
  refine DW.seq (RK hnt (nn 4 []) [(4, rr 1032), (5, pI 0), (6, pI 1)] [(1032, bx [.p (.sl .nil 0 0 (fun _ => [])), pI 0, .p (.sl .nil 0 0 (fun _ => [])), pI 0])] trivial (by kernel_rfl) ?_)
  refine DW.conv (τ := mkSt [(4, rr 1032), (5, pI 0), (6, pI 1)] [(1032, bx [ow 100000 0, pI 0, ow 100001 0, pI 0]), (100000, ob0 (roNode [])), (100001, ob0 (roTask []))]) (Conv.trans (τ := mkSt [(4, rr 1032), (5, pI 0), (6, pI 1)] ((100000, ⟨0, .row 6 0 (elems encNode dNode [])⟩) :: [(1032, bx [ow 100000 0, pI 0, .p (.sl .nil 0 0 (fun _ => [])), pI 0])])) (Conv.adopt 100000 6 (elems encNode dNode []) rfl rfl (.rfl _) (.box (.cons (.nil _ _) (.cons (.rfl _) (.cons (.rfl _) (.cons (.rfl _) (.rfl _))))) (.rfl _))) (Conv.trans (τ := mkSt [(4, rr 1032), (5, pI 0), (6, pI 1)] [(1032, bx [ow 100000 0, pI 0, .p (.sl .nil 0 0 (fun _ => [])), pI 0]), (100000, ob0 (roNode []))]) (Conv.tp [] [] (by kernel_rfl) .nil .nil) (Conv.trans (τ := mkSt [(4, rr 1032), (5, pI 0), (6, pI 1)] ((100001, ⟨0, .row 4 0 (elems encTask dTask [])⟩) :: [(1032, bx [ow 100000 0, pI 0, ow 100001 0, pI 0]), (100000, ob0 (roNode []))])) (Conv.adopt 100001 4 (elems encTask dTask []) rfl rfl (.rfl _) (.box (.cons (.rfl _) (.cons (.rfl _) (.cons (.nil _ _) (.cons (.rfl _) (.rfl _))))) (.keep (.rfl _)))) (Conv.trans (τ := mkSt [(4, rr 1032), (5, pI 0), (6, pI 1)] [(1032, bx [ow 100000 0, pI 0, ow 100001 0, pI 0]), (100000, ob0 (roNode [])), (100001, ob0 (roTask []))]) (Conv.tp [] [] (by kernel_rfl) .nil .nil) .refl)))) ?_
  refine DW.ret ?_
  obtain rfl := Option.some.inj hm
  refine retOK (bs' := [roNode [], roTask []]) [100000, 100001] (.tup [.agg [ow 0 0, pI 0, ow 1 0, pI 0], pI 0, pI 1]) (by kernel_rfl) ?_ ?_
  · rfl
  · rfl
 ·
  intro h2
  replace hm := if_f h2 hm
  refine DW.skip ?_
  obtain ⟨r3, hr3, hm⟩ := bind_open hm
  refine DW.seq (RK hnt (nn 2 (.call 28 [] true (.p (.tup [.agg (encTask r3.1), vb r3.2])) [] [] :: nn 6 [])) [(2, rr 1016), (4, rr 1032), (7, rr 1056), (8, pB r3.2)] [(1016, bx (pm (encHierarchy p0))), (1032, bx [.p (.sl .nil 0 0 (fun _ => [])), pI 0, .p (.sl .nil 0 0 (fun _ => [])), pI 0]), (1056, bx (pm (encTask r3.1)))] (an (Find_ref6Spec p0 p1 r3 hr3) trivial) (by kernel_rfl) ?_)
  refine DW.seq (DW.seq (RK hnt (nn 2 []) [(2, rr 1016), (4, rr 1032), (7, rr 1056), (20, pB (!r3.2))] [(1016, bx (pm (encHierarchy p0))), (1032, bx [.p (.sl .nil 0 0 (fun _ => [])), pI 0, .p (.sl .nil 0 0 (fun _ => [])), pI 0]), (1056, bx (pm (encTask r3.1)))] trivial (by kernel_rfl) ?_))
  refine DW.cond (!r3.2) rfl rfl ?_ ?_
  ·
   intro h4
   replace hm := if_t h4 hm
   refine DW.seq (RK hnt (nn 4 []) [(4, rr 1032), (5, pI 0), (6, pI 4)] [(1032, bx [.p (.sl .nil 0 0 (fun _ => [])), pI 0, .p (.sl .nil 0 0 (fun _ => [])), pI 0])] trivial (by kernel_rfl) ?_)
   refine DW.conv (τ := mkSt [(4, rr 1032), (5, pI 0), (6, pI 4)] [(1032, bx [ow 100000 0, pI 0, ow 100001 0, pI 0]), (100000, ob0 (roNode [])), (100001, ob0 (roTask []))]) (Conv.trans (τ := mkSt [(4, rr 1032), (5, pI 0), (6, pI 4)] ((100000, ⟨0, .row 6 0 (elems encNode dNode [])⟩) :: [(1032, bx [ow 100000 0, pI 0, .p (.sl .nil 0 0 (fun _ => [])), pI 0])])) (Conv.adopt 100000 6 (elems encNode dNode []) rfl rfl (.rfl _) (.box (.cons (.nil _ _) (.cons (.rfl _) (.cons (.rfl _) (.cons (.rfl _) (.rfl _))))) (.rfl _))) (Conv.trans (τ := mkSt [(4, rr 1032), (5, pI 0), (6, pI 4)] [(1032, bx [ow 100000 0, pI 0, .p (.sl .nil 0 0 (fun _ => [])), pI 0]), (100000, ob0 (roNode []))]) (Conv.tp [] [] (by kernel_rfl) .nil .nil) (Conv.trans (τ := mkSt [(4, rr 1032), (5, pI 0), (6, pI 4)] ((100001, ⟨0, .row 4 0 (elems encTask dTask [])⟩) :: [(1032, bx [ow 100000 0, pI 0, ow 100001 0, pI 0]), (100000, ob0 (roNode []))])) (Conv.adopt 100001 4 (elems encTask dTask []) rfl rfl (.rfl _) (.box (.cons (.rfl _) (.cons (.rfl _) (.cons (.nil _ _) (.cons (.rfl _) (.rfl _))))) (.keep (.rfl _)))) (Conv.trans (τ := mkSt [(4, rr 1032), (5, pI 0), (6, pI 4)] [(1032, bx [ow 100000 0, pI 0, ow 100001 0, pI 0]), (100000, ob0 (roNode [])), (100001, ob0 (roTask []))]) (Conv.tp [] [] (by kernel_rfl) .nil .nil) .refl)))) ?_
   refine DW.ret ?_
   obtain rfl := Option.some.inj hm
   refine retOK (bs' := [roNode [], roTask []]) [100000, 100001] (.tup [.agg [ow 0 0, pI 0, ow 1 0, pI 0], pI 0, pI 4]) (by kernel_rfl) ?_ ?_
   · rfl
   · rfl
  ·
   intro h4
   replace hm := if_f h4 hm
   refine DW.skip ?_
   obtain ⟨r5, hr5, hm⟩ := bind_open hm
   refine DW.seq (RK hnt (nn 2 (.call 26 [] true (.tup [.agg [ow 0 r5.1.tree.nodes.length, pI r5.1.tree.next, ow 1 r5.1.tasks.length, pI r5.1.next], pI r5.2.1, pI r5.2.2]) [] [roNode r5.1.tree.nodes, roTask r5.1.tasks] :: nn 6 [])) [(4, rr 1032), (5, pI r5.2.1), (6, pI r5.2.2)] [(1032, bx [ow 1192 r5.1.tree.nodes.length, pI r5.1.tree.next, ow 1193 r5.1.tasks.length, pI r5.1.next]), (1192, ob0 (roNode r5.1.tree.nodes)), (1193, ob0 (roTask r5.1.tasks))] (an (add_ref6Spec p0 r3.1 r5 hr5) trivial) (by kernel_rfl) ?_)
   refine DW.ret ?_
   obtain rfl := Option.some.inj hm
   refine retOK (bs' := [roNode r5.1.tree.nodes, roTask r5.1.tasks]) [1192, 1193] (.tup [.agg [ow 0 r5.1.tree.nodes.length, pI r5.1.tree.next, ow 1 r5.1.tasks.length, pI r5.1.next], pI r5.2.1, pI r5.2.2]) (by kernel_rfl) ?_ ?_
   · rfl
   · rfl

theorem Place_ref6Spec (p0 : Hierarchy) (p1 : Int) (p2 : Int) (RES : Hierarchy × Int) (hm : Place_ref6 p0 p1 p2 = some RES) : Spec Try.prog 66 [.p (.agg (encHierarchy p0)), pI p1, pI p2] [] (.tup [.agg [ow 0 RES.1.tree.nodes.length, pI RES.1.tree.next, ow 1 RES.1.tasks.length, pI RES.1.next], pI RES.2]) [] [roNode RES.1.tree.nodes, roTask RES.1.tasks] := by
 unfold Place_ref6 at hm
 refine spec_of Tgood (T := Tt) Try.func66 (by decide) (c := _) rfl rfl (sl := [(0, .p (.agg (encHierarchy p0))), (1, pI p1), (2, pI p2)]) (ob := []) (Nat.le_of_ble_eq_true rfl) (Nat.le_of_ble_eq_true rfl) (by kernel_rfl) (by kernel_rfl) ?_
 intro cx hnt
 refine DW.start ?_
 refine DW.seq (RK hnt (nn 3 []) [(1, pI p1), (2, pI p2), (3, rr 1024), (6, rr 1048)] [(1024, bx (pm (encHierarchy p0))), (1048, bx [.p (.sl .nil 0 0 (fun _ => [])), pI 0, .p (.sl .nil 0 0 (fun _ => [])), pI 0])] trivial (by kernel_rfl) ?_)
 obtain ⟨r1, hr1, hm⟩ := bind_open hm
 refine DW.seq (DW.seq (RK hnt (.no :: .call 24 [] true (pB r1) [] [] :: .no :: []) [(1, pI p1), (2, pI p2), (3, rr 1024), (6, rr 1048), (14, pB (!r1))] [(1024, bx (pm (encHierarchy p0))), (1048, bx [.p (.sl .nil 0 0 (fun _ => [])), pI 0, .p (.sl .nil 0 0 (fun _ => [])), pI 0])] (an (Check_ref6Spec p0 r1 hr1) trivial) (by kernel_rfl) ?_))
 refine DW.cond (!r1) rfl rfl ?_ ?_
 ·
  intro h2
  replace hm := if_t h2 hm
  refine DW.seq (RK hnt (nn 3 []) [(6, rr 1048), (7, pI 1)] [(1048, bx [.p (.sl .nil 0 0 (fun _ => [])), pI 0, .p (.sl .nil 0 0 (fun _ => [])), pI 0])] trivial (by kernel_rfl) ?_)
  refine DW.conv (τ := mkSt [(6, rr 1048), (7, pI 1)] [(1048, bx [ow 100000 0, pI 0, ow 100001 0, pI 0]), (100000, ob0 (roNode [])), (100001, ob0 (roTask []))]) (Conv.trans (τ := mkSt [(6, rr 1048), (7, pI 1)] ((100000, ⟨0, .row 6 0 (elems encNode dNode [])⟩) :: [(1048, bx [ow 100000 0, pI 0, .p (.sl .nil 0 0 (fun _ => [])), pI 0])])) (Conv.adopt 100000 6 (elems encNode dNode []) rfl rfl (.rfl _) (.box (.cons (.nil _ _) (.cons (.rfl _) (.cons (.rfl _) (.cons (.rfl _) (.rfl _))))) (.rfl _))) (Conv.trans (τ := mkSt [(6, rr 1048), (7, pI 1)] [(1048, bx [ow 100000 0, pI 0, .p (.sl .nil 0 0 (fun _ => [])), pI 0]), (100000, ob0 (roNode []))]) (Conv.tp [] [] (by kernel_rfl) .nil .nil) (Conv.trans (τ := mkSt [(6, rr 1048), (7, pI 1)] ((100001, ⟨0, .row 4 0 (elems encTask dTask [])⟩) :: [(1048, bx [ow 100000 0, pI 0, ow 100001 0, pI 0]), (100000, ob0 (roNode []))])) (Conv.adopt 100001 4 (elems encTask dTask []) rfl rfl (.rfl _) (.box (.cons (.rfl _) (.cons (.rfl _) (.cons (.nil _ _) (.cons (.rfl _) (.rfl _))))) (.keep (.rfl _)))) (Conv.trans (τ := mkSt [(6, rr 1048), (7, pI 1)] [(1048, bx [ow 100000 0, pI 0, ow 100001 0, pI 0]), (100000, ob0 (roNode [])), (100001, ob0 (roTask []))]) (Conv.tp [] [] (by kernel_rfl) .nil .nil) .refl)))) ?_
  refine DW.ret ?_
  obtain rfl := Option.some.inj hm
  refine retOK (bs' := [roNode [], roTask []]) [100000, 100001] (.tup [.agg [ow 0 0, pI 0, ow 1 0, pI 0], pI 1]) (by kernel_rfl) ?_ ?_
  · rfl
  · rfl
 ·
  intro h2
  replace hm := if_f h2 hm
  refine DW.skip ?_
  obtain ⟨r3, hr3, hm⟩ := bind_open hm
  refine DW.seq (DW.seq (RK hnt (nn 2 (.call 28 [] true (.p (.tup [.agg (encTask r3.1), vb r3.2])) [] [] :: nn 6 [])) [(1, pI p1), (2, pI p2), (3, rr 1024), (6, rr 1048), (9, pB r3.2)] [(1024, bx (pm (encHierarchy p0))), (1048, bx [.p (.sl .nil 0 0 (fun _ => [])), pI 0, .p (.sl .nil 0 0 (fun _ => [])), pI 0])] (an (Find_ref6Spec p0 p1 r3 hr3) trivial) (by kernel_rfl) ?_))
  refine DW.seq ?_
  refine DW.join (ι := Bool) (fun (y1 : Bool) => mkSt [(1, pI p1), (2, pI p2), (3, rr 1024), (6, rr 1048), (30, pB y1)] [(1024, bx (pm (encHierarchy p0))), (1048, bx [.p (.sl .nil 0 0 (fun _ => [])), pI 0, .p (.sl .nil 0 0 (fun _ => [])), pI 0])]) (fun y1 => (Place_ref6J1 p0 p1 p2) y1 = some RES) ?_ ?_
  ·
   intro y1 hm
   unfold Place_ref6J1 at hm
   refine DW.cond y1 rfl rfl ?_ ?_
   ·
    intro h6
    replace hm := if_t h6 hm
    refine DW.seq (RK hnt (nn 3 []) [(6, rr 1048), (7, pI 4)] [(1048, bx [.p (.sl .nil 0 0 (fun _ => [])), pI 0, .p (.sl .nil 0 0 (fun _ => [])), pI 0])] trivial (by kernel_rfl) ?_)
    refine DW.conv (τ := mkSt [(6, rr 1048), (7, pI 4)] [(1048, bx [ow 100000 0, pI 0, ow 100001 0, pI 0]), (100000, ob0 (roNode [])), (100001, ob0 (roTask []))]) (Conv.trans (τ := mkSt [(6, rr 1048), (7, pI 4)] ((100000, ⟨0, .row 6 0 (elems encNode dNode [])⟩) :: [(1048, bx [ow 100000 0, pI 0, .p (.sl .nil 0 0 (fun _ => [])), pI 0])])) (Conv.adopt 100000 6 (elems encNode dNode []) rfl rfl (.rfl _) (.box (.cons (.nil _ _) (.cons (.rfl _) (.cons (.rfl _) (.cons (.rfl _) (.rfl _))))) (.rfl _))) (Conv.trans (τ := mkSt [(6, rr 1048), (7, pI 4)] [(1048, bx [ow 100000 0, pI 0, .p (.sl .nil 0 0 (fun _ => [])), pI 0]), (100000, ob0 (roNode []))]) (Conv.tp [] [] (by kernel_rfl) .nil .nil) (Conv.trans (τ := mkSt [(6, rr 1048), (7, pI 4)] ((100001, ⟨0, .row 4 0 (elems encTask dTask [])⟩) :: [(1048, bx [ow 100000 0, pI 0, ow 100001 0, pI 0]), (100000, ob0 (roNode []))])) (Conv.adopt 100001 4 (elems encTask dTask []) rfl rfl (.rfl _) (.box (.cons (.rfl _) (.cons (.rfl _) (.cons (.nil _ _) (.cons (.rfl _) (.rfl _))))) (.keep (.rfl _)))) (Conv.trans (τ := mkSt [(6, rr 1048), (7, pI 4)] [(1048, bx [ow 100000 0, pI 0, ow 100001 0, pI 0]), (100000, ob0 (roNode [])), (100001, ob0 (roTask []))]) (Conv.tp [] [] (by kernel_rfl) .nil .nil) .refl)))) ?_
    refine DW.ret ?_
    obtain rfl := Option.some.inj hm
    refine retOK (bs' := [roNode [], roTask []]) [100000, 100001] (.tup [.agg [ow 0 0, pI 0, ow 1 0, pI 0], pI 4]) (by kernel_rfl) ?_ ?_
    · rfl
    · rfl
   ·
    intro h6
    replace hm := if_f h6 hm
    refine DW.skip ?_
    obtain ⟨r7, hr7, hm⟩ := bind_open hm
    refine DW.seq (RK hnt (.no :: .call 52 [] true (.agg [ow 0 r7.tree.nodes.length, pI r7.tree.next, ow 1 r7.tasks.length, pI r7.next]) [] [roNode r7.tree.nodes, roTask r7.tasks] :: nn 2 []) [(1, pI p1), (2, pI p2), (6, rr 1048), (10, rr 1080)] [(1048, bx [.p (.sl .nil 0 0 (fun _ => [])), pI 0, .p (.sl .nil 0 0 (fun _ => [])), pI 0]), (1080, bx [ow 1264 r7.tree.nodes.length, pI r7.tree.next, ow 1265 r7.tasks.length, pI r7.next]), (1264, ob0 (roNode r7.tree.nodes)), (1265, ob0 (roTask r7.tasks))] (an (Copy_ref6Spec p0 r7 hr7) trivial) (by kernel_rfl) ?_)
    refine DW.seq (DW.seq (RK hnt (.no :: []) [(1, pI p1), (2, pI p2), (6, rr 1048), (10, rr 1080), (11, pI 0)] [(1048, bx [.p (.sl .nil 0 0 (fun _ => [])), pI 0, .p (.sl .nil 0 0 (fun _ => [])), pI 0]), (1080, bx [ow 1264 r7.tree.nodes.length, pI r7.tree.next, ow 1265 r7.tasks.length, pI r7.next]), (1264, ob0 (roNode r7.tree.nodes)), (1265, ob0 (roTask r7.tasks))] trivial (by kernel_rfl) ?_))
    refine DW.block ?_
    refine DW.whileO (fun (s1 : (List Task) × Int) => mkSt [(1, pI p1), (2, pI p2), (6, rr 1048), (10, rr 1080), (11, pI s1.2)] [(1048, bx [.p (.sl .nil 0 0 (fun _ => [])), pI 0, .p (.sl .nil 0 0 (fun _ => [])), pI 0]), (1080, bx [ow 1264 r7.tree.nodes.length, pI r7.tree.next, ow 1265 s1.1.length, pI r7.next]), (1264, ob0 (roNode r7.tree.nodes)), (1265, ob0 (roTask s1.1))]) hm .refl ?_
    intro s1 n1 hm
    unfold Place_ref6L1 at hm
    refine DW.seq (DW.seq (RK hnt (nn 5 []) [(1, pI p1), (2, pI p2), (6, rr 1048), (10, rr 1080), (11, pI s1.2), (38, pB (decide (s1.2 < ((s1.1.length : Nat) : Int))))] [(1048, bx [.p (.sl .nil 0 0 (fun _ => [])), pI 0, .p (.sl .nil 0 0 (fun _ => [])), pI 0]), (1080, bx [ow 1264 r7.tree.nodes.length, pI r7.tree.next, ow 1265 s1.1.length, pI r7.next]), (1264, ob0 (roNode r7.tree.nodes)), (1265, ob0 (roTask s1.1))] trivial (by kernel_rfl) ?_))
    refine DW.cond (decide (s1.2 < ((s1.1.length : Nat) : Int))) rfl rfl ?_ ?_
    ·
     intro h14
     replace hm := if_t h14 hm
     refine DW.skip ?_
     refine DW.seq ?_
     refine DW.join (ι := List Task) (fun (y3 : List Task) => mkSt [(1, pI p1), (2, pI p2), (6, rr 1048), (10, rr 1080), (11, pI s1.2)] [(1048, bx [.p (.sl .nil 0 0 (fun _ => [])), pI 0, .p (.sl .nil 0 0 (fun _ => [])), pI 0]), (1080, bx [ow 1264 r7.tree.nodes.length, pI r7.tree.next, ow 1265 y3.length, pI r7.next]), (1264, ob0 (roNode r7.tree.nodes)), (1265, ob0 (roTask y3))]) (fun y3 => (Place_ref6J3 s1 n1) y3 = some RES) ?_ ?_
     ·
      intro y3 hm
      unfold Place_ref6J3 at hm
      refine RK hnt (nn 3 []) [(1, pI p1), (2, pI p2), (6, rr 1048), (10, rr 1080), (11, pI (w64 (s1.2 + 1)))] [(1048, bx [.p (.sl .nil 0 0 (fun _ => [])), pI 0, .p (.sl .nil 0 0 (fun _ => [])), pI 0]), (1080, bx [ow 1264 r7.tree.nodes.length, pI r7.tree.next, ow 1265 y3.length, pI r7.next]), (1264, ob0 (roNode r7.tree.nodes)), (1265, ob0 (roTask y3))] trivial (by kernel_rfl) ?_
      exact joinDone (y3, (w64 (s1.2 + 1))) hm .refl
     ·
      refine DW.block ?_
      obtain ⟨g15, hm⟩ := guard_open hm
      obtain ⟨g16, hm⟩ := guard_open hm
      refine DW.seq (RK hnt (nn 8 []) [(1, pI p1), (2, pI p2), (6, rr 1048), (10, rr 1080), (11, pI s1.2), (48, pB ((s1.1.getD (Int.toNat s1.2) dTask).id == p1))] [(1048, bx [.p (.sl .nil 0 0 (fun _ => [])), pI 0, .p (.sl .nil 0 0 (fun _ => [])), pI 0]), (1080, bx [ow 1264 r7.tree.nodes.length, pI r7.tree.next, ow 1265 s1.1.length, pI r7.next]), (1264, ob0 (roNode r7.tree.nodes)), (1265, ob0 (roTask s1.1))] (an g15.1 (an g15.2 (an g16 trivial))) (by kernel_rfl) ?_)
      refine DW.cond ((s1.1.getD (Int.toNat s1.2) dTask).id == p1) rfl rfl ?_ ?_
      ·
       intro h17
       replace hm := if_t h17 hm
       obtain ⟨g18, hm⟩ := guard_open hm
       obtain ⟨g19, hm⟩ := guard_open hm
       refine RN hnt (nn 7 []) [(1, pI p1), (2, pI p2), (6, rr 1048), (10, rr 1080), (11, pI s1.2)] [(1048, bx [.p (.sl .nil 0 0 (fun _ => [])), pI 0, .p (.sl .nil 0 0 (fun _ => [])), pI 0]), (1080, bx [ow 1264 r7.tree.nodes.length, pI r7.tree.next, ow 1265 (s1.1.set (Int.toNat s1.2) ({ id := (s1.1.getD (Int.toNat s1.2) dTask).id, process := (s1.1.getD (Int.toNat s1.2) dTask).process, group := p2, user := (s1.1.getD (Int.toNat s1.2) dTask).user } : Task)).length, pI r7.next]), (1264, ob0 (roNode r7.tree.nodes)), (1265, ob0 (roTask (s1.1.set (Int.toNat s1.2) ({ id := (s1.1.getD (Int.toNat s1.2) dTask).id, process := (s1.1.getD (Int.toNat s1.2) dTask).process, group := p2, user := (s1.1.getD (Int.toNat s1.2) dTask).user } : Task))))] [] [(1080, .box [ow 1264 r7.tree.nodes.length, pI r7.tree.next, ow 1265 s1.1.length, pI r7.next]), (1265, .row 4 s1.1.length (updF (elTask s1.1) (Int.toNat s1.2) [vi (s1.1.getD (Int.toNat s1.2) dTask).id, vi (s1.1.getD (Int.toNat s1.2) dTask).process, vi p2, vi (s1.1.getD (Int.toNat s1.2) dTask).user]))] (an g18.1 (an g18.2 (an g19 trivial))) (by kernel_rfl) .nil (.cons rfl (.box (.cons .rfl (.cons .rfl (.cons (MLe.ownLen (enc := encTask) (d := dTask) (f := (updF (elTask s1.1) (Int.toNat s1.2) [vi (s1.1.getD (Int.toNat s1.2) dTask).id, vi (s1.1.getD (Int.toNat s1.2) dTask).process, vi p2, vi (s1.1.getD (Int.toNat s1.2) dTask).user])) (RowIs.upd RowIs.elems ({ id := (s1.1.getD (Int.toNat s1.2) dTask).id, process := (s1.1.getD (Int.toNat s1.2) dTask).process, group := p2, user := (s1.1.getD (Int.toNat s1.2) dTask).user } : Task) rfl)) (.cons .rfl .nil))))) (.cons rfl (BLe.typed (RowIs.upd RowIs.elems ({ id := (s1.1.getD (Int.toNat s1.2) dTask).id, process := (s1.1.getD (Int.toNat s1.2) dTask).process, group := p2, user := (s1.1.getD (Int.toNat s1.2) dTask).user } : Task) rfl)) .nil)) ?_
       exact blockDone (s1.1.set (Int.toNat s1.2) ({ id := (s1.1.getD (Int.toNat s1.2) dTask).id, process := (s1.1.getD (Int.toNat s1.2) dTask).process, group := p2, user := (s1.1.getD (Int.toNat s1.2) dTask).user } : Task)) hm .refl
      ·
       intro h17
       replace hm := if_f h17 hm
       refine DW.skip ?_
       exact blockDone s1.1 hm (Conv.tp [] [] (by kernel_rfl) .nil .nil)
    ·
     intro h14
     replace hm := if_f h14 hm
     refine DW.exit ?_
     refine joinQ_exit ?_
     refine KQ_exit ?_
     refine blockQ_exit ?_
     show DW _ _ _ _ _
     refine DW.seq (RK hnt (nn 3 []) [(6, rr 1048), (7, pI 0)] [(1048, bx [ow 1264 r7.tree.nodes.length, pI r7.tree.next, ow 1265 s1.1.length, pI r7.next]), (1264, ob0 (roNode r7.tree.nodes)), (1265, ob0 (roTask s1.1))] trivial (by kernel_rfl) ?_)
     refine DW.ret ?_
     obtain rfl := Option.some.inj hm
     refine retOK (bs' := [roNode r7.tree.nodes, roTask s1.1]) [1264, 1265] (.tup [.agg [ow 0 r7.tree.nodes.length, pI r7.tree.next, ow 1 s1.1.length, pI r7.next], pI 0]) (by kernel_rfl) ?_ ?_
     · rfl
     · rfl
  ·
   rcases bt (!r3.2) with h4 | h4
   ·
    replace hm := if_t h4 hm
    refine RK hnt (nn 3 (sk 5 (pT :: []))) [(1, pI p1), (2, pI p2), (3, rr 1024), (6, rr 1048), (30, pB true)] [(1024, bx (pm (encHierarchy p0))), (1048, bx [.p (.sl .nil 0 0 (fun _ => [])), pI 0, .p (.sl .nil 0 0 (fun _ => [])), pI 0])] (an6 h4 trivial) (by kernel_rfl) ?_
    exact joinDone true hm .refl
   ·
    replace hm := if_f h4 hm
    obtain ⟨r5, hr5, hm⟩ := bind_open hm
    refine RK hnt (nn 6 (.call 25 [] true (pB r5) [] [] :: .no :: pF :: [])) [(1, pI p1), (2, pI p2), (3, rr 1024), (6, rr 1048), (30, pB (!r5))] [(1024, bx (pm (encHierarchy p0))), (1048, bx [.p (.sl .nil 0 0 (fun _ => [])), pI 0, .p (.sl .nil 0 0 (fun _ => [])), pI 0])] (an4 h4 (an (Has_ref5Spec p0.tree p2 r5 hr5) (an2 h4 trivial))) (by kernel_rfl) ?_
    exact joinDone (!r5) hm .refl

theorem AttachThread_ref8Spec (p0 : Hierarchy) (p1 : Int) (p2 : Int) (RES : Hierarchy × Int) (hm : AttachThread_ref8 p0 p1 p2 = some RES) : Spec Try.prog 38 [.p (.agg (encHierarchy p0)), pI p1, pI p2] [] (.tup [.agg [ow 0 RES.1.tree.nodes.length, pI RES.1.tree.next, ow 1 RES.1.tasks.length, pI RES.1.next], pI RES.2]) [] [roNode RES.1.tree.nodes, roTask RES.1.tasks] := by
 unfold AttachThread_ref8 at hm
 refine spec_of Tgood (T := Tt) Try.func38 (by decide) (c := _) rfl rfl (sl := [(0, .p (.agg (encHierarchy p0))), (1, pI p1), (2, pI p2)]) (ob := []) (Nat.le_of_ble_eq_true rfl) (Nat.le_of_ble_eq_true rfl) (by kernel_rfl) (by kernel_rfl) ?_
 intro cx hnt
 refine DW.start ?_
 refine DW.seq (RK hnt (nn 3 []) [(1, pI p1), (2, pI p2), (3, rr 1024), (6, rr 1048)] [(1024, bx (pm (encHierarchy p0))), (1048, bx [.p (.sl .nil 0 0 (fun _ => [])), pI 0, .p (.sl .nil 0 0 (fun _ => [])), pI 0])] trivial (by kernel_rfl) ?_)
 obtain ⟨r1, hr1, hm⟩ := bind_open hm
 refine DW.seq (DW.seq (RK hnt (.no :: .call 63 [] true (pB r1) [] [] :: .no :: []) [(1, pI p1), (2, pI p2), (3, rr 1024), (6, rr 1048), (17, pB (!r1))] [(1024, bx (pm (encHierarchy p0))), (1048, bx [.p (.sl .nil 0 0 (fun _ => [])), pI 0, .p (.sl .nil 0 0 (fun _ => [])), pI 0])] (an (Fits_ref8Spec p0 r1 hr1) trivial) (by kernel_rfl) ?_))
 refine DW.cond (!r1) rfl rfl ?_ ?_
 ·
  intro h2
  replace hm := if_t h2 hm
  refine DW.seq (RK hnt (nn 3 []) [(6, rr 1048), (7, pI 1)] [(1048, bx [.p (.sl .nil 0 0 (fun _ => [])), pI 0, .p (.sl .nil 0 0 (fun _ => [])), pI 0])] trivial (by kernel_rfl) ?_)
  refine DW.conv (τ := mkSt [(6, rr 1048), (7, pI 1)] [(1048, bx [ow 100000 0, pI 0, ow 100001 0, pI 0]), (100000, ob0 (roNode [])), (100001, ob0 (roTask []))]) (Conv.trans (τ := mkSt [(6, rr 1048), (7, pI 1)] ((100000, ⟨0, .row 6 0 (elems encNode dNode [])⟩) :: [(1048, bx [ow 100000 0, pI 0, .p (.sl .nil 0 0 (fun _ => [])), pI 0])])) (Conv.adopt 100000 6 (elems encNode dNode []) rfl rfl (.rfl _) (.box (.cons (.nil _ _) (.cons (.rfl _) (.cons (.rfl _) (.cons (.rfl _) (.rfl _))))) (.rfl _))) (Conv.trans (τ := mkSt [(6, rr 1048), (7, pI 1)] [(1048, bx [ow 100000 0, pI 0, .p (.sl .nil 0 0 (fun _ => [])), pI 0]), (100000, ob0 (roNode []))]) (Conv.tp [] [] (by kernel_rfl) .nil .nil) (Conv.trans (τ := mkSt [(6, rr 1048), (7, pI 1)] ((100001, ⟨0, .row 4 0 (elems encTask dTask [])⟩) :: [(1048, bx [ow 100000 0, pI 0, ow 100001 0, pI 0]), (100000, ob0 (roNode []))])) (Conv.adopt 100001 4 (elems encTask dTask []) rfl rfl (.rfl _) (.box (.cons (.rfl _) (.cons (.rfl _) (.cons (.nil _ _) (.cons (.rfl _) (.rfl _))))) (.keep (.rfl _)))) (Conv.trans (τ := mkSt [(6, rr 1048), (7, pI 1)] [(1048, bx [ow 100000 0, pI 0, ow 100001 0, pI 0]), (100000, ob0 (roNode [])), (100001, ob0 (roTask []))]) (Conv.tp [] [] (by kernel_rfl) .nil .nil) .refl)))) ?_
  refine DW.ret ?_
  obtain rfl := Option.some.inj hm
  refine retOK (bs' := [roNode [], roTask []]) [100000, 100001] (.tup [.agg [ow 0 0, pI 0, ow 1 0, pI 0], pI 1]) (by kernel_rfl) ?_ ?_
  · rfl
  · rfl
 ·
  intro h2
  replace hm := if_f h2 hm
  refine DW.skip ?_
  obtain ⟨r3, hr3, hm⟩ := bind_open hm
  refine DW.seq (RK hnt (nn 2 (.call 28 [] true (.p (.tup [.agg (encTask r3.1), vb r3.2])) [] [] :: nn 6 [])) [(1, pI p1), (2, pI p2), (3, rr 1024), (6, rr 1048), (8, rr 1064), (9, pB r3.2)] [(1024, bx (pm (encHierarchy p0))), (1048, bx [.p (.sl .nil 0 0 (fun _ => [])), pI 0, .p (.sl .nil 0 0 (fun _ => [])), pI 0]), (1064, bx (pm (encTask r3.1)))] (an (Find_ref6Spec p0 p1 r3 hr3) trivial) (by kernel_rfl) ?_)
  refine DW.seq (DW.seq ?_)
  refine DW.join (ι := Bool) (fun (y1 : Bool) => mkSt [(1, pI p1), (2, pI p2), (3, rr 1024), (6, rr 1048), (8, rr 1064), (33, pB y1)] [(1024, bx (pm (encHierarchy p0))), (1048, bx [.p (.sl .nil 0 0 (fun _ => [])), pI 0, .p (.sl .nil 0 0 (fun _ => [])), pI 0]), (1064, bx (pm (encTask r3.1)))]) (fun y1 => (AttachThread_ref8J1 p0 p1 p2 r3) y1 = some RES) ?_ ?_
  ·
   intro y1 hm
   unfold AttachThread_ref8J1 at hm
   refine DW.cond y1 rfl rfl ?_ ?_
   ·
    intro h6
    replace hm := if_t h6 hm
    refine DW.seq (RK hnt (nn 3 []) [(6, rr 1048), (7, pI 4)] [(1048, bx [.p (.sl .nil 0 0 (fun _ => [])), pI 0, .p (.sl .nil 0 0 (fun _ => [])), pI 0])] trivial (by kernel_rfl) ?_)
    refine DW.conv (τ := mkSt [(6, rr 1048), (7, pI 4)] [(1048, bx [ow 100000 0, pI 0, ow 100001 0, pI 0]), (100000, ob0 (roNode [])), (100001, ob0 (roTask []))]) (Conv.trans (τ := mkSt [(6, rr 1048), (7, pI 4)] ((100000, ⟨0, .row 6 0 (elems encNode dNode [])⟩) :: [(1048, bx [ow 100000 0, pI 0, .p (.sl .nil 0 0 (fun _ => [])), pI 0])])) (Conv.adopt 100000 6 (elems encNode dNode []) rfl rfl (.rfl _) (.box (.cons (.nil _ _) (.cons (.rfl _) (.cons (.rfl _) (.cons (.rfl _) (.rfl _))))) (.rfl _))) (Conv.trans (τ := mkSt [(6, rr 1048), (7, pI 4)] [(1048, bx [ow 100000 0, pI 0, .p (.sl .nil 0 0 (fun _ => [])), pI 0]), (100000, ob0 (roNode []))]) (Conv.tp [] [] (by kernel_rfl) .nil .nil) (Conv.trans (τ := mkSt [(6, rr 1048), (7, pI 4)] ((100001, ⟨0, .row 4 0 (elems encTask dTask [])⟩) :: [(1048, bx [ow 100000 0, pI 0, ow 100001 0, pI 0]), (100000, ob0 (roNode []))])) (Conv.adopt 100001 4 (elems encTask dTask []) rfl rfl (.rfl _) (.box (.cons (.rfl _) (.cons (.rfl _) (.cons (.nil _ _) (.cons (.rfl _) (.rfl _))))) (.keep (.rfl _)))) (Conv.trans (τ := mkSt [(6, rr 1048), (7, pI 4)] [(1048, bx [ow 100000 0, pI 0, ow 100001 0, pI 0]), (100000, ob0 (roNode [])), (100001, ob0 (roTask []))]) (Conv.tp [] [] (by kernel_rfl) .nil .nil) .refl)))) ?_
    refine DW.ret ?_
    obtain rfl := Option.some.inj hm
    refine retOK (bs' := [roNode [], roTask []]) [100000, 100001] (.tup [.agg [ow 0 0, pI 0, ow 1 0, pI 0], pI 4]) (by kernel_rfl) ?_ ?_
    · rfl
    · rfl
   ·
    intro h6
    replace hm := if_f h6 hm
    refine DW.skip ?_
    obtain ⟨r7, hr7, hm⟩ := bind_open hm
    refine DW.seq (DW.seq (RK hnt (nn 2 (.call 35 [] true (pI r7) [] [] :: .no :: [])) [(1, pI p1), (2, pI p2), (3, rr 1024), (6, rr 1048), (8, rr 1064), (10, pI r7)] [(1024, bx (pm (encHierarchy p0))), (1048, bx [.p (.sl .nil 0 0 (fun _ => [])), pI 0, .p (.sl .nil 0 0 (fun _ => [])), pI 0]), (1064, bx (pm (encTask r3.1)))] (an (Admits_ref8Spec p0 p2 r7 hr7) trivial) (by kernel_rfl) ?_))
    refine DW.seq (RK hnt (nn 2 []) [(1, pI p1), (2, pI p2), (3, rr 1024), (6, rr 1048), (8, rr 1064), (10, pI r7), (39, pB (r7 != 0))] [(1024, bx (pm (encHierarchy p0))), (1048, bx [.p (.sl .nil 0 0 (fun _ => [])), pI 0, .p (.sl .nil 0 0 (fun _ => [])), pI 0]), (1064, bx (pm (encTask r3.1)))] trivial (by kernel_rfl) ?_)
    refine DW.cond (r7 != 0) rfl rfl ?_ ?_
    ·
     intro h8
     replace hm := if_t h8 hm
     refine DW.seq (RK hnt (nn 4 []) [(6, rr 1048), (7, pI r7)] [(1048, bx [.p (.sl .nil 0 0 (fun _ => [])), pI 0, .p (.sl .nil 0 0 (fun _ => [])), pI 0])] trivial (by kernel_rfl) ?_)
     refine DW.conv (τ := mkSt [(6, rr 1048), (7, pI r7)] [(1048, bx [ow 100000 0, pI 0, ow 100001 0, pI 0]), (100000, ob0 (roNode [])), (100001, ob0 (roTask []))]) (Conv.trans (τ := mkSt [(6, rr 1048), (7, pI r7)] ((100000, ⟨0, .row 6 0 (elems encNode dNode [])⟩) :: [(1048, bx [ow 100000 0, pI 0, .p (.sl .nil 0 0 (fun _ => [])), pI 0])])) (Conv.adopt 100000 6 (elems encNode dNode []) rfl rfl (.rfl _) (.box (.cons (.nil _ _) (.cons (.rfl _) (.cons (.rfl _) (.cons (.rfl _) (.rfl _))))) (.rfl _))) (Conv.trans (τ := mkSt [(6, rr 1048), (7, pI r7)] [(1048, bx [ow 100000 0, pI 0, .p (.sl .nil 0 0 (fun _ => [])), pI 0]), (100000, ob0 (roNode []))]) (Conv.tp [] [] (by kernel_rfl) .nil .nil) (Conv.trans (τ := mkSt [(6, rr 1048), (7, pI r7)] ((100001, ⟨0, .row 4 0 (elems encTask dTask [])⟩) :: [(1048, bx [ow 100000 0, pI 0, ow 100001 0, pI 0]), (100000, ob0 (roNode []))])) (Conv.adopt 100001 4 (elems encTask dTask []) rfl rfl (.rfl _) (.box (.cons (.rfl _) (.cons (.rfl _) (.cons (.nil _ _) (.cons (.rfl _) (.rfl _))))) (.keep (.rfl _)))) (Conv.trans (τ := mkSt [(6, rr 1048), (7, pI r7)] [(1048, bx [ow 100000 0, pI 0, ow 100001 0, pI 0]), (100000, ob0 (roNode [])), (100001, ob0 (roTask []))]) (Conv.tp [] [] (by kernel_rfl) .nil .nil) .refl)))) ?_
     refine DW.ret ?_
     obtain rfl := Option.some.inj hm
     refine retOK (bs' := [roNode [], roTask []]) [100000, 100001] (.tup [.agg [ow 0 0, pI 0, ow 1 0, pI 0], pI r7]) (by kernel_rfl) ?_ ?_
     · rfl
     · rfl
    ·
     intro h8
     replace hm := if_f h8 hm
     refine DW.skip ?_
     obtain ⟨r9, hr9, hm⟩ := bind_open hm
     refine DW.seq (RK hnt (nn 3 (.call 65 [] true (.p (.tup [vi r9.1, vb r9.2])) [] [] :: nn 5 [])) [(1, pI p1), (2, pI p2), (3, rr 1024), (6, rr 1048), (8, rr 1064), (11, pI r9.1)] [(1024, bx (pm (encHierarchy p0))), (1048, bx [.p (.sl .nil 0 0 (fun _ => [])), pI 0, .p (.sl .nil 0 0 (fun _ => [])), pI 0]), (1064, bx (pm (encTask r3.1)))] (an (Domain_ref8Spec p0.tree p2 r9 hr9) trivial) (by kernel_rfl) ?_)
     obtain ⟨r10, hr10, hm⟩ := bind_open hm
     refine DW.seq (DW.seq (RK hnt (nn 4 (.call 65 [] true (.p (.tup [vi r10.1, vb r10.2])) [] [] :: nn 5 [])) [(1, pI p1), (2, pI p2), (3, rr 1024), (6, rr 1048), (11, pI r9.1), (13, pI r10.1)] [(1024, bx (pm (encHierarchy p0))), (1048, bx [.p (.sl .nil 0 0 (fun _ => [])), pI 0, .p (.sl .nil 0 0 (fun _ => [])), pI 0])] (an (Domain_ref8Spec p0.tree r3.1.group r10 hr10) trivial) (by kernel_rfl) ?_))
     refine DW.seq (RK hnt (nn 3 []) [(1, pI p1), (2, pI p2), (3, rr 1024), (6, rr 1048), (59, pB (r9.1 != r10.1))] [(1024, bx (pm (encHierarchy p0))), (1048, bx [.p (.sl .nil 0 0 (fun _ => [])), pI 0, .p (.sl .nil 0 0 (fun _ => [])), pI 0])] trivial (by kernel_rfl) ?_)
     refine DW.cond (r9.1 != r10.1) rfl rfl ?_ ?_
     ·
      intro h11
      replace hm := if_t h11 hm
      refine DW.seq (RK hnt (nn 3 []) [(6, rr 1048), (7, pI 9)] [(1048, bx [.p (.sl .nil 0 0 (fun _ => [])), pI 0, .p (.sl .nil 0 0 (fun _ => [])), pI 0])] trivial (by kernel_rfl) ?_)
      refine DW.conv (τ := mkSt [(6, rr 1048), (7, pI 9)] [(1048, bx [ow 100000 0, pI 0, ow 100001 0, pI 0]), (100000, ob0 (roNode [])), (100001, ob0 (roTask []))]) (Conv.trans (τ := mkSt [(6, rr 1048), (7, pI 9)] ((100000, ⟨0, .row 6 0 (elems encNode dNode [])⟩) :: [(1048, bx [ow 100000 0, pI 0, .p (.sl .nil 0 0 (fun _ => [])), pI 0])])) (Conv.adopt 100000 6 (elems encNode dNode []) rfl rfl (.rfl _) (.box (.cons (.nil _ _) (.cons (.rfl _) (.cons (.rfl _) (.cons (.rfl _) (.rfl _))))) (.rfl _))) (Conv.trans (τ := mkSt [(6, rr 1048), (7, pI 9)] [(1048, bx [ow 100000 0, pI 0, .p (.sl .nil 0 0 (fun _ => [])), pI 0]), (100000, ob0 (roNode []))]) (Conv.tp [] [] (by kernel_rfl) .nil .nil) (Conv.trans (τ := mkSt [(6, rr 1048), (7, pI 9)] ((100001, ⟨0, .row 4 0 (elems encTask dTask [])⟩) :: [(1048, bx [ow 100000 0, pI 0, ow 100001 0, pI 0]), (100000, ob0 (roNode []))])) (Conv.adopt 100001 4 (elems encTask dTask []) rfl rfl (.rfl _) (.box (.cons (.rfl _) (.cons (.rfl _) (.cons (.nil _ _) (.cons (.rfl _) (.rfl _))))) (.keep (.rfl _)))) (Conv.trans (τ := mkSt [(6, rr 1048), (7, pI 9)] [(1048, bx [ow 100000 0, pI 0, ow 100001 0, pI 0]), (100000, ob0 (roNode [])), (100001, ob0 (roTask []))]) (Conv.tp [] [] (by kernel_rfl) .nil .nil) .refl)))) ?_
      refine DW.ret ?_
      obtain rfl := Option.some.inj hm
      refine retOK (bs' := [roNode [], roTask []]) [100000, 100001] (.tup [.agg [ow 0 0, pI 0, ow 1 0, pI 0], pI 9]) (by kernel_rfl) ?_ ?_
      · rfl
      · rfl
     ·
      intro h11
      replace hm := if_f h11 hm
      refine DW.skip ?_
      obtain ⟨r12, hr12, hm⟩ := bind_open hm
      refine DW.seq (RK hnt (nn 3 (.call 66 [] true (.tup [.agg [ow 0 r12.1.tree.nodes.length, pI r12.1.tree.next, ow 1 r12.1.tasks.length, pI r12.1.next], pI r12.2]) [] [roNode r12.1.tree.nodes, roTask r12.1.tasks] :: nn 4 [])) [(6, rr 1048), (7, pI r12.2)] [(1048, bx [ow 1512 r12.1.tree.nodes.length, pI r12.1.tree.next, ow 1513 r12.1.tasks.length, pI r12.1.next]), (1512, ob0 (roNode r12.1.tree.nodes)), (1513, ob0 (roTask r12.1.tasks))] (an (Place_ref6Spec p0 p1 p2 r12 hr12) trivial) (by kernel_rfl) ?_)
      refine DW.ret ?_
      obtain rfl := Option.some.inj hm
      refine retOK (bs' := [roNode r12.1.tree.nodes, roTask r12.1.tasks]) [1512, 1513] (.tup [.agg [ow 0 r12.1.tree.nodes.length, pI r12.1.tree.next, ow 1 r12.1.tasks.length, pI r12.1.next], pI r12.2]) (by kernel_rfl) ?_ ?_
      · rfl
      · rfl
  ·
   rcases bt (!r3.2) with h4 | h4
   ·
    replace hm := if_t h4 hm
    refine RK hnt (nn 3 (sk 5 (pT :: []))) [(1, pI p1), (2, pI p2), (3, rr 1024), (6, rr 1048), (8, rr 1064), (33, pB true)] [(1024, bx (pm (encHierarchy p0))), (1048, bx [.p (.sl .nil 0 0 (fun _ => [])), pI 0, .p (.sl .nil 0 0 (fun _ => [])), pI 0]), (1064, bx (pm (encTask r3.1)))] (an6 h4 trivial) (by kernel_rfl) ?_
    exact joinDone true hm .refl
   ·
    replace hm := if_f h4 hm
    obtain ⟨r5, hr5, hm⟩ := bind_open hm
    refine RK hnt (nn 6 (.call 25 [] true (pB r5) [] [] :: .no :: pF :: [])) [(1, pI p1), (2, pI p2), (3, rr 1024), (6, rr 1048), (8, rr 1064), (33, pB (!r5))] [(1024, bx (pm (encHierarchy p0))), (1048, bx [.p (.sl .nil 0 0 (fun _ => [])), pI 0, .p (.sl .nil 0 0 (fun _ => [])), pI 0]), (1064, bx (pm (encTask r3.1)))] (an4 h4 (an (Has_ref5Spec p0.tree p2 r5 hr5) (an2 h4 trivial))) (by kernel_rfl) ?_
    exact joinDone (!r5) hm .refl

theorem Exit_ref6Spec (p0 : Hierarchy) (p1 : Int) (RES : Hierarchy × Int) (hm : Exit_ref6 p0 p1 = some RES) : Spec Try.prog 39 [.p (.agg (encHierarchy p0)), pI p1] [] (.tup [.agg [ow 0 RES.1.tree.nodes.length, pI RES.1.tree.next, ow 1 RES.1.tasks.length, pI RES.1.next], pI RES.2]) [] [roNode RES.1.tree.nodes, roTask RES.1.tasks] := by
 unfold Exit_ref6 at hm
 refine spec_of Tgood (T := Tt) Try.func39 (by decide) (c := _) rfl rfl (sl := [(0, .p (.agg (encHierarchy p0))), (1, pI p1)]) (ob := []) (Nat.le_of_ble_eq_true rfl) (Nat.le_of_ble_eq_true rfl) (by kernel_rfl) (by kernel_rfl) ?_
 intro cx hnt
 refine DW.start ?_
 refine DW.seq (RK hnt (nn 3 []) [(1, pI p1), (2, rr 1016), (4, rr 1032)] [(1016, bx (pm (encHierarchy p0))), (1032, bx [.p (.sl .nil 0 0 (fun _ => [])), pI 0, .p (.sl .nil 0 0 (fun _ => [])), pI 0])] trivial (by kernel_rfl) ?_)
 obtain ⟨r1, hr1, hm⟩ := bind_open hm
 refine DW.seq (DW.seq (RK hnt (.no :: .call 24 [] true (pB r1) [] [] :: .no :: []) [(1, pI p1), (2, rr 1016), (4, rr 1032), (13, pB (!r1))] [(1016, bx (pm (encHierarchy p0))), (1032, bx [.p (.sl .nil 0 0 (fun _ => [])), pI 0, .p (.sl .nil 0 0 (fun _ => [])), pI 0])] (an (Check_ref6Spec p0 r1 hr1) trivial) (by kernel_rfl) ?_))
 refine DW.cond (!r1) rfl rfl ?_ ?_
 ·
  intro h2
  replace hm := if_t h2 hm
  refine DW.seq (RK hnt (nn 3 []) [(4, rr 1032), (5, pI 1)] [(1032, bx [.p (.sl .nil 0 0 (fun _ => [])), pI 0, .p (.sl .nil 0 0 (fun _ => [])), pI 0])] trivial (by kernel_rfl) ?_)
  refine DW.conv (τ := mkSt [(4, rr 1032), (5, pI 1)] [(1032, bx [ow 100000 0, pI 0, ow 100001 0, pI 0]), (100000, ob0 (roNode [])), (100001, ob0 (roTask []))]) (Conv.trans (τ := mkSt [(4, rr 1032), (5, pI 1)] ((100000, ⟨0, .row 6 0 (elems encNode dNode [])⟩) :: [(1032, bx [ow 100000 0, pI 0, .p (.sl .nil 0 0 (fun _ => [])), pI 0])])) (Conv.adopt 100000 6 (elems encNode dNode []) rfl rfl (.rfl _) (.box (.cons (.nil _ _) (.cons (.rfl _) (.cons (.rfl _) (.cons (.rfl _) (.rfl _))))) (.rfl _))) (Conv.trans (τ := mkSt [(4, rr 1032), (5, pI 1)] [(1032, bx [ow 100000 0, pI 0, .p (.sl .nil 0 0 (fun _ => [])), pI 0]), (100000, ob0 (roNode []))]) (Conv.tp [] [] (by kernel_rfl) .nil .nil) (Conv.trans (τ := mkSt [(4, rr 1032), (5, pI 1)] ((100001, ⟨0, .row 4 0 (elems encTask dTask [])⟩) :: [(1032, bx [ow 100000 0, pI 0, ow 100001 0, pI 0]), (100000, ob0 (roNode []))])) (Conv.adopt 100001 4 (elems encTask dTask []) rfl rfl (.rfl _) (.box (.cons (.rfl _) (.cons (.rfl _) (.cons (.nil _ _) (.cons (.rfl _) (.rfl _))))) (.keep (.rfl _)))) (Conv.trans (τ := mkSt [(4, rr 1032), (5, pI 1)] [(1032, bx [ow 100000 0, pI 0, ow 100001 0, pI 0]), (100000, ob0 (roNode [])), (100001, ob0 (roTask []))]) (Conv.tp [] [] (by kernel_rfl) .nil .nil) .refl)))) ?_
  refine DW.ret ?_
  obtain rfl := Option.some.inj hm
  refine retOK (bs' := [roNode [], roTask []]) [100000, 100001] (.tup [.agg [ow 0 0, pI 0, ow 1 0, pI 0], pI 1]) (by kernel_rfl) ?_ ?_
  · rfl
  · rfl
 ·
  intro h2
  replace hm := if_f h2 hm
  refine DW.skip ?_
  obtain ⟨r3, hr3, hm⟩ := bind_open hm
  refine DW.seq (DW.seq (RK hnt (nn 2 (.call 28 [] true (.p (.tup [.agg (encTask r3.1), vb r3.2])) [] [] :: nn 6 [])) [(1, pI p1), (2, rr 1016), (4, rr 1032), (7, pB r3.2)] [(1016, bx (pm (encHierarchy p0))), (1032, bx [.p (.sl .nil 0 0 (fun _ => [])), pI 0, .p (.sl .nil 0 0 (fun _ => [])), pI 0])] (an (Find_ref6Spec p0 p1 r3 hr3) trivial) (by kernel_rfl) ?_))
  refine DW.seq (RK hnt (nn 2 []) [(1, pI p1), (2, rr 1016), (4, rr 1032), (22, pB (!r3.2))] [(1016, bx (pm (encHierarchy p0))), (1032, bx [.p (.sl .nil 0 0 (fun _ => [])), pI 0, .p (.sl .nil 0 0 (fun _ => [])), pI 0])] trivial (by kernel_rfl) ?_)
  refine DW.cond (!r3.2) rfl rfl ?_ ?_
  ·
   intro h4
   replace hm := if_t h4 hm
   refine DW.seq (RK hnt (nn 3 []) [(4, rr 1032), (5, pI 4)] [(1032, bx [.p (.sl .nil 0 0 (fun _ => [])), pI 0, .p (.sl .nil 0 0 (fun _ => [])), pI 0])] trivial (by kernel_rfl) ?_)
   refine DW.conv (τ := mkSt [(4, rr 1032), (5, pI 4)] [(1032, bx [ow 100000 0, pI 0, ow 100001 0, pI 0]), (100000, ob0 (roNode [])), (100001, ob0 (roTask []))]) (Conv.trans (τ := mkSt [(4, rr 1032), (5, pI 4)] ((100000, ⟨0, .row 6 0 (elems encNode dNode [])⟩) :: [(1032, bx [ow 100000 0, pI 0, .p (.sl .nil 0 0 (fun _ => [])), pI 0])])) (Conv.adopt 100000 6 (elems encNode dNode []) rfl rfl (.rfl _) (.box (.cons (.nil _ _) (.cons (.rfl _) (.cons (.rfl _) (.cons (.rfl _) (.rfl _))))) (.rfl _))) (Conv.trans (τ := mkSt [(4, rr 1032), (5, pI 4)] [(1032, bx [ow 100000 0, pI 0, .p (.sl .nil 0 0 (fun _ => [])), pI 0]), (100000, ob0 (roNode []))]) (Conv.tp [] [] (by kernel_rfl) .nil .nil) (Conv.trans (τ := mkSt [(4, rr 1032), (5, pI 4)] ((100001, ⟨0, .row 4 0 (elems encTask dTask [])⟩) :: [(1032, bx [ow 100000 0, pI 0, ow 100001 0, pI 0]), (100000, ob0 (roNode []))])) (Conv.adopt 100001 4 (elems encTask dTask []) rfl rfl (.rfl _) (.box (.cons (.rfl _) (.cons (.rfl _) (.cons (.nil _ _) (.cons (.rfl _) (.rfl _))))) (.keep (.rfl _)))) (Conv.trans (τ := mkSt [(4, rr 1032), (5, pI 4)] [(1032, bx [ow 100000 0, pI 0, ow 100001 0, pI 0]), (100000, ob0 (roNode [])), (100001, ob0 (roTask []))]) (Conv.tp [] [] (by kernel_rfl) .nil .nil) .refl)))) ?_
   refine DW.ret ?_
   obtain rfl := Option.some.inj hm
   refine retOK (bs' := [roNode [], roTask []]) [100000, 100001] (.tup [.agg [ow 0 0, pI 0, ow 1 0, pI 0], pI 4]) (by kernel_rfl) ?_ ?_
   · rfl
   · rfl
  ·
   intro h4
   replace hm := if_f h4 hm
   refine DW.skip ?_
   obtain ⟨r5, hr5, hm⟩ := bind_open hm
   refine DW.seq (RK hnt (nn 2 (.call 67 [] true (.agg [ow 0 r5.nodes.length, pI r5.next]) [] [roNode r5.nodes] :: nn 5 [])) [(1, pI p1), (2, rr 1016), (4, rr 1032), (8, rr 1064)] [(1016, bx (pm (encHierarchy p0))), (1032, bx [.p (.sl .nil 0 0 (fun _ => [])), pI 0, .p (.sl .nil 0 0 (fun _ => [])), pI 0]), (1064, bx [ow 1208 r5.nodes.length, pI r5.next, .p (.sl .nil 0 0 (fun _ => [])), pI p0.next]), (1208, ob0 (roNode r5.nodes))] (an (Copy_ref5Spec p0.tree r5 hr5) trivial) (by kernel_rfl) ?_)
   refine DW.seq (DW.seq (RK hnt (.no :: []) [(1, pI p1), (2, rr 1016), (4, rr 1032), (8, rr 1064), (9, pI 0)] [(1016, bx (pm (encHierarchy p0))), (1032, bx [.p (.sl .nil 0 0 (fun _ => [])), pI 0, .p (.sl .nil 0 0 (fun _ => [])), pI 0]), (1064, bx [ow 1208 r5.nodes.length, pI r5.next, .p (.sl .nil 0 0 (fun _ => [])), pI p0.next]), (1208, ob0 (roNode r5.nodes))] trivial (by kernel_rfl) ?_))
   refine DW.block ?_
   obtain ⟨hc1, hm⟩ := guard_open hm
   refine DW.rangeO (fun (k1 : Nat) (s1 : List Task) => mkSt [(1, pI p1), (2, rr 1016), (4, rr 1032), (8, rr 1064), (9, pI ((k1 : Nat) : Int))] [(1016, bx (pm (encHierarchy p0))), (1032, bx [.p (.sl .nil 0 0 (fun _ => [])), pI 0, .p (.sl .nil 0 0 (fun _ => [])), pI 0]), (1064, bx [ow 1208 r5.nodes.length, pI r5.next, ow 1448 s1.length, pI p0.next]), (1208, ob0 (roNode r5.nodes)), (1448, ob0 (roTask s1))]) dTask hm (Conv.trans (τ := mkSt [(1, pI p1), (2, rr 1016), (4, rr 1032), (8, rr 1064), (9, pI 0)] ((1448, ⟨0, .row 4 0 (elems encTask dTask [])⟩) :: [(1016, bx (pm (encHierarchy p0))), (1032, bx [.p (.sl .nil 0 0 (fun _ => [])), pI 0, .p (.sl .nil 0 0 (fun _ => [])), pI 0]), (1064, bx [ow 1208 r5.nodes.length, pI r5.next, ow 1448 0, pI p0.next]), (1208, ob0 (roNode r5.nodes))])) (Conv.adopt 1448 4 (elems encTask dTask []) rfl rfl (.rfl _) (.keep (.keep (.box (.cons (.rfl _) (.cons (.rfl _) (.cons (.nil _ _) (.cons (.rfl _) (.rfl _))))) (.keep (.rfl _)))))) (Conv.trans (τ := mkSt [(1, pI p1), (2, rr 1016), (4, rr 1032), (8, rr 1064), (9, pI 0)] [(1016, bx (pm (encHierarchy p0))), (1032, bx [.p (.sl .nil 0 0 (fun _ => [])), pI 0, .p (.sl .nil 0 0 (fun _ => [])), pI 0]), (1064, bx [ow 1208 r5.nodes.length, pI r5.next, ow 1448 0, pI p0.next]), (1208, ob0 (roNode r5.nodes)), (1448, ob0 (roTask []))]) (Conv.tp [] [] (by kernel_rfl) .nil .nil) .refl)) ?_
   intro k1 s1 n1 hk1 hs1 he1
   refine DW.seq (DW.seq (RK hnt (nn 5 []) [(1, pI p1), (2, rr 1016), (4, rr 1032), (8, rr 1064), (9, pI ((k1 : Nat) : Int)), (34, pB (decide (((k1 : Nat) : Int) < ((p0.tasks.length : Nat) : Int))))] [(1016, bx (pm (encHierarchy p0))), (1032, bx [.p (.sl .nil 0 0 (fun _ => [])), pI 0, .p (.sl .nil 0 0 (fun _ => [])), pI 0]), (1064, bx [ow 1208 r5.nodes.length, pI r5.next, ow 1448 s1.length, pI p0.next]), (1208, ob0 (roNode r5.nodes)), (1448, ob0 (roTask s1))] trivial (by kernel_rfl) ?_))
   refine DW.cond (decide (((k1 : Nat) : Int) < ((p0.tasks.length : Nat) : Int))) rfl rfl ?_ ?_
   ·
    intro h15
    have hlt1 : k1 < p0.tasks.length := by have := of_decide_eq_true h15; omega
    have hm := hs1 hlt1
    unfold Exit_ref6L1 at hm
    refine DW.skip ?_
    refine DW.seq ?_
    refine DW.join (ι := List Task) (fun (y3 : List Task) => mkSt [(1, pI p1), (2, rr 1016), (4, rr 1032), (8, rr 1064), (9, pI ((k1 : Nat) : Int))] [(1016, bx (pm (encHierarchy p0))), (1032, bx [.p (.sl .nil 0 0 (fun _ => [])), pI 0, .p (.sl .nil 0 0 (fun _ => [])), pI 0]), (1064, bx [ow 1208 r5.nodes.length, pI r5.next, ow 1448 y3.length, pI p0.next]), (1208, ob0 (roNode r5.nodes)), (1448, ob0 (roTask y3))]) (fun y3 => (Exit_ref6J3 n1) y3 = some RES) ?_ ?_
    ·
     intro y3 hm
     unfold Exit_ref6J3 at hm
     refine RK hnt (nn 3 []) [(1, pI p1), (2, rr 1016), (4, rr 1032), (8, rr 1064), (9, pI (w64 (((k1 : Nat) : Int) + 1)))] [(1016, bx (pm (encHierarchy p0))), (1032, bx [.p (.sl .nil 0 0 (fun _ => [])), pI 0, .p (.sl .nil 0 0 (fun _ => [])), pI 0]), (1064, bx [ow 1208 r5.nodes.length, pI r5.next, ow 1448 y3.length, pI p0.next]), (1208, ob0 (roNode r5.nodes)), (1448, ob0 (roTask y3))] trivial (by kernel_rfl) ?_
     exact joinDone y3 ⟨hlt1, hm⟩ (Conv.tp [(9, pI (w64 (((k1 : Nat) : Int) + 1)))] [] (by kernel_rfl) (.cons rfl (.of_eq (congrArg pI (w64_succ hlt1 hc1))) .nil) .nil)
    ·
     refine DW.block ?_
     refine DW.seq (RK hnt (nn 7 []) [(1, pI p1), (2, rr 1016), (4, rr 1032), (8, rr 1064), (9, pI ((k1 : Nat) : Int)), (10, rr 1080)] [(1016, bx (pm (encHierarchy p0))), (1032, bx [.p (.sl .nil 0 0 (fun _ => [])), pI 0, .p (.sl .nil 0 0 (fun _ => [])), pI 0]), (1064, bx [ow 1208 r5.nodes.length, pI r5.next, ow 1448 s1.length, pI p0.next]), (1080, bx (pm (encTask (p0.tasks.getD k1 (default : Task))))), (1208, ob0 (roNode r5.nodes)), (1448, ob0 (roTask s1))] (an (nn0 k1) (an (ltc hlt1) trivial)) (by kernel_rfl) ?_)
     refine DW.seq (DW.regJ (sl2 := [(1, pI p1), (2, rr 1016), (4, rr 1032), (8, rr 1064), (9, pI ((k1 : Nat) : Int)), (10, rr 1080), (51, pB (((p0.tasks.getD k1 (default : Task)).id != p1) && ((p0.tasks.getD k1 (default : Task)).process != p1)))]) (ob2 := [(1016, bx (pm (encHierarchy p0))), (1032, bx [.p (.sl .nil 0 0 (fun _ => [])), pI 0, .p (.sl .nil 0 0 (fun _ => [])), pI 0]), (1064, bx [ow 1208 r5.nodes.length, pI r5.next, ow 1448 s1.length, pI p0.next]), (1080, bx (pm (encTask (p0.tasks.getD k1 (default : Task))))), (1208, ob0 (roNode r5.nodes)), (1448, ob0 (roTask s1))]) ?_ ?_)
     ·
      rcases bt ((p0.tasks.getD k1 (default : Task)).id != p1) with h16 | h16
      ·
       exact RT hnt (nn 9 (pT :: [])) [(51, pB ((p0.tasks.getD k1 (default : Task)).process != p1))] (an5 h16 trivial) (by kernel_rfl) (.cons rfl (.of_eq (by rw [h16]; try rfl)) .nil)
      ·
       exact RT hnt (nn 5 (sk 4 (pF :: []))) [(51, pB false)] (an5 h16 trivial) (by kernel_rfl) (.cons rfl (.of_eq (by rw [h16]; try rfl)) .nil)
     ·
      refine DW.cond (((p0.tasks.getD k1 (default : Task)).id != p1) && ((p0.tasks.getD k1 (default : Task)).process != p1)) rfl rfl ?_ ?_
      ·
       intro h17
       replace hm := if_t h17 hm
       obtain ⟨g18, hm⟩ := guard_open hm
       refine RN hnt (nn 7 []) [(1, pI p1), (2, rr 1016), (4, rr 1032), (8, rr 1064), (9, pI ((k1 : Nat) : Int))] [(1016, bx (pm (encHierarchy p0))), (1032, bx [.p (.sl .nil 0 0 (fun _ => [])), pI 0, .p (.sl .nil 0 0 (fun _ => [])), pI 0]), (1064, bx [ow 1208 r5.nodes.length, pI r5.next, ow 1448 (s1 ++ [(p0.tasks.getD k1 (default : Task))]).length, pI p0.next]), (1208, ob0 (roNode r5.nodes)), (1448, ob0 (roTask (s1 ++ [(p0.tasks.getD k1 (default : Task))])))] [] [(1064, .box [ow 1208 r5.nodes.length, pI r5.next, ow 1448 (s1.length + 1), pI p0.next]), (1448, .row 4 (s1.length + 1) (catF s1.length (elTask s1) (cut 4 [vi (p0.tasks.getD k1 (default : Task)).id, vi (p0.tasks.getD k1 (default : Task)).process, vi (p0.tasks.getD k1 (default : Task)).group, vi (p0.tasks.getD k1 (default : Task)).user])))] (an (by omega : (s1.length + 1) * 32 ≤ 140737488355328) trivial) (by kernel_rfl) .nil (.cons rfl (.box (.cons .rfl (.cons .rfl (.cons (MLe.ownLen (enc := encTask) (d := dTask) (f := (catF s1.length (elTask s1) (cut 4 [vi (p0.tasks.getD k1 (default : Task)).id, vi (p0.tasks.getD k1 (default : Task)).process, vi (p0.tasks.getD k1 (default : Task)).group, vi (p0.tasks.getD k1 (default : Task)).user]))) (RowIs.cat RowIs.elems (RowIs.lit (enc := encTask) (d := dTask) (n := 1) (f := (cut 4 [vi (p0.tasks.getD k1 (default : Task)).id, vi (p0.tasks.getD k1 (default : Task)).process, vi (p0.tasks.getD k1 (default : Task)).group, vi (p0.tasks.getD k1 (default : Task)).user])) [(p0.tasks.getD k1 (default : Task))] rfl (fun | 0, _ => rfl | n + 1, h => absurd h (by omega))))) (.cons .rfl .nil))))) (.cons rfl (BLe.typed (RowIs.cat RowIs.elems (RowIs.lit (enc := encTask) (d := dTask) (n := 1) (f := (cut 4 [vi (p0.tasks.getD k1 (default : Task)).id, vi (p0.tasks.getD k1 (default : Task)).process, vi (p0.tasks.getD k1 (default : Task)).group, vi (p0.tasks.getD k1 (default : Task)).user])) [(p0.tasks.getD k1 (default : Task))] rfl (fun | 0, _ => rfl | n + 1, h => absurd h (by omega))))) .nil)) ?_
       exact blockDone (s1 ++ [(p0.tasks.getD k1 (default : Task))]) hm .refl
      ·
       intro h17
       replace hm := if_f h17 hm
       refine DW.skip ?_
       exact blockDone s1 hm (Conv.tp [] [] (by kernel_rfl) .nil .nil)
   ·
    intro h15
    have hge1 : ¬ k1 < p0.tasks.length := by have := of_decide_eq_false h15; omega
    have hm := he1 hge1
    unfold Exit_ref6D1 at hm
    refine DW.exit ?_
    refine joinQ_exit ?_
    refine KQ_exit ?_
    refine blockQ_exit ?_
    show DW _ _ _ _ _
    refine DW.seq (RK hnt (nn 3 []) [(4, rr 1032), (5, pI 0)] [(1032, bx [ow 1208 r5.nodes.length, pI r5.next, ow 1448 s1.length, pI p0.next]), (1208, ob0 (roNode r5.nodes)), (1448, ob0 (roTask s1))] trivial (by kernel_rfl) ?_)
    refine DW.ret ?_
    obtain rfl := Option.some.inj hm
    refine retOK (bs' := [roNode r5.nodes, roTask s1]) [1208, 1448] (.tup [.agg [ow 0 r5.nodes.length, pI r5.next, ow 1 s1.length, pI p0.next], pI 0]) (by kernel_rfl) ?_ ?_
    · rfl
    · rfl
end Go.Dm
