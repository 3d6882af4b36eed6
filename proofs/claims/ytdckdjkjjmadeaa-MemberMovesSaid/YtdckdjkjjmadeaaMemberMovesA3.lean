/- Texts of the proof of MemberMoves: the data machine, the models of the Go functions, their contracts. -/
import Derived.Test.YtdckdjkjjmadeaaMemberMovesA2
set_option linter.unusedVariables false
set_option linter.unusedSimpArgs false
/- Go functions compute their models, printed by a program. -/
namespace Go.Dm
open Go.Proofs
set_option linter.unusedVariables false
theorem Light_madeSpec (p0 : List Int) (RES : Bool) (hm : Light_made p0 = some RES) : Spec Try.prog 12 [.p (slI p0)] [] (pB RES) [] [] := by
 unfold Light_made at hm
 refine spec_of Tgood (T := Tt) Try.func12 (by decide) (c := _) rfl rfl (sl := [(0, .p (slI p0))]) (ob := []) (Nat.le_of_ble_eq_true rfl) (Nat.le_of_ble_eq_true rfl) (by kernel_rfl) (by kernel_rfl) ?_
 intro cx hnt
 refine DW.start ?_
 refine DW.seq (RK hnt (.no :: []) [(0, .p (slI p0))] [] trivial (by kernel_rfl) ?_)
 refine DW.seq (RK hnt (nn 4 []) [(2, pB (decide (((p0.length : Nat) : Int) ≤ 600)))] [] trivial (by kernel_rfl) ?_)
 refine DW.ret ?_
 obtain rfl := Option.some.inj hm
 refine retOK (bs' := []) [] (pB (decide (((p0.length : Nat) : Int) ≤ 600))) (by kernel_rfl) ?_ ?_
 · rfl
 · rfl

theorem New_treeSpec (RES : Tree) (hm : New_tree = some RES) : Spec Try.prog 53 [] [] (.agg [ow 0 RES.nodes.length, pI RES.next]) [] [roNode RES.nodes] := by
 unfold New_tree at hm
 refine spec_of Tgood (T := Tt) Try.func53 (by decide) (c := _) rfl rfl (sl := []) (ob := []) (Nat.le_of_ble_eq_true rfl) (Nat.le_of_ble_eq_true rfl) (by kernel_rfl) (by kernel_rfl) ?_
 intro cx hnt
 refine DW.start ?_
 refine DW.seq (RK hnt (.no :: []) [(0, rr 1000)] [(1000, bx [.p (.sl .nil 0 0 (fun _ => [])), pI 0])] trivial (by kernel_rfl) ?_)
 refine DW.seq (RN hnt (nn 4 []) [(0, rr 1000)] [(1000, bx [ow 1016 [({ id := 1, parent := 0, name := ByteArray.empty, control := 0, kind := 0, owner := 0 } : Node)].length, pI 2]), (1016, ob0 (roNode [({ id := 1, parent := 0, name := ByteArray.empty, control := 0, kind := 0, owner := 0 } : Node)]))] [] [(1000, .box [ow 1016 1, pI 2]), (1016, .row 6 1 (cut 6 [vi 1, vi 0, vs ByteArray.empty, vi 0, vi 0, vi 0]))] trivial (by kernel_rfl) .nil (.cons rfl (.box (.cons (MLe.ownLen (enc := encNode) (d := dNode) (f := (cut 6 [vi 1, vi 0, vs ByteArray.empty, vi 0, vi 0, vi 0])) (RowIs.lit (enc := encNode) (d := dNode) (n := 1) (f := (cut 6 [vi 1, vi 0, vs ByteArray.empty, vi 0, vi 0, vi 0])) [({ id := 1, parent := 0, name := ByteArray.empty, control := 0, kind := 0, owner := 0 } : Node)] rfl (fun | 0, _ => rfl | n + 1, h => absurd h (by omega)))) (.cons .rfl .nil))) (.cons rfl (BLe.typed (RowIs.lit (enc := encNode) (d := dNode) (n := 1) (f := (cut 6 [vi 1, vi 0, vs ByteArray.empty, vi 0, vi 0, vi 0])) [({ id := 1, parent := 0, name := ByteArray.empty, control := 0, kind := 0, owner := 0 } : Node)] rfl (fun | 0, _ => rfl | n + 1, h => absurd h (by omega)))) .nil)) ?_)
 refine DW.ret ?_
 obtain rfl := Option.some.inj hm
 refine retOK (bs' := [roNode [({ id := 1, parent := 0, name := ByteArray.empty, control := 0, kind := 0, owner := 0 } : Node)]]) [1016] (.agg [ow 0 [({ id := 1, parent := 0, name := ByteArray.empty, control := 0, kind := 0, owner := 0 } : Node)].length, pI 2]) (by kernel_rfl) ?_ ?_
 · rfl
 · rfl

theorem New_memberSpec (RES : Hierarchy) (hm : New_member = some RES) : Spec Try.prog 30 [] [] (.agg [ow 0 RES.tree.nodes.length, pI RES.tree.next, ow 1 RES.tasks.length, pI RES.next]) [] [roNode RES.tree.nodes, roTask RES.tasks] := by
 unfold New_member at hm
 refine spec_of Tgood (T := Tt) Try.func30 (by decide) (c := _) rfl rfl (sl := []) (ob := []) (Nat.le_of_ble_eq_true rfl) (Nat.le_of_ble_eq_true rfl) (by kernel_rfl) (by kernel_rfl) ?_
 intro cx hnt
 refine DW.start ?_
 refine DW.seq (RK hnt (.no :: []) [(0, rr 1000)] [(1000, bx [.p (.sl .nil 0 0 (fun _ => [])), pI 0, .p (.sl .nil 0 0 (fun _ => [])), pI 0])] trivial (by kernel_rfl) ?_)
 obtain ⟨r1, hr1, hm⟩ := bind_open hm
 refine DW.seq (RK hnt (.call 53 [] true (.agg [ow 0 r1.nodes.length, pI r1.next]) [] [roNode r1.nodes] :: nn 2 []) [(0, rr 1000)] [(1000, bx [ow 1008 r1.nodes.length, pI r1.next, .p (.sl .nil 0 0 (fun _ => [])), pI 1]), (1008, ob0 (roNode r1.nodes))] (an (New_treeSpec r1 hr1) trivial) (by kernel_rfl) ?_)
 refine DW.conv (τ := mkSt [(0, rr 1000)] [(1000, bx [ow 1008 r1.nodes.length, pI r1.next, ow 100000 0, pI 1]), (1008, ob0 (roNode r1.nodes)), (100000, ob0 (roTask []))]) (Conv.trans (τ := mkSt [(0, rr 1000)] ((100000, ⟨0, .row 4 0 (elems encTask dTask [])⟩) :: [(1000, bx [ow 1008 r1.nodes.length, pI r1.next, ow 100000 0, pI 1]), (1008, ob0 (roNode r1.nodes))])) (Conv.adopt 100000 4 (elems encTask dTask []) rfl rfl (.rfl _) (.box (.cons (.rfl _) (.cons (.rfl _) (.cons (.nil _ _) (.cons (.rfl _) (.rfl _))))) (.keep (.rfl _)))) (Conv.trans (τ := mkSt [(0, rr 1000)] [(1000, bx [ow 1008 r1.nodes.length, pI r1.next, ow 100000 0, pI 1]), (1008, ob0 (roNode r1.nodes)), (100000, ob0 (roTask []))]) (Conv.tp [] [] (by kernel_rfl) .nil .nil) .refl)) ?_
 refine DW.ret ?_
 obtain rfl := Option.some.inj hm
 refine retOK (bs' := [roNode r1.nodes, roTask []]) [1008, 100000] (.agg [ow 0 r1.nodes.length, pI r1.next, ow 1 0, pI 1]) (by kernel_rfl) ?_ ?_
 · rfl
 · rfl

theorem root_treeSpec (p0 : Node) (RES : Bool) (hm : root_tree p0 = some RES) : Spec Try.prog 74 [.p (.agg (encNode p0))] [] (pB RES) [] [] := by
 unfold root_tree at hm
 refine spec_of Tgood (T := Tt) Try.func74 (by decide) (c := _) rfl rfl (sl := [(0, .p (.agg (encNode p0)))]) (ob := []) (Nat.le_of_ble_eq_true rfl) (Nat.le_of_ble_eq_true rfl) (by kernel_rfl) (by kernel_rfl) ?_
 intro cx hnt
 refine DW.start ?_
 refine DW.seq (RK hnt (nn 2 []) [(1, rr 1008)] [(1008, bx (pm (encNode p0)))] trivial (by kernel_rfl) ?_)
 refine DW.seq (DW.regJ (sl2 := [(2, pB ((((p0.id == 1) && (p0.parent == 0)) && (beqS p0.name ByteArray.empty)) && (p0.kind == 0)))]) (ob2 := []) ?_ ?_)
 ·
  rcases bt (p0.id == 1) with h1 | h1
  ·
   rcases bt (p0.parent == 0) with h2 | h2
   ·
    rcases bt (beqS p0.name ByteArray.empty) with h3 | h3
    ·
     exact RT hnt (nn 7 (pT :: nn 4 (pT :: nn 4 (pT :: .no :: [])))) [(2, pB (p0.kind == 0))] (an4 h1 (an4 h2 (an4 h3 trivial))) (by kernel_rfl) (.cons rfl (.of_eq (by rw [h1, h2, h3]; try rfl)) .nil)
    ·
     exact RT hnt (nn 7 (pT :: nn 4 (pT :: .no :: sk 3 (pF :: .no :: [])))) [(2, pB false)] (an4 h1 (an4 h2 (an4 h3 trivial))) (by kernel_rfl) (.cons rfl (.of_eq (by rw [h1, h2, h3]; try rfl)) .nil)
   ·
    exact RT hnt (nn 7 (pT :: .no :: sk 3 (pF :: .no :: sk 3 (pF :: .no :: [])))) [(2, pB false)] (an4 h1 (an4 h2 (an4 ff trivial))) (by kernel_rfl) (.cons rfl (.of_eq (by rw [h1, h2]; try rfl)) .nil)
  ·
   exact RT hnt (nn 4 (sk 3 (pF :: .no :: sk 3 (pF :: .no :: sk 3 (pF :: .no :: []))))) [(2, pB false)] (an4 h1 (an2 ff (an6 ff trivial))) (by kernel_rfl) (.cons rfl (.of_eq (by rw [h1]; try rfl)) .nil)
 ·
  refine DW.ret ?_
  obtain rfl := Option.some.inj hm
  refine retOK (bs' := []) [] (pB ((((p0.id == 1) && (p0.parent == 0)) && (beqS p0.name ByteArray.empty)) && (p0.kind == 0))) (by kernel_rfl) ?_ ?_
  · rfl
  · rfl

theorem inner_nameSpec (p0 : Int) (RES : Bool) (hm : inner_name p0 = some RES) : Spec Try.prog 88 [.p (vk .u8 p0)] [] (pB RES) [] [] := by
 unfold inner_name at hm
 refine spec_of Tgood (T := Tt) Try.func88 (by decide) (c := _) rfl rfl (sl := [(0, .p (vk .u8 p0))]) (ob := []) (Nat.le_of_ble_eq_true rfl) (Nat.le_of_ble_eq_true rfl) (by kernel_rfl) (by kernel_rfl) ?_
 intro cx hnt
 refine DW.start ?_
 refine DW.seq (RK hnt (.no :: []) [(0, .p (vk .u8 p0))] [] trivial (by kernel_rfl) ?_)
 refine DW.seq (DW.regJ (sl2 := [(2, pB ((((((decide (p0 ≥ 97)) && (decide (p0 ≤ 122))) || ((decide (p0 ≥ 65)) && (decide (p0 ≤ 90)))) || ((decide (p0 ≥ 48)) && (decide (p0 ≤ 57)))) || (p0 == 95)) || (p0 == 45)))]) (ob2 := []) ?_ ?_)
 ·
  rcases bt (decide (p0 ≥ 97)) with h1 | h1
  ·
   rcases bt (decide (p0 ≤ 122)) with h2 | h2
   ·
    exact RT hnt (nn 5 (pT :: .no :: sk 6 (pT :: .no :: sk 6 (pT :: .no :: sk 2 (pT :: .no :: sk 2 (pT :: .no :: [])))))) [(2, pB true)] (an3 h1 (an5 h2 (an5 tt (an6 tt trivial)))) (by kernel_rfl) (.cons rfl (.of_eq (by rw [h1, h2]; try rfl)) .nil)
   ·
    rcases bt (decide (p0 ≥ 65)) with h3 | h3
    ·
     rcases bt (decide (p0 ≤ 90)) with h4 | h4
     ·
      exact RT hnt (nn 5 (pT :: nn 6 (pT :: pF :: .no :: sk 6 (pT :: .no :: sk 2 (pT :: .no :: sk 2 (pT :: .no :: [])))))) [(2, pB true)] (an3 h1 (an3 h2 (an2 h3 (an h2 (an h3 (an h2 (an5 h4 (an6 tt trivial)))))))) (by kernel_rfl) (.cons rfl (.of_eq (by rw [h1, h2, h3, h4]; try rfl)) .nil)
     ·
      rcases bt (decide (p0 ≥ 48)) with h5 | h5
      ·
       rcases bt (decide (p0 ≤ 57)) with h6 | h6
       ·
        exact RT hnt (nn 5 (pT :: nn 6 (pT :: pF :: nn 6 (pT :: pF :: .no :: sk 2 (pT :: .no :: sk 2 (pT :: .no :: [])))))) [(2, pB true)] (an3 h1 (an3 h2 (an2 h3 (an h2 (an h3 (an h2 (an3 h4 (an2 h5 (an h4 (an h5 (an h4 (an3 h6 (an3 tt trivial))))))))))))) (by kernel_rfl) (.cons rfl (.of_eq (by rw [h1, h2, h3, h4, h5, h6]; try rfl)) .nil)
       ·
        rcases bt (p0 == 95) with h7 | h7
        ·
         exact RT hnt (nn 5 (pT :: nn 6 (pT :: pF :: nn 6 (pT :: pF :: nn 3 (pF :: .no :: sk 2 (pT :: .no :: [])))))) [(2, pB true)] (an3 h1 (an3 h2 (an2 h3 (an h2 (an h3 (an h2 (an3 h4 (an2 h5 (an h4 (an h5 (an h4 (an3 h6 (an3 h7 trivial))))))))))))) (by kernel_rfl) (.cons rfl (.of_eq (by rw [h1, h2, h3, h4, h5, h6, h7]; try rfl)) .nil)
        ·
         exact RT hnt (nn 5 (pT :: nn 6 (pT :: pF :: nn 6 (pT :: pF :: nn 3 (pF :: nn 3 (pF :: .no :: [])))))) [(2, pB (p0 == 45))] (an3 h1 (an3 h2 (an2 h3 (an h2 (an h3 (an h2 (an3 h4 (an2 h5 (an h4 (an h5 (an h4 (an3 h6 (an3 h7 trivial))))))))))))) (by kernel_rfl) (.cons rfl (.of_eq (by rw [h1, h2, h3, h4, h5, h6, h7]; try rfl)) .nil)
      ·
       rcases bt (p0 == 95) with h8 | h8
       ·
        exact RT hnt (nn 5 (pT :: nn 6 (pT :: pF :: nn 4 (sk 2 (pF :: pF :: nn 3 (pF :: .no :: sk 2 (pT :: .no :: []))))))) [(2, pB true)] (an3 h1 (an3 h2 (an2 h3 (an h2 (an h3 (an h2 (an3 h4 (an2 h5 (an h4 (an h5 (an h4 (an3 ff (an3 h8 trivial))))))))))))) (by kernel_rfl) (.cons rfl (.of_eq (by rw [h1, h2, h3, h4, h5, h8]; try rfl)) .nil)
       ·
        exact RT hnt (nn 5 (pT :: nn 6 (pT :: pF :: nn 4 (sk 2 (pF :: pF :: nn 3 (pF :: nn 3 (pF :: .no :: []))))))) [(2, pB (p0 == 45))] (an3 h1 (an3 h2 (an2 h3 (an h2 (an h3 (an h2 (an3 h4 (an2 h5 (an h4 (an h5 (an h4 (an3 ff (an3 h8 trivial))))))))))))) (by kernel_rfl) (.cons rfl (.of_eq (by rw [h1, h2, h3, h4, h5, h8]; try rfl)) .nil)
    ·
     rcases bt (decide (p0 ≥ 48)) with h9 | h9
     ·
      rcases bt (decide (p0 ≤ 57)) with h10 | h10
      ·
       exact RT hnt (nn 5 (pT :: nn 4 (sk 2 (pF :: pF :: nn 6 (pT :: pF :: .no :: sk 2 (pT :: .no :: sk 2 (pT :: .no :: []))))))) [(2, pB true)] (an3 h1 (an3 h2 (an2 h3 (an h2 (an h3 (an h2 (an3 ff (an2 h9 (an ff (an h9 (an ff (an3 h10 (an3 tt trivial))))))))))))) (by kernel_rfl) (.cons rfl (.of_eq (by rw [h1, h2, h3, h9, h10]; try rfl)) .nil)
      ·
       rcases bt (p0 == 95) with h11 | h11
       ·
        exact RT hnt (nn 5 (pT :: nn 4 (sk 2 (pF :: pF :: nn 6 (pT :: pF :: nn 3 (pF :: .no :: sk 2 (pT :: .no :: []))))))) [(2, pB true)] (an3 h1 (an3 h2 (an2 h3 (an h2 (an h3 (an h2 (an3 ff (an2 h9 (an ff (an h9 (an ff (an3 h10 (an3 h11 trivial))))))))))))) (by kernel_rfl) (.cons rfl (.of_eq (by rw [h1, h2, h3, h9, h10, h11]; try rfl)) .nil)
       ·
        exact RT hnt (nn 5 (pT :: nn 4 (sk 2 (pF :: pF :: nn 6 (pT :: pF :: nn 3 (pF :: nn 3 (pF :: .no :: []))))))) [(2, pB (p0 == 45))] (an3 h1 (an3 h2 (an2 h3 (an h2 (an h3 (an h2 (an3 ff (an2 h9 (an ff (an h9 (an ff (an3 h10 (an3 h11 trivial))))))))))))) (by kernel_rfl) (.cons rfl (.of_eq (by rw [h1, h2, h3, h9, h10, h11]; try rfl)) .nil)
     ·
      rcases bt (p0 == 95) with h12 | h12
      ·
       exact RT hnt (nn 5 (pT :: nn 4 (sk 2 (pF :: pF :: nn 4 (sk 2 (pF :: pF :: nn 3 (pF :: .no :: sk 2 (pT :: .no :: [])))))))) [(2, pB true)] (an3 h1 (an3 h2 (an2 h3 (an h2 (an h3 (an h2 (an3 ff (an2 h9 (an ff (an h9 (an4 ff (an3 h12 trivial)))))))))))) (by kernel_rfl) (.cons rfl (.of_eq (by rw [h1, h2, h3, h9, h12]; try rfl)) .nil)
      ·
       exact RT hnt (nn 5 (pT :: nn 4 (sk 2 (pF :: pF :: nn 4 (sk 2 (pF :: pF :: nn 3 (pF :: nn 3 (pF :: .no :: [])))))))) [(2, pB (p0 == 45))] (an3 h1 (an3 h2 (an2 h3 (an h2 (an h3 (an h2 (an3 ff (an2 h9 (an ff (an h9 (an4 ff (an3 h12 trivial)))))))))))) (by kernel_rfl) (.cons rfl (.of_eq (by rw [h1, h2, h3, h9, h12]; try rfl)) .nil)
  ·
   rcases bt (decide (p0 ≥ 65)) with h13 | h13
   ·
    rcases bt (decide (p0 ≤ 90)) with h14 | h14
    ·
     exact RT hnt (nn 3 (sk 2 (pF :: nn 6 (pT :: pF :: .no :: sk 6 (pT :: .no :: sk 2 (pT :: .no :: sk 2 (pT :: .no :: []))))))) [(2, pB true)] (an3 h1 (an3 ff (an2 h13 (an ff (an h13 (an ff (an5 h14 (an6 tt trivial)))))))) (by kernel_rfl) (.cons rfl (.of_eq (by rw [h1, h13, h14]; try rfl)) .nil)
    ·
     rcases bt (decide (p0 ≥ 48)) with h15 | h15
     ·
      rcases bt (decide (p0 ≤ 57)) with h16 | h16
      ·
       exact RT hnt (nn 3 (sk 2 (pF :: nn 6 (pT :: pF :: nn 6 (pT :: pF :: .no :: sk 2 (pT :: .no :: sk 2 (pT :: .no :: []))))))) [(2, pB true)] (an3 h1 (an3 ff (an2 h13 (an ff (an h13 (an ff (an3 h14 (an2 h15 (an h14 (an h15 (an h14 (an3 h16 (an3 tt trivial))))))))))))) (by kernel_rfl) (.cons rfl (.of_eq (by rw [h1, h13, h14, h15, h16]; try rfl)) .nil)
      ·
       rcases bt (p0 == 95) with h17 | h17
       ·
        exact RT hnt (nn 3 (sk 2 (pF :: nn 6 (pT :: pF :: nn 6 (pT :: pF :: nn 3 (pF :: .no :: sk 2 (pT :: .no :: []))))))) [(2, pB true)] (an3 h1 (an3 ff (an2 h13 (an ff (an h13 (an ff (an3 h14 (an2 h15 (an h14 (an h15 (an h14 (an3 h16 (an3 h17 trivial))))))))))))) (by kernel_rfl) (.cons rfl (.of_eq (by rw [h1, h13, h14, h15, h16, h17]; try rfl)) .nil)
       ·
        exact RT hnt (nn 3 (sk 2 (pF :: nn 6 (pT :: pF :: nn 6 (pT :: pF :: nn 3 (pF :: nn 3 (pF :: .no :: []))))))) [(2, pB (p0 == 45))] (an3 h1 (an3 ff (an2 h13 (an ff (an h13 (an ff (an3 h14 (an2 h15 (an h14 (an h15 (an h14 (an3 h16 (an3 h17 trivial))))))))))))) (by kernel_rfl) (.cons rfl (.of_eq (by rw [h1, h13, h14, h15, h16, h17]; try rfl)) .nil)
     ·
      rcases bt (p0 == 95) with h18 | h18
      ·
       exact RT hnt (nn 3 (sk 2 (pF :: nn 6 (pT :: pF :: nn 4 (sk 2 (pF :: pF :: nn 3 (pF :: .no :: sk 2 (pT :: .no :: [])))))))) [(2, pB true)] (an3 h1 (an3 ff (an2 h13 (an ff (an h13 (an ff (an3 h14 (an2 h15 (an h14 (an h15 (an h14 (an3 ff (an3 h18 trivial))))))))))))) (by kernel_rfl) (.cons rfl (.of_eq (by rw [h1, h13, h14, h15, h18]; try rfl)) .nil)
      ·
       exact RT hnt (nn 3 (sk 2 (pF :: nn 6 (pT :: pF :: nn 4 (sk 2 (pF :: pF :: nn 3 (pF :: nn 3 (pF :: .no :: [])))))))) [(2, pB (p0 == 45))] (an3 h1 (an3 ff (an2 h13 (an ff (an h13 (an ff (an3 h14 (an2 h15 (an h14 (an h15 (an h14 (an3 ff (an3 h18 trivial))))))))))))) (by kernel_rfl) (.cons rfl (.of_eq (by rw [h1, h13, h14, h15, h18]; try rfl)) .nil)
   ·
    rcases bt (decide (p0 ≥ 48)) with h19 | h19
    ·
     rcases bt (decide (p0 ≤ 57)) with h20 | h20
     ·
      exact RT hnt (nn 3 (sk 2 (pF :: nn 4 (sk 2 (pF :: pF :: nn 6 (pT :: pF :: .no :: sk 2 (pT :: .no :: sk 2 (pT :: .no :: [])))))))) [(2, pB true)] (an3 h1 (an3 ff (an2 h13 (an ff (an h13 (an4 ff (an2 h19 (an ff (an h19 (an ff (an3 h20 (an3 tt trivial)))))))))))) (by kernel_rfl) (.cons rfl (.of_eq (by rw [h1, h13, h19, h20]; try rfl)) .nil)
     ·
      rcases bt (p0 == 95) with h21 | h21
      ·
       exact RT hnt (nn 3 (sk 2 (pF :: nn 4 (sk 2 (pF :: pF :: nn 6 (pT :: pF :: nn 3 (pF :: .no :: sk 2 (pT :: .no :: [])))))))) [(2, pB true)] (an3 h1 (an3 ff (an2 h13 (an ff (an h13 (an4 ff (an2 h19 (an ff (an h19 (an ff (an3 h20 (an3 h21 trivial)))))))))))) (by kernel_rfl) (.cons rfl (.of_eq (by rw [h1, h13, h19, h20, h21]; try rfl)) .nil)
      ·
       exact RT hnt (nn 3 (sk 2 (pF :: nn 4 (sk 2 (pF :: pF :: nn 6 (pT :: pF :: nn 3 (pF :: nn 3 (pF :: .no :: [])))))))) [(2, pB (p0 == 45))] (an3 h1 (an3 ff (an2 h13 (an ff (an h13 (an4 ff (an2 h19 (an ff (an h19 (an ff (an3 h20 (an3 h21 trivial)))))))))))) (by kernel_rfl) (.cons rfl (.of_eq (by rw [h1, h13, h19, h20, h21]; try rfl)) .nil)
    ·
     rcases bt (p0 == 95) with h22 | h22
     ·
      exact RT hnt (nn 3 (sk 2 (pF :: nn 4 (sk 2 (pF :: pF :: nn 4 (sk 2 (pF :: pF :: nn 3 (pF :: .no :: sk 2 (pT :: .no :: []))))))))) [(2, pB true)] (an3 h1 (an3 ff (an2 h13 (an ff (an h13 (an4 ff (an2 h19 (an ff (an h19 (an4 ff (an3 h22 trivial))))))))))) (by kernel_rfl) (.cons rfl (.of_eq (by rw [h1, h13, h19, h22]; try rfl)) .nil)
     ·
      exact RT hnt (nn 3 (sk 2 (pF :: nn 4 (sk 2 (pF :: pF :: nn 4 (sk 2 (pF :: pF :: nn 3 (pF :: nn 3 (pF :: .no :: []))))))))) [(2, pB (p0 == 45))] (an3 h1 (an3 ff (an2 h13 (an ff (an h13 (an4 ff (an2 h19 (an ff (an h19 (an4 ff (an3 h22 trivial))))))))))) (by kernel_rfl) (.cons rfl (.of_eq (by rw [h1, h13, h19, h22]; try rfl)) .nil)
 ·
  refine DW.ret ?_
  obtain rfl := Option.some.inj hm
  refine retOK (bs' := []) [] (pB ((((((decide (p0 ≥ 97)) && (decide (p0 ≤ 122))) || ((decide (p0 ≥ 65)) && (decide (p0 ≤ 90)))) || ((decide (p0 ≥ 48)) && (decide (p0 ≤ 57)))) || (p0 == 95)) || (p0 == 45))) (by kernel_rfl) ?_ ?_
  · rfl
  · rfl

theorem Valid_nameSpec (p0 : ByteArray) (RES : Bool) (hm : Valid_name p0 = some RES) : Spec Try.prog 85 [pS p0] [] (pB RES) [] [] := by
 unfold Valid_name at hm
 refine spec_of Tgood (T := Tt) Try.func85 (by decide) (c := _) rfl rfl (sl := [(0, pS p0)]) (ob := []) (Nat.le_of_ble_eq_true rfl) (Nat.le_of_ble_eq_true rfl) (by kernel_rfl) (by kernel_rfl) ?_
 intro cx hnt
 refine DW.start ?_
 refine DW.seq (RK hnt (.no :: []) [(0, pS p0)] [] trivial (by kernel_rfl) ?_)
 refine DW.seq (DW.seq (RN hnt (nn 4 []) [(0, pS p0), (6, .p (slOf 1 (encK .u8) 0 (bytesL p0))), (7, pI ((p0.size : Nat) : Int)), (8, pI 0)] [] [(6, .p (.sl .unk 1 p0.size (bytesF p0)))] [] trivial (by kernel_rfl) (.cons rfl (MLe.typed RowIs.bytes) .nil) .nil ?_))
 refine DW.block ?_
 obtain ⟨hc1, hm⟩ := guard_open hm
 refine DW.rangeO (fun (k1 : Nat) (s1 : Unit) => mkSt [(0, pS p0), (6, .p (slOf 1 (encK .u8) 0 (bytesL p0))), (7, pI ((p0.size : Nat) : Int)), (8, pI ((k1 : Nat) : Int))] []) 0 hm .refl ?_
 intro k1 s1 n1 hk1 hs1 he1
 refine DW.seq (RK hnt (.no :: []) [(0, pS p0), (6, .p (slOf 1 (encK .u8) 0 (bytesL p0))), (7, pI ((p0.size : Nat) : Int)), (8, pI ((k1 : Nat) : Int)), (9, pB (decide (((k1 : Nat) : Int) < ((p0.size : Nat) : Int))))] [] trivial (by kernel_rfl) ?_)
 refine DW.seq (DW.cond (decide (((k1 : Nat) : Int) < ((p0.size : Nat) : Int))) rfl rfl ?_ ?_)
 ·
  intro h15
  have hlt1 : k1 < (bytesL p0).length := by have := of_decide_eq_true h15; have := bytesL_length p0; omega
  have hm := hs1 hlt1
  unfold Valid_nameL1 at hm
  refine DW.skip ?_
  refine DW.seq (DW.block ?_)
  refine DW.seq (RK hnt (nn 3 []) [(0, pS p0), (4, .p (vk .u8 ((bytesL p0).getD k1 0))), (6, .p (slOf 1 (encK .u8) 0 (bytesL p0))), (7, pI ((p0.size : Nat) : Int)), (8, pI ((k1 : Nat) : Int))] [] (an (nn0 k1) (an (ltc hlt1) trivial)) (by kernel_rfl) ?_)
  obtain ⟨r16, hr16, hm⟩ := bind_open hm
  refine DW.seq (RK hnt (.no :: .call 88 [] true (pB r16) [] [] :: .no :: []) [(0, pS p0), (6, .p (slOf 1 (encK .u8) 0 (bytesL p0))), (7, pI ((p0.size : Nat) : Int)), (8, pI ((k1 : Nat) : Int)), (14, pB (!r16))] [] (an (inner_nameSpec ((bytesL p0).getD k1 0) r16 hr16) trivial) (by kernel_rfl) ?_)
  refine DW.cond (!r16) rfl rfl ?_ ?_
  ·
   intro h17
   replace hm := if_t h17 hm
   refine DW.seq (RK hnt (.no :: []) [(2, pB false)] [] trivial (by kernel_rfl) ?_)
   refine DW.ret ?_
   obtain rfl := Option.some.inj hm
   refine retOK (bs' := []) [] (pB false) (by kernel_rfl) ?_ ?_
   · rfl
   · rfl
  ·
   intro h17
   replace hm := if_f h17 hm
   refine DW.skip ?_
   refine DW.done ?_
   show DW _ _ _ _ _
   refine RK hnt (nn 2 []) [(0, pS p0), (6, .p (slOf 1 (encK .u8) 0 (bytesL p0))), (7, pI ((p0.size : Nat) : Int)), (8, pI (w64 (((k1 : Nat) : Int) + 1)))] [] trivial (by kernel_rfl) ?_
   exact joinDone () ⟨hlt1, hm⟩ (Conv.tp [(8, pI (w64 (((k1 : Nat) : Int) + 1)))] [] (by kernel_rfl) (.cons rfl (.of_eq (congrArg pI (w64_succ hlt1 hc1))) .nil) .nil)
 ·
  intro h15
  have hge1 : ¬ k1 < (bytesL p0).length := by have := of_decide_eq_false h15; have := bytesL_length p0; omega
  have hm := he1 hge1
  unfold Valid_nameD1 at hm
  refine DW.exit ?_
  refine joinQ_exit ?_
  refine KQ_exit ?_
  refine blockQ_exit ?_
  show DW _ _ _ _ _
  refine DW.seq ?_
  refine DW.join (ι := Bool) (fun (y3 : Bool) => mkSt [(2, pB y3)] []) (fun y3 => Valid_nameJ3 y3 = some RES) ?_ ?_
  ·
   intro y3 hm
   unfold Valid_nameJ3 at hm
   refine DW.ret ?_
   obtain rfl := Option.some.inj hm
   refine retOK (bs' := []) [] (pB y3) (by kernel_rfl) ?_ ?_
   · rfl
   · rfl
  ·
   rcases bt (!(beqS p0 ByteArray.empty)) with h18 | h18
   ·
    replace hm := if_t h18 hm
    rcases bt (decide (((p0.size : Nat) : Int) ≤ 32)) with h19 | h19
    ·
     replace hm := if_t h19 hm
     obtain ⟨g20, hm⟩ := guard_open hm
     refine RK hnt (nn 6 (pT :: nn 4 (pT :: .no :: []))) [(2, pB ((((byteAt p0 0) : Nat) : Int) != 45))] [] (an4 h18 (an2 h19 (an (nn0 0) (an (ltc g20) (an2 h19 trivial))))) (by kernel_rfl) ?_
     exact joinDone ((((byteAt p0 0) : Nat) : Int) != 45) hm .refl
    ·
     replace hm := if_f h19 hm
     refine RK hnt (nn 6 (pT :: .no :: sk 3 (pF :: .no :: []))) [(2, pB false)] [] (an4 h18 (an4 h19 trivial)) (by kernel_rfl) ?_
     exact joinDone false hm .refl
   ·
    replace hm := if_f h18 hm
    refine RK hnt (nn 3 (sk 3 (pF :: .no :: sk 3 (pF :: .no :: [])))) [(2, pB false)] [] (an4 h18 (an4 ff trivial)) (by kernel_rfl) ?_
    exact joinDone false hm .refl

theorem fine_treeSpec (p0 : List Node) (p1 : Node) (RES : Bool) (hm : fine_tree p0 p1 = some RES) : Spec Try.prog 75 [.p (slNode p0), .p (.agg (encNode p1))] [] (pB RES) [] [] := by
 unfold fine_tree at hm
 refine spec_of Tgood (T := Tt) Try.func75 (by decide) (c := _) rfl rfl (sl := [(0, .p (slNode p0)), (1, .p (.agg (encNode p1)))]) (ob := []) (Nat.le_of_ble_eq_true rfl) (Nat.le_of_ble_eq_true rfl) (by kernel_rfl) (by kernel_rfl) ?_
 intro cx hnt
 refine DW.start ?_
 refine DW.seq (RK hnt (nn 2 []) [(0, .p (slNode p0)), (3, rr 1024)] [(1024, bx (pm (encNode p1)))] trivial (by kernel_rfl) ?_)
 obtain ⟨g1, hm⟩ := guard_open hm
 refine DW.seq (DW.seq ?_)
 refine DW.join (ι := Bool) (fun (y1 : Bool) => mkSt [(0, .p (slNode p0)), (3, rr 1024), (33, pB y1)] [(1024, bx (pm (encNode p1)))]) (fun y1 => (fine_treeJ1 p0 p1) y1 = some RES) ?_ ?_
 ·
  intro y1 hm
  unfold fine_treeJ1 at hm
  refine DW.cond y1 rfl rfl ?_ ?_
  ·
   intro h6
   replace hm := if_t h6 hm
   refine DW.seq (RK hnt (.no :: []) [(4, pB false)] [] trivial (by kernel_rfl) ?_)
   refine DW.ret ?_
   obtain rfl := Option.some.inj hm
   refine retOK (bs' := []) [] (pB false) (by kernel_rfl) ?_ ?_
   · rfl
   · rfl
  ·
   intro h6
   replace hm := if_f h6 hm
   refine DW.skip ?_
   refine DW.seq (RK hnt (.no :: []) [(0, .p (slNode p0)), (3, rr 1024), (5, pB false)] [(1024, bx (pm (encNode p1)))] trivial (by kernel_rfl) ?_)
   refine DW.seq (DW.seq (RK hnt (nn 3 []) [(3, rr 1024), (5, pB false), (34, .p (slNode p0)), (35, pI ((p0.length : Nat) : Int)), (36, pI 0)] [(1024, bx (pm (encNode p1)))] trivial (by kernel_rfl) ?_))
   refine DW.block ?_
   obtain ⟨hc1, hm⟩ := guard_open hm
   refine DW.rangeO (fun (k1 : Nat) (s1 : Bool) => mkSt [(3, rr 1024), (5, pB s1), (34, .p (slNode p0)), (35, pI ((p0.length : Nat) : Int)), (36, pI ((k1 : Nat) : Int))] [(1024, bx (pm (encNode p1)))]) dNode hm .refl ?_
   intro k1 s1 n1 hk1 hs1 he1
   refine DW.seq (RK hnt (.no :: []) [(3, rr 1024), (5, pB s1), (34, .p (slNode p0)), (35, pI ((p0.length : Nat) : Int)), (36, pI ((k1 : Nat) : Int)), (37, pB (decide (((k1 : Nat) : Int) < ((p0.length : Nat) : Int))))] [(1024, bx (pm (encNode p1)))] trivial (by kernel_rfl) ?_)
   refine DW.seq (DW.cond (decide (((k1 : Nat) : Int) < ((p0.length : Nat) : Int))) rfl rfl ?_ ?_)
   ·
    intro h16
    have hlt1 : k1 < p0.length := by have := of_decide_eq_true h16; omega
    have hm := hs1 hlt1
    unfold fine_treeL1 at hm
    refine DW.skip ?_
    refine DW.seq (DW.block ?_)
    refine DW.seq (RK hnt (nn 4 []) [(3, rr 1024), (5, pB s1), (7, rr 1056), (34, .p (slNode p0)), (35, pI ((p0.length : Nat) : Int)), (36, pI ((k1 : Nat) : Int))] [(1024, bx (pm (encNode p1))), (1056, bx (pm (encNode (p0.getD k1 (default : Node)))))] (an (nn0 k1) (an (ltc hlt1) trivial)) (by kernel_rfl) ?_)
    refine DW.seq (DW.regJ (sl2 := [(3, rr 1024), (5, pB (s1 || ((p0.getD k1 (default : Node)).id == p1.parent))), (7, rr 1056), (34, .p (slNode p0)), (35, pI ((p0.length : Nat) : Int)), (36, pI ((k1 : Nat) : Int))]) (ob2 := [(1024, bx (pm (encNode p1))), (1056, bx (pm (encNode (p0.getD k1 (default : Node)))))]) ?_ ?_)
    ·
     rcases bt s1 with h17 | h17
     ·
      exact RT hnt (nn 2 (sk 5 (pT :: .no :: []))) [(5, pB true)] (an6 h17 trivial) (by kernel_rfl) (.cons rfl (.of_eq (by rw [h17]; try rfl)) .nil)
     ·
      exact RT hnt (nn 7 (pF :: .no :: [])) [(5, pB ((p0.getD k1 (default : Node)).id == p1.parent))] (an6 h17 trivial) (by kernel_rfl) (.cons rfl (.of_eq (by rw [h17]; try rfl)) .nil)
    ·
     refine DW.seq (DW.regJ (sl2 := [(3, rr 1024), (5, pB (s1 || ((p0.getD k1 (default : Node)).id == p1.parent))), (34, .p (slNode p0)), (35, pI ((p0.length : Nat) : Int)), (36, pI ((k1 : Nat) : Int)), (59, pB (((p0.getD k1 (default : Node)).parent == p1.parent) && (beqS (p0.getD k1 (default : Node)).name p1.name)))]) (ob2 := [(1024, bx (pm (encNode p1)))]) ?_ ?_)
     ·
      rcases bt ((p0.getD k1 (default : Node)).parent == p1.parent) with h18 | h18
      ·
       exact RT hnt (nn 11 (pT :: [])) [(59, pB (beqS (p0.getD k1 (default : Node)).name p1.name))] (an6 h18 trivial) (by kernel_rfl) (.cons rfl (.of_eq (by rw [h18]; try rfl)) .nil)
      ·
       exact RT hnt (nn 6 (sk 5 (pF :: []))) [(59, pB false)] (an6 h18 trivial) (by kernel_rfl) (.cons rfl (.of_eq (by rw [h18]; try rfl)) .nil)
     ·
      refine DW.cond (((p0.getD k1 (default : Node)).parent == p1.parent) && (beqS (p0.getD k1 (default : Node)).name p1.name)) rfl rfl ?_ ?_
      ·
       intro h19
       replace hm := if_t h19 hm
       refine DW.seq (RK hnt (.no :: []) [(4, pB false)] [] trivial (by kernel_rfl) ?_)
       refine DW.ret ?_
       obtain rfl := Option.some.inj hm
       refine retOK (bs' := []) [] (pB false) (by kernel_rfl) ?_ ?_
       · rfl
       · rfl
      ·
       intro h19
       replace hm := if_f h19 hm
       refine DW.skip ?_
       refine DW.done ?_
       show DW _ _ _ _ _
       refine RK hnt (nn 2 []) [(3, rr 1024), (5, pB (s1 || ((p0.getD k1 (default : Node)).id == p1.parent))), (34, .p (slNode p0)), (35, pI ((p0.length : Nat) : Int)), (36, pI (w64 (((k1 : Nat) : Int) + 1)))] [(1024, bx (pm (encNode p1)))] trivial (by kernel_rfl) ?_
       exact joinDone (s1 || ((p0.getD k1 (default : Node)).id == p1.parent)) ⟨hlt1, hm⟩ (Conv.tp [(36, pI (w64 (((k1 : Nat) : Int) + 1)))] [] (by kernel_rfl) (.cons rfl (.of_eq (congrArg pI (w64_succ hlt1 hc1))) .nil) .nil)
   ·
    intro h16
    have hge1 : ¬ k1 < p0.length := by have := of_decide_eq_false h16; omega
    have hm := he1 hge1
    unfold fine_treeD1 at hm
    refine DW.exit ?_
    refine joinQ_exit ?_
    refine KQ_exit ?_
    refine blockQ_exit ?_
    show DW _ _ _ _ _
    refine DW.seq (RK hnt (nn 2 []) [(4, pB s1)] [] trivial (by kernel_rfl) ?_)
    refine DW.ret ?_
    obtain rfl := Option.some.inj hm
    refine retOK (bs' := []) [] (pB s1) (by kernel_rfl) ?_ ?_
    · rfl
    · rfl
 ·
  rcases bt (decide (p1.id ≤ (p0.getD (Int.toNat (w64 (((p0.length : Nat) : Int) - 1))) dNode).id)) with h2 | h2
  ·
   replace hm := if_t h2 hm
   refine RK hnt (nn 11 (sk 4 (pT :: .no :: sk 8 (pT :: [])))) [(0, .p (slNode p0)), (3, rr 1024), (33, pB true)] [(1024, bx (pm (encNode p1)))] (an g1.1 (an g1.2 (an5 h2 (an6 tt trivial)))) (by kernel_rfl) ?_
   exact joinDone true hm .refl
  ·
   replace hm := if_f h2 hm
   obtain ⟨r3, hr3, hm⟩ := bind_open hm
   rcases bt (!r3) with h4 | h4
   ·
    replace hm := if_t h4 hm
    refine RK hnt (nn 13 (.call 85 [] true (pB r3) [] [] :: .no :: pF :: .no :: sk 8 (pT :: []))) [(0, .p (slNode p0)), (3, rr 1024), (33, pB true)] [(1024, bx (pm (encNode p1)))] (an g1.1 (an g1.2 (an3 h2 (an (Valid_nameSpec p1.name r3 hr3) (an2 h2 (an6 h4 trivial)))))) (by kernel_rfl) ?_
    exact joinDone true hm .refl
   ·
    replace hm := if_f h4 hm
    rcases bt (p1.kind != 0) with h5 | h5
    ·
     replace hm := if_t h5 hm
     refine RK hnt (nn 13 (.call 85 [] true (pB r3) [] [] :: .no :: pF :: nn 8 (pT :: pF :: []))) [(0, .p (slNode p0)), (3, rr 1024), (33, pB (p1.kind != 1))] [(1024, bx (pm (encNode p1)))] (an g1.1 (an g1.2 (an3 h2 (an (Valid_nameSpec p1.name r3 hr3) (an2 h2 (an4 h4 (an3 h5 (an h4 (an h5 (an h4 trivial)))))))))) (by kernel_rfl) ?_
     exact joinDone (p1.kind != 1) hm .refl
    ·
     replace hm := if_f h5 hm
     refine RK hnt (nn 13 (.call 85 [] true (pB r3) [] [] :: .no :: pF :: nn 5 (sk 3 (pF :: pF :: [])))) [(0, .p (slNode p0)), (3, rr 1024), (33, pB false)] [(1024, bx (pm (encNode p1)))] (an g1.1 (an g1.2 (an3 h2 (an (Valid_nameSpec p1.name r3 hr3) (an2 h2 (an4 h4 (an3 h5 (an h4 (an h5 (an h4 trivial)))))))))) (by kernel_rfl) ?_
     exact joinDone false hm .refl

theorem Check_treeSpec (p0 : Tree) (RES : Bool) (hm : Check_tree p0 = some RES) : Spec Try.prog 45 [.p (.agg (encTree p0))] [] (pB RES) [] [] := by
 unfold Check_tree at hm
 refine spec_of Tgood (T := Tt) Try.func45 (by decide) (c := _) rfl rfl (sl := [(0, .p (.agg (encTree p0)))]) (ob := []) (Nat.le_of_ble_eq_true rfl) (Nat.le_of_ble_eq_true rfl) (by kernel_rfl) (by kernel_rfl) ?_
 intro cx hnt
 refine DW.start ?_
 refine DW.seq (RK hnt (nn 2 []) [(1, rr 1008)] [(1008, bx (pm (encTree p0)))] trivial (by kernel_rfl) ?_)
 refine DW.seq (DW.seq ?_)
 refine DW.join (ι := Bool) (fun (y1 : Bool) => mkSt [(1, rr 1008), (23, pB y1)] [(1008, bx (pm (encTree p0)))]) (fun y1 => (Check_treeJ1 p0) y1 = some RES) ?_ ?_
 ·
  intro y1 hm
  unfold Check_treeJ1 at hm
  refine DW.cond y1 rfl rfl ?_ ?_
  ·
   intro h5
   replace hm := if_t h5 hm
   refine DW.seq (RK hnt (.no :: []) [(2, pB false)] [] trivial (by kernel_rfl) ?_)
   refine DW.ret ?_
   obtain rfl := Option.some.inj hm
   refine retOK (bs' := []) [] (pB false) (by kernel_rfl) ?_ ?_
   · rfl
   · rfl
  ·
   intro h5
   replace hm := if_f h5 hm
   refine DW.skip ?_
   refine DW.seq (RK hnt (nn 2 []) [(1, rr 1008), (3, .mref 1192 0)] [(1008, bx (pm (encTree p0))), (1192, ob0 (mapOf vi (vi 0) (IMap.empty 0)))] trivial (by kernel_rfl) ?_)
   refine DW.seq (DW.seq (RK hnt (nn 4 []) [(1, rr 1008), (3, .mref 1192 0), (26, .p (slNode p0.nodes)), (27, pI ((p0.nodes.length : Nat) : Int)), (28, pI 0)] [(1008, bx (pm (encTree p0))), (1192, ob0 (mapOf vi (vi 0) (IMap.empty 0)))] trivial (by kernel_rfl) ?_))
   refine DW.block ?_
   obtain ⟨hc1, hm⟩ := guard_open hm
   refine DW.rangeO (fun (k1 : Nat) (s1 : IMap Int) => mkSt [(1, rr 1008), (3, .mref 1192 0), (26, .p (slNode p0.nodes)), (27, pI ((p0.nodes.length : Nat) : Int)), (28, pI ((k1 : Nat) : Int))] [(1008, bx (pm (encTree p0))), (1192, ob0 (mapOf vi (vi 0) s1))]) dNode hm .refl ?_
   intro k1 s1 n1 hk1 hs1 he1
   refine DW.seq (RK hnt (.no :: []) [(1, rr 1008), (3, .mref 1192 0), (26, .p (slNode p0.nodes)), (27, pI ((p0.nodes.length : Nat) : Int)), (28, pI ((k1 : Nat) : Int)), (29, pB (decide (((k1 : Nat) : Int) < ((p0.nodes.length : Nat) : Int))))] [(1008, bx (pm (encTree p0))), (1192, ob0 (mapOf vi (vi 0) s1))] trivial (by kernel_rfl) ?_)
   refine DW.seq (DW.cond (decide (((k1 : Nat) : Int) < ((p0.nodes.length : Nat) : Int))) rfl rfl ?_ ?_)
   ·
    intro h36
    have hlt1 : k1 < p0.nodes.length := by have := of_decide_eq_true h36; omega
    have hm := hs1 hlt1
    unfold Check_treeL1 at hm
    refine DW.skip ?_
    refine DW.seq (DW.block ?_)
    refine DW.seq (RK hnt (nn 6 []) [(1, rr 1008), (3, .mref 1192 0), (4, pI ((k1 : Nat) : Int)), (5, rr 1040), (26, .p (slNode p0.nodes)), (27, pI ((p0.nodes.length : Nat) : Int)), (28, pI ((k1 : Nat) : Int))] [(1008, bx (pm (encTree p0))), (1040, bx (pm (encNode (p0.nodes.getD k1 (default : Node))))), (1192, ob0 (mapOf vi (vi 0) s1))] (an (nn0 k1) (an (ltc hlt1) trivial)) (by kernel_rfl) ?_)
    refine DW.seq (DW.seq ?_)
    refine DW.join (ι := Bool) (fun (y8 : Bool) => mkSt [(1, rr 1008), (3, .mref 1192 0), (4, pI ((k1 : Nat) : Int)), (5, rr 1040), (26, .p (slNode p0.nodes)), (27, pI ((p0.nodes.length : Nat) : Int)), (28, pI ((k1 : Nat) : Int)), (64, pB y8)] [(1008, bx (pm (encTree p0))), (1040, bx (pm (encNode (p0.nodes.getD k1 (default : Node))))), (1192, ob0 (mapOf vi (vi 0) s1))]) (fun y8 => (Check_treeJ8 k1 (p0.nodes.getD k1 (default : Node)) s1 n1) y8 = some RES) ?_ ?_
    ·
     intro y8 hm
     unfold Check_treeJ8 at hm
     refine DW.cond y8 rfl rfl ?_ ?_
     ·
      intro h44
      replace hm := if_t h44 hm
      refine DW.seq (RK hnt (.no :: []) [(2, pB false)] [] trivial (by kernel_rfl) ?_)
      refine DW.ret ?_
      obtain rfl := Option.some.inj hm
      refine retOK (bs' := []) [] (pB false) (by kernel_rfl) ?_ ?_
      · rfl
      · rfl
     ·
      intro h44
      replace hm := if_f h44 hm
      refine DW.skip ?_
      refine DW.seq (DW.seq (RK hnt (nn 2 []) [(1, rr 1008), (3, .mref 1192 0), (5, rr 1040), (26, .p (slNode p0.nodes)), (27, pI ((p0.nodes.length : Nat) : Int)), (28, pI ((k1 : Nat) : Int)), (66, pB (decide (((k1 : Nat) : Int) > 0)))] [(1008, bx (pm (encTree p0))), (1040, bx (pm (encNode (p0.nodes.getD k1 (default : Node))))), (1192, ob0 (mapOf vi (vi 0) s1))] trivial (by kernel_rfl) ?_))
      refine DW.join (ι := IMap Int) (fun (y9 : IMap Int) => mkSt [(1, rr 1008), (3, .mref 1192 0), (5, rr 1040), (26, .p (slNode p0.nodes)), (27, pI ((p0.nodes.length : Nat) : Int)), (28, pI ((k1 : Nat) : Int))] [(1008, bx (pm (encTree p0))), (1040, bx (pm (encNode (p0.nodes.getD k1 (default : Node))))), (1192, ob0 (mapOf vi (vi 0) y9))]) (fun y9 => (Check_treeJ9 (p0.nodes.getD k1 (default : Node)) n1) y9 = some RES) ?_ ?_
      ·
       intro y9 hm
       unfold Check_treeJ9 at hm
       refine DW.seq (RK hnt (nn 5 []) [(1, rr 1008), (3, .mref 1192 0), (26, .p (slNode p0.nodes)), (27, pI ((p0.nodes.length : Nat) : Int)), (28, pI ((k1 : Nat) : Int)), (79, pB (decide ((y9.get (p0.nodes.getD k1 (default : Node)).id) > 8)))] [(1008, bx (pm (encTree p0))), (1192, ob0 (mapOf vi (vi 0) y9))] (an (rfl : vi 0 = vi 0) trivial) (by kernel_rfl) ?_)
       refine DW.cond (decide ((y9.get (p0.nodes.getD k1 (default : Node)).id) > 8)) rfl rfl ?_ ?_
       ·
        intro h46
        replace hm := if_t h46 hm
        refine DW.seq (RK hnt (.no :: []) [(2, pB false)] [] trivial (by kernel_rfl) ?_)
        refine DW.ret ?_
        obtain rfl := Option.some.inj hm
        refine retOK (bs' := []) [] (pB false) (by kernel_rfl) ?_ ?_
        · rfl
        · rfl
       ·
        intro h46
        replace hm := if_f h46 hm
        refine DW.skip ?_
        refine DW.done ?_
        show DW _ _ _ _ _
        refine RK hnt (nn 2 []) [(1, rr 1008), (3, .mref 1192 0), (26, .p (slNode p0.nodes)), (27, pI ((p0.nodes.length : Nat) : Int)), (28, pI (w64 (((k1 : Nat) : Int) + 1)))] [(1008, bx (pm (encTree p0))), (1192, ob0 (mapOf vi (vi 0) y9))] trivial (by kernel_rfl) ?_
        exact joinDone y9 ⟨hlt1, hm⟩ (Conv.tp [(28, pI (w64 (((k1 : Nat) : Int) + 1)))] [] (by kernel_rfl) (.cons rfl (.of_eq (congrArg pI (w64_succ hlt1 hc1))) .nil) .nil)
      ·
       refine DW.cond (decide (((k1 : Nat) : Int) > 0)) rfl rfl ?_ ?_
       ·
        intro h45
        replace hm := if_t h45 hm
        refine RN hnt (nn 9 []) [(1, rr 1008), (3, .mref 1192 0), (5, rr 1040), (26, .p (slNode p0.nodes)), (27, pI ((p0.nodes.length : Nat) : Int)), (28, pI ((k1 : Nat) : Int))] [(1008, bx (pm (encTree p0))), (1040, bx (pm (encNode (p0.nodes.getD k1 (default : Node))))), (1192, ob0 (mapOf vi (vi 0) (s1.set (p0.nodes.getD k1 (default : Node)).id (w64 ((s1.get (p0.nodes.getD k1 (default : Node)).parent) + 1)))))] [] [(1192, .mp (vi 0) (updI s1.has (p0.nodes.getD k1 (default : Node)).id true) (updI (fun j => vi (s1.get j)) (p0.nodes.getD k1 (default : Node)).id (vi (w64 ((s1.get (p0.nodes.getD k1 (default : Node)).parent) + 1)))))] (an (rfl : vi 0 = vi 0) trivial) (by kernel_rfl) .nil (.cons rfl (map_set (w64 ((s1.get (p0.nodes.getD k1 (default : Node)).parent) + 1)) rfl) .nil) ?_
        exact joinDone (s1.set (p0.nodes.getD k1 (default : Node)).id (w64 ((s1.get (p0.nodes.getD k1 (default : Node)).parent) + 1))) hm .refl
       ·
        intro h45
        replace hm := if_f h45 hm
        refine DW.skip ?_
        exact joinDone s1 hm (Conv.tp [] [] (by kernel_rfl) .nil .nil)
    ·
     rcases bt (decide ((p0.nodes.getD k1 (default : Node)).control < 0)) with h37 | h37
     ·
      replace hm := if_t h37 hm
      refine RK hnt (nn 4 (sk 4 (pT :: .no :: sk 3 (pT :: .no :: sk 3 (pT :: .no :: sk 11 (pT :: [])))))) [(1, rr 1008), (3, .mref 1192 0), (4, pI ((k1 : Nat) : Int)), (5, rr 1040), (26, .p (slNode p0.nodes)), (27, pI ((p0.nodes.length : Nat) : Int)), (28, pI ((k1 : Nat) : Int)), (64, pB true)] [(1008, bx (pm (encTree p0))), (1040, bx (pm (encNode (p0.nodes.getD k1 (default : Node))))), (1192, ob0 (mapOf vi (vi 0) s1))] (an5 h37 (an tt (an6 tt (an6 tt trivial)))) (by kernel_rfl) ?_
      exact joinDone true hm .refl
     ·
      replace hm := if_f h37 hm
      rcases bt ((kandNot .i64 (p0.nodes.getD k1 (default : Node)).control 31) != 0) with h38 | h38
      ·
       replace hm := if_t h38 hm
       refine RK hnt (nn 8 (pF :: .no :: sk 3 (pT :: .no :: sk 3 (pT :: .no :: sk 11 (pT :: []))))) [(1, rr 1008), (3, .mref 1192 0), (4, pI ((k1 : Nat) : Int)), (5, rr 1040), (26, .p (slNode p0.nodes)), (27, pI ((p0.nodes.length : Nat) : Int)), (28, pI ((k1 : Nat) : Int)), (64, pB true)] [(1008, bx (pm (encTree p0))), (1040, bx (pm (encNode (p0.nodes.getD k1 (default : Node))))), (1192, ob0 (mapOf vi (vi 0) s1))] (an5 h37 (an4 h38 (an3 tt (an6 tt trivial)))) (by kernel_rfl) ?_
       exact joinDone true hm .refl
      ·
       replace hm := if_f h38 hm
       rcases bt (decide ((p0.nodes.getD k1 (default : Node)).owner < 0)) with h39 | h39
       ·
        replace hm := if_t h39 hm
        refine RK hnt (nn 8 (pF :: nn 4 (pF :: .no :: sk 3 (pT :: .no :: sk 11 (pT :: []))))) [(1, rr 1008), (3, .mref 1192 0), (4, pI ((k1 : Nat) : Int)), (5, rr 1040), (26, .p (slNode p0.nodes)), (27, pI ((p0.nodes.length : Nat) : Int)), (28, pI ((k1 : Nat) : Int)), (64, pB true)] [(1008, bx (pm (encTree p0))), (1040, bx (pm (encNode (p0.nodes.getD k1 (default : Node))))), (1192, ob0 (mapOf vi (vi 0) s1))] (an5 h37 (an4 h38 (an4 h39 (an5 tt trivial)))) (by kernel_rfl) ?_
        exact joinDone true hm .refl
       ·
        replace hm := if_f h39 hm
        rcases bt (decide ((p0.nodes.getD k1 (default : Node)).owner > 1048576)) with h40 | h40
        ·
         replace hm := if_t h40 hm
         refine RK hnt (nn 8 (pF :: nn 4 (pF :: nn 4 (pF :: .no :: sk 11 (pT :: []))))) [(1, rr 1008), (3, .mref 1192 0), (4, pI ((k1 : Nat) : Int)), (5, rr 1040), (26, .p (slNode p0.nodes)), (27, pI ((p0.nodes.length : Nat) : Int)), (28, pI ((k1 : Nat) : Int)), (64, pB true)] [(1008, bx (pm (encTree p0))), (1040, bx (pm (encNode (p0.nodes.getD k1 (default : Node))))), (1192, ob0 (mapOf vi (vi 0) s1))] (an5 h37 (an4 h38 (an4 h39 (an5 h40 trivial)))) (by kernel_rfl) ?_
         exact joinDone true hm .refl
        ·
         replace hm := if_f h40 hm
         rcases bt (decide (((k1 : Nat) : Int) > 0)) with h41 | h41
         ·
          replace hm := if_t h41 hm
          obtain ⟨g42, hm⟩ := guard_open hm
          obtain ⟨r43, hr43, hm⟩ := bind_open hm
          refine RK hnt (nn 8 (pF :: nn 4 (pF :: nn 4 (pF :: nn 9 (.call 75 [] true (pB r43) [] [] :: .no :: pT :: pF :: []))))) [(1, rr 1008), (3, .mref 1192 0), (4, pI ((k1 : Nat) : Int)), (5, rr 1040), (26, .p (slNode p0.nodes)), (27, pI ((p0.nodes.length : Nat) : Int)), (28, pI ((k1 : Nat) : Int)), (64, pB (!r43))] [(1008, bx (pm (encTree p0))), (1040, bx (pm (encNode (p0.nodes.getD k1 (default : Node))))), (1192, ob0 (mapOf vi (vi 0) s1))] (an5 h37 (an4 h38 (an4 h39 (an3 h40 (an4 h41 (an (by omega : (0 : Int) ≤ 0) (an (by omega : (0 : Int) ≤ ((k1 : Nat) : Int)) (an (by omega : ((k1 : Nat) : Int) ≤ ((p0.nodes.length : Nat) : Int)) (an2 h41 (an (Spec.args (xs := [.p (.sl .unk 6 k1 (elNode p0.nodes)), .p (.agg (encNode (p0.nodes.getD k1 (default : Node))))]) (fine_treeSpec (p0.nodes.take k1) (p0.nodes.getD k1 (default : Node)) r43 hr43) (.cons (.p (PLe.typed (RowIs.elems.take (by omega)))) (.cons .rfl .nil))) (an h41 (an h40 (an h41 (an h40 trivial)))))))))))))) (by kernel_rfl) ?_
          exact joinDone (!r43) hm .refl
         ·
          replace hm := if_f h41 hm
          refine RK hnt (nn 8 (pF :: nn 4 (pF :: nn 4 (pF :: nn 4 (sk 7 (pF :: pF :: [])))))) [(1, rr 1008), (3, .mref 1192 0), (4, pI ((k1 : Nat) : Int)), (5, rr 1040), (26, .p (slNode p0.nodes)), (27, pI ((p0.nodes.length : Nat) : Int)), (28, pI ((k1 : Nat) : Int)), (64, pB false)] [(1008, bx (pm (encTree p0))), (1040, bx (pm (encNode (p0.nodes.getD k1 (default : Node))))), (1192, ob0 (mapOf vi (vi 0) s1))] (an5 h37 (an4 h38 (an4 h39 (an3 h40 (an h41 (an6 h41 (an h40 (an h41 (an h40 trivial))))))))) (by kernel_rfl) ?_
          exact joinDone false hm .refl
   ·
    intro h36
    have hge1 : ¬ k1 < p0.nodes.length := by have := of_decide_eq_false h36; omega
    have hm := he1 hge1
    unfold Check_treeD1 at hm
    refine DW.exit ?_
    refine joinQ_exit ?_
    refine KQ_exit ?_
    refine blockQ_exit ?_
    show DW _ _ _ _ _
    obtain ⟨g47, hm⟩ := guard_open hm
    refine DW.seq ?_
    refine DW.join (ι := Bool) (fun (y10 : Bool) => mkSt [(2, pB y10)] []) (fun y10 => Check_treeJ10 y10 = some RES) ?_ ?_
    ·
     intro y10 hm
     unfold Check_treeJ10 at hm
     refine DW.ret ?_
     obtain rfl := Option.some.inj hm
     refine retOK (bs' := []) [] (pB y10) (by kernel_rfl) ?_ ?_
     · rfl
     · rfl
    ·
     rcases bt (decide (p0.next > (p0.nodes.getD (Int.toNat (w64 (((p0.nodes.length : Nat) : Int) - 1))) dNode).id)) with h48 | h48
     ·
      replace hm := if_t h48 hm
      refine RK hnt (nn 16 (pT :: .no :: [])) [(2, pB (decide (p0.next ≤ 2147483648)))] [] (an g47.1 (an g47.2 (an4 h48 trivial))) (by kernel_rfl) ?_
      exact joinDone (decide (p0.next ≤ 2147483648)) hm .refl
     ·
      replace hm := if_f h48 hm
      refine RK hnt (nn 13 (sk 3 (pF :: .no :: []))) [(2, pB false)] [] (an g47.1 (an g47.2 (an4 h48 trivial))) (by kernel_rfl) ?_
      exact joinDone false hm .refl
 ·
  rcases bt (decide (((p0.nodes.length : Nat) : Int) < 1)) with h1 | h1
  ·
   replace hm := if_t h1 hm
   refine RK hnt (nn 5 (sk 4 (pT :: .no :: sk 6 (pT :: [])))) [(1, rr 1008), (23, pB true)] [(1008, bx (pm (encTree p0)))] (an5 h1 (an tt (an6 tt trivial))) (by kernel_rfl) ?_
   exact joinDone true hm .refl
  ·
   replace hm := if_f h1 hm
   rcases bt (decide (((p0.nodes.length : Nat) : Int) > 64)) with h2 | h2
   ·
    replace hm := if_t h2 hm
    refine RK hnt (nn 9 (pF :: .no :: sk 6 (pT :: []))) [(1, rr 1008), (23, pB true)] [(1008, bx (pm (encTree p0)))] (an5 h1 (an h2 (an6 h2 trivial))) (by kernel_rfl) ?_
    exact joinDone true hm .refl
   ·
    replace hm := if_f h2 hm
    obtain ⟨g3, hm⟩ := guard_open hm
    obtain ⟨r4, hr4, hm⟩ := bind_open hm
    refine RK hnt (nn 9 (pF :: nn 5 (.call 74 [] true (pB r4) [] [] :: .no :: pF :: []))) [(1, rr 1008), (23, pB (!r4))] [(1008, bx (pm (encTree p0)))] (an5 h1 (an3 h2 (an (nn0 0) (an (ltc g3) (an2 h2 (an (root_treeSpec (p0.nodes.getD 0 dNode) r4 hr4) (an2 h2 trivial))))))) (by kernel_rfl) ?_
    exact joinDone (!r4) hm .refl

theorem AtFa_crewSpec (p0 : Task) (p1 : Int) (RES : Bool) (hm : AtFa_crew p0 p1 = some RES) : Spec Try.prog 69 [.p (.agg (encTask p0)), rr 0] [.box [pI p1]] (pB RES) [.box [pI p1]] [] := by
 unfold AtFa_crew at hm
 refine spec_of Tgood (T := Tt) Try.func69 (by decide) (c := _) rfl rfl (sl := [(0, .p (.agg (encTask p0))), (1, rr 0)]) (ob := [(0, bx [pI p1])]) (Nat.le_of_ble_eq_true rfl) (Nat.le_of_ble_eq_true rfl) (by kernel_rfl) (by kernel_rfl) ?_
 intro cx hnt
 refine DW.start ?_
 refine DW.seq (RK hnt (nn 2 []) [(1, rr 0), (2, rr 1016)] [(0, bx [pI p1]), (1016, bx (pm (encTask p0)))] trivial (by kernel_rfl) ?_)
 refine DW.seq (RK hnt (nn 5 []) [(3, pB (p0.id == p1))] [(0, bx [pI p1])] trivial (by kernel_rfl) ?_)
 refine DW.ret ?_
 obtain rfl := Option.some.inj hm
 refine retOK (bs' := [.box [pI p1]]) [] (pB (p0.id == p1)) (by kernel_rfl) ?_ ?_
 · rfl
 · rfl

theorem IndexFunc_slices_TaskQAtFa_crewSpec (p0 : List Task) (p1c0 : Int) (RES : Int) (hm : IndexFunc_slices_TaskQAtFa_crew p0 p1c0 = some RES) : Spec Try.prog 68 [.p (slTask p0), .fn 69 [rr 0]] [.box [pI p1c0]] (pI RES) [.box [pI p1c0]] [] := by
 unfold IndexFunc_slices_TaskQAtFa_crew at hm
 refine spec_of Tgood (T := Tt) Try.func68 (by decide) (c := _) rfl rfl (sl := [(0, .p (slTask p0)), (1, .fn 69 [rr 0])]) (ob := [(0, bx [pI p1c0])]) (Nat.le_of_ble_eq_true rfl) (Nat.le_of_ble_eq_true rfl) (by kernel_rfl) (by kernel_rfl) ?_
 intro cx hnt
 refine DW.start ?_
 refine DW.seq (RK hnt (.no :: []) [(0, .p (slTask p0)), (1, .fn 69 [rr 0])] [(0, bx [pI p1c0])] trivial (by kernel_rfl) ?_)
 refine DW.seq (DW.seq (RK hnt (nn 3 []) [(0, .p (slTask p0)), (1, .fn 69 [rr 0]), (7, pI ((p0.length : Nat) : Int)), (8, pI 0)] [(0, bx [pI p1c0])] trivial (by kernel_rfl) ?_))
 refine DW.block ?_
 obtain ⟨hc1, hm⟩ := guard_open hm
 refine DW.rangeO (fun (k1 : Nat) (s1 : Unit) => mkSt [(0, .p (slTask p0)), (1, .fn 69 [rr 0]), (7, pI ((p0.length : Nat) : Int)), (8, pI ((k1 : Nat) : Int))] [(0, bx [pI p1c0])]) dTask hm .refl ?_
 intro k1 s1 n1 hk1 hs1 he1
 refine DW.seq (RK hnt (.no :: []) [(0, .p (slTask p0)), (1, .fn 69 [rr 0]), (7, pI ((p0.length : Nat) : Int)), (8, pI ((k1 : Nat) : Int)), (9, pB (decide (((k1 : Nat) : Int) < ((p0.length : Nat) : Int))))] [(0, bx [pI p1c0])] trivial (by kernel_rfl) ?_)
 refine DW.seq (DW.cond (decide (((k1 : Nat) : Int) < ((p0.length : Nat) : Int))) rfl rfl ?_ ?_)
 ·
  intro h9
  have hlt1 : k1 < p0.length := by have := of_decide_eq_true h9; omega
  have hm := hs1 hlt1
  unfold IndexFunc_slices_TaskQAtFa_crewL1 at hm
  refine DW.skip ?_
  refine DW.seq (DW.block ?_)
  refine DW.seq (RK hnt (nn 2 []) [(0, .p (slTask p0)), (1, .fn 69 [rr 0]), (5, pI ((k1 : Nat) : Int)), (7, pI ((p0.length : Nat) : Int)), (8, pI ((k1 : Nat) : Int))] [(0, bx [pI p1c0])] trivial (by kernel_rfl) ?_)
  obtain ⟨r10, hr10, hm⟩ := bind_open hm
  refine DW.seq (RK hnt (nn 5 (.call 69 [0] true (pB r10) [.box [pI p1c0]] [] :: [])) [(0, .p (slTask p0)), (1, .fn 69 [rr 0]), (5, pI ((k1 : Nat) : Int)), (7, pI ((p0.length : Nat) : Int)), (8, pI ((k1 : Nat) : Int)), (16, pB r10)] [(0, bx [pI p1c0])] (an (nn0 k1) (an (ltc hlt1) (an (AtFa_crewSpec (p0.getD k1 (default : Task)) p1c0 r10 hr10) (an trivial trivial)))) (by kernel_rfl) ?_)
  refine DW.cond r10 rfl rfl ?_ ?_
  ·
   intro h11
   replace hm := if_t h11 hm
   refine DW.seq (RK hnt (nn 2 []) [(4, pI ((k1 : Nat) : Int))] [(0, bx [pI p1c0])] trivial (by kernel_rfl) ?_)
   refine DW.ret ?_
   obtain rfl := Option.some.inj hm
   refine retOK (bs' := [.box [pI p1c0]]) [] (pI ((k1 : Nat) : Int)) (by kernel_rfl) ?_ ?_
   · rfl
   · rfl
  ·
   intro h11
   replace hm := if_f h11 hm
   refine DW.skip ?_
   refine DW.done ?_
   show DW _ _ _ _ _
   refine RK hnt (nn 2 []) [(0, .p (slTask p0)), (1, .fn 69 [rr 0]), (7, pI ((p0.length : Nat) : Int)), (8, pI (w64 (((k1 : Nat) : Int) + 1)))] [(0, bx [pI p1c0])] trivial (by kernel_rfl) ?_
   exact joinDone () ⟨hlt1, hm⟩ (Conv.tp [(8, pI (w64 (((k1 : Nat) : Int) + 1)))] [] (by kernel_rfl) (.cons rfl (.of_eq (congrArg pI (w64_succ hlt1 hc1))) .nil) .nil)
 ·
  intro h9
  have hge1 : ¬ k1 < p0.length := by have := of_decide_eq_false h9; omega
  have hm := he1 hge1
  unfold IndexFunc_slices_TaskQAtFa_crewD1 at hm
  refine DW.exit ?_
  refine joinQ_exit ?_
  refine KQ_exit ?_
  refine blockQ_exit ?_
  show DW _ _ _ _ _
  refine DW.seq (RK hnt (.no :: []) [(4, pI (-1))] [(0, bx [pI p1c0])] trivial (by kernel_rfl) ?_)
  refine DW.ret ?_
  obtain rfl := Option.some.inj hm
  refine retOK (bs' := [.box [pI p1c0]]) [] (pI (-1)) (by kernel_rfl) ?_ ?_
  · rfl
  · rfl

theorem At_crewSpec (p0 : Hierarchy) (p1 : Int) (RES : Int) (hm : At_crew p0 p1 = some RES) : Spec Try.prog 40 [.p (.agg (encHierarchy p0)), pI p1] [] (pI RES) [] [] := by
 unfold At_crew at hm
 refine spec_of Tgood (T := Tt) Try.func40 (by decide) (c := _) rfl rfl (sl := [(0, .p (.agg (encHierarchy p0))), (1, pI p1)]) (ob := []) (Nat.le_of_ble_eq_true rfl) (Nat.le_of_ble_eq_true rfl) (by kernel_rfl) (by kernel_rfl) ?_
 intro cx hnt
 refine DW.start ?_
 refine DW.seq (RK hnt (nn 3 []) [(2, rr 1016), (3, rr 1024)] [(1016, bx (pm (encHierarchy p0))), (1024, bx [pI p1])] trivial (by kernel_rfl) ?_)
 obtain ⟨r1, hr1, hm⟩ := bind_open hm
 refine DW.seq (RK hnt (nn 3 (.call 68 [1024] true (pI r1) [.box [pI p1]] [] :: .no :: [])) [(4, pI r1)] [] (an (IndexFunc_slices_TaskQAtFa_crewSpec p0.tasks p1 r1 hr1) (an trivial trivial)) (by kernel_rfl) ?_)
 refine DW.ret ?_
 obtain rfl := Option.some.inj hm
 refine retOK (bs' := []) [] (pI r1) (by kernel_rfl) ?_ ?_
 · rfl
 · rfl

theorem Find_crewSpec (p0 : Hierarchy) (p1 : Int) (RES : Task × Bool) (hm : Find_crew p0 p1 = some RES) : Spec Try.prog 27 [.p (.agg (encHierarchy p0)), pI p1] [] (.p (.tup [.agg (encTask RES.1), vb RES.2])) [] [] := by
 unfold Find_crew at hm
 refine spec_of Tgood (T := Tt) Try.func27 (by decide) (c := _) rfl rfl (sl := [(0, .p (.agg (encHierarchy p0))), (1, pI p1)]) (ob := []) (Nat.le_of_ble_eq_true rfl) (Nat.le_of_ble_eq_true rfl) (by kernel_rfl) (by kernel_rfl) ?_
 intro cx hnt
 refine DW.start ?_
 refine DW.seq (RK hnt (nn 3 []) [(1, pI p1), (2, rr 1016), (4, rr 1032)] [(1016, bx (pm (encHierarchy p0))), (1032, bx [pI 0, pI 0, pI 0, pI 0])] trivial (by kernel_rfl) ?_)
 obtain ⟨r1, hr1, hm⟩ := bind_open hm
 refine DW.seq (RK hnt (nn 2 (.call 40 [] true (pI r1) [] [] :: .no :: [])) [(2, rr 1016), (4, rr 1032), (6, pI r1)] [(1016, bx (pm (encHierarchy p0))), (1032, bx [pI 0, pI 0, pI 0, pI 0])] (an (At_crewSpec p0 p1 r1 hr1) trivial) (by kernel_rfl) ?_)
 refine DW.seq (DW.seq (RK hnt (nn 2 []) [(2, rr 1016), (4, rr 1032), (6, pI r1), (11, pB (decide (r1 < 0)))] [(1016, bx (pm (encHierarchy p0))), (1032, bx [pI 0, pI 0, pI 0, pI 0])] trivial (by kernel_rfl) ?_))
 refine DW.cond (decide (r1 < 0)) rfl rfl ?_ ?_
 ·
  intro h2
  replace hm := if_t h2 hm
  refine DW.seq (RK hnt (nn 3 []) [(4, rr 1032), (5, pB false)] [(1032, bx [pI 0, pI 0, pI 0, pI 0])] trivial (by kernel_rfl) ?_)
  refine DW.ret ?_
  obtain rfl := Option.some.inj hm
  refine retOK (bs' := []) [] (.p (.tup [.agg [vi 0, vi 0, vi 0, vi 0], vb false])) (by kernel_rfl) ?_ ?_
  · rfl
  · rfl
 ·
  intro h2
  replace hm := if_f h2 hm
  refine DW.skip ?_
  obtain ⟨g3, hm⟩ := guard_open hm
  refine DW.seq (RK hnt (nn 7 []) [(4, rr 1032), (5, pB true)] [(1032, bx (pm (encTask (p0.tasks.getD (Int.toNat r1) dTask))))] (an g3.1 (an g3.2 trivial)) (by kernel_rfl) ?_)
  refine DW.ret ?_
  obtain rfl := Option.some.inj hm
  refine retOK (bs' := []) [] (.p (.tup [.agg (encTask (p0.tasks.getD (Int.toNat r1) dTask)), vb true])) (by kernel_rfl) ?_ ?_
  · rfl
  · rfl

theorem AtFa_forestSpec (p0 : Node) (p1 : Int) (RES : Bool) (hm : AtFa_forest p0 p1 = some RES) : Spec Try.prog 48 [.p (.agg (encNode p0)), rr 0] [.box [pI p1]] (pB RES) [.box [pI p1]] [] := by
 unfold AtFa_forest at hm
 refine spec_of Tgood (T := Tt) Try.func48 (by decide) (c := _) rfl rfl (sl := [(0, .p (.agg (encNode p0))), (1, rr 0)]) (ob := [(0, bx [pI p1])]) (Nat.le_of_ble_eq_true rfl) (Nat.le_of_ble_eq_true rfl) (by kernel_rfl) (by kernel_rfl) ?_
 intro cx hnt
 refine DW.start ?_
 refine DW.seq (RK hnt (nn 2 []) [(1, rr 0), (2, rr 1016)] [(0, bx [pI p1]), (1016, bx (pm (encNode p0)))] trivial (by kernel_rfl) ?_)
 refine DW.seq (RK hnt (nn 5 []) [(3, pB (p0.id == p1))] [(0, bx [pI p1])] trivial (by kernel_rfl) ?_)
 refine DW.ret ?_
 obtain rfl := Option.some.inj hm
 refine retOK (bs' := [.box [pI p1]]) [] (pB (p0.id == p1)) (by kernel_rfl) ?_ ?_
 · rfl
 · rfl

theorem IndexFunc_slices_NodeQAtFa_forestSpec (p0 : List Node) (p1c0 : Int) (RES : Int) (hm : IndexFunc_slices_NodeQAtFa_forest p0 p1c0 = some RES) : Spec Try.prog 47 [.p (slNode p0), .fn 48 [rr 0]] [.box [pI p1c0]] (pI RES) [.box [pI p1c0]] [] := by
 unfold IndexFunc_slices_NodeQAtFa_forest at hm
 refine spec_of Tgood (T := Tt) Try.func47 (by decide) (c := _) rfl rfl (sl := [(0, .p (slNode p0)), (1, .fn 48 [rr 0])]) (ob := [(0, bx [pI p1c0])]) (Nat.le_of_ble_eq_true rfl) (Nat.le_of_ble_eq_true rfl) (by kernel_rfl) (by kernel_rfl) ?_
 intro cx hnt
 refine DW.start ?_
 refine DW.seq (RK hnt (.no :: []) [(0, .p (slNode p0)), (1, .fn 48 [rr 0])] [(0, bx [pI p1c0])] trivial (by kernel_rfl) ?_)
 refine DW.seq (DW.seq (RK hnt (nn 3 []) [(0, .p (slNode p0)), (1, .fn 48 [rr 0]), (7, pI ((p0.length : Nat) : Int)), (8, pI 0)] [(0, bx [pI p1c0])] trivial (by kernel_rfl) ?_))
 refine DW.block ?_
 obtain ⟨hc1, hm⟩ := guard_open hm
 refine DW.rangeO (fun (k1 : Nat) (s1 : Unit) => mkSt [(0, .p (slNode p0)), (1, .fn 48 [rr 0]), (7, pI ((p0.length : Nat) : Int)), (8, pI ((k1 : Nat) : Int))] [(0, bx [pI p1c0])]) dNode hm .refl ?_
 intro k1 s1 n1 hk1 hs1 he1
 refine DW.seq (RK hnt (.no :: []) [(0, .p (slNode p0)), (1, .fn 48 [rr 0]), (7, pI ((p0.length : Nat) : Int)), (8, pI ((k1 : Nat) : Int)), (9, pB (decide (((k1 : Nat) : Int) < ((p0.length : Nat) : Int))))] [(0, bx [pI p1c0])] trivial (by kernel_rfl) ?_)
 refine DW.seq (DW.cond (decide (((k1 : Nat) : Int) < ((p0.length : Nat) : Int))) rfl rfl ?_ ?_)
 ·
  intro h9
  have hlt1 : k1 < p0.length := by have := of_decide_eq_true h9; omega
  have hm := hs1 hlt1
  unfold IndexFunc_slices_NodeQAtFa_forestL1 at hm
  refine DW.skip ?_
  refine DW.seq (DW.block ?_)
  refine DW.seq (RK hnt (nn 2 []) [(0, .p (slNode p0)), (1, .fn 48 [rr 0]), (5, pI ((k1 : Nat) : Int)), (7, pI ((p0.length : Nat) : Int)), (8, pI ((k1 : Nat) : Int))] [(0, bx [pI p1c0])] trivial (by kernel_rfl) ?_)
  obtain ⟨r10, hr10, hm⟩ := bind_open hm
  refine DW.seq (RK hnt (nn 5 (.call 48 [0] true (pB r10) [.box [pI p1c0]] [] :: [])) [(0, .p (slNode p0)), (1, .fn 48 [rr 0]), (5, pI ((k1 : Nat) : Int)), (7, pI ((p0.length : Nat) : Int)), (8, pI ((k1 : Nat) : Int)), (16, pB r10)] [(0, bx [pI p1c0])] (an (nn0 k1) (an (ltc hlt1) (an (AtFa_forestSpec (p0.getD k1 (default : Node)) p1c0 r10 hr10) (an trivial trivial)))) (by kernel_rfl) ?_)
  refine DW.cond r10 rfl rfl ?_ ?_
  ·
   intro h11
   replace hm := if_t h11 hm
   refine DW.seq (RK hnt (nn 2 []) [(4, pI ((k1 : Nat) : Int))] [(0, bx [pI p1c0])] trivial (by kernel_rfl) ?_)
   refine DW.ret ?_
   obtain rfl := Option.some.inj hm
   refine retOK (bs' := [.box [pI p1c0]]) [] (pI ((k1 : Nat) : Int)) (by kernel_rfl) ?_ ?_
   · rfl
   · rfl
  ·
   intro h11
   replace hm := if_f h11 hm
   refine DW.skip ?_
   refine DW.done ?_
   show DW _ _ _ _ _
   refine RK hnt (nn 2 []) [(0, .p (slNode p0)), (1, .fn 48 [rr 0]), (7, pI ((p0.length : Nat) : Int)), (8, pI (w64 (((k1 : Nat) : Int) + 1)))] [(0, bx [pI p1c0])] trivial (by kernel_rfl) ?_
   exact joinDone () ⟨hlt1, hm⟩ (Conv.tp [(8, pI (w64 (((k1 : Nat) : Int) + 1)))] [] (by kernel_rfl) (.cons rfl (.of_eq (congrArg pI (w64_succ hlt1 hc1))) .nil) .nil)
 ·
  intro h9
  have hge1 : ¬ k1 < p0.length := by have := of_decide_eq_false h9; omega
  have hm := he1 hge1
  unfold IndexFunc_slices_NodeQAtFa_forestD1 at hm
  refine DW.exit ?_
  refine joinQ_exit ?_
  refine KQ_exit ?_
  refine blockQ_exit ?_
  show DW _ _ _ _ _
  refine DW.seq (RK hnt (.no :: []) [(4, pI (-1))] [(0, bx [pI p1c0])] trivial (by kernel_rfl) ?_)
  refine DW.ret ?_
  obtain rfl := Option.some.inj hm
  refine retOK (bs' := [.box [pI p1c0]]) [] (pI (-1)) (by kernel_rfl) ?_ ?_
  · rfl
  · rfl

theorem At_forestSpec (p0 : Tree) (p1 : Int) (RES : Int) (hm : At_forest p0 p1 = some RES) : Spec Try.prog 22 [.p (.agg (encTree p0)), pI p1] [] (pI RES) [] [] := by
 unfold At_forest at hm
 refine spec_of Tgood (T := Tt) Try.func22 (by decide) (c := _) rfl rfl (sl := [(0, .p (.agg (encTree p0))), (1, pI p1)]) (ob := []) (Nat.le_of_ble_eq_true rfl) (Nat.le_of_ble_eq_true rfl) (by kernel_rfl) (by kernel_rfl) ?_
 intro cx hnt
 refine DW.start ?_
 refine DW.seq (RK hnt (nn 3 []) [(2, rr 1016), (3, rr 1024)] [(1016, bx (pm (encTree p0))), (1024, bx [pI p1])] trivial (by kernel_rfl) ?_)
 obtain ⟨r1, hr1, hm⟩ := bind_open hm
 refine DW.seq (RK hnt (nn 3 (.call 47 [1024] true (pI r1) [.box [pI p1]] [] :: .no :: [])) [(4, pI r1)] [] (an (IndexFunc_slices_NodeQAtFa_forestSpec p0.nodes p1 r1 hr1) (an trivial trivial)) (by kernel_rfl) ?_)
 refine DW.ret ?_
 obtain rfl := Option.some.inj hm
 refine retOK (bs' := []) [] (pI r1) (by kernel_rfl) ?_ ?_
 · rfl
 · rfl

theorem fine_memberSpec (p0 : Hierarchy) (p1 : Task) (RES : Bool) (hm : fine_member p0 p1 = some RES) : Spec Try.prog 46 [.p (.agg (encHierarchy p0)), .p (.agg (encTask p1))] [] (pB RES) [] [] := by
 unfold fine_member at hm
 refine spec_of Tgood (T := Tt) Try.func46 (by decide) (c := _) rfl rfl (sl := [(0, .p (.agg (encHierarchy p0))), (1, .p (.agg (encTask p1)))]) (ob := []) (Nat.le_of_ble_eq_true rfl) (Nat.le_of_ble_eq_true rfl) (by kernel_rfl) (by kernel_rfl) ?_
 intro cx hnt
 refine DW.start ?_
 refine DW.seq (RK hnt (nn 3 []) [(2, rr 1016), (3, rr 1024)] [(1016, bx (pm (encHierarchy p0))), (1024, bx (pm (encTask p1)))] trivial (by kernel_rfl) ?_)
 obtain ⟨r1, hr1, hm⟩ := bind_open hm
 refine DW.seq (RK hnt (nn 3 (.call 27 [] true (.p (.tup [.agg (encTask r1.1), vb r1.2])) [] [] :: nn 6 [])) [(2, rr 1016), (3, rr 1024), (5, rr 1040), (6, pB r1.2)] [(1016, bx (pm (encHierarchy p0))), (1024, bx (pm (encTask p1))), (1040, bx (pm (encTask r1.1)))] (an (Find_crewSpec p0 p1.process r1 hr1) trivial) (by kernel_rfl) ?_)
 refine DW.seq ?_
 refine DW.join (ι := Bool) (fun (y1 : Bool) => mkSt [(4, pB y1)] []) (fun y1 => fine_memberJ1 y1 = some RES) ?_ ?_
 ·
  intro y1 hm
  unfold fine_memberJ1 at hm
  refine DW.ret ?_
  obtain rfl := Option.some.inj hm
  refine retOK (bs' := []) [] (pB y1) (by kernel_rfl) ?_ ?_
  · rfl
  · rfl
 ·
  rcases bt (decide (p1.user ≥ 0)) with h2 | h2
  ·
   replace hm := if_t h2 hm
   rcases bt (decide (p1.user ≤ 1048576)) with h3 | h3
   ·
    replace hm := if_t h3 hm
    rcases bt r1.2 with h4 | h4
    ·
     replace hm := if_t h4 hm
     rcases bt (r1.1.process == r1.1.id) with h5 | h5
     ·
      replace hm := if_t h5 hm
      rcases bt (r1.1.user == p1.user) with h6 | h6
      ·
       replace hm := if_t h6 hm
       obtain ⟨r7, hr7, hm⟩ := bind_open hm
       refine RK hnt (nn 7 (pT :: nn 2 (pT :: nn 6 (pT :: nn 6 (pT :: nn 5 (.call 22 [] true (pI r7) [] [] :: .no :: pT :: .no :: [])))))) [(4, pB (decide (r7 ≥ 0)))] [] (an4 h2 (an2 h3 (an6 h4 (an6 h5 (an5 h6 (an (At_forestSpec p0.tree p1.group r7 hr7) (an2 h6 trivial))))))) (by kernel_rfl) ?_
       exact joinDone (decide (r7 ≥ 0)) hm .refl
      ·
       replace hm := if_f h6 hm
       refine RK hnt (nn 7 (pT :: nn 2 (pT :: nn 6 (pT :: nn 6 (pT :: .no :: sk 6 (pF :: .no :: [])))))) [(4, pB false)] [] (an4 h2 (an2 h3 (an6 h4 (an6 h5 (an h6 (an6 h6 trivial)))))) (by kernel_rfl) ?_
       exact joinDone false hm .refl
     ·
      replace hm := if_f h5 hm
      refine RK hnt (nn 7 (pT :: nn 2 (pT :: nn 6 (pT :: .no :: sk 5 (pF :: .no :: sk 6 (pF :: .no :: [])))))) [(4, pB false)] [] (an4 h2 (an2 h3 (an6 h4 (an6 h5 (an ff (an6 ff trivial)))))) (by kernel_rfl) ?_
      exact joinDone false hm .refl
    ·
     replace hm := if_f h4 hm
     refine RK hnt (nn 7 (pT :: nn 2 (pT :: .no :: sk 5 (pF :: .no :: sk 5 (pF :: .no :: sk 6 (pF :: .no :: [])))))) [(4, pB false)] [] (an4 h2 (an2 h3 (an6 h4 (an ff (an6 ff (an6 ff trivial)))))) (by kernel_rfl) ?_
     exact joinDone false hm .refl
   ·
    replace hm := if_f h3 hm
    refine RK hnt (nn 7 (pT :: .no :: .skip :: pF :: .no :: sk 5 (pF :: .no :: sk 5 (pF :: .no :: sk 6 (pF :: .no :: []))))) [(4, pB false)] [] (an4 h2 (an2 h3 (an ff (an6 ff (an6 ff (an6 ff trivial)))))) (by kernel_rfl) ?_
    exact joinDone false hm .refl
  ·
   replace hm := if_f h2 hm
   refine RK hnt (nn 4 (sk 3 (pF :: .no :: .skip :: pF :: .no :: sk 5 (pF :: .no :: sk 5 (pF :: .no :: sk 6 (pF :: .no :: [])))))) [(4, pB false)] [] (an4 h2 (an3 ff (an6 ff (an6 ff (an6 ff trivial))))) (by kernel_rfl) ?_
   exact joinDone false hm .refl

theorem Check_memberSpec (p0 : Hierarchy) (RES : Bool) (hm : Check_member p0 = some RES) : Spec Try.prog 21 [.p (.agg (encHierarchy p0))] [] (pB RES) [] [] := by
 unfold Check_member at hm
 refine spec_of Tgood (T := Tt) Try.func21 (by decide) (c := _) rfl rfl (sl := [(0, .p (.agg (encHierarchy p0)))]) (ob := []) (Nat.le_of_ble_eq_true rfl) (Nat.le_of_ble_eq_true rfl) (by kernel_rfl) (by kernel_rfl) ?_
 intro cx hnt
 refine DW.start ?_
 refine DW.seq (RK hnt (nn 2 []) [(1, rr 1008)] [(1008, bx (pm (encHierarchy p0)))] trivial (by kernel_rfl) ?_)
 refine DW.seq (DW.seq ?_)
 refine DW.join (ι := Bool) (fun (y1 : Bool) => mkSt [(1, rr 1008), (20, pB y1)] [(1008, bx (pm (encHierarchy p0)))]) (fun y1 => (Check_memberJ1 p0) y1 = some RES) ?_ ?_
 ·
  intro y1 hm
  unfold Check_memberJ1 at hm
  refine DW.cond y1 rfl rfl ?_ ?_
  ·
   intro h4
   replace hm := if_t h4 hm
   refine DW.seq (RK hnt (.no :: []) [(2, pB false)] [] trivial (by kernel_rfl) ?_)
   refine DW.ret ?_
   obtain rfl := Option.some.inj hm
   refine retOK (bs' := []) [] (pB false) (by kernel_rfl) ?_ ?_
   · rfl
   · rfl
  ·
   intro h4
   replace hm := if_f h4 hm
   refine DW.skip ?_
   refine DW.seq (RK hnt (.no :: []) [(1, rr 1008), (3, pI 0)] [(1008, bx (pm (encHierarchy p0)))] trivial (by kernel_rfl) ?_)
   refine DW.seq (DW.seq (RK hnt (nn 4 []) [(1, rr 1008), (3, pI 0), (22, .p (slTask p0.tasks)), (23, pI ((p0.tasks.length : Nat) : Int)), (24, pI 0)] [(1008, bx (pm (encHierarchy p0)))] trivial (by kernel_rfl) ?_))
   refine DW.block ?_
   obtain ⟨hc1, hm⟩ := guard_open hm
   refine DW.rangeO (fun (k1 : Nat) (s1 : Int) => mkSt [(1, rr 1008), (3, pI s1), (22, .p (slTask p0.tasks)), (23, pI ((p0.tasks.length : Nat) : Int)), (24, pI ((k1 : Nat) : Int))] [(1008, bx (pm (encHierarchy p0)))]) dTask hm .refl ?_
   intro k1 s1 n1 hk1 hs1 he1
   refine DW.seq (RK hnt (.no :: []) [(1, rr 1008), (3, pI s1), (22, .p (slTask p0.tasks)), (23, pI ((p0.tasks.length : Nat) : Int)), (24, pI ((k1 : Nat) : Int)), (25, pB (decide (((k1 : Nat) : Int) < ((p0.tasks.length : Nat) : Int))))] [(1008, bx (pm (encHierarchy p0)))] trivial (by kernel_rfl) ?_)
   refine DW.seq (DW.cond (decide (((k1 : Nat) : Int) < ((p0.tasks.length : Nat) : Int))) rfl rfl ?_ ?_)
   ·
    intro h15
    have hlt1 : k1 < p0.tasks.length := by have := of_decide_eq_true h15; omega
    have hm := hs1 hlt1
    unfold Check_memberL1 at hm
    refine DW.skip ?_
    refine DW.seq (DW.block ?_)
    refine DW.seq (RK hnt (nn 4 []) [(1, rr 1008), (3, pI s1), (5, rr 1040), (22, .p (slTask p0.tasks)), (23, pI ((p0.tasks.length : Nat) : Int)), (24, pI ((k1 : Nat) : Int))] [(1008, bx (pm (encHierarchy p0))), (1040, bx (pm (encTask (p0.tasks.getD k1 (default : Task)))))] (an (nn0 k1) (an (ltc hlt1) trivial)) (by kernel_rfl) ?_)
    refine DW.seq (DW.seq ?_)
    refine DW.join (ι := Bool) (fun (y4 : Bool) => mkSt [(1, rr 1008), (5, rr 1040), (22, .p (slTask p0.tasks)), (23, pI ((p0.tasks.length : Nat) : Int)), (24, pI ((k1 : Nat) : Int)), (37, pB y4)] [(1008, bx (pm (encHierarchy p0))), (1040, bx (pm (encTask (p0.tasks.getD k1 (default : Task)))))]) (fun y4 => (Check_memberJ4 (p0.tasks.getD k1 (default : Task)) n1) y4 = some RES) ?_ ?_
    ·
     intro y4 hm
     unfold Check_memberJ4 at hm
     refine DW.cond y4 rfl rfl ?_ ?_
     ·
      intro h18
      replace hm := if_t h18 hm
      refine DW.seq (RK hnt (.no :: []) [(2, pB false)] [] trivial (by kernel_rfl) ?_)
      refine DW.ret ?_
      obtain rfl := Option.some.inj hm
      refine retOK (bs' := []) [] (pB false) (by kernel_rfl) ?_ ?_
      · rfl
      · rfl
     ·
      intro h18
      replace hm := if_f h18 hm
      refine DW.skip ?_
      refine RK hnt (nn 3 []) [(1, rr 1008), (3, pI (p0.tasks.getD k1 (default : Task)).id), (22, .p (slTask p0.tasks)), (23, pI ((p0.tasks.length : Nat) : Int)), (24, pI ((k1 : Nat) : Int))] [(1008, bx (pm (encHierarchy p0)))] trivial (by kernel_rfl) ?_
      refine DW.done ?_
      show DW _ _ _ _ _
      refine RK hnt (nn 2 []) [(1, rr 1008), (3, pI (p0.tasks.getD k1 (default : Task)).id), (22, .p (slTask p0.tasks)), (23, pI ((p0.tasks.length : Nat) : Int)), (24, pI (w64 (((k1 : Nat) : Int) + 1)))] [(1008, bx (pm (encHierarchy p0)))] trivial (by kernel_rfl) ?_
      exact joinDone (p0.tasks.getD k1 (default : Task)).id ⟨hlt1, hm⟩ (Conv.tp [(24, pI (w64 (((k1 : Nat) : Int) + 1)))] [] (by kernel_rfl) (.cons rfl (.of_eq (congrArg pI (w64_succ hlt1 hc1))) .nil) .nil)
    ·
     rcases bt (decide ((p0.tasks.getD k1 (default : Task)).id ≤ s1)) with h16 | h16
     ·
      replace hm := if_t h16 hm
      refine RK hnt (nn 5 (sk 4 (pT :: []))) [(1, rr 1008), (5, rr 1040), (22, .p (slTask p0.tasks)), (23, pI ((p0.tasks.length : Nat) : Int)), (24, pI ((k1 : Nat) : Int)), (37, pB true)] [(1008, bx (pm (encHierarchy p0))), (1040, bx (pm (encTask (p0.tasks.getD k1 (default : Task)))))] (an5 h16 trivial) (by kernel_rfl) ?_
      exact joinDone true hm .refl
     ·
      replace hm := if_f h16 hm
      obtain ⟨r17, hr17, hm⟩ := bind_open hm
      refine RK hnt (nn 7 (.call 46 [] true (pB r17) [] [] :: .no :: pF :: [])) [(1, rr 1008), (5, rr 1040), (22, .p (slTask p0.tasks)), (23, pI ((p0.tasks.length : Nat) : Int)), (24, pI ((k1 : Nat) : Int)), (37, pB (!r17))] [(1008, bx (pm (encHierarchy p0))), (1040, bx (pm (encTask (p0.tasks.getD k1 (default : Task)))))] (an3 h16 (an (fine_memberSpec p0 (p0.tasks.getD k1 (default : Task)) r17 hr17) (an2 h16 trivial))) (by kernel_rfl) ?_
      exact joinDone (!r17) hm .refl
   ·
    intro h15
    have hge1 : ¬ k1 < p0.tasks.length := by have := of_decide_eq_false h15; omega
    have hm := he1 hge1
    unfold Check_memberD1 at hm
    refine DW.exit ?_
    refine joinQ_exit ?_
    refine KQ_exit ?_
    refine blockQ_exit ?_
    show DW _ _ _ _ _
    refine DW.seq (RK hnt (nn 5 []) [(2, pB (decide (p0.next > s1)))] [] trivial (by kernel_rfl) ?_)
    refine DW.ret ?_
    obtain rfl := Option.some.inj hm
    refine retOK (bs' := []) [] (pB (decide (p0.next > s1))) (by kernel_rfl) ?_ ?_
    · rfl
    · rfl
 ·
  rcases bt (decide (((p0.tasks.length : Nat) : Int) > 128)) with h1 | h1
  ·
   replace hm := if_t h1 hm
   refine RK hnt (nn 5 (sk 3 (pT :: .no :: sk 4 (pT :: [])))) [(1, rr 1008), (20, pB true)] [(1008, bx (pm (encHierarchy p0)))] (an4 h1 (an5 tt trivial)) (by kernel_rfl) ?_
   exact joinDone true hm .refl
  ·
   replace hm := if_f h1 hm
   rcases bt (decide (p0.next > 2147483648)) with h2 | h2
   ·
    replace hm := if_t h2 hm
    refine RK hnt (nn 8 (pF :: .no :: sk 4 (pT :: []))) [(1, rr 1008), (20, pB true)] [(1008, bx (pm (encHierarchy p0)))] (an4 h1 (an5 h2 trivial)) (by kernel_rfl) ?_
    exact joinDone true hm .refl
   ·
    replace hm := if_f h2 hm
    obtain ⟨r3, hr3, hm⟩ := bind_open hm
    refine RK hnt (nn 8 (pF :: nn 3 (.call 45 [] true (pB r3) [] [] :: .no :: pF :: []))) [(1, rr 1008), (20, pB (!r3))] [(1008, bx (pm (encHierarchy p0)))] (an4 h1 (an3 h2 (an (Check_treeSpec p0.tree r3 hr3) (an2 h2 trivial)))) (by kernel_rfl) ?_
    exact joinDone (!r3) hm .refl

theorem Clone_slices_NodeNnSpec (p0 : List Node) (RES : List Node) (hm : Clone_slices_Node p0 = some RES) : Spec Try.prog 70 [.p (.sl .nn 6 p0.length (elems encNode (default : Node) p0))] [] (ow 0 RES.length) [] [roNode RES] := by
 unfold Clone_slices_Node at hm
 refine spec_of Tgood (T := Tt) Try.func70 (by decide) (c := _) rfl rfl (sl := [(0, .p (.sl .nn 6 p0.length (elems encNode (default : Node) p0)))]) (ob := []) (Nat.le_of_ble_eq_true rfl) (Nat.le_of_ble_eq_true rfl) (by kernel_rfl) (by kernel_rfl) ?_
 intro cx hnt
 refine DW.start ?_
 refine DW.seq (RK hnt (.no :: []) [(0, .p (.sl .nn 6 p0.length (elems encNode dNode p0)))] [] trivial (by kernel_rfl) ?_)
 refine DW.seq (DW.seq (RK hnt (nn 2 []) [(0, .p (.sl .nn 6 p0.length (elems encNode dNode p0))), (4, pB false)] [] trivial (by kernel_rfl) ?_))
 refine DW.cond false rfl rfl (fun e => absurd e (by decide)) (fun _ => ?_)
 refine DW.skip ?_
 obtain ⟨g1, hm⟩ := guard_open hm
 refine DW.seq (RN hnt (nn 4 []) [(2, ow 1040 p0.length)] [(1040, ob0 (roNode p0))] [(2, ow 1040 (0 + p0.length))] [(1040, .row 6 (0 + p0.length) (catF 0 (cut 6 []) (elNode p0)))] (an (by omega : (0 + p0.length) * 56 ≤ 140737488355328) trivial) (by kernel_rfl) (.cons rfl (MLe.ownLen (enc := encNode) (d := dNode) (f := (catF 0 (cut 6 []) (elNode p0))) (RowIs.cat RowIs.nil RowIs.elems)) .nil) (.cons rfl (BLe.typed (RowIs.cat RowIs.nil RowIs.elems)) .nil) ?_)
 refine DW.ret ?_
 obtain rfl := Option.some.inj hm
 refine retOK (bs' := [roNode p0]) [1040] (ow 0 p0.length) (by kernel_rfl) ?_ ?_
 · rfl
 · rfl

theorem Clone_slices_NodeNilSpec (p0 : List Node) (RES : List Node) (hm : Clone_slices_NodeNil p0 = some RES) : Spec Try.prog 70 [.p (.sl .nil 6 0 (elems encNode (default : Node) p0))] [] (ow 0 RES.length) [] [roNode RES] := by
 unfold Clone_slices_NodeNil at hm
 refine spec_of Tgood (T := Tt) Try.func70 (by decide) (c := _) rfl rfl (sl := [(0, .p (.sl .nil 6 0 (elems encNode (default : Node) p0)))]) (ob := []) (Nat.le_of_ble_eq_true rfl) (Nat.le_of_ble_eq_true rfl) (by kernel_rfl) (by kernel_rfl) ?_
 intro cx hnt
 refine DW.start ?_
 refine DW.seq (RK hnt (.no :: []) [(0, .p (.sl .nil 6 0 (elems encNode dNode p0)))] [] trivial (by kernel_rfl) ?_)
 refine DW.seq (DW.seq (RK hnt (nn 2 []) [(0, .p (.sl .nil 6 0 (elems encNode dNode p0))), (4, pB true)] [] trivial (by kernel_rfl) ?_))
 refine DW.cond true rfl rfl (fun _ => ?_) (fun e => absurd e (by decide))
 refine DW.seq (RK hnt (.no :: []) [(2, .p (.sl .nil 0 0 (fun _ => [])))] [] trivial (by kernel_rfl) ?_)
 refine DW.conv (τ := mkSt [(2, ow 100000 0)] [(100000, ob0 (roNode []))]) (Conv.trans (τ := mkSt [(2, ow 100000 0)] ((100000, ⟨0, .row 6 0 (elems encNode dNode [])⟩) :: [])) (Conv.adopt 100000 6 (elems encNode dNode []) rfl rfl (.cons (.one (.nil _ _)) (.rfl _)) (.rfl _)) (Conv.trans (τ := mkSt [(2, ow 100000 0)] [(100000, ob0 (roNode []))]) (Conv.tp [] [] (by kernel_rfl) .nil .nil) .refl)) ?_
 refine DW.ret ?_
 obtain rfl := Option.some.inj hm
 refine retOK (bs' := [roNode []]) [100000] (ow 0 0) (by kernel_rfl) ?_ ?_
 · rfl
 · rfl

theorem Clone_slices_NodeSpec (p0 : List Node) (RES : List Node) (hm : Clone_slices_Node p0 = some RES) : Spec Try.prog 70 [.p (slNode p0)] [] (ow 0 RES.length) [] [roNode RES] :=
  Spec.unk (fun h => Clone_slices_NodeNilSpec p0 RES (by have e : p0 = [] := List.eq_nil_of_length_eq_zero h; subst e; simpa [Clone_slices_Node, Clone_slices_NodeNil] using hm)) (Clone_slices_NodeNnSpec p0 RES hm)

theorem Clone_slices_TaskNnSpec (p0 : List Task) (RES : List Task) (hm : Clone_slices_Task p0 = some RES) : Spec Try.prog 71 [.p (.sl .nn 4 p0.length (elems encTask (default : Task) p0))] [] (ow 0 RES.length) [] [roTask RES] := by
 unfold Clone_slices_Task at hm
 refine spec_of Tgood (T := Tt) Try.func71 (by decide) (c := _) rfl rfl (sl := [(0, .p (.sl .nn 4 p0.length (elems encTask (default : Task) p0)))]) (ob := []) (Nat.le_of_ble_eq_true rfl) (Nat.le_of_ble_eq_true rfl) (by kernel_rfl) (by kernel_rfl) ?_
 intro cx hnt
 refine DW.start ?_
 refine DW.seq (RK hnt (.no :: []) [(0, .p (.sl .nn 4 p0.length (elems encTask dTask p0)))] [] trivial (by kernel_rfl) ?_)
 refine DW.seq (DW.seq (RK hnt (nn 2 []) [(0, .p (.sl .nn 4 p0.length (elems encTask dTask p0))), (4, pB false)] [] trivial (by kernel_rfl) ?_))
 refine DW.cond false rfl rfl (fun e => absurd e (by decide)) (fun _ => ?_)
 refine DW.skip ?_
 obtain ⟨g1, hm⟩ := guard_open hm
 refine DW.seq (RN hnt (nn 4 []) [(2, ow 1040 p0.length)] [(1040, ob0 (roTask p0))] [(2, ow 1040 (0 + p0.length))] [(1040, .row 4 (0 + p0.length) (catF 0 (cut 4 []) (elTask p0)))] (an (by omega : (0 + p0.length) * 32 ≤ 140737488355328) trivial) (by kernel_rfl) (.cons rfl (MLe.ownLen (enc := encTask) (d := dTask) (f := (catF 0 (cut 4 []) (elTask p0))) (RowIs.cat RowIs.nil RowIs.elems)) .nil) (.cons rfl (BLe.typed (RowIs.cat RowIs.nil RowIs.elems)) .nil) ?_)
 refine DW.ret ?_
 obtain rfl := Option.some.inj hm
 refine retOK (bs' := [roTask p0]) [1040] (ow 0 p0.length) (by kernel_rfl) ?_ ?_
 · rfl
 · rfl

theorem Clone_slices_TaskNilSpec (p0 : List Task) (RES : List Task) (hm : Clone_slices_TaskNil p0 = some RES) : Spec Try.prog 71 [.p (.sl .nil 4 0 (elems encTask (default : Task) p0))] [] (ow 0 RES.length) [] [roTask RES] := by
 unfold Clone_slices_TaskNil at hm
 refine spec_of Tgood (T := Tt) Try.func71 (by decide) (c := _) rfl rfl (sl := [(0, .p (.sl .nil 4 0 (elems encTask (default : Task) p0)))]) (ob := []) (Nat.le_of_ble_eq_true rfl) (Nat.le_of_ble_eq_true rfl) (by kernel_rfl) (by kernel_rfl) ?_
 intro cx hnt
 refine DW.start ?_
 refine DW.seq (RK hnt (.no :: []) [(0, .p (.sl .nil 4 0 (elems encTask dTask p0)))] [] trivial (by kernel_rfl) ?_)
 refine DW.seq (DW.seq (RK hnt (nn 2 []) [(0, .p (.sl .nil 4 0 (elems encTask dTask p0))), (4, pB true)] [] trivial (by kernel_rfl) ?_))
 refine DW.cond true rfl rfl (fun _ => ?_) (fun e => absurd e (by decide))
 refine DW.seq (RK hnt (.no :: []) [(2, .p (.sl .nil 0 0 (fun _ => [])))] [] trivial (by kernel_rfl) ?_)
 refine DW.conv (τ := mkSt [(2, ow 100000 0)] [(100000, ob0 (roTask []))]) (Conv.trans (τ := mkSt [(2, ow 100000 0)] ((100000, ⟨0, .row 4 0 (elems encTask dTask [])⟩) :: [])) (Conv.adopt 100000 4 (elems encTask dTask []) rfl rfl (.cons (.one (.nil _ _)) (.rfl _)) (.rfl _)) (Conv.trans (τ := mkSt [(2, ow 100000 0)] [(100000, ob0 (roTask []))]) (Conv.tp [] [] (by kernel_rfl) .nil .nil) .refl)) ?_
 refine DW.ret ?_
 obtain rfl := Option.some.inj hm
 refine retOK (bs' := [roTask []]) [100000] (ow 0 0) (by kernel_rfl) ?_ ?_
 · rfl
 · rfl

theorem Clone_slices_TaskSpec (p0 : List Task) (RES : List Task) (hm : Clone_slices_Task p0 = some RES) : Spec Try.prog 71 [.p (slTask p0)] [] (ow 0 RES.length) [] [roTask RES] :=
  Spec.unk (fun h => Clone_slices_TaskNilSpec p0 RES (by have e : p0 = [] := List.eq_nil_of_length_eq_zero h; subst e; simpa [Clone_slices_Task, Clone_slices_TaskNil] using hm)) (Clone_slices_TaskNnSpec p0 RES hm)

theorem Copy_crewSpec (p0 : Hierarchy) (RES : Hierarchy) (hm : Copy_crew p0 = some RES) : Spec Try.prog 41 [.p (.agg (encHierarchy p0))] [] (.agg [ow 0 RES.tree.nodes.length, pI RES.tree.next, ow 1 RES.tasks.length, pI RES.next]) [] [roNode RES.tree.nodes, roTask RES.tasks] := by
 unfold Copy_crew at hm
 refine spec_of Tgood (T := Tt) Try.func41 (by decide) (c := _) rfl rfl (sl := [(0, .p (.agg (encHierarchy p0)))]) (ob := []) (Nat.le_of_ble_eq_true rfl) (Nat.le_of_ble_eq_true rfl) (by kernel_rfl) (by kernel_rfl) ?_
 intro cx hnt
 refine DW.start ?_
 refine DW.seq (RK hnt (nn 2 []) [(1, rr 1008), (2, rr 1016)] [(1008, bx (pm (encHierarchy p0))), (1016, bx [.p (.sl .nil 0 0 (fun _ => [])), pI 0, .p (.sl .nil 0 0 (fun _ => [])), pI 0])] trivial (by kernel_rfl) ?_)
 obtain ⟨r1, hr1, hm⟩ := bind_open hm
 obtain ⟨r2, hr2, hm⟩ := bind_open hm
 refine DW.seq (RK hnt (nn 3 (.call 70 [] true (ow 0 r1.length) [] [roNode r1] :: nn 6 (.call 71 [] true (ow 0 r2.length) [] [roTask r2] :: nn 4 []))) [(2, rr 1016)] [(1016, bx [ow 1048 r1.length, pI p0.tree.next, ow 1104 r2.length, pI p0.next]), (1048, ob0 (roNode r1)), (1104, ob0 (roTask r2))] (an (Clone_slices_NodeSpec p0.tree.nodes r1 hr1) (an (Clone_slices_TaskSpec p0.tasks r2 hr2) trivial)) (by kernel_rfl) ?_)
 refine DW.ret ?_
 obtain rfl := Option.some.inj hm
 refine retOK (bs' := [roNode r1, roTask r2]) [1048, 1104] (.agg [ow 0 r1.length, pI p0.tree.next, ow 1 r2.length, pI p0.next]) (by kernel_rfl) ?_ ?_
 · rfl
 · rfl

theorem add_memberSpec (p0 : Hierarchy) (p1 : Task) (RES : Hierarchy × Int × Int) (hm : add_member p0 p1 = some RES) : Spec Try.prog 23 [.p (.agg (encHierarchy p0)), .p (.agg (encTask p1))] [] (.tup [.agg [ow 0 RES.1.tree.nodes.length, pI RES.1.tree.next, ow 1 RES.1.tasks.length, pI RES.1.next], pI RES.2.1, pI RES.2.2]) [] [roNode RES.1.tree.nodes, roTask RES.1.tasks] := by
 unfold add_member at hm
 refine spec_of Tgood (T := Tt) Try.func23 (by decide) (c := _) rfl rfl (sl := [(0, .p (.agg (encHierarchy p0))), (1, .p (.agg (encTask p1)))]) (ob := []) (Nat.le_of_ble_eq_true rfl) (Nat.le_of_ble_eq_true rfl) (by kernel_rfl) (by kernel_rfl) ?_
 intro cx hnt
 refine DW.start ?_
 refine DW.seq (RK hnt (nn 5 []) [(2, rr 1016), (3, rr 1024), (4, rr 1032)] [(1016, bx (pm (encHierarchy p0))), (1024, bx (pm (encTask p1))), (1032, bx [.p (.sl .nil 0 0 (fun _ => [])), pI 0, .p (.sl .nil 0 0 (fun _ => [])), pI 0])] trivial (by kernel_rfl) ?_)
 refine DW.seq (DW.seq (DW.regJ (sl2 := [(2, rr 1016), (3, rr 1024), (4, rr 1032), (16, pB ((decide (((p0.tasks.length : Nat) : Int) ≥ 128)) || (decide (p0.next > 2147483647))))]) (ob2 := [(1016, bx (pm (encHierarchy p0))), (1024, bx (pm (encTask p1))), (1032, bx [.p (.sl .nil 0 0 (fun _ => [])), pI 0, .p (.sl .nil 0 0 (fun _ => [])), pI 0])]) ?_ ?_))
 ·
  rcases bt (decide (((p0.tasks.length : Nat) : Int) ≥ 128)) with h1 | h1
  ·
   exact RT hnt (nn 5 (sk 3 (pT :: []))) [(16, pB true)] (an4 h1 trivial) (by kernel_rfl) (.cons rfl (.of_eq (by rw [h1]; try rfl)) .nil)
  ·
   exact RT hnt (nn 8 (pF :: [])) [(16, pB (decide (p0.next > 2147483647)))] (an4 h1 trivial) (by kernel_rfl) (.cons rfl (.of_eq (by rw [h1]; try rfl)) .nil)
 ·
  refine DW.cond ((decide (((p0.tasks.length : Nat) : Int) ≥ 128)) || (decide (p0.next > 2147483647))) rfl rfl ?_ ?_
  ·
   intro h2
   replace hm := if_t h2 hm
   refine DW.seq (RK hnt (nn 4 []) [(4, rr 1032), (5, pI 0), (6, pI 7)] [(1032, bx [.p (.sl .nil 0 0 (fun _ => [])), pI 0, .p (.sl .nil 0 0 (fun _ => [])), pI 0])] trivial (by kernel_rfl) ?_)
   refine DW.conv (τ := mkSt [(4, rr 1032), (5, pI 0), (6, pI 7)] [(1032, bx [ow 100000 0, pI 0, ow 100001 0, pI 0]), (100000, ob0 (roNode [])), (100001, ob0 (roTask []))]) (Conv.trans (τ := mkSt [(4, rr 1032), (5, pI 0), (6, pI 7)] ((100000, ⟨0, .row 6 0 (elems encNode dNode [])⟩) :: [(1032, bx [ow 100000 0, pI 0, .p (.sl .nil 0 0 (fun _ => [])), pI 0])])) (Conv.adopt 100000 6 (elems encNode dNode []) rfl rfl (.rfl _) (.box (.cons (.nil _ _) (.cons (.rfl _) (.cons (.rfl _) (.cons (.rfl _) (.rfl _))))) (.rfl _))) (Conv.trans (τ := mkSt [(4, rr 1032), (5, pI 0), (6, pI 7)] [(1032, bx [ow 100000 0, pI 0, .p (.sl .nil 0 0 (fun _ => [])), pI 0]), (100000, ob0 (roNode []))]) (Conv.tp [] [] (by kernel_rfl) .nil .nil) (Conv.trans (τ := mkSt [(4, rr 1032), (5, pI 0), (6, pI 7)] ((100001, ⟨0, .row 4 0 (elems encTask dTask [])⟩) :: [(1032, bx [ow 100000 0, pI 0, ow 100001 0, pI 0]), (100000, ob0 (roNode []))])) (Conv.adopt 100001 4 (elems encTask dTask []) rfl rfl (.rfl _) (.box (.cons (.rfl _) (.cons (.rfl _) (.cons (.nil _ _) (.cons (.rfl _) (.rfl _))))) (.keep (.rfl _)))) (Conv.trans (τ := mkSt [(4, rr 1032), (5, pI 0), (6, pI 7)] [(1032, bx [ow 100000 0, pI 0, ow 100001 0, pI 0]), (100000, ob0 (roNode [])), (100001, ob0 (roTask []))]) (Conv.tp [] [] (by kernel_rfl) .nil .nil) .refl)))) ?_
   refine DW.ret ?_
   obtain rfl := Option.some.inj hm
   refine retOK (bs' := [roNode [], roTask []]) [100000, 100001] (.tup [.agg [ow 0 0, pI 0, ow 1 0, pI 0], pI 0, pI 7]) (by kernel_rfl) ?_ ?_
   · rfl
   · rfl
  ·
   intro h2
   replace hm := if_f h2 hm
   refine DW.skip ?_
   obtain ⟨r3, hr3, hm⟩ := bind_open hm
   refine DW.seq (RK hnt (.no :: .call 41 [] true (.agg [ow 0 r3.tree.nodes.length, pI r3.tree.next, ow 1 r3.tasks.length, pI r3.next]) [] [roNode r3.tree.nodes, roTask r3.tasks] :: nn 2 []) [(2, rr 1016), (3, rr 1024), (4, rr 1032), (7, rr 1056)] [(1016, bx (pm (encHierarchy p0))), (1024, bx (pm (encTask p1))), (1032, bx [.p (.sl .nil 0 0 (fun _ => [])), pI 0, .p (.sl .nil 0 0 (fun _ => [])), pI 0]), (1056, bx [ow 1152 r3.tree.nodes.length, pI r3.tree.next, ow 1153 r3.tasks.length, pI r3.next]), (1152, ob0 (roNode r3.tree.nodes)), (1153, ob0 (roTask r3.tasks))] (an (Copy_crewSpec p0 r3 hr3) trivial) (by kernel_rfl) ?_)
   refine DW.seq (RK hnt (nn 4 []) [(3, rr 1024), (4, rr 1032), (7, rr 1056)] [(1024, bx [pI p0.next, pI p1.process, pI p1.group, pI p1.user]), (1032, bx [.p (.sl .nil 0 0 (fun _ => [])), pI 0, .p (.sl .nil 0 0 (fun _ => [])), pI 0]), (1056, bx [ow 1152 r3.tree.nodes.length, pI r3.tree.next, ow 1153 r3.tasks.length, pI r3.next]), (1152, ob0 (roNode r3.tree.nodes)), (1153, ob0 (roTask r3.tasks))] trivial (by kernel_rfl) ?_)
   refine DW.seq (DW.seq (RK hnt (nn 3 []) [(3, rr 1024), (4, rr 1032), (7, rr 1056), (25, pB (p1.process == 0))] [(1024, bx [pI p0.next, pI p1.process, pI p1.group, pI p1.user]), (1032, bx [.p (.sl .nil 0 0 (fun _ => [])), pI 0, .p (.sl .nil 0 0 (fun _ => [])), pI 0]), (1056, bx [ow 1152 r3.tree.nodes.length, pI r3.tree.next, ow 1153 r3.tasks.length, pI r3.next]), (1152, ob0 (roNode r3.tree.nodes)), (1153, ob0 (roTask r3.tasks))] trivial (by kernel_rfl) ?_))
   refine DW.join (ι := Task) (fun (y1 : Task) => mkSt [(3, rr 1024), (4, rr 1032), (7, rr 1056)] [(1024, bx (pm (encTask y1))), (1032, bx [.p (.sl .nil 0 0 (fun _ => [])), pI 0, .p (.sl .nil 0 0 (fun _ => [])), pI 0]), (1056, bx [ow 1152 r3.tree.nodes.length, pI r3.tree.next, ow 1153 r3.tasks.length, pI r3.next]), (1152, ob0 (roNode r3.tree.nodes)), (1153, ob0 (roTask r3.tasks))]) (fun y1 => (add_memberJ1 r3) y1 = some RES) ?_ ?_
   ·
    intro y1 hm
    unfold add_memberJ1 at hm
    obtain ⟨g5, hm⟩ := guard_open hm
    refine DW.seq (RN hnt (nn 7 []) [(3, rr 1024), (4, rr 1032), (7, rr 1056)] [(1024, bx (pm (encTask y1))), (1032, bx [.p (.sl .nil 0 0 (fun _ => [])), pI 0, .p (.sl .nil 0 0 (fun _ => [])), pI 0]), (1056, bx [ow 1152 r3.tree.nodes.length, pI r3.tree.next, ow 1153 (r3.tasks ++ [y1]).length, pI r3.next]), (1152, ob0 (roNode r3.tree.nodes)), (1153, ob0 (roTask (r3.tasks ++ [y1])))] [] [(1056, .box [ow 1152 r3.tree.nodes.length, pI r3.tree.next, ow 1153 (r3.tasks.length + 1), pI r3.next]), (1153, .row 4 (r3.tasks.length + 1) (catF r3.tasks.length (elTask r3.tasks) (cut 4 [vi y1.id, vi y1.process, vi y1.group, vi y1.user])))] (an (by omega : (r3.tasks.length + 1) * 32 ≤ 140737488355328) trivial) (by kernel_rfl) .nil (.cons rfl (.box (.cons .rfl (.cons .rfl (.cons (MLe.ownLen (enc := encTask) (d := dTask) (f := (catF r3.tasks.length (elTask r3.tasks) (cut 4 [vi y1.id, vi y1.process, vi y1.group, vi y1.user]))) (RowIs.cat RowIs.elems (RowIs.lit (enc := encTask) (d := dTask) (n := 1) (f := (cut 4 [vi y1.id, vi y1.process, vi y1.group, vi y1.user])) [y1] rfl (fun | 0, _ => rfl | n + 1, h => absurd h (by omega))))) (.cons .rfl .nil))))) (.cons rfl (BLe.typed (RowIs.cat RowIs.elems (RowIs.lit (enc := encTask) (d := dTask) (n := 1) (f := (cut 4 [vi y1.id, vi y1.process, vi y1.group, vi y1.user])) [y1] rfl (fun | 0, _ => rfl | n + 1, h => absurd h (by omega))))) .nil)) ?_)
    refine DW.seq (RK hnt (nn 5 []) [(3, rr 1024), (4, rr 1032), (7, rr 1056)] [(1024, bx (pm (encTask y1))), (1032, bx [.p (.sl .nil 0 0 (fun _ => [])), pI 0, .p (.sl .nil 0 0 (fun _ => [])), pI 0]), (1056, bx [ow 1152 r3.tree.nodes.length, pI r3.tree.next, ow 1153 (r3.tasks ++ [y1]).length, pI (w64 (r3.next + 1))]), (1152, ob0 (roNode r3.tree.nodes)), (1153, ob0 (roTask (r3.tasks ++ [y1])))] trivial (by kernel_rfl) ?_)
    refine DW.seq (RK hnt (nn 6 []) [(4, rr 1032), (5, pI y1.id), (6, pI 0)] [(1032, bx [ow 1152 r3.tree.nodes.length, pI r3.tree.next, ow 1153 (r3.tasks ++ [y1]).length, pI (w64 (r3.next + 1))]), (1152, ob0 (roNode r3.tree.nodes)), (1153, ob0 (roTask (r3.tasks ++ [y1])))] trivial (by kernel_rfl) ?_)
    refine DW.ret ?_
    obtain rfl := Option.some.inj hm
    refine retOK (bs' := [roNode r3.tree.nodes, roTask (r3.tasks ++ [y1])]) [1152, 1153] (.tup [.agg [ow 0 r3.tree.nodes.length, pI r3.tree.next, ow 1 (r3.tasks ++ [y1]).length, pI (w64 (r3.next + 1))], pI y1.id, pI 0]) (by kernel_rfl) ?_ ?_
    · rfl
    · rfl
   ·
    refine DW.cond (p1.process == 0) rfl rfl ?_ ?_
    ·
     intro h4
     replace hm := if_t h4 hm
     refine RK hnt (nn 4 []) [(3, rr 1024), (4, rr 1032), (7, rr 1056)] [(1024, bx [pI p0.next, pI p0.next, pI p1.group, pI p1.user]), (1032, bx [.p (.sl .nil 0 0 (fun _ => [])), pI 0, .p (.sl .nil 0 0 (fun _ => [])), pI 0]), (1056, bx [ow 1152 r3.tree.nodes.length, pI r3.tree.next, ow 1153 r3.tasks.length, pI r3.next]), (1152, ob0 (roNode r3.tree.nodes)), (1153, ob0 (roTask r3.tasks))] trivial (by kernel_rfl) ?_
     exact joinDone ({ id := p0.next, process := p0.next, group := p1.group, user := p1.user } : Task) hm .refl
    ·
     intro h4
     replace hm := if_f h4 hm
     refine DW.skip ?_
     exact joinDone ({ id := p0.next, process := p1.process, group := p1.group, user := p1.user } : Task) hm (Conv.tp [] [] (by kernel_rfl) .nil .nil)

theorem Spawn_memberSpec (p0 : Hierarchy) (p1 : Int) (p2 : Int) (RES : Hierarchy × Int × Int) (hm : Spawn_member p0 p1 p2 = some RES) : Spec Try.prog 6 [.p (.agg (encHierarchy p0)), pI p1, pI p2] [] (.tup [.agg [ow 0 RES.1.tree.nodes.length, pI RES.1.tree.next, ow 1 RES.1.tasks.length, pI RES.1.next], pI RES.2.1, pI RES.2.2]) [] [roNode RES.1.tree.nodes, roTask RES.1.tasks] := by
 unfold Spawn_member at hm
 refine spec_of Tgood (T := Tt) Try.func6 (by decide) (c := _) rfl rfl (sl := [(0, .p (.agg (encHierarchy p0))), (1, pI p1), (2, pI p2)]) (ob := []) (Nat.le_of_ble_eq_true rfl) (Nat.le_of_ble_eq_true rfl) (by kernel_rfl) (by kernel_rfl) ?_
 intro cx hnt
 refine DW.start ?_
 refine DW.seq (RK hnt (nn 4 []) [(1, pI p1), (2, pI p2), (3, rr 1024), (6, rr 1048)] [(1024, bx (pm (encHierarchy p0))), (1048, bx [.p (.sl .nil 0 0 (fun _ => [])), pI 0, .p (.sl .nil 0 0 (fun _ => [])), pI 0])] trivial (by kernel_rfl) ?_)
 obtain ⟨r1, hr1, hm⟩ := bind_open hm
 refine DW.seq (DW.seq ?_)
 refine DW.join (ι := Bool) (fun (y1 : Bool) => mkSt [(1, pI p1), (2, pI p2), (3, rr 1024), (6, rr 1048), (19, pB y1)] [(1024, bx (pm (encHierarchy p0))), (1048, bx [.p (.sl .nil 0 0 (fun _ => [])), pI 0, .p (.sl .nil 0 0 (fun _ => [])), pI 0])]) (fun y1 => (Spawn_memberJ1 p0 p1 p2) y1 = some RES) ?_ ?_
 ·
  intro y1 hm
  unfold Spawn_memberJ1 at hm
  refine DW.cond y1 rfl rfl ?_ ?_
  ·
   intro h4
   replace hm := if_t h4 hm
   refine DW.seq (RK hnt (nn 4 []) [(6, rr 1048), (7, pI 0), (8, pI 1)] [(1048, bx [.p (.sl .nil 0 0 (fun _ => [])), pI 0, .p (.sl .nil 0 0 (fun _ => [])), pI 0])] trivial (by kernel_rfl) ?_)
   refine DW.conv (τ := mkSt [(6, rr 1048), (7, pI 0), (8, pI 1)] [(1048, bx [ow 100000 0, pI 0, ow 100001 0, pI 0]), (100000, ob0 (roNode [])), (100001, ob0 (roTask []))]) (Conv.trans (τ := mkSt [(6, rr 1048), (7, pI 0), (8, pI 1)] ((100000, ⟨0, .row 6 0 (elems encNode dNode [])⟩) :: [(1048, bx [ow 100000 0, pI 0, .p (.sl .nil 0 0 (fun _ => [])), pI 0])])) (Conv.adopt 100000 6 (elems encNode dNode []) rfl rfl (.rfl _) (.box (.cons (.nil _ _) (.cons (.rfl _) (.cons (.rfl _) (.cons (.rfl _) (.rfl _))))) (.rfl _))) (Conv.trans (τ := mkSt [(6, rr 1048), (7, pI 0), (8, pI 1)] [(1048, bx [ow 100000 0, pI 0, .p (.sl .nil 0 0 (fun _ => [])), pI 0]), (100000, ob0 (roNode []))]) (Conv.tp [] [] (by kernel_rfl) .nil .nil) (Conv.trans (τ := mkSt [(6, rr 1048), (7, pI 0), (8, pI 1)] ((100001, ⟨0, .row 4 0 (elems encTask dTask [])⟩) :: [(1048, bx [ow 100000 0, pI 0, ow 100001 0, pI 0]), (100000, ob0 (roNode []))])) (Conv.adopt 100001 4 (elems encTask dTask []) rfl rfl (.rfl _) (.box (.cons (.rfl _) (.cons (.rfl _) (.cons (.nil _ _) (.cons (.rfl _) (.rfl _))))) (.keep (.rfl _)))) (Conv.trans (τ := mkSt [(6, rr 1048), (7, pI 0), (8, pI 1)] [(1048, bx [ow 100000 0, pI 0, ow 100001 0, pI 0]), (100000, ob0 (roNode [])), (100001, ob0 (roTask []))]) (Conv.tp [] [] (by kernel_rfl) .nil .nil) .refl)))) ?_
   refine DW.ret ?_
   obtain rfl := Option.some.inj hm
   refine retOK (bs' := [roNode [], roTask []]) [100000, 100001] (.tup [.agg [ow 0 0, pI 0, ow 1 0, pI 0], pI 0, pI 1]) (by kernel_rfl) ?_ ?_
   · rfl
   · rfl
  ·
   intro h4
   replace hm := if_f h4 hm
   refine DW.skip ?_
   obtain ⟨r5, hr5, hm⟩ := bind_open hm
   refine DW.seq (DW.seq (RK hnt (nn 3 (.call 22 [] true (pI r5) [] [] :: .no :: [])) [(1, pI p1), (2, pI p2), (3, rr 1024), (6, rr 1048), (25, pB (decide (r5 < 0)))] [(1024, bx (pm (encHierarchy p0))), (1048, bx [.p (.sl .nil 0 0 (fun _ => [])), pI 0, .p (.sl .nil 0 0 (fun _ => [])), pI 0])] (an (At_forestSpec p0.tree p1 r5 hr5) trivial) (by kernel_rfl) ?_))
   refine DW.cond (decide (r5 < 0)) rfl rfl ?_ ?_
   ·
    intro h6
    replace hm := if_t h6 hm
    refine DW.seq (RK hnt (nn 4 []) [(6, rr 1048), (7, pI 0), (8, pI 4)] [(1048, bx [.p (.sl .nil 0 0 (fun _ => [])), pI 0, .p (.sl .nil 0 0 (fun _ => [])), pI 0])] trivial (by kernel_rfl) ?_)
    refine DW.conv (τ := mkSt [(6, rr 1048), (7, pI 0), (8, pI 4)] [(1048, bx [ow 100000 0, pI 0, ow 100001 0, pI 0]), (100000, ob0 (roNode [])), (100001, ob0 (roTask []))]) (Conv.trans (τ := mkSt [(6, rr 1048), (7, pI 0), (8, pI 4)] ((100000, ⟨0, .row 6 0 (elems encNode dNode [])⟩) :: [(1048, bx [ow 100000 0, pI 0, .p (.sl .nil 0 0 (fun _ => [])), pI 0])])) (Conv.adopt 100000 6 (elems encNode dNode []) rfl rfl (.rfl _) (.box (.cons (.nil _ _) (.cons (.rfl _) (.cons (.rfl _) (.cons (.rfl _) (.rfl _))))) (.rfl _))) (Conv.trans (τ := mkSt [(6, rr 1048), (7, pI 0), (8, pI 4)] [(1048, bx [ow 100000 0, pI 0, .p (.sl .nil 0 0 (fun _ => [])), pI 0]), (100000, ob0 (roNode []))]) (Conv.tp [] [] (by kernel_rfl) .nil .nil) (Conv.trans (τ := mkSt [(6, rr 1048), (7, pI 0), (8, pI 4)] ((100001, ⟨0, .row 4 0 (elems encTask dTask [])⟩) :: [(1048, bx [ow 100000 0, pI 0, ow 100001 0, pI 0]), (100000, ob0 (roNode []))])) (Conv.adopt 100001 4 (elems encTask dTask []) rfl rfl (.rfl _) (.box (.cons (.rfl _) (.cons (.rfl _) (.cons (.nil _ _) (.cons (.rfl _) (.rfl _))))) (.keep (.rfl _)))) (Conv.trans (τ := mkSt [(6, rr 1048), (7, pI 0), (8, pI 4)] [(1048, bx [ow 100000 0, pI 0, ow 100001 0, pI 0]), (100000, ob0 (roNode [])), (100001, ob0 (roTask []))]) (Conv.tp [] [] (by kernel_rfl) .nil .nil) .refl)))) ?_
    refine DW.ret ?_
    obtain rfl := Option.some.inj hm
    refine retOK (bs' := [roNode [], roTask []]) [100000, 100001] (.tup [.agg [ow 0 0, pI 0, ow 1 0, pI 0], pI 0, pI 4]) (by kernel_rfl) ?_ ?_
    · rfl
    · rfl
   ·
    intro h6
    replace hm := if_f h6 hm
    refine DW.skip ?_
    obtain ⟨r7, hr7, hm⟩ := bind_open hm
    refine DW.seq (RK hnt (nn 4 (.call 23 [] true (.tup [.agg [ow 0 r7.1.tree.nodes.length, pI r7.1.tree.next, ow 1 r7.1.tasks.length, pI r7.1.next], pI r7.2.1, pI r7.2.2]) [] [roNode r7.1.tree.nodes, roTask r7.1.tasks] :: nn 6 [])) [(6, rr 1048), (7, pI r7.2.1), (8, pI r7.2.2)] [(1048, bx [ow 1248 r7.1.tree.nodes.length, pI r7.1.tree.next, ow 1249 r7.1.tasks.length, pI r7.1.next]), (1248, ob0 (roNode r7.1.tree.nodes)), (1249, ob0 (roTask r7.1.tasks))] (an (add_memberSpec p0 ({ id := 0, process := 0, group := p1, user := p2 } : Task) r7 hr7) trivial) (by kernel_rfl) ?_)
    refine DW.ret ?_
    obtain rfl := Option.some.inj hm
    refine retOK (bs' := [roNode r7.1.tree.nodes, roTask r7.1.tasks]) [1248, 1249] (.tup [.agg [ow 0 r7.1.tree.nodes.length, pI r7.1.tree.next, ow 1 r7.1.tasks.length, pI r7.1.next], pI r7.2.1, pI r7.2.2]) (by kernel_rfl) ?_ ?_
    · rfl
    · rfl
 ·
  rcases bt (!r1) with h2 | h2
  ·
   replace hm := if_t h2 hm
   refine RK hnt (.no :: .call 21 [] true (pB r1) [] [] :: nn 2 (sk 2 (pT :: .no :: sk 2 (pT :: [])))) [(1, pI p1), (2, pI p2), (3, rr 1024), (6, rr 1048), (19, pB true)] [(1024, bx (pm (encHierarchy p0))), (1048, bx [.p (.sl .nil 0 0 (fun _ => [])), pI 0, .p (.sl .nil 0 0 (fun _ => [])), pI 0])] (an (Check_memberSpec p0 r1 hr1) (an3 h2 (an3 tt trivial))) (by kernel_rfl) ?_
   exact joinDone true hm .refl
  ·
   replace hm := if_f h2 hm
   rcases bt (decide (p2 < 0)) with h3 | h3
   ·
    replace hm := if_t h3 hm
    refine RK hnt (.no :: .call 21 [] true (pB r1) [] [] :: nn 4 (pF :: .no :: sk 2 (pT :: []))) [(1, pI p1), (2, pI p2), (3, rr 1024), (6, rr 1048), (19, pB true)] [(1024, bx (pm (encHierarchy p0))), (1048, bx [.p (.sl .nil 0 0 (fun _ => [])), pI 0, .p (.sl .nil 0 0 (fun _ => [])), pI 0])] (an (Check_memberSpec p0 r1 hr1) (an3 h2 (an3 h3 trivial))) (by kernel_rfl) ?_
    exact joinDone true hm .refl
   ·
    replace hm := if_f h3 hm
    refine RK hnt (.no :: .call 21 [] true (pB r1) [] [] :: nn 4 (pF :: nn 3 (pF :: []))) [(1, pI p1), (2, pI p2), (3, rr 1024), (6, rr 1048), (19, pB (decide (p2 > 1048576)))] [(1024, bx (pm (encHierarchy p0))), (1048, bx [.p (.sl .nil 0 0 (fun _ => [])), pI 0, .p (.sl .nil 0 0 (fun _ => [])), pI 0])] (an (Check_memberSpec p0 r1 hr1) (an3 h2 (an3 h3 trivial))) (by kernel_rfl) ?_
    exact joinDone (decide (p2 > 1048576)) hm .refl

theorem Clone_memberSpec (p0 : Hierarchy) (p1 : Int) (RES : Hierarchy × Int × Int) (hm : Clone_member p0 p1 = some RES) : Spec Try.prog 8 [.p (.agg (encHierarchy p0)), pI p1] [] (.tup [.agg [ow 0 RES.1.tree.nodes.length, pI RES.1.tree.next, ow 1 RES.1.tasks.length, pI RES.1.next], pI RES.2.1, pI RES.2.2]) [] [roNode RES.1.tree.nodes, roTask RES.1.tasks] := by
 unfold Clone_member at hm
 refine spec_of Tgood (T := Tt) Try.func8 (by decide) (c := _) rfl rfl (sl := [(0, .p (.agg (encHierarchy p0))), (1, pI p1)]) (ob := []) (Nat.le_of_ble_eq_true rfl) (Nat.le_of_ble_eq_true rfl) (by kernel_rfl) (by kernel_rfl) ?_
 intro cx hnt
 refine DW.start ?_
 refine DW.seq (RK hnt (nn 4 []) [(1, pI p1), (2, rr 1016), (4, rr 1032)] [(1016, bx (pm (encHierarchy p0))), (1032, bx [.p (.sl .nil 0 0 (fun _ => [])), pI 0, .p (.sl .nil 0 0 (fun _ => [])), pI 0])] trivial (by kernel_rfl) ?_)
 obtain ⟨r1, hr1, hm⟩ := bind_open hm
 refine DW.seq (DW.seq (RK hnt (.no :: .call 21 [] true (pB r1) [] [] :: .no :: []) [(1, pI p1), (2, rr 1016), (4, rr 1032), (11, pB (!r1))] [(1016, bx (pm (encHierarchy p0))), (1032, bx [.p (.sl .nil 0 0 (fun _ => [])), pI 0, .p (.sl .nil 0 0 (fun _ => [])), pI 0])] (an (Check_memberSpec p0 r1 hr1) trivial) (by kernel_rfl) ?_))
 refine DW.cond (!r1) rfl rfl ?_ ?_
 ·
  intro h2
  replace hm := if_t h2 hm
  refine DW.seq (RK hnt (nn 4 []) [(4, rr 1032), (5, pI 0), (6, pI 1)] [(1032, bx [.p (.sl .nil 0 0 (fun _ => [])), pI 0, .p (.sl .nil 0 0 (fun _ => [])), pI 0])] trivial (by kernel_rfl) ?_)
  refine DW.conv (τ := mkSt [(4, rr 1032), (5, pI 0), (6, pI 1)] [(1032, bx [ow 100000 0, pI 0, ow 100001 0, pI 0]), (100000, ob0 (roNode [])), (100001, ob0 (roTask []))]) (Conv.trans (τ := mkSt [(4, rr 1032), (5, pI 0), (6, pI 1)] ((100000, ⟨0, .row 6 0 (elems encNode dNode [])⟩) :: [(1032, bx [ow 100000 0, pI 0, .p (.sl .nil 0 0 (fun _ => [])), pI 0])])) (Conv.adopt 100000 6 (elems encNode dNode []) rfl rfl (.rfl _) (.box (.cons (.nil _ _) (.cons (.rfl _) (.cons (.rfl _) (.cons (.rfl _) (.rfl _))))) (.rfl _))) (Conv.trans (τ := mkSt [(4, rr 1032), (5, pI 0), (6, pI 1)] [(1032, bx [ow 100000 0, pI 0, .p (.sl .nil 0 0 (fun _ => [])), pI 0]), (100000, ob0 (roNode []))]) (Conv.tp [] [] (by kernel_rfl) .nil .nil) (Conv.trans (τ := mkSt [(4, rr 1032), (5, pI 0), (6, pI 1)] ((100001, ⟨0, .row 4 0 (elems encTask dTask [])⟩) :: [(1032, bx [ow 100000 0, pI 0, ow 100001 0, pI 0]), (100000, ob0 (roNode []))])) (Conv.adopt 100001 4 (elems encTask dTask []) rfl rfl (.rfl _) (.box (.cons (.rfl _) (.cons (.rfl _) (.cons (.nil _ _) (.cons (.rfl _) (.rfl _))))) (.keep (.rfl _)))) (Conv.trans (τ := mkSt [(4, rr 1032), (5, pI 0), (6, pI 1)] [(1032, bx [ow 100000 0, pI 0, ow 100001 0, pI 0]), (100000, ob0 (roNode [])), (100001, ob0 (roTask []))]) (Conv.tp [] [] (by kernel_rfl) .nil .nil) .refl)))) ?_
  refine DW.ret ?_
  obtain rfl := Option.some.inj hm
  refine retOK (bs' := [roNode [], roTask []]) [100000, 100001] (.tup [.agg [ow 0 0, pI 0, ow 1 0, pI 0], pI 0, pI 1]) (by kernel_rfl) ?_ ?_
  · rfl
  · rfl
 ·
  intro h2
  replace hm := if_f h2 hm
  refine DW.skip ?_
  obtain ⟨r3, hr3, hm⟩ := bind_open hm
  refine DW.seq (RK hnt (nn 2 (.call 27 [] true (.p (.tup [.agg (encTask r3.1), vb r3.2])) [] [] :: nn 6 [])) [(2, rr 1016), (4, rr 1032), (7, rr 1056), (8, pB r3.2)] [(1016, bx (pm (encHierarchy p0))), (1032, bx [.p (.sl .nil 0 0 (fun _ => [])), pI 0, .p (.sl .nil 0 0 (fun _ => [])), pI 0]), (1056, bx (pm (encTask r3.1)))] (an (Find_crewSpec p0 p1 r3 hr3) trivial) (by kernel_rfl) ?_)
  refine DW.seq (DW.seq (RK hnt (nn 2 []) [(2, rr 1016), (4, rr 1032), (7, rr 1056), (20, pB (!r3.2))] [(1016, bx (pm (encHierarchy p0))), (1032, bx [.p (.sl .nil 0 0 (fun _ => [])), pI 0, .p (.sl .nil 0 0 (fun _ => [])), pI 0]), (1056, bx (pm (encTask r3.1)))] trivial (by kernel_rfl) ?_))
  refine DW.cond (!r3.2) rfl rfl ?_ ?_
  ·
   intro h4
   replace hm := if_t h4 hm
   refine DW.seq (RK hnt (nn 4 []) [(4, rr 1032), (5, pI 0), (6, pI 4)] [(1032, bx [.p (.sl .nil 0 0 (fun _ => [])), pI 0, .p (.sl .nil 0 0 (fun _ => [])), pI 0])] trivial (by kernel_rfl) ?_)
   refine DW.conv (τ := mkSt [(4, rr 1032), (5, pI 0), (6, pI 4)] [(1032, bx [ow 100000 0, pI 0, ow 100001 0, pI 0]), (100000, ob0 (roNode [])), (100001, ob0 (roTask []))]) (Conv.trans (τ := mkSt [(4, rr 1032), (5, pI 0), (6, pI 4)] ((100000, ⟨0, .row 6 0 (elems encNode dNode [])⟩) :: [(1032, bx [ow 100000 0, pI 0, .p (.sl .nil 0 0 (fun _ => [])), pI 0])])) (Conv.adopt 100000 6 (elems encNode dNode []) rfl rfl (.rfl _) (.box (.cons (.nil _ _) (.cons (.rfl _) (.cons (.rfl _) (.cons (.rfl _) (.rfl _))))) (.rfl _))) (Conv.trans (τ := mkSt [(4, rr 1032), (5, pI 0), (6, pI 4)] [(1032, bx [ow 100000 0, pI 0, .p (.sl .nil 0 0 (fun _ => [])), pI 0]), (100000, ob0 (roNode []))]) (Conv.tp [] [] (by kernel_rfl) .nil .nil) (Conv.trans (τ := mkSt [(4, rr 1032), (5, pI 0), (6, pI 4)] ((100001, ⟨0, .row 4 0 (elems encTask dTask [])⟩) :: [(1032, bx [ow 100000 0, pI 0, ow 100001 0, pI 0]), (100000, ob0 (roNode []))])) (Conv.adopt 100001 4 (elems encTask dTask []) rfl rfl (.rfl _) (.box (.cons (.rfl _) (.cons (.rfl _) (.cons (.nil _ _) (.cons (.rfl _) (.rfl _))))) (.keep (.rfl _)))) (Conv.trans (τ := mkSt [(4, rr 1032), (5, pI 0), (6, pI 4)] [(1032, bx [ow 100000 0, pI 0, ow 100001 0, pI 0]), (100000, ob0 (roNode [])), (100001, ob0 (roTask []))]) (Conv.tp [] [] (by kernel_rfl) .nil .nil) .refl)))) ?_
   refine DW.ret ?_
   obtain rfl := Option.some.inj hm
   refine retOK (bs' := [roNode [], roTask []]) [100000, 100001] (.tup [.agg [ow 0 0, pI 0, ow 1 0, pI 0], pI 0, pI 4]) (by kernel_rfl) ?_ ?_
   · rfl
   · rfl
  ·
   intro h4
   replace hm := if_f h4 hm
   refine DW.skip ?_
   obtain ⟨r5, hr5, hm⟩ := bind_open hm
   refine DW.seq (RK hnt (nn 2 (.call 23 [] true (.tup [.agg [ow 0 r5.1.tree.nodes.length, pI r5.1.tree.next, ow 1 r5.1.tasks.length, pI r5.1.next], pI r5.2.1, pI r5.2.2]) [] [roNode r5.1.tree.nodes, roTask r5.1.tasks] :: nn 6 [])) [(4, rr 1032), (5, pI r5.2.1), (6, pI r5.2.2)] [(1032, bx [ow 1192 r5.1.tree.nodes.length, pI r5.1.tree.next, ow 1193 r5.1.tasks.length, pI r5.1.next]), (1192, ob0 (roNode r5.1.tree.nodes)), (1193, ob0 (roTask r5.1.tasks))] (an (add_memberSpec p0 r3.1 r5 hr5) trivial) (by kernel_rfl) ?_)
   refine DW.ret ?_
   obtain rfl := Option.some.inj hm
   refine retOK (bs' := [roNode r5.1.tree.nodes, roTask r5.1.tasks]) [1192, 1193] (.tup [.agg [ow 0 r5.1.tree.nodes.length, pI r5.1.tree.next, ow 1 r5.1.tasks.length, pI r5.1.next], pI r5.2.1, pI r5.2.2]) (by kernel_rfl) ?_ ?_
   · rfl
   · rfl

theorem ExitFa_memberSpec (p0 : Task) (p1 : Int) (RES : Bool) (hm : ExitFa_member p0 p1 = some RES) : Spec Try.prog 55 [.p (.agg (encTask p0)), rr 0] [.box [pI p1]] (pB RES) [.box [pI p1]] [] := by
 unfold ExitFa_member at hm
 refine spec_of Tgood (T := Tt) Try.func55 (by decide) (c := _) rfl rfl (sl := [(0, .p (.agg (encTask p0))), (1, rr 0)]) (ob := [(0, bx [pI p1])]) (Nat.le_of_ble_eq_true rfl) (Nat.le_of_ble_eq_true rfl) (by kernel_rfl) (by kernel_rfl) ?_
 intro cx hnt
 refine DW.start ?_
 refine DW.seq (RK hnt (nn 2 []) [(1, rr 0), (2, rr 1016)] [(0, bx [pI p1]), (1016, bx (pm (encTask p0)))] trivial (by kernel_rfl) ?_)
 refine DW.seq (DW.regJ (sl2 := [(3, pB ((p0.id == p1) || (p0.process == p1)))]) (ob2 := [(0, bx [pI p1])]) ?_ ?_)
 ·
  rcases bt (p0.id == p1) with h1 | h1
  ·
   exact RT hnt (nn 5 (sk 4 (pT :: .no :: []))) [(3, pB true)] (an5 h1 trivial) (by kernel_rfl) (.cons rfl (.of_eq (by rw [h1]; try rfl)) .nil)
  ·
   exact RT hnt (nn 9 (pF :: .no :: [])) [(3, pB (p0.process == p1))] (an5 h1 trivial) (by kernel_rfl) (.cons rfl (.of_eq (by rw [h1]; try rfl)) .nil)
 ·
  refine DW.ret ?_
  obtain rfl := Option.some.inj hm
  refine retOK (bs' := [.box [pI p1]]) [] (pB ((p0.id == p1) || (p0.process == p1))) (by kernel_rfl) ?_ ?_
  · rfl
  · rfl

theorem IndexFunc_slices_TaskQExitFa_memberSpec (p0 : List Task) (p1c0 : Int) (RES : Int) (hm : IndexFunc_slices_TaskQExitFa_member p0 p1c0 = some RES) : Spec Try.prog 68 [.p (slTask p0), .fn 55 [rr 0]] [.box [pI p1c0]] (pI RES) [.box [pI p1c0]] [] := by
 unfold IndexFunc_slices_TaskQExitFa_member at hm
 refine spec_of Tgood (T := Tt) Try.func68 (by decide) (c := _) rfl rfl (sl := [(0, .p (slTask p0)), (1, .fn 55 [rr 0])]) (ob := [(0, bx [pI p1c0])]) (Nat.le_of_ble_eq_true rfl) (Nat.le_of_ble_eq_true rfl) (by kernel_rfl) (by kernel_rfl) ?_
 intro cx hnt
 refine DW.start ?_
 refine DW.seq (RK hnt (.no :: []) [(0, .p (slTask p0)), (1, .fn 55 [rr 0])] [(0, bx [pI p1c0])] trivial (by kernel_rfl) ?_)
 refine DW.seq (DW.seq (RK hnt (nn 3 []) [(0, .p (slTask p0)), (1, .fn 55 [rr 0]), (7, pI ((p0.length : Nat) : Int)), (8, pI 0)] [(0, bx [pI p1c0])] trivial (by kernel_rfl) ?_))
 refine DW.block ?_
 obtain ⟨hc1, hm⟩ := guard_open hm
 refine DW.rangeO (fun (k1 : Nat) (s1 : Unit) => mkSt [(0, .p (slTask p0)), (1, .fn 55 [rr 0]), (7, pI ((p0.length : Nat) : Int)), (8, pI ((k1 : Nat) : Int))] [(0, bx [pI p1c0])]) dTask hm .refl ?_
 intro k1 s1 n1 hk1 hs1 he1
 refine DW.seq (RK hnt (.no :: []) [(0, .p (slTask p0)), (1, .fn 55 [rr 0]), (7, pI ((p0.length : Nat) : Int)), (8, pI ((k1 : Nat) : Int)), (9, pB (decide (((k1 : Nat) : Int) < ((p0.length : Nat) : Int))))] [(0, bx [pI p1c0])] trivial (by kernel_rfl) ?_)
 refine DW.seq (DW.cond (decide (((k1 : Nat) : Int) < ((p0.length : Nat) : Int))) rfl rfl ?_ ?_)
 ·
  intro h9
  have hlt1 : k1 < p0.length := by have := of_decide_eq_true h9; omega
  have hm := hs1 hlt1
  unfold IndexFunc_slices_TaskQExitFa_memberL1 at hm
  refine DW.skip ?_
  refine DW.seq (DW.block ?_)
  refine DW.seq (RK hnt (nn 2 []) [(0, .p (slTask p0)), (1, .fn 55 [rr 0]), (5, pI ((k1 : Nat) : Int)), (7, pI ((p0.length : Nat) : Int)), (8, pI ((k1 : Nat) : Int))] [(0, bx [pI p1c0])] trivial (by kernel_rfl) ?_)
  obtain ⟨r10, hr10, hm⟩ := bind_open hm
  refine DW.seq (RK hnt (nn 5 (.call 55 [0] true (pB r10) [.box [pI p1c0]] [] :: [])) [(0, .p (slTask p0)), (1, .fn 55 [rr 0]), (5, pI ((k1 : Nat) : Int)), (7, pI ((p0.length : Nat) : Int)), (8, pI ((k1 : Nat) : Int)), (16, pB r10)] [(0, bx [pI p1c0])] (an (nn0 k1) (an (ltc hlt1) (an (ExitFa_memberSpec (p0.getD k1 (default : Task)) p1c0 r10 hr10) (an trivial trivial)))) (by kernel_rfl) ?_)
  refine DW.cond r10 rfl rfl ?_ ?_
  ·
   intro h11
   replace hm := if_t h11 hm
   refine DW.seq (RK hnt (nn 2 []) [(4, pI ((k1 : Nat) : Int))] [(0, bx [pI p1c0])] trivial (by kernel_rfl) ?_)
   refine DW.ret ?_
   obtain rfl := Option.some.inj hm
   refine retOK (bs' := [.box [pI p1c0]]) [] (pI ((k1 : Nat) : Int)) (by kernel_rfl) ?_ ?_
   · rfl
   · rfl
  ·
   intro h11
   replace hm := if_f h11 hm
   refine DW.skip ?_
   refine DW.done ?_
   show DW _ _ _ _ _
   refine RK hnt (nn 2 []) [(0, .p (slTask p0)), (1, .fn 55 [rr 0]), (7, pI ((p0.length : Nat) : Int)), (8, pI (w64 (((k1 : Nat) : Int) + 1)))] [(0, bx [pI p1c0])] trivial (by kernel_rfl) ?_
   exact joinDone () ⟨hlt1, hm⟩ (Conv.tp [(8, pI (w64 (((k1 : Nat) : Int) + 1)))] [] (by kernel_rfl) (.cons rfl (.of_eq (congrArg pI (w64_succ hlt1 hc1))) .nil) .nil)
 ·
  intro h9
  have hge1 : ¬ k1 < p0.length := by have := of_decide_eq_false h9; omega
  have hm := he1 hge1
  unfold IndexFunc_slices_TaskQExitFa_memberD1 at hm
  refine DW.exit ?_
  refine joinQ_exit ?_
  refine KQ_exit ?_
  refine blockQ_exit ?_
  show DW _ _ _ _ _
  refine DW.seq (RK hnt (.no :: []) [(4, pI (-1))] [(0, bx [pI p1c0])] trivial (by kernel_rfl) ?_)
  refine DW.ret ?_
  obtain rfl := Option.some.inj hm
  refine retOK (bs' := [.box [pI p1c0]]) [] (pI (-1)) (by kernel_rfl) ?_ ?_
  · rfl
  · rfl

theorem DeleteFunc_slices_TaskQExitFa_memberSpec (p0 : List Task) (p1c0 : Int) (RES : Nat × (List Task) × Int) (hm : DeleteFunc_slices_TaskQExitFa_member p0 p1c0 = some RES) : Spec Try.prog 54 [ow 0 p0.length, .fn 55 [rr 1]] [roTask p0, .box [pI p1c0]] (ow 0 RES.1) [roTask RES.2.1, .box [pI RES.2.2]] [] := by
 unfold DeleteFunc_slices_TaskQExitFa_member at hm
 refine spec_of Tgood (T := Tt) Try.func54 (by decide) (c := _) rfl rfl (sl := [(0, ow 0 p0.length), (1, .fn 55 [rr 1])]) (ob := [(0, ob0 (roTask p0)), (1, bx [pI p1c0])]) (Nat.le_of_ble_eq_true rfl) (Nat.le_of_ble_eq_true rfl) (by kernel_rfl) (by kernel_rfl) ?_
 intro cx hnt
 refine DW.start ?_
 refine DW.seq (RK hnt (.no :: []) [(0, ow 0 p0.length), (1, .fn 55 [rr 1])] [(0, ob0 (roTask p0)), (1, bx [pI p1c0])] trivial (by kernel_rfl) ?_)
 obtain ⟨r1, hr1, hm⟩ := bind_open hm
 refine DW.seq (RK hnt (nn 2 (.call 68 [1] true (pI r1) [.box [pI p1c0]] [] :: .no :: [])) [(0, ow 0 p0.length), (1, .fn 55 [rr 1]), (5, pI r1)] [(0, ob0 (roTask p0)), (1, bx [pI p1c0])] (an (IndexFunc_slices_TaskQExitFa_memberSpec p0 p1c0 r1 hr1) (an trivial trivial)) (by kernel_rfl) ?_)
 refine DW.seq (DW.seq (RK hnt (nn 2 []) [(0, ow 0 p0.length), (1, .fn 55 [rr 1]), (5, pI r1), (12, pB (r1 == (-1)))] [(0, ob0 (roTask p0)), (1, bx [pI p1c0])] trivial (by kernel_rfl) ?_))
 refine DW.cond (r1 == (-1)) rfl rfl ?_ ?_
 ·
  intro h2
  replace hm := if_t h2 hm
  refine DW.seq (RK hnt (nn 2 []) [(4, ow 0 p0.length)] [(0, ob0 (roTask p0)), (1, bx [pI p1c0])] trivial (by kernel_rfl) ?_)
  refine DW.ret ?_
  obtain rfl := Option.some.inj hm
  refine retOK (bs' := [roTask p0, .box [pI p1c0]]) [] (ow 0 p0.length) (by kernel_rfl) ?_ ?_
  · rfl
  · rfl
 ·
  intro h2
  replace hm := if_f h2 hm
  refine DW.skip ?_
  refine DW.seq (DW.seq (RK hnt (nn 3 []) [(0, ow 0 p0.length), (1, .fn 55 [rr 1]), (5, pI r1), (6, pI (w64 (r1 + 1)))] [(0, ob0 (roTask p0)), (1, bx [pI p1c0])] trivial (by kernel_rfl) ?_))
  refine DW.block ?_
  refine DW.whileO (fun (s1 : (List Task) × Int × Int) => mkSt [(0, ow 0 s1.1.length), (1, .fn 55 [rr 1]), (5, pI s1.2.1), (6, pI s1.2.2)] [(0, ob0 (roTask s1.1)), (1, bx [pI p1c0])]) hm .refl ?_
  intro s1 n1 hm
  unfold DeleteFunc_slices_TaskQExitFa_memberL1 at hm
  refine DW.seq (DW.seq (RK hnt (nn 4 []) [(0, ow 0 s1.1.length), (1, .fn 55 [rr 1]), (5, pI s1.2.1), (6, pI s1.2.2), (19, pB (decide (s1.2.2 < ((s1.1.length : Nat) : Int))))] [(0, ob0 (roTask s1.1)), (1, bx [pI p1c0])] trivial (by kernel_rfl) ?_))
  refine DW.cond (decide (s1.2.2 < ((s1.1.length : Nat) : Int))) rfl rfl ?_ ?_
  ·
   intro h13
   replace hm := if_t h13 hm
   refine DW.skip ?_
   refine DW.seq ?_
   refine DW.join (ι := (List Task) × Int) (fun (y2 : (List Task) × Int) => mkSt [(0, ow 0 y2.1.length), (1, .fn 55 [rr 1]), (5, pI y2.2), (6, pI s1.2.2)] [(0, ob0 (roTask y2.1)), (1, bx [pI p1c0])]) (fun y2 => (DeleteFunc_slices_TaskQExitFa_memberJ2 s1 n1) y2 = some RES) ?_ ?_
   ·
    intro y2 hm
    unfold DeleteFunc_slices_TaskQExitFa_memberJ2 at hm
    refine RK hnt (nn 3 []) [(0, ow 0 y2.1.length), (1, .fn 55 [rr 1]), (5, pI y2.2), (6, pI (w64 (s1.2.2 + 1)))] [(0, ob0 (roTask y2.1)), (1, bx [pI p1c0])] trivial (by kernel_rfl) ?_
    exact joinDone (y2.1, y2.2, (w64 (s1.2.2 + 1))) hm .refl
   ·
    refine DW.block ?_
    obtain ⟨g14, hm⟩ := guard_open hm
    obtain ⟨g15, hm⟩ := guard_open hm
    refine DW.seq (RK hnt (nn 6 []) [(0, ow 0 s1.1.length), (1, .fn 55 [rr 1]), (5, pI s1.2.1), (6, pI s1.2.2), (7, rr 1056)] [(0, ob0 (roTask s1.1)), (1, bx [pI p1c0]), (1056, bx (pm (encTask (s1.1.getD (Int.toNat s1.2.2) dTask))))] (an g14.1 (an g14.2 (an g15 trivial))) (by kernel_rfl) ?_)
    obtain ⟨r16, hr16, hm⟩ := bind_open hm
    refine DW.seq (RK hnt (nn 2 (.call 55 [1] true (pB r16) [.box [pI p1c0]] [] :: .no :: [])) [(0, ow 0 s1.1.length), (1, .fn 55 [rr 1]), (5, pI s1.2.1), (6, pI s1.2.2), (7, rr 1056), (29, pB (!r16))] [(0, ob0 (roTask s1.1)), (1, bx [pI p1c0]), (1056, bx (pm (encTask (s1.1.getD (Int.toNat s1.2.2) dTask))))] (an (ExitFa_memberSpec (s1.1.getD (Int.toNat s1.2.2) dTask) p1c0 r16 hr16) (an trivial trivial)) (by kernel_rfl) ?_)
    refine DW.cond (!r16) rfl rfl ?_ ?_
    ·
     intro h17
     replace hm := if_t h17 hm
     obtain ⟨g18, hm⟩ := guard_open hm
     obtain ⟨g19, hm⟩ := guard_open hm
     refine DW.seq (RN hnt (nn 5 []) [(0, ow 0 (s1.1.set (Int.toNat s1.2.1) (s1.1.getD (Int.toNat s1.2.2) dTask)).length), (1, .fn 55 [rr 1]), (5, pI s1.2.1), (6, pI s1.2.2)] [(0, ob0 (roTask (s1.1.set (Int.toNat s1.2.1) (s1.1.getD (Int.toNat s1.2.2) dTask)))), (1, bx [pI p1c0])] [(0, ow 0 s1.1.length)] [(0, .row 4 s1.1.length (updF (elTask s1.1) (Int.toNat s1.2.1) [vi (s1.1.getD (Int.toNat s1.2.2) dTask).id, vi (s1.1.getD (Int.toNat s1.2.2) dTask).process, vi (s1.1.getD (Int.toNat s1.2.2) dTask).group, vi (s1.1.getD (Int.toNat s1.2.2) dTask).user]))] (an g18.1 (an g18.2 (an g19 trivial))) (by kernel_rfl) (.cons rfl (MLe.ownLen (enc := encTask) (d := dTask) (f := (updF (elTask s1.1) (Int.toNat s1.2.1) [vi (s1.1.getD (Int.toNat s1.2.2) dTask).id, vi (s1.1.getD (Int.toNat s1.2.2) dTask).process, vi (s1.1.getD (Int.toNat s1.2.2) dTask).group, vi (s1.1.getD (Int.toNat s1.2.2) dTask).user])) (RowIs.upd RowIs.elems (s1.1.getD (Int.toNat s1.2.2) dTask) rfl)) .nil) (.cons rfl (BLe.typed (RowIs.upd RowIs.elems (s1.1.getD (Int.toNat s1.2.2) dTask) rfl)) .nil) ?_)
     refine RK hnt (nn 3 []) [(0, ow 0 (s1.1.set (Int.toNat s1.2.1) (s1.1.getD (Int.toNat s1.2.2) dTask)).length), (1, .fn 55 [rr 1]), (5, pI (w64 (s1.2.1 + 1))), (6, pI s1.2.2)] [(0, ob0 (roTask (s1.1.set (Int.toNat s1.2.1) (s1.1.getD (Int.toNat s1.2.2) dTask)))), (1, bx [pI p1c0])] trivial (by kernel_rfl) ?_
     exact blockDone ((s1.1.set (Int.toNat s1.2.1) (s1.1.getD (Int.toNat s1.2.2) dTask)), (w64 (s1.2.1 + 1))) hm .refl
    ·
     intro h17
     replace hm := if_f h17 hm
     refine DW.skip ?_
     exact blockDone (s1.1, s1.2.1) hm (Conv.tp [] [] (by kernel_rfl) .nil .nil)
  ·
   intro h13
   replace hm := if_f h13 hm
   refine DW.exit ?_
   refine joinQ_exit ?_
   refine KQ_exit ?_
   refine blockQ_exit ?_
   show DW _ _ _ _ _
   obtain ⟨g20, hm⟩ := guard_open hm
   obtain ⟨g21, hm⟩ := guard_open hm
   refine DW.seq (RN hnt (nn 4 []) [(0, ow 0 (fillL s1.1 (Int.toNat s1.2.1) (subN s1.1.length (Int.toNat s1.2.1)) ({ id := 0, process := 0, group := 0, user := 0 } : Task)).length), (5, pI s1.2.1)] [(0, ob0 (roTask (fillL s1.1 (Int.toNat s1.2.1) (subN s1.1.length (Int.toNat s1.2.1)) ({ id := 0, process := 0, group := 0, user := 0 } : Task)))), (1, bx [pI p1c0])] [(0, ow 0 s1.1.length)] [(0, .row 4 s1.1.length (overF (elTask s1.1) (Int.toNat s1.2.1) (subN s1.1.length (Int.toNat s1.2.1)) (fun _ => [vi 0, vi 0, vi 0, vi 0])))] (an (by omega : (0 : Int) ≤ s1.2.1) (an (by omega : s1.2.1 ≤ ((s1.1.length : Nat) : Int)) (an (by omega : ((s1.1.length : Nat) : Int) ≤ ((s1.1.length : Nat) : Int)) (an g21 trivial)))) (by kernel_rfl) (.cons rfl (MLe.ownLen (enc := encTask) (d := dTask) (f := (overF (elTask s1.1) (Int.toNat s1.2.1) (subN s1.1.length (Int.toNat s1.2.1)) (fun _ => [vi 0, vi 0, vi 0, vi 0]))) (RowIs.fill RowIs.elems ({ id := 0, process := 0, group := 0, user := 0 } : Task) rfl (by first | exact g21 | omega))) .nil) (.cons rfl (BLe.typed (RowIs.fill RowIs.elems ({ id := 0, process := 0, group := 0, user := 0 } : Task) rfl (by first | exact g21 | omega))) .nil) ?_)
   obtain ⟨g22, hm⟩ := guard_open hm
   refine DW.seq (RK hnt (nn 4 []) [(4, ow 0 (Int.toNat s1.2.1))] [(0, ob0 (roTask (fillL s1.1 (Int.toNat s1.2.1) (subN s1.1.length (Int.toNat s1.2.1)) ({ id := 0, process := 0, group := 0, user := 0 } : Task)))), (1, bx [pI p1c0])] (an (by omega : (0 : Int) ≤ 0) (an (by omega : (0 : Int) ≤ s1.2.1) (an (by omega : s1.2.1 ≤ (((fillL s1.1 (Int.toNat s1.2.1) (subN s1.1.length (Int.toNat s1.2.1)) ({ id := 0, process := 0, group := 0, user := 0 } : Task)).length : Nat) : Int)) trivial))) (by kernel_rfl) ?_)
   refine DW.ret ?_
   obtain rfl := Option.some.inj hm
   refine retOK (bs' := [roTask (fillL s1.1 (Int.toNat s1.2.1) (subN s1.1.length (Int.toNat s1.2.1)) ({ id := 0, process := 0, group := 0, user := 0 } : Task)), .box [pI p1c0]]) [] (ow 0 (Int.toNat s1.2.1)) (by kernel_rfl) ?_ ?_
   · rfl
   · rfl

theorem Exit_memberSpec (p0 : Hierarchy) (p1 : Int) (RES : Hierarchy × Int) (hm : Exit_member p0 p1 = some RES) : Spec Try.prog 31 [.p (.agg (encHierarchy p0)), pI p1] [] (.tup [.agg [ow 0 RES.1.tree.nodes.length, pI RES.1.tree.next, .p (slTask RES.1.tasks), pI RES.1.next], pI RES.2]) [] [roNode RES.1.tree.nodes] := by
 unfold Exit_member at hm
 refine spec_of Tgood (T := Tt) Try.func31 (by decide) (c := _) rfl rfl (sl := [(0, .p (.agg (encHierarchy p0))), (1, pI p1)]) (ob := []) (Nat.le_of_ble_eq_true rfl) (Nat.le_of_ble_eq_true rfl) (by kernel_rfl) (by kernel_rfl) ?_
 intro cx hnt
 refine DW.start ?_
 refine DW.seq (RK hnt (nn 4 []) [(2, rr 1016), (3, rr 1024), (4, rr 1032)] [(1016, bx (pm (encHierarchy p0))), (1024, bx [pI p1]), (1032, bx [.p (.sl .nil 0 0 (fun _ => [])), pI 0, .p (.sl .nil 0 0 (fun _ => [])), pI 0])] trivial (by kernel_rfl) ?_)
 obtain ⟨r1, hr1, hm⟩ := bind_open hm
 refine DW.seq (DW.seq (RK hnt (.no :: .call 21 [] true (pB r1) [] [] :: .no :: []) [(2, rr 1016), (3, rr 1024), (4, rr 1032), (9, pB (!r1))] [(1016, bx (pm (encHierarchy p0))), (1024, bx [pI p1]), (1032, bx [.p (.sl .nil 0 0 (fun _ => [])), pI 0, .p (.sl .nil 0 0 (fun _ => [])), pI 0])] (an (Check_memberSpec p0 r1 hr1) trivial) (by kernel_rfl) ?_))
 refine DW.cond (!r1) rfl rfl ?_ ?_
 ·
  intro h2
  replace hm := if_t h2 hm
  refine DW.seq (RK hnt (nn 3 []) [(4, rr 1032), (5, pI 1)] [(1032, bx [.p (.sl .nil 0 0 (fun _ => [])), pI 0, .p (.sl .nil 0 0 (fun _ => [])), pI 0])] trivial (by kernel_rfl) ?_)
  refine DW.conv (τ := mkSt [(4, rr 1032), (5, pI 1)] [(1032, bx [ow 100000 0, pI 0, .p (slTask []), pI 0]), (100000, ob0 (roNode []))]) (Conv.trans (τ := mkSt [(4, rr 1032), (5, pI 1)] ((100000, ⟨0, .row 6 0 (elems encNode dNode [])⟩) :: [(1032, bx [ow 100000 0, pI 0, .p (.sl .nil 0 0 (fun _ => [])), pI 0])])) (Conv.adopt 100000 6 (elems encNode dNode []) rfl rfl (.rfl _) (.box (.cons (.nil _ _) (.cons (.rfl _) (.cons (.rfl _) (.cons (.rfl _) (.rfl _))))) (.rfl _))) (Conv.trans (τ := mkSt [(4, rr 1032), (5, pI 1)] [(1032, bx [ow 100000 0, pI 0, .p (.sl .nil 0 0 (fun _ => [])), pI 0]), (100000, ob0 (roNode []))]) (Conv.tp [] [] (by kernel_rfl) .nil .nil) (Conv.tp [] [(1032, .box [ow 100000 0, pI 0, .p (.sl .nil 0 0 (fun _ => [])), pI 0])] (by kernel_rfl) .nil (.cons rfl (.box (.cons .rfl (.cons .rfl (.cons MLe.nilL (.cons .rfl .nil))))) .nil)))) ?_
  refine DW.ret ?_
  obtain rfl := Option.some.inj hm
  refine retOK (bs' := [roNode []]) [100000] (.tup [.agg [ow 0 0, pI 0, .p (slTask []), pI 0], pI 1]) (by kernel_rfl) ?_ ?_
  · rfl
  · rfl
 ·
  intro h2
  replace hm := if_f h2 hm
  refine DW.skip ?_
  obtain ⟨r3, hr3, hm⟩ := bind_open hm
  refine DW.seq (DW.seq (RK hnt (nn 2 (.call 40 [] true (pI r3) [] [] :: .no :: [])) [(2, rr 1016), (3, rr 1024), (4, rr 1032), (14, pB (decide (r3 < 0)))] [(1016, bx (pm (encHierarchy p0))), (1024, bx [pI p1]), (1032, bx [.p (.sl .nil 0 0 (fun _ => [])), pI 0, .p (.sl .nil 0 0 (fun _ => [])), pI 0])] (an (At_crewSpec p0 p1 r3 hr3) trivial) (by kernel_rfl) ?_))
  refine DW.cond (decide (r3 < 0)) rfl rfl ?_ ?_
  ·
   intro h4
   replace hm := if_t h4 hm
   refine DW.seq (RK hnt (nn 3 []) [(4, rr 1032), (5, pI 4)] [(1032, bx [.p (.sl .nil 0 0 (fun _ => [])), pI 0, .p (.sl .nil 0 0 (fun _ => [])), pI 0])] trivial (by kernel_rfl) ?_)
   refine DW.conv (τ := mkSt [(4, rr 1032), (5, pI 4)] [(1032, bx [ow 100000 0, pI 0, .p (slTask []), pI 0]), (100000, ob0 (roNode []))]) (Conv.trans (τ := mkSt [(4, rr 1032), (5, pI 4)] ((100000, ⟨0, .row 6 0 (elems encNode dNode [])⟩) :: [(1032, bx [ow 100000 0, pI 0, .p (.sl .nil 0 0 (fun _ => [])), pI 0])])) (Conv.adopt 100000 6 (elems encNode dNode []) rfl rfl (.rfl _) (.box (.cons (.nil _ _) (.cons (.rfl _) (.cons (.rfl _) (.cons (.rfl _) (.rfl _))))) (.rfl _))) (Conv.trans (τ := mkSt [(4, rr 1032), (5, pI 4)] [(1032, bx [ow 100000 0, pI 0, .p (.sl .nil 0 0 (fun _ => [])), pI 0]), (100000, ob0 (roNode []))]) (Conv.tp [] [] (by kernel_rfl) .nil .nil) (Conv.tp [] [(1032, .box [ow 100000 0, pI 0, .p (.sl .nil 0 0 (fun _ => [])), pI 0])] (by kernel_rfl) .nil (.cons rfl (.box (.cons .rfl (.cons .rfl (.cons MLe.nilL (.cons .rfl .nil))))) .nil)))) ?_
   refine DW.ret ?_
   obtain rfl := Option.some.inj hm
   refine retOK (bs' := [roNode []]) [100000] (.tup [.agg [ow 0 0, pI 0, .p (slTask []), pI 0], pI 4]) (by kernel_rfl) ?_ ?_
   · rfl
   · rfl
  ·
   intro h4
   replace hm := if_f h4 hm
   refine DW.skip ?_
   obtain ⟨r5, hr5, hm⟩ := bind_open hm
   refine DW.seq (RK hnt (.no :: .call 41 [] true (.agg [ow 0 r5.tree.nodes.length, pI r5.tree.next, ow 1 r5.tasks.length, pI r5.next]) [] [roNode r5.tree.nodes, roTask r5.tasks] :: nn 2 []) [(3, rr 1024), (4, rr 1032), (6, rr 1048)] [(1024, bx [pI p1]), (1032, bx [.p (.sl .nil 0 0 (fun _ => [])), pI 0, .p (.sl .nil 0 0 (fun _ => [])), pI 0]), (1048, bx [ow 1136 r5.tree.nodes.length, pI r5.tree.next, ow 1137 r5.tasks.length, pI r5.next]), (1136, ob0 (roNode r5.tree.nodes)), (1137, ob0 (roTask r5.tasks))] (an (Copy_crewSpec p0 r5 hr5) trivial) (by kernel_rfl) ?_)
   obtain ⟨r6, hr6, hm⟩ := bind_open hm
   obtain ⟨g7, hm⟩ := guard_open hm
   obtain ⟨g8, hm⟩ := guard_open hm
   refine DW.seq (RK hnt (nn 3 (.call 54 [1137, 1024] true (ow 0 r6.1) [roTask r6.2.1, .box [pI r6.2.2]] [] :: nn 2 [])) [(4, rr 1032), (6, rr 1048)] [(1032, bx [.p (.sl .nil 0 0 (fun _ => [])), pI 0, .p (.sl .nil 0 0 (fun _ => [])), pI 0]), (1048, bx [ow 1136 r5.tree.nodes.length, pI r5.tree.next, ow 1137 r6.1, pI r5.next]), (1136, ob0 (roNode r5.tree.nodes)), (1137, ob0 (roTask r6.2.1))] (an (DeleteFunc_slices_TaskQExitFa_memberSpec r5.tasks p1 r6 hr6) (an (⟨rfl, g7⟩ : Body.same (roTask r5.tasks) (roTask r6.2.1)) (an trivial trivial))) (by kernel_rfl) ?_)
   refine DW.seq (RK hnt (nn 3 []) [(4, rr 1032), (5, pI 0)] [(1032, bx [ow 1136 r5.tree.nodes.length, pI r5.tree.next, ow 1137 r6.1, pI r5.next]), (1136, ob0 (roNode r5.tree.nodes)), (1137, ob0 (roTask r6.2.1))] trivial (by kernel_rfl) ?_)
   refine DW.conv (τ := mkSt [(4, rr 1032), (5, pI 0)] [(1032, bx [ow 1136 r5.tree.nodes.length, pI r5.tree.next, .p (slTask (r6.2.1.take r6.1)), pI r5.next]), (1136, ob0 (roNode r5.tree.nodes))]) (Conv.trans (τ := mkSt [(4, rr 1032), (5, pI 0)] [(1032, bx [ow 1136 r5.tree.nodes.length, pI r5.tree.next, .p (.sl .unk 4 r6.1 (elTask r6.2.1)), pI r5.next]), (1136, ob0 (roNode r5.tree.nodes))]) (Conv.freezes [1137] (by kernel_rfl)) (Conv.tp [] [(1032, .box [ow 1136 r5.tree.nodes.length, pI r5.tree.next, .p (.sl .unk 4 r6.1 (elTask r6.2.1)), pI r5.next])] (by kernel_rfl) .nil (.cons rfl (.box (.cons .rfl (.cons .rfl (.cons (MLe.typed (RowIs.take RowIs.elems (by first | omega | (simp only [subN_eq, addN_eq] at *; omega)))) (.cons .rfl .nil))))) .nil))) ?_
   refine DW.ret ?_
   obtain rfl := Option.some.inj hm
   refine retOK (bs' := [roNode r5.tree.nodes]) [1136] (.tup [.agg [ow 0 r5.tree.nodes.length, pI r5.tree.next, .p (slTask (r6.2.1.take r6.1)), pI r5.next], pI 0]) (by kernel_rfl) ?_ ?_
   · rfl
   · rfl
end Go.Dm

/- Go functions compute their models, printed by a program. -/
namespace Go.Dm
open Go.Proofs
set_option linter.unusedVariables false
theorem sane_law6Spec (RES : Bool) (hm : sane_law6 = some RES) : Spec Try.prog 11 [] [] (pB RES) [] [] := by
 unfold sane_law6 at hm
 refine spec_of Tgood (T := Tt) Try.func11 (by decide) (c := _) rfl rfl (sl := []) (ob := []) (Nat.le_of_ble_eq_true rfl) (Nat.le_of_ble_eq_true rfl) (by kernel_rfl) (by kernel_rfl) ?_
 intro cx hnt
 refine DW.start ?_
 refine DW.seq (RK hnt (.no :: []) [] [] trivial (by kernel_rfl) ?_)
 obtain ⟨r1, hr1, hm⟩ := bind_open hm
 obtain ⟨r2, hr2, hm⟩ := bind_open hm
 refine DW.seq (RK hnt (.call 30 [] true (.agg [ow 0 r1.tree.nodes.length, pI r1.tree.next, ow 1 r1.tasks.length, pI r1.next]) [] [roNode r1.tree.nodes, roTask r1.tasks] :: .call 6 [] false (.tup [.agg [ow 0 r2.1.tree.nodes.length, pI r2.1.tree.next, ow 1 r2.1.tasks.length, pI r2.1.next], pI r2.2.1, pI r2.2.2]) [] [roNode r2.1.tree.nodes, roTask r2.1.tasks] :: nn 8 []) [(1, rr 1008), (2, pI r2.2.1), (3, pI r2.2.2)] [(1008, bx [ow 1080 r2.1.tree.nodes.length, pI r2.1.tree.next, ow 1081 r2.1.tasks.length, pI r2.1.next]), (1080, ob0 (roNode r2.1.tree.nodes)), (1081, ob0 (roTask r2.1.tasks))] (an (New_memberSpec r1 hr1) (an (Spawn_memberSpec r1 1 0 r2 hr2) trivial)) (by kernel_rfl) ?_)
 refine DW.seq (DW.conv (τ := mkSt [(1, rr 1008), (2, pI r2.2.1), (3, pI r2.2.2)] [(1008, bx [.p (slNode r2.1.tree.nodes), pI r2.1.tree.next, ow 1081 r2.1.tasks.length, pI r2.1.next]), (1081, ob0 (roTask r2.1.tasks))]) (Conv.trans (τ := mkSt [(1, rr 1008), (2, pI r2.2.1), (3, pI r2.2.2)] [(1008, bx [.p (slNode r2.1.tree.nodes), pI r2.1.tree.next, ow 1081 r2.1.tasks.length, pI r2.1.next]), (1081, ob0 (roTask r2.1.tasks))]) (Conv.freezes [1080] (by kernel_rfl)) .refl) ?_)
 refine DW.conv (τ := mkSt [(1, rr 1008), (2, pI r2.2.1), (3, pI r2.2.2)] [(1008, bx (pm (encHierarchy r2.1)))]) (Conv.trans (τ := mkSt [(1, rr 1008), (2, pI r2.2.1), (3, pI r2.2.2)] [(1008, bx (pm (encHierarchy r2.1)))]) (Conv.freezes [1081] (by kernel_rfl)) .refl) ?_
 obtain ⟨r5, hr5, hm⟩ := bind_open hm
 refine RK hnt (nn 2 (.call 8 [] true (.tup [.agg [ow 0 r5.1.tree.nodes.length, pI r5.1.tree.next, ow 1 r5.1.tasks.length, pI r5.1.next], pI r5.2.1, pI r5.2.2]) [] [roNode r5.1.tree.nodes, roTask r5.1.tasks] :: nn 7 [])) [(1, rr 1008), (2, pI r2.2.1), (3, pI r2.2.2), (4, pI r5.2.1), (5, pI r5.2.2)] [(1008, bx [ow 1136 r5.1.tree.nodes.length, pI r5.1.tree.next, ow 1137 r5.1.tasks.length, pI r5.1.next]), (1136, ob0 (roNode r5.1.tree.nodes)), (1137, ob0 (roTask r5.1.tasks))] (an (Clone_memberSpec r2.1 r2.2.1 r5 hr5) trivial) (by kernel_rfl) ?_
 refine DW.seq (DW.conv (τ := mkSt [(1, rr 1008), (2, pI r2.2.1), (3, pI r2.2.2), (4, pI r5.2.1), (5, pI r5.2.2)] [(1008, bx [.p (slNode r5.1.tree.nodes), pI r5.1.tree.next, ow 1137 r5.1.tasks.length, pI r5.1.next]), (1137, ob0 (roTask r5.1.tasks))]) (Conv.trans (τ := mkSt [(1, rr 1008), (2, pI r2.2.1), (3, pI r2.2.2), (4, pI r5.2.1), (5, pI r5.2.2)] [(1008, bx [.p (slNode r5.1.tree.nodes), pI r5.1.tree.next, ow 1137 r5.1.tasks.length, pI r5.1.next]), (1137, ob0 (roTask r5.1.tasks))]) (Conv.freezes [1136] (by kernel_rfl)) .refl) ?_)
 refine DW.conv (τ := mkSt [(1, rr 1008), (2, pI r2.2.1), (3, pI r2.2.2), (4, pI r5.2.1), (5, pI r5.2.2)] [(1008, bx (pm (encHierarchy r5.1)))]) (Conv.trans (τ := mkSt [(1, rr 1008), (2, pI r2.2.1), (3, pI r2.2.2), (4, pI r5.2.1), (5, pI r5.2.2)] [(1008, bx (pm (encHierarchy r5.1)))]) (Conv.freezes [1137] (by kernel_rfl)) .refl) ?_
 obtain ⟨r8, hr8, hm⟩ := bind_open hm
 refine RK hnt (nn 2 (.call 31 [] true (.tup [.agg [ow 0 r8.1.tree.nodes.length, pI r8.1.tree.next, .p (slTask r8.1.tasks), pI r8.1.next], pI r8.2]) [] [roNode r8.1.tree.nodes] :: nn 6 [])) [(2, pI r2.2.1), (3, pI r2.2.2), (4, pI r5.2.1), (5, pI r5.2.2), (6, rr 1048), (7, pI r8.2)] [(1048, bx [ow 1192 r8.1.tree.nodes.length, pI r8.1.tree.next, .p (slTask r8.1.tasks), pI r8.1.next]), (1192, ob0 (roNode r8.1.tree.nodes))] (an (Exit_memberSpec r5.1 r2.2.1 r8 hr8) trivial) (by kernel_rfl) ?_
 refine DW.seq (DW.regJ (sl2 := [(0, pB (((((((r2.2.2 == 0) && (r2.2.1 == 1)) && (r5.2.2 == 0)) && (r5.2.1 == 2)) && (r8.2 == 0)) && (((r8.1.tasks.length : Nat) : Int) == 0)) && (r8.1.next == 3)))]) (ob2 := []) ?_ ?_)
 ·
  rcases bt (r2.2.2 == 0) with h9 | h9
  ·
   rcases bt (r2.2.1 == 1) with h10 | h10
   ·
    rcases bt (r5.2.2 == 0) with h11 | h11
    ·
     rcases bt (r5.2.1 == 2) with h12 | h12
     ·
      rcases bt (r8.2 == 0) with h13 | h13
      ·
       rcases bt (((r8.1.tasks.length : Nat) : Int) == 0) with h14 | h14
       ·
        exact RT hnt (nn 5 (pT :: nn 3 (pT :: nn 3 (pT :: nn 3 (pT :: nn 5 (pT :: nn 4 (pT :: .no :: []))))))) [(0, pB (r8.1.next == 3))] (an3 h9 (an3 h10 (an3 h11 (an3 h12 (an5 h13 (an4 h14 trivial)))))) (by kernel_rfl) (.cons rfl (.of_eq (by rw [h9, h10, h11, h12, h13, h14]; try rfl)) .nil)
       ·
        exact RT hnt (nn 5 (pT :: nn 3 (pT :: nn 3 (pT :: nn 3 (pT :: nn 5 (pT :: .no :: sk 3 (pF :: .no :: []))))))) [(0, pB false)] (an3 h9 (an3 h10 (an3 h11 (an3 h12 (an5 h13 (an4 h14 trivial)))))) (by kernel_rfl) (.cons rfl (.of_eq (by rw [h9, h10, h11, h12, h13, h14]; try rfl)) .nil)
      ·
       exact RT hnt (nn 5 (pT :: nn 3 (pT :: nn 3 (pT :: nn 3 (pT :: .no :: sk 4 (pF :: .no :: sk 3 (pF :: .no :: []))))))) [(0, pB false)] (an3 h9 (an3 h10 (an3 h11 (an3 h12 (an5 h13 (an4 ff trivial)))))) (by kernel_rfl) (.cons rfl (.of_eq (by rw [h9, h10, h11, h12, h13]; try rfl)) .nil)
     ·
      exact RT hnt (nn 5 (pT :: nn 3 (pT :: nn 3 (pT :: .no :: sk 2 (pF :: .no :: sk 4 (pF :: .no :: sk 3 (pF :: .no :: []))))))) [(0, pB false)] (an3 h9 (an3 h10 (an3 h11 (an3 h12 (an3 ff (an6 ff trivial)))))) (by kernel_rfl) (.cons rfl (.of_eq (by rw [h9, h10, h11, h12]; try rfl)) .nil)
    ·
     exact RT hnt (nn 5 (pT :: nn 3 (pT :: .no :: sk 2 (pF :: .no :: sk 2 (pF :: .no :: sk 4 (pF :: .no :: sk 3 (pF :: .no :: []))))))) [(0, pB false)] (an3 h9 (an3 h10 (an3 h11 (an6 ff (an6 ff trivial))))) (by kernel_rfl) (.cons rfl (.of_eq (by rw [h9, h10, h11]; try rfl)) .nil)
   ·
    exact RT hnt (nn 5 (pT :: .no :: sk 2 (pF :: .no :: sk 2 (pF :: .no :: sk 2 (pF :: .no :: sk 4 (pF :: .no :: sk 3 (pF :: .no :: []))))))) [(0, pB false)] (an3 h9 (an3 h10 (an3 ff (an6 ff (an6 ff trivial))))) (by kernel_rfl) (.cons rfl (.of_eq (by rw [h9, h10]; try rfl)) .nil)
  ·
   exact RT hnt (nn 3 (sk 2 (pF :: .no :: sk 2 (pF :: .no :: sk 2 (pF :: .no :: sk 2 (pF :: .no :: sk 4 (pF :: .no :: sk 3 (pF :: .no :: [])))))))) [(0, pB false)] (an3 h9 (an6 ff (an6 ff (an6 ff trivial)))) (by kernel_rfl) (.cons rfl (.of_eq (by rw [h9]; try rfl)) .nil)
 ·
  refine DW.ret ?_
  obtain rfl := Option.some.inj hm
  refine retOK (bs' := []) [] (pB (((((((r2.2.2 == 0) && (r2.2.1 == 1)) && (r5.2.2 == 0)) && (r5.2.1 == 2)) && (r8.2 == 0)) && (((r8.1.tasks.length : Nat) : Int) == 0)) && (r8.1.next == 3))) (by kernel_rfl) ?_ ?_
  · rfl
  · rfl

theorem Roll_madeSpec (p0 : List Int) (RES : Dice) (hm : Roll_made p0 = some RES) : Spec Try.prog 13 [.p (slI p0)] [] (rr 0) [] [.box (pm (encDice RES))] := by
 unfold Roll_made at hm
 refine spec_of Tgood (T := Tt) Try.func13 (by decide) (c := _) rfl rfl (sl := [(0, .p (slI p0))]) (ob := []) (Nat.le_of_ble_eq_true rfl) (Nat.le_of_ble_eq_true rfl) (by kernel_rfl) (by kernel_rfl) ?_
 intro cx hnt
 refine DW.start ?_
 refine DW.seq (RK hnt (.no :: []) [(0, .p (slI p0))] [] trivial (by kernel_rfl) ?_)
 refine DW.seq (RK hnt (nn 4 []) [(2, rr 1040)] [(1040, bx [.p (slI p0), pI 0])] trivial (by kernel_rfl) ?_)
 refine DW.ret ?_
 obtain rfl := Option.some.inj hm
 refine retOK (bs' := [.box [.p (slI p0), pI 0]]) [1040] (rr 0) (by kernel_rfl) ?_ ?_
 · rfl
 · rfl

theorem New_ref5Spec (RES : Tree) (hm : New_ref5 = some RES) : Spec Try.prog 20 [] [] (.agg [ow 0 RES.nodes.length, pI RES.next]) [] [roNode RES.nodes] := by
 unfold New_ref5 at hm
 refine spec_of Tgood (T := Tt) Try.func20 (by decide) (c := _) rfl rfl (sl := []) (ob := []) (Nat.le_of_ble_eq_true rfl) (Nat.le_of_ble_eq_true rfl) (by kernel_rfl) (by kernel_rfl) ?_
 intro cx hnt
 refine DW.start ?_
 refine DW.seq (RK hnt (.no :: []) [(0, rr 1000)] [(1000, bx [.p (.sl .nil 0 0 (fun _ => [])), pI 0])] trivial (by kernel_rfl) ?_)
 refine DW.seq (RN hnt (nn 4 []) [(0, rr 1000)] [(1000, bx [ow 1016 [({ id := 1, parent := 0, name := ByteArray.empty, control := 0, kind := 0, owner := 0 } : Node)].length, pI 2]), (1016, ob0 (roNode [({ id := 1, parent := 0, name := ByteArray.empty, control := 0, kind := 0, owner := 0 } : Node)]))] [] [(1000, .box [ow 1016 1, pI 2]), (1016, .row 6 1 (cut 6 [vi 1, vi 0, vs ByteArray.empty, vi 0, vi 0, vi 0]))] trivial (by kernel_rfl) .nil (.cons rfl (.box (.cons (MLe.ownLen (enc := encNode) (d := dNode) (f := (cut 6 [vi 1, vi 0, vs ByteArray.empty, vi 0, vi 0, vi 0])) (RowIs.lit (enc := encNode) (d := dNode) (n := 1) (f := (cut 6 [vi 1, vi 0, vs ByteArray.empty, vi 0, vi 0, vi 0])) [({ id := 1, parent := 0, name := ByteArray.empty, control := 0, kind := 0, owner := 0 } : Node)] rfl (fun | 0, _ => rfl | n + 1, h => absurd h (by omega)))) (.cons .rfl .nil))) (.cons rfl (BLe.typed (RowIs.lit (enc := encNode) (d := dNode) (n := 1) (f := (cut 6 [vi 1, vi 0, vs ByteArray.empty, vi 0, vi 0, vi 0])) [({ id := 1, parent := 0, name := ByteArray.empty, control := 0, kind := 0, owner := 0 } : Node)] rfl (fun | 0, _ => rfl | n + 1, h => absurd h (by omega)))) .nil)) ?_)
 refine DW.ret ?_
 obtain rfl := Option.some.inj hm
 refine retOK (bs' := [roNode [({ id := 1, parent := 0, name := ByteArray.empty, control := 0, kind := 0, owner := 0 } : Node)]]) [1016] (.agg [ow 0 [({ id := 1, parent := 0, name := ByteArray.empty, control := 0, kind := 0, owner := 0 } : Node)].length, pI 2]) (by kernel_rfl) ?_ ?_
 · rfl
 · rfl

theorem New_ref6Spec (RES : Hierarchy) (hm : New_ref6 = some RES) : Spec Try.prog 5 [] [] (.agg [ow 0 RES.tree.nodes.length, pI RES.tree.next, ow 1 RES.tasks.length, pI RES.next]) [] [roNode RES.tree.nodes, roTask RES.tasks] := by
 unfold New_ref6 at hm
 refine spec_of Tgood (T := Tt) Try.func5 (by decide) (c := _) rfl rfl (sl := []) (ob := []) (Nat.le_of_ble_eq_true rfl) (Nat.le_of_ble_eq_true rfl) (by kernel_rfl) (by kernel_rfl) ?_
 intro cx hnt
 refine DW.start ?_
 refine DW.seq (RK hnt (.no :: []) [(0, rr 1000)] [(1000, bx [.p (.sl .nil 0 0 (fun _ => [])), pI 0, .p (.sl .nil 0 0 (fun _ => [])), pI 0])] trivial (by kernel_rfl) ?_)
 obtain ⟨r1, hr1, hm⟩ := bind_open hm
 refine DW.seq (RK hnt (.call 20 [] true (.agg [ow 0 r1.nodes.length, pI r1.next]) [] [roNode r1.nodes] :: nn 2 []) [(0, rr 1000)] [(1000, bx [ow 1008 r1.nodes.length, pI r1.next, .p (.sl .nil 0 0 (fun _ => [])), pI 1]), (1008, ob0 (roNode r1.nodes))] (an (New_ref5Spec r1 hr1) trivial) (by kernel_rfl) ?_)
 refine DW.conv (τ := mkSt [(0, rr 1000)] [(1000, bx [ow 1008 r1.nodes.length, pI r1.next, ow 100000 0, pI 1]), (1008, ob0 (roNode r1.nodes)), (100000, ob0 (roTask []))]) (Conv.trans (τ := mkSt [(0, rr 1000)] ((100000, ⟨0, .row 4 0 (elems encTask dTask [])⟩) :: [(1000, bx [ow 1008 r1.nodes.length, pI r1.next, ow 100000 0, pI 1]), (1008, ob0 (roNode r1.nodes))])) (Conv.adopt 100000 4 (elems encTask dTask []) rfl rfl (.rfl _) (.box (.cons (.rfl _) (.cons (.rfl _) (.cons (.nil _ _) (.cons (.rfl _) (.rfl _))))) (.keep (.rfl _)))) (Conv.trans (τ := mkSt [(0, rr 1000)] [(1000, bx [ow 1008 r1.nodes.length, pI r1.next, ow 100000 0, pI 1]), (1008, ob0 (roNode r1.nodes)), (100000, ob0 (roTask []))]) (Conv.tp [] [] (by kernel_rfl) .nil .nil) .refl)) ?_
 refine DW.ret ?_
 obtain rfl := Option.some.inj hm
 refine retOK (bs' := [roNode r1.nodes, roTask []]) [1008, 100000] (.agg [ow 0 r1.nodes.length, pI r1.next, ow 1 0, pI 1]) (by kernel_rfl) ?_ ?_
 · rfl
 · rfl

theorem Next_Dice_madeSpec (p0 : Dice) (p1 : Int) (RES : Int × Dice) (hm : Next_Dice_made p0 p1 = some RES) : Spec Try.prog 15 [rr 0, pI p1] [.box (pm (encDice p0))] (pI RES.1) [.box (pm (encDice RES.2))] [] := by
 unfold Next_Dice_made at hm
 refine spec_of Tgood (T := Tt) Try.func15 (by decide) (c := _) rfl rfl (sl := [(0, rr 0), (1, pI p1)]) (ob := [(0, bx (pm (encDice p0)))]) (Nat.le_of_ble_eq_true rfl) (Nat.le_of_ble_eq_true rfl) (by kernel_rfl) (by kernel_rfl) ?_
 intro cx hnt
 refine DW.start ?_
 refine DW.seq (RK hnt (.no :: []) [(0, rr 0), (1, pI p1)] [(0, bx (pm (encDice p0)))] trivial (by kernel_rfl) ?_)
 refine DW.seq (DW.seq (DW.regJ (sl2 := [(0, rr 0), (1, pI p1), (19, pB ((decide (p0.atF ≥ ((p0.l.length : Nat) : Int))) || (decide (p1 < 1))))]) (ob2 := [(0, bx (pm (encDice p0)))]) ?_ ?_))
 ·
  rcases bt (decide (p0.atF ≥ ((p0.l.length : Nat) : Int))) with h1 | h1
  ·
   exact RT hnt (nn 11 (sk 2 (pT :: []))) [(19, pB true)] (an3 h1 trivial) (by kernel_rfl) (.cons rfl (.of_eq (by rw [h1]; try rfl)) .nil)
  ·
   exact RT hnt (nn 13 (pF :: [])) [(19, pB (decide (p1 < 1)))] (an3 h1 trivial) (by kernel_rfl) (.cons rfl (.of_eq (by rw [h1]; try rfl)) .nil)
 ·
  refine DW.cond ((decide (p0.atF ≥ ((p0.l.length : Nat) : Int))) || (decide (p1 < 1))) rfl rfl ?_ ?_
  ·
   intro h2
   replace hm := if_t h2 hm
   refine DW.seq (RK hnt (.no :: []) [(4, pI 0)] [(0, bx (pm (encDice p0)))] trivial (by kernel_rfl) ?_)
   refine DW.ret ?_
   obtain rfl := Option.some.inj hm
   refine retOK (bs' := [.box (pm (encDice p0))]) [] (pI 0) (by kernel_rfl) ?_ ?_
   · rfl
   · rfl
  ·
   intro h2
   replace hm := if_f h2 hm
   refine DW.skip ?_
   refine DW.seq (RK hnt (nn 8 []) [(0, rr 0), (1, pI p1)] [(0, bx [.p (slI p0.l), pI (w64 (p0.atF + 1))])] trivial (by kernel_rfl) ?_)
   obtain ⟨g3, hm⟩ := guard_open hm
   obtain ⟨g4, hm⟩ := guard_open hm
   refine DW.seq (RK hnt (nn 14 []) [(1, pI p1), (5, pI (Int.tmod (p0.l.getD (Int.toNat (w64 ((w64 (p0.atF + 1)) - 1))) 0) p1))] [(0, bx [.p (slI p0.l), pI (w64 (p0.atF + 1))])] (an g3.1 (an g3.2 (an g4 trivial))) (by kernel_rfl) ?_)
   refine DW.seq (DW.seq (RK hnt (nn 2 []) [(1, pI p1), (5, pI (Int.tmod (p0.l.getD (Int.toNat (w64 ((w64 (p0.atF + 1)) - 1))) 0) p1)), (41, pB (decide ((Int.tmod (p0.l.getD (Int.toNat (w64 ((w64 (p0.atF + 1)) - 1))) 0) p1) < 0)))] [(0, bx [.p (slI p0.l), pI (w64 (p0.atF + 1))])] trivial (by kernel_rfl) ?_))
   refine DW.join (ι := Int) (fun (y1 : Int) => mkSt [(5, pI y1)] [(0, bx [.p (slI p0.l), pI (w64 (p0.atF + 1))])]) (fun y1 => (Next_Dice_madeJ1 p0) y1 = some RES) ?_ ?_
   ·
    intro y1 hm
    unfold Next_Dice_madeJ1 at hm
    refine DW.seq (RK hnt (nn 2 []) [(4, pI y1)] [(0, bx [.p (slI p0.l), pI (w64 (p0.atF + 1))])] trivial (by kernel_rfl) ?_)
    refine DW.ret ?_
    obtain rfl := Option.some.inj hm
    refine retOK (bs' := [.box [.p (slI p0.l), pI (w64 (p0.atF + 1))]]) [] (pI y1) (by kernel_rfl) ?_ ?_
    · rfl
    · rfl
   ·
    refine DW.cond (decide ((Int.tmod (p0.l.getD (Int.toNat (w64 ((w64 (p0.atF + 1)) - 1))) 0) p1) < 0)) rfl rfl ?_ ?_
    ·
     intro h5
     replace hm := if_t h5 hm
     refine RK hnt (nn 4 []) [(5, pI (w64 ((Int.tmod (p0.l.getD (Int.toNat (w64 ((w64 (p0.atF + 1)) - 1))) 0) p1) + p1)))] [(0, bx [.p (slI p0.l), pI (w64 (p0.atF + 1))])] trivial (by kernel_rfl) ?_
     exact joinDone (w64 ((Int.tmod (p0.l.getD (Int.toNat (w64 ((w64 (p0.atF + 1)) - 1))) 0) p1) + p1)) hm .refl
    ·
     intro h5
     replace hm := if_f h5 hm
     refine DW.skip ?_
     exact joinDone (Int.tmod (p0.l.getD (Int.toNat (w64 ((w64 (p0.atF + 1)) - 1))) 0) p1) hm (Conv.tp [] [] (by kernel_rfl) .nil .nil)

theorem Name_Dice_madeSpec (p0 : Dice) (RES : ByteArray × Dice) (hm : Name_Dice_made p0 = some RES) : Spec Try.prog 57 [rr 0] [.box (pm (encDice p0))] (pS RES.1) [.box (pm (encDice RES.2))] [] := by
 unfold Name_Dice_made at hm
 refine spec_of Tgood (T := Tt) Try.func57 (by decide) (c := _) rfl rfl (sl := [(0, rr 0)]) (ob := [(0, bx (pm (encDice p0)))]) (Nat.le_of_ble_eq_true rfl) (Nat.le_of_ble_eq_true rfl) (by kernel_rfl) (by kernel_rfl) ?_
 intro cx hnt
 refine DW.start ?_
 refine DW.seq (RK hnt (.no :: []) [(0, rr 0)] [(0, bx (pm (encDice p0)))] trivial (by kernel_rfl) ?_)
 obtain ⟨r3, hr3, hm⟩ := bind_open hm
 obtain ⟨g4, hm⟩ := guard_open hm
 obtain ⟨g5, hm⟩ := guard_open hm
 refine DW.seq (RK hnt (.asR (ow 1024 [(bs [97]), (bs [98]), (bs [99]), (bs [119, 101, 98]), (bs [100, 98, 45, 49]), (bs [88, 95, 57])].length) [(bs [97]), (bs [98]), (bs [99]), (bs [119, 101, 98]), (bs [100, 98, 45, 49]), (bs [88, 95, 57])].length (elems encS ByteArray.empty [(bs [97]), (bs [98]), (bs [99]), (bs [119, 101, 98]), (bs [100, 98, 45, 49]), (bs [88, 95, 57])]) :: .no :: .call 15 [0] true (pI r3.1) [.box (pm (encDice r3.2))] [] :: nn 3 []) [(2, pS ([(bs [97]), (bs [98]), (bs [99]), (bs [119, 101, 98]), (bs [100, 98, 45, 49]), (bs [88, 95, 57])].getD (Int.toNat r3.1) ByteArray.empty))] [(0, bx (pm (encDice r3.2)))] (an (congrArg (MV.own 1024 0 0) (RowIs.asP (enc := encS) (d := ByteArray.empty) (L := [(bs [97]), (bs [98]), (bs [99]), (bs [119, 101, 98]), (bs [100, 98, 45, 49]), (bs [88, 95, 57])]) (RowIs.lit (enc := encS) (d := ByteArray.empty) (n := 6) (f := (cut 1 [vs (bs [97]), vs (bs [98]), vs (bs [99]), vs (bs [119, 101, 98]), vs (bs [100, 98, 45, 49]), vs (bs [88, 95, 57])])) [(bs [97]), (bs [98]), (bs [99]), (bs [119, 101, 98]), (bs [100, 98, 45, 49]), (bs [88, 95, 57])] rfl (fun | 0, _ => rfl | 1, _ => rfl | 2, _ => rfl | 3, _ => rfl | 4, _ => rfl | 5, _ => rfl | n + 6, h => absurd h (by omega)))).1) (an (RowIs.asP (enc := encS) (d := ByteArray.empty) (L := [(bs [97]), (bs [98]), (bs [99]), (bs [119, 101, 98]), (bs [100, 98, 45, 49]), (bs [88, 95, 57])]) (RowIs.lit (enc := encS) (d := ByteArray.empty) (n := 6) (f := (cut 1 [vs (bs [97]), vs (bs [98]), vs (bs [99]), vs (bs [119, 101, 98]), vs (bs [100, 98, 45, 49]), vs (bs [88, 95, 57])])) [(bs [97]), (bs [98]), (bs [99]), (bs [119, 101, 98]), (bs [100, 98, 45, 49]), (bs [88, 95, 57])] rfl (fun | 0, _ => rfl | 1, _ => rfl | 2, _ => rfl | 3, _ => rfl | 4, _ => rfl | 5, _ => rfl | n + 6, h => absurd h (by omega)))) (an (Next_Dice_madeSpec p0 6 r3 hr3) (an trivial (an g4.1 (an g4.2 (an g5 trivial))))))) (by kernel_rfl) ?_)
 refine DW.ret ?_
 obtain rfl := Option.some.inj hm
 refine retOK (bs' := [.box (pm (encDice r3.2))]) [] (pS ([(bs [97]), (bs [98]), (bs [99]), (bs [119, 101, 98]), (bs [100, 98, 45, 49]), (bs [88, 95, 57])].getD (Int.toNat r3.1) ByteArray.empty)) (by kernel_rfl) ?_ ?_
 · rfl
 · rfl

theorem Valid_ref1Spec (p0 : ByteArray) (RES : Bool) (hm : Valid_ref1 p0 = some RES) : Spec Try.prog 77 [pS p0] [] (pB RES) [] [] := by
 unfold Valid_ref1 at hm
 refine spec_of Tgood (T := Tt) Try.func77 (by decide) (c := _) rfl rfl (sl := [(0, pS p0)]) (ob := []) (Nat.le_of_ble_eq_true rfl) (Nat.le_of_ble_eq_true rfl) (by kernel_rfl) (by kernel_rfl) ?_
 intro cx hnt
 refine DW.start ?_
 refine DW.seq (RK hnt (.no :: []) [(0, pS p0)] [] trivial (by kernel_rfl) ?_)
 refine DW.seq (DW.seq ?_)
 refine DW.join (ι := Bool) (fun (y1 : Bool) => mkSt [(0, pS p0), (17, pB y1)] []) (fun y1 => (Valid_ref1J1 p0) y1 = some RES) ?_ ?_
 ·
  intro y1 hm
  unfold Valid_ref1J1 at hm
  refine DW.cond y1 rfl rfl ?_ ?_
  ·
   intro h4
   replace hm := if_t h4 hm
   refine DW.seq (RK hnt (.no :: []) [(2, pB false)] [] trivial (by kernel_rfl) ?_)
   refine DW.ret ?_
   obtain rfl := Option.some.inj hm
   refine retOK (bs' := []) [] (pB false) (by kernel_rfl) ?_ ?_
   · rfl
   · rfl
  ·
   intro h4
   replace hm := if_f h4 hm
   refine DW.skip ?_
   refine DW.seq (DW.seq (RK hnt (.no :: []) [(0, pS p0), (3, pI 0)] [] trivial (by kernel_rfl) ?_))
   refine DW.block ?_
   obtain ⟨hc1, hm⟩ := guard_open hm
   refine DW.forO (fun (k1 : Int) (s1 : Unit) => mkSt [(0, pS p0), (3, pI k1)] []) (lo := 0) (hi := ((p0.size : Nat) : Int)) hm .refl ?_
   intro k1 s1 n1 hk1 hs1 he1
   refine DW.seq (DW.seq (RK hnt (nn 4 []) [(0, pS p0), (3, pI k1), (21, pB (decide (k1 < ((p0.size : Nat) : Int))))] [] trivial (by kernel_rfl) ?_))
   refine DW.cond (decide (k1 < ((p0.size : Nat) : Int))) rfl rfl ?_ ?_
   ·
    intro h55
    have hlt1 : k1 < ((p0.size : Nat) : Int) := by have := of_decide_eq_true h55; omega
    have hm := hs1 hlt1
    unfold Valid_ref1L1 at hm
    refine DW.skip ?_
    refine DW.seq (DW.block ?_)
    obtain ⟨g56, hm⟩ := guard_open hm
    refine DW.seq (RK hnt (nn 4 []) [(0, pS p0), (3, pI k1), (4, .p (vk .u8 (((byteAt p0 (Int.toNat k1)) : Nat) : Int)))] [] (an g56.1 (an g56.2 trivial)) (by kernel_rfl) ?_)
    refine DW.seq (DW.regJ (sl2 := [(0, pS p0), (3, pI k1), (57, pB (!((((((decide ((((byteAt p0 (Int.toNat k1)) : Nat) : Int) ≥ 97)) && (decide ((((byteAt p0 (Int.toNat k1)) : Nat) : Int) ≤ 122))) || ((decide ((((byteAt p0 (Int.toNat k1)) : Nat) : Int) ≥ 65)) && (decide ((((byteAt p0 (Int.toNat k1)) : Nat) : Int) ≤ 90)))) || ((decide ((((byteAt p0 (Int.toNat k1)) : Nat) : Int) ≥ 48)) && (decide ((((byteAt p0 (Int.toNat k1)) : Nat) : Int) ≤ 57)))) || ((((byteAt p0 (Int.toNat k1)) : Nat) : Int) == 95)) || ((((byteAt p0 (Int.toNat k1)) : Nat) : Int) == 45))))]) (ob2 := []) ?_ ?_)
    ·
     rcases bt (decide ((((byteAt p0 (Int.toNat k1)) : Nat) : Int) ≥ 97)) with h57 | h57
     ·
      rcases bt (decide ((((byteAt p0 (Int.toNat k1)) : Nat) : Int) ≤ 122)) with h58 | h58
      ·
       exact RT hnt (nn 5 (pT :: .no :: sk 6 (pT :: .no :: sk 6 (pT :: .no :: sk 2 (pT :: .no :: sk 2 (pT :: .no :: [])))))) [(57, pB false)] (an3 h57 (an5 h58 (an5 tt (an6 tt trivial)))) (by kernel_rfl) (.cons rfl (.of_eq (by rw [h57, h58]; try rfl)) .nil)
      ·
       rcases bt (decide ((((byteAt p0 (Int.toNat k1)) : Nat) : Int) ≥ 65)) with h59 | h59
       ·
        rcases bt (decide ((((byteAt p0 (Int.toNat k1)) : Nat) : Int) ≤ 90)) with h60 | h60
        ·
         exact RT hnt (nn 5 (pT :: nn 6 (pT :: pF :: .no :: sk 6 (pT :: .no :: sk 2 (pT :: .no :: sk 2 (pT :: .no :: [])))))) [(57, pB false)] (an3 h57 (an3 h58 (an2 h59 (an h58 (an h59 (an h58 (an5 h60 (an6 tt trivial)))))))) (by kernel_rfl) (.cons rfl (.of_eq (by rw [h57, h58, h59, h60]; try rfl)) .nil)
        ·
         rcases bt (decide ((((byteAt p0 (Int.toNat k1)) : Nat) : Int) ≥ 48)) with h61 | h61
         ·
          rcases bt (decide ((((byteAt p0 (Int.toNat k1)) : Nat) : Int) ≤ 57)) with h62 | h62
          ·
           exact RT hnt (nn 5 (pT :: nn 6 (pT :: pF :: nn 6 (pT :: pF :: .no :: sk 2 (pT :: .no :: sk 2 (pT :: .no :: [])))))) [(57, pB false)] (an3 h57 (an3 h58 (an2 h59 (an h58 (an h59 (an h58 (an3 h60 (an2 h61 (an h60 (an h61 (an h60 (an3 h62 (an3 tt trivial))))))))))))) (by kernel_rfl) (.cons rfl (.of_eq (by rw [h57, h58, h59, h60, h61, h62]; try rfl)) .nil)
          ·
           rcases bt ((((byteAt p0 (Int.toNat k1)) : Nat) : Int) == 95) with h63 | h63
           ·
            exact RT hnt (nn 5 (pT :: nn 6 (pT :: pF :: nn 6 (pT :: pF :: nn 3 (pF :: .no :: sk 2 (pT :: .no :: [])))))) [(57, pB false)] (an3 h57 (an3 h58 (an2 h59 (an h58 (an h59 (an h58 (an3 h60 (an2 h61 (an h60 (an h61 (an h60 (an3 h62 (an3 h63 trivial))))))))))))) (by kernel_rfl) (.cons rfl (.of_eq (by rw [h57, h58, h59, h60, h61, h62, h63]; try rfl)) .nil)
           ·
            exact RT hnt (nn 5 (pT :: nn 6 (pT :: pF :: nn 6 (pT :: pF :: nn 3 (pF :: nn 3 (pF :: .no :: [])))))) [(57, pB (!((((byteAt p0 (Int.toNat k1)) : Nat) : Int) == 45)))] (an3 h57 (an3 h58 (an2 h59 (an h58 (an h59 (an h58 (an3 h60 (an2 h61 (an h60 (an h61 (an h60 (an3 h62 (an3 h63 trivial))))))))))))) (by kernel_rfl) (.cons rfl (.of_eq (by rw [h57, h58, h59, h60, h61, h62, h63]; try rfl)) .nil)
         ·
          rcases bt ((((byteAt p0 (Int.toNat k1)) : Nat) : Int) == 95) with h64 | h64
          ·
           exact RT hnt (nn 5 (pT :: nn 6 (pT :: pF :: nn 4 (sk 2 (pF :: pF :: nn 3 (pF :: .no :: sk 2 (pT :: .no :: []))))))) [(57, pB false)] (an3 h57 (an3 h58 (an2 h59 (an h58 (an h59 (an h58 (an3 h60 (an2 h61 (an h60 (an h61 (an h60 (an3 ff (an3 h64 trivial))))))))))))) (by kernel_rfl) (.cons rfl (.of_eq (by rw [h57, h58, h59, h60, h61, h64]; try rfl)) .nil)
          ·
           exact RT hnt (nn 5 (pT :: nn 6 (pT :: pF :: nn 4 (sk 2 (pF :: pF :: nn 3 (pF :: nn 3 (pF :: .no :: []))))))) [(57, pB (!((((byteAt p0 (Int.toNat k1)) : Nat) : Int) == 45)))] (an3 h57 (an3 h58 (an2 h59 (an h58 (an h59 (an h58 (an3 h60 (an2 h61 (an h60 (an h61 (an h60 (an3 ff (an3 h64 trivial))))))))))))) (by kernel_rfl) (.cons rfl (.of_eq (by rw [h57, h58, h59, h60, h61, h64]; try rfl)) .nil)
       ·
        rcases bt (decide ((((byteAt p0 (Int.toNat k1)) : Nat) : Int) ≥ 48)) with h65 | h65
        ·
         rcases bt (decide ((((byteAt p0 (Int.toNat k1)) : Nat) : Int) ≤ 57)) with h66 | h66
         ·
          exact RT hnt (nn 5 (pT :: nn 4 (sk 2 (pF :: pF :: nn 6 (pT :: pF :: .no :: sk 2 (pT :: .no :: sk 2 (pT :: .no :: []))))))) [(57, pB false)] (an3 h57 (an3 h58 (an2 h59 (an h58 (an h59 (an h58 (an3 ff (an2 h65 (an ff (an h65 (an ff (an3 h66 (an3 tt trivial))))))))))))) (by kernel_rfl) (.cons rfl (.of_eq (by rw [h57, h58, h59, h65, h66]; try rfl)) .nil)
         ·
          rcases bt ((((byteAt p0 (Int.toNat k1)) : Nat) : Int) == 95) with h67 | h67
          ·
           exact RT hnt (nn 5 (pT :: nn 4 (sk 2 (pF :: pF :: nn 6 (pT :: pF :: nn 3 (pF :: .no :: sk 2 (pT :: .no :: []))))))) [(57, pB false)] (an3 h57 (an3 h58 (an2 h59 (an h58 (an h59 (an h58 (an3 ff (an2 h65 (an ff (an h65 (an ff (an3 h66 (an3 h67 trivial))))))))))))) (by kernel_rfl) (.cons rfl (.of_eq (by rw [h57, h58, h59, h65, h66, h67]; try rfl)) .nil)
          ·
           exact RT hnt (nn 5 (pT :: nn 4 (sk 2 (pF :: pF :: nn 6 (pT :: pF :: nn 3 (pF :: nn 3 (pF :: .no :: []))))))) [(57, pB (!((((byteAt p0 (Int.toNat k1)) : Nat) : Int) == 45)))] (an3 h57 (an3 h58 (an2 h59 (an h58 (an h59 (an h58 (an3 ff (an2 h65 (an ff (an h65 (an ff (an3 h66 (an3 h67 trivial))))))))))))) (by kernel_rfl) (.cons rfl (.of_eq (by rw [h57, h58, h59, h65, h66, h67]; try rfl)) .nil)
        ·
         rcases bt ((((byteAt p0 (Int.toNat k1)) : Nat) : Int) == 95) with h68 | h68
         ·
          exact RT hnt (nn 5 (pT :: nn 4 (sk 2 (pF :: pF :: nn 4 (sk 2 (pF :: pF :: nn 3 (pF :: .no :: sk 2 (pT :: .no :: [])))))))) [(57, pB false)] (an3 h57 (an3 h58 (an2 h59 (an h58 (an h59 (an h58 (an3 ff (an2 h65 (an ff (an h65 (an4 ff (an3 h68 trivial)))))))))))) (by kernel_rfl) (.cons rfl (.of_eq (by rw [h57, h58, h59, h65, h68]; try rfl)) .nil)
         ·
          exact RT hnt (nn 5 (pT :: nn 4 (sk 2 (pF :: pF :: nn 4 (sk 2 (pF :: pF :: nn 3 (pF :: nn 3 (pF :: .no :: [])))))))) [(57, pB (!((((byteAt p0 (Int.toNat k1)) : Nat) : Int) == 45)))] (an3 h57 (an3 h58 (an2 h59 (an h58 (an h59 (an h58 (an3 ff (an2 h65 (an ff (an h65 (an4 ff (an3 h68 trivial)))))))))))) (by kernel_rfl) (.cons rfl (.of_eq (by rw [h57, h58, h59, h65, h68]; try rfl)) .nil)
     ·
      rcases bt (decide ((((byteAt p0 (Int.toNat k1)) : Nat) : Int) ≥ 65)) with h69 | h69
      ·
       rcases bt (decide ((((byteAt p0 (Int.toNat k1)) : Nat) : Int) ≤ 90)) with h70 | h70
       ·
        exact RT hnt (nn 3 (sk 2 (pF :: nn 6 (pT :: pF :: .no :: sk 6 (pT :: .no :: sk 2 (pT :: .no :: sk 2 (pT :: .no :: []))))))) [(57, pB false)] (an3 h57 (an3 ff (an2 h69 (an ff (an h69 (an ff (an5 h70 (an6 tt trivial)))))))) (by kernel_rfl) (.cons rfl (.of_eq (by rw [h57, h69, h70]; try rfl)) .nil)
       ·
        rcases bt (decide ((((byteAt p0 (Int.toNat k1)) : Nat) : Int) ≥ 48)) with h71 | h71
        ·
         rcases bt (decide ((((byteAt p0 (Int.toNat k1)) : Nat) : Int) ≤ 57)) with h72 | h72
         ·
          exact RT hnt (nn 3 (sk 2 (pF :: nn 6 (pT :: pF :: nn 6 (pT :: pF :: .no :: sk 2 (pT :: .no :: sk 2 (pT :: .no :: []))))))) [(57, pB false)] (an3 h57 (an3 ff (an2 h69 (an ff (an h69 (an ff (an3 h70 (an2 h71 (an h70 (an h71 (an h70 (an3 h72 (an3 tt trivial))))))))))))) (by kernel_rfl) (.cons rfl (.of_eq (by rw [h57, h69, h70, h71, h72]; try rfl)) .nil)
         ·
          rcases bt ((((byteAt p0 (Int.toNat k1)) : Nat) : Int) == 95) with h73 | h73
          ·
           exact RT hnt (nn 3 (sk 2 (pF :: nn 6 (pT :: pF :: nn 6 (pT :: pF :: nn 3 (pF :: .no :: sk 2 (pT :: .no :: []))))))) [(57, pB false)] (an3 h57 (an3 ff (an2 h69 (an ff (an h69 (an ff (an3 h70 (an2 h71 (an h70 (an h71 (an h70 (an3 h72 (an3 h73 trivial))))))))))))) (by kernel_rfl) (.cons rfl (.of_eq (by rw [h57, h69, h70, h71, h72, h73]; try rfl)) .nil)
          ·
           exact RT hnt (nn 3 (sk 2 (pF :: nn 6 (pT :: pF :: nn 6 (pT :: pF :: nn 3 (pF :: nn 3 (pF :: .no :: []))))))) [(57, pB (!((((byteAt p0 (Int.toNat k1)) : Nat) : Int) == 45)))] (an3 h57 (an3 ff (an2 h69 (an ff (an h69 (an ff (an3 h70 (an2 h71 (an h70 (an h71 (an h70 (an3 h72 (an3 h73 trivial))))))))))))) (by kernel_rfl) (.cons rfl (.of_eq (by rw [h57, h69, h70, h71, h72, h73]; try rfl)) .nil)
        ·
         rcases bt ((((byteAt p0 (Int.toNat k1)) : Nat) : Int) == 95) with h74 | h74
         ·
          exact RT hnt (nn 3 (sk 2 (pF :: nn 6 (pT :: pF :: nn 4 (sk 2 (pF :: pF :: nn 3 (pF :: .no :: sk 2 (pT :: .no :: [])))))))) [(57, pB false)] (an3 h57 (an3 ff (an2 h69 (an ff (an h69 (an ff (an3 h70 (an2 h71 (an h70 (an h71 (an h70 (an3 ff (an3 h74 trivial))))))))))))) (by kernel_rfl) (.cons rfl (.of_eq (by rw [h57, h69, h70, h71, h74]; try rfl)) .nil)
         ·
          exact RT hnt (nn 3 (sk 2 (pF :: nn 6 (pT :: pF :: nn 4 (sk 2 (pF :: pF :: nn 3 (pF :: nn 3 (pF :: .no :: [])))))))) [(57, pB (!((((byteAt p0 (Int.toNat k1)) : Nat) : Int) == 45)))] (an3 h57 (an3 ff (an2 h69 (an ff (an h69 (an ff (an3 h70 (an2 h71 (an h70 (an h71 (an h70 (an3 ff (an3 h74 trivial))))))))))))) (by kernel_rfl) (.cons rfl (.of_eq (by rw [h57, h69, h70, h71, h74]; try rfl)) .nil)
      ·
       rcases bt (decide ((((byteAt p0 (Int.toNat k1)) : Nat) : Int) ≥ 48)) with h75 | h75
       ·
        rcases bt (decide ((((byteAt p0 (Int.toNat k1)) : Nat) : Int) ≤ 57)) with h76 | h76
        ·
         exact RT hnt (nn 3 (sk 2 (pF :: nn 4 (sk 2 (pF :: pF :: nn 6 (pT :: pF :: .no :: sk 2 (pT :: .no :: sk 2 (pT :: .no :: [])))))))) [(57, pB false)] (an3 h57 (an3 ff (an2 h69 (an ff (an h69 (an4 ff (an2 h75 (an ff (an h75 (an ff (an3 h76 (an3 tt trivial)))))))))))) (by kernel_rfl) (.cons rfl (.of_eq (by rw [h57, h69, h75, h76]; try rfl)) .nil)
        ·
         rcases bt ((((byteAt p0 (Int.toNat k1)) : Nat) : Int) == 95) with h77 | h77
         ·
          exact RT hnt (nn 3 (sk 2 (pF :: nn 4 (sk 2 (pF :: pF :: nn 6 (pT :: pF :: nn 3 (pF :: .no :: sk 2 (pT :: .no :: [])))))))) [(57, pB false)] (an3 h57 (an3 ff (an2 h69 (an ff (an h69 (an4 ff (an2 h75 (an ff (an h75 (an ff (an3 h76 (an3 h77 trivial)))))))))))) (by kernel_rfl) (.cons rfl (.of_eq (by rw [h57, h69, h75, h76, h77]; try rfl)) .nil)
         ·
          exact RT hnt (nn 3 (sk 2 (pF :: nn 4 (sk 2 (pF :: pF :: nn 6 (pT :: pF :: nn 3 (pF :: nn 3 (pF :: .no :: [])))))))) [(57, pB (!((((byteAt p0 (Int.toNat k1)) : Nat) : Int) == 45)))] (an3 h57 (an3 ff (an2 h69 (an ff (an h69 (an4 ff (an2 h75 (an ff (an h75 (an ff (an3 h76 (an3 h77 trivial)))))))))))) (by kernel_rfl) (.cons rfl (.of_eq (by rw [h57, h69, h75, h76, h77]; try rfl)) .nil)
       ·
        rcases bt ((((byteAt p0 (Int.toNat k1)) : Nat) : Int) == 95) with h78 | h78
        ·
         exact RT hnt (nn 3 (sk 2 (pF :: nn 4 (sk 2 (pF :: pF :: nn 4 (sk 2 (pF :: pF :: nn 3 (pF :: .no :: sk 2 (pT :: .no :: []))))))))) [(57, pB false)] (an3 h57 (an3 ff (an2 h69 (an ff (an h69 (an4 ff (an2 h75 (an ff (an h75 (an4 ff (an3 h78 trivial))))))))))) (by kernel_rfl) (.cons rfl (.of_eq (by rw [h57, h69, h75, h78]; try rfl)) .nil)
        ·
         exact RT hnt (nn 3 (sk 2 (pF :: nn 4 (sk 2 (pF :: pF :: nn 4 (sk 2 (pF :: pF :: nn 3 (pF :: nn 3 (pF :: .no :: []))))))))) [(57, pB (!((((byteAt p0 (Int.toNat k1)) : Nat) : Int) == 45)))] (an3 h57 (an3 ff (an2 h69 (an ff (an h69 (an4 ff (an2 h75 (an ff (an h75 (an4 ff (an3 h78 trivial))))))))))) (by kernel_rfl) (.cons rfl (.of_eq (by rw [h57, h69, h75, h78]; try rfl)) .nil)
    ·
     refine DW.cond (!((((((decide ((((byteAt p0 (Int.toNat k1)) : Nat) : Int) ≥ 97)) && (decide ((((byteAt p0 (Int.toNat k1)) : Nat) : Int) ≤ 122))) || ((decide ((((byteAt p0 (Int.toNat k1)) : Nat) : Int) ≥ 65)) && (decide ((((byteAt p0 (Int.toNat k1)) : Nat) : Int) ≤ 90)))) || ((decide ((((byteAt p0 (Int.toNat k1)) : Nat) : Int) ≥ 48)) && (decide ((((byteAt p0 (Int.toNat k1)) : Nat) : Int) ≤ 57)))) || ((((byteAt p0 (Int.toNat k1)) : Nat) : Int) == 95)) || ((((byteAt p0 (Int.toNat k1)) : Nat) : Int) == 45))) rfl rfl ?_ ?_
     ·
      intro h79
      replace hm := if_t h79 hm
      refine DW.seq (RK hnt (.no :: []) [(2, pB false)] [] trivial (by kernel_rfl) ?_)
      refine DW.ret ?_
      obtain rfl := Option.some.inj hm
      refine retOK (bs' := []) [] (pB false) (by kernel_rfl) ?_ ?_
      · rfl
      · rfl
     ·
      intro h79
      replace hm := if_f h79 hm
      refine DW.skip ?_
      refine DW.done ?_
      show DW _ _ _ _ _
      refine RK hnt (nn 3 []) [(0, pS p0), (3, pI (w64 (k1 + 1)))] [] trivial (by kernel_rfl) ?_
      exact joinDone () ⟨hlt1, hm⟩ (Conv.tp [(3, pI (w64 (k1 + 1)))] [] (by kernel_rfl) (.cons rfl (.of_eq (congrArg pI (w64_for (lo := 0) (hi := ((p0.size : Nat) : Int)) (by omega) hk1 hlt1 (by omega)))) .nil) .nil)
   ·
    intro h55
    have hge1 : ¬ k1 < ((p0.size : Nat) : Int) := by have := of_decide_eq_false h55; omega
    have hm := he1 hge1
    unfold Valid_ref1D1 at hm
    refine DW.exit ?_
    refine joinQ_exit ?_
    refine KQ_exit ?_
    refine blockQ_exit ?_
    show DW _ _ _ _ _
    refine DW.seq (RK hnt (.no :: []) [(2, pB true)] [] trivial (by kernel_rfl) ?_)
    refine DW.ret ?_
    obtain rfl := Option.some.inj hm
    refine retOK (bs' := []) [] (pB true) (by kernel_rfl) ?_ ?_
    · rfl
    · rfl
 ·
  rcases bt (((p0.size : Nat) : Int) == 0) with h1 | h1
  ·
   replace hm := if_t h1 hm
   refine RK hnt (nn 4 (sk 3 (pT :: .no :: sk 3 (pT :: [])))) [(0, pS p0), (17, pB true)] [] (an4 h1 (an4 tt trivial)) (by kernel_rfl) ?_
   exact joinDone true hm .refl
  ·
   replace hm := if_f h1 hm
   rcases bt (decide (((p0.size : Nat) : Int) > 32)) with h2 | h2
   ·
    replace hm := if_t h2 hm
    refine RK hnt (nn 7 (pF :: .no :: sk 3 (pT :: []))) [(0, pS p0), (17, pB true)] [] (an4 h1 (an4 h2 trivial)) (by kernel_rfl) ?_
    exact joinDone true hm .refl
   ·
    replace hm := if_f h2 hm
    obtain ⟨g3, hm⟩ := guard_open hm
    refine RK hnt (nn 7 (pF :: nn 4 (pF :: []))) [(0, pS p0), (17, pB ((((byteAt p0 0) : Nat) : Int) == 45))] [] (an4 h1 (an2 h2 (an (nn0 0) (an (ltc g3) (an2 h2 trivial))))) (by kernel_rfl) ?_
    exact joinDone ((((byteAt p0 0) : Nat) : Int) == 45) hm .refl

theorem node_ref5Spec (p0 : Tree) (p1 : Int) (RES : Bool) (hm : node_ref5 p0 p1 = some RES) : Spec Try.prog 76 [.p (.agg (encTree p0)), pI p1] [] (pB RES) [] [] := by
 unfold node_ref5 at hm
 refine spec_of Tgood (T := Tt) Try.func76 (by decide) (c := _) rfl rfl (sl := [(0, .p (.agg (encTree p0))), (1, pI p1)]) (ob := []) (Nat.le_of_ble_eq_true rfl) (Nat.le_of_ble_eq_true rfl) (by kernel_rfl) (by kernel_rfl) ?_
 intro cx hnt
 refine DW.start ?_
 refine DW.seq (RK hnt (nn 2 []) [(1, pI p1), (2, rr 1016)] [(1016, bx (pm (encTree p0)))] trivial (by kernel_rfl) ?_)
 obtain ⟨g1, hm⟩ := guard_open hm
 refine DW.seq (RK hnt (nn 7 []) [(1, pI p1), (2, rr 1016), (5, rr 1040)] [(1016, bx (pm (encTree p0))), (1040, bx (pm (encNode (p0.nodes.getD (Int.toNat p1) dNode))))] (an g1.1 (an g1.2 trivial)) (by kernel_rfl) ?_)
 refine DW.seq (DW.seq (DW.regJ (sl2 := [(1, pI p1), (2, rr 1016), (5, rr 1040), (40, pB (((((((p0.nodes.getD (Int.toNat p1) dNode).kind != 0) && ((p0.nodes.getD (Int.toNat p1) dNode).kind != 1)) || (decide ((p0.nodes.getD (Int.toNat p1) dNode).control < 0))) || (decide ((p0.nodes.getD (Int.toNat p1) dNode).control > 31))) || (decide ((p0.nodes.getD (Int.toNat p1) dNode).owner < 0))) || (decide ((p0.nodes.getD (Int.toNat p1) dNode).owner > 1048576))))]) (ob2 := [(1016, bx (pm (encTree p0))), (1040, bx (pm (encNode (p0.nodes.getD (Int.toNat p1) dNode))))]) ?_ ?_))
 ·
  rcases bt ((p0.nodes.getD (Int.toNat p1) dNode).kind != 0) with h2 | h2
  ·
   rcases bt ((p0.nodes.getD (Int.toNat p1) dNode).kind != 1) with h3 | h3
   ·
    exact RT hnt (nn 7 (pT :: .no :: sk 3 (pT :: .no :: sk 3 (pT :: .no :: sk 3 (pT :: .no :: sk 3 (pT :: [])))))) [(40, pB true)] (an4 h2 (an4 h3 (an6 tt (an6 tt trivial)))) (by kernel_rfl) (.cons rfl (.of_eq (by rw [h2, h3]; try rfl)) .nil)
   ·
    rcases bt (decide ((p0.nodes.getD (Int.toNat p1) dNode).control < 0)) with h4 | h4
    ·
     exact RT hnt (nn 7 (pT :: nn 4 (pF :: .no :: sk 3 (pT :: .no :: sk 3 (pT :: .no :: sk 3 (pT :: [])))))) [(40, pB true)] (an4 h2 (an4 h3 (an4 h4 (an2 tt (an6 tt trivial))))) (by kernel_rfl) (.cons rfl (.of_eq (by rw [h2, h3, h4]; try rfl)) .nil)
    ·
     rcases bt (decide ((p0.nodes.getD (Int.toNat p1) dNode).control > 31)) with h5 | h5
     ·
      exact RT hnt (nn 7 (pT :: nn 4 (pF :: nn 4 (pF :: .no :: sk 3 (pT :: .no :: sk 3 (pT :: [])))))) [(40, pB true)] (an4 h2 (an4 h3 (an4 h4 (an4 h5 (an4 tt trivial))))) (by kernel_rfl) (.cons rfl (.of_eq (by rw [h2, h3, h4, h5]; try rfl)) .nil)
     ·
      rcases bt (decide ((p0.nodes.getD (Int.toNat p1) dNode).owner < 0)) with h6 | h6
      ·
       exact RT hnt (nn 7 (pT :: nn 4 (pF :: nn 4 (pF :: nn 4 (pF :: .no :: sk 3 (pT :: [])))))) [(40, pB true)] (an4 h2 (an4 h3 (an4 h4 (an4 h5 (an4 h6 trivial))))) (by kernel_rfl) (.cons rfl (.of_eq (by rw [h2, h3, h4, h5, h6]; try rfl)) .nil)
      ·
       exact RT hnt (nn 7 (pT :: nn 4 (pF :: nn 4 (pF :: nn 4 (pF :: nn 4 (pF :: [])))))) [(40, pB (decide ((p0.nodes.getD (Int.toNat p1) dNode).owner > 1048576)))] (an4 h2 (an4 h3 (an4 h4 (an4 h5 (an4 h6 trivial))))) (by kernel_rfl) (.cons rfl (.of_eq (by rw [h2, h3, h4, h5, h6]; try rfl)) .nil)
  ·
   rcases bt (decide ((p0.nodes.getD (Int.toNat p1) dNode).control < 0)) with h7 | h7
   ·
    exact RT hnt (nn 4 (sk 3 (pF :: nn 4 (pF :: .no :: sk 3 (pT :: .no :: sk 3 (pT :: .no :: sk 3 (pT :: []))))))) [(40, pB true)] (an4 h2 (an4 ff (an4 h7 (an2 tt (an6 tt trivial))))) (by kernel_rfl) (.cons rfl (.of_eq (by rw [h2, h7]; try rfl)) .nil)
   ·
    rcases bt (decide ((p0.nodes.getD (Int.toNat p1) dNode).control > 31)) with h8 | h8
    ·
     exact RT hnt (nn 4 (sk 3 (pF :: nn 4 (pF :: nn 4 (pF :: .no :: sk 3 (pT :: .no :: sk 3 (pT :: []))))))) [(40, pB true)] (an4 h2 (an4 ff (an4 h7 (an4 h8 (an4 tt trivial))))) (by kernel_rfl) (.cons rfl (.of_eq (by rw [h2, h7, h8]; try rfl)) .nil)
    ·
     rcases bt (decide ((p0.nodes.getD (Int.toNat p1) dNode).owner < 0)) with h9 | h9
     ·
      exact RT hnt (nn 4 (sk 3 (pF :: nn 4 (pF :: nn 4 (pF :: nn 4 (pF :: .no :: sk 3 (pT :: []))))))) [(40, pB true)] (an4 h2 (an4 ff (an4 h7 (an4 h8 (an4 h9 trivial))))) (by kernel_rfl) (.cons rfl (.of_eq (by rw [h2, h7, h8, h9]; try rfl)) .nil)
     ·
      exact RT hnt (nn 4 (sk 3 (pF :: nn 4 (pF :: nn 4 (pF :: nn 4 (pF :: nn 4 (pF :: []))))))) [(40, pB (decide ((p0.nodes.getD (Int.toNat p1) dNode).owner > 1048576)))] (an4 h2 (an4 ff (an4 h7 (an4 h8 (an4 h9 trivial))))) (by kernel_rfl) (.cons rfl (.of_eq (by rw [h2, h7, h8, h9]; try rfl)) .nil)
 ·
  refine DW.cond (((((((p0.nodes.getD (Int.toNat p1) dNode).kind != 0) && ((p0.nodes.getD (Int.toNat p1) dNode).kind != 1)) || (decide ((p0.nodes.getD (Int.toNat p1) dNode).control < 0))) || (decide ((p0.nodes.getD (Int.toNat p1) dNode).control > 31))) || (decide ((p0.nodes.getD (Int.toNat p1) dNode).owner < 0))) || (decide ((p0.nodes.getD (Int.toNat p1) dNode).owner > 1048576))) rfl rfl ?_ ?_
  ·
   intro h10
   replace hm := if_t h10 hm
   refine DW.seq (RK hnt (.no :: []) [(4, pB false)] [] trivial (by kernel_rfl) ?_)
   refine DW.ret ?_
   obtain rfl := Option.some.inj hm
   refine retOK (bs' := []) [] (pB false) (by kernel_rfl) ?_ ?_
   · rfl
   · rfl
  ·
   intro h10
   replace hm := if_f h10 hm
   refine DW.skip ?_
   refine DW.seq (DW.seq (RK hnt (nn 2 []) [(1, pI p1), (2, rr 1016), (5, rr 1040), (42, pB (p1 == 0))] [(1016, bx (pm (encTree p0))), (1040, bx (pm (encNode (p0.nodes.getD (Int.toNat p1) dNode))))] trivial (by kernel_rfl) ?_))
   refine DW.cond (p1 == 0) rfl rfl ?_ ?_
   ·
    intro h11
    replace hm := if_t h11 hm
    refine DW.seq (DW.regJ (sl2 := [(4, pB (((((p0.nodes.getD (Int.toNat p1) dNode).id == 1) && ((p0.nodes.getD (Int.toNat p1) dNode).parent == 0)) && (beqS (p0.nodes.getD (Int.toNat p1) dNode).name ByteArray.empty)) && ((p0.nodes.getD (Int.toNat p1) dNode).kind == 0)))]) (ob2 := []) ?_ ?_)
    ·
     rcases bt ((p0.nodes.getD (Int.toNat p1) dNode).id == 1) with h12 | h12
     ·
      rcases bt ((p0.nodes.getD (Int.toNat p1) dNode).parent == 0) with h13 | h13
      ·
       rcases bt (beqS (p0.nodes.getD (Int.toNat p1) dNode).name ByteArray.empty) with h14 | h14
       ·
        exact RT hnt (nn 7 (pT :: nn 4 (pT :: nn 4 (pT :: .no :: [])))) [(4, pB ((p0.nodes.getD (Int.toNat p1) dNode).kind == 0))] (an4 h12 (an4 h13 (an4 h14 trivial))) (by kernel_rfl) (.cons rfl (.of_eq (by rw [h12, h13, h14]; try rfl)) .nil)
       ·
        exact RT hnt (nn 7 (pT :: nn 4 (pT :: .no :: sk 3 (pF :: .no :: [])))) [(4, pB false)] (an4 h12 (an4 h13 (an4 h14 trivial))) (by kernel_rfl) (.cons rfl (.of_eq (by rw [h12, h13, h14]; try rfl)) .nil)
      ·
       exact RT hnt (nn 7 (pT :: .no :: sk 3 (pF :: .no :: sk 3 (pF :: .no :: [])))) [(4, pB false)] (an4 h12 (an4 h13 (an4 ff trivial))) (by kernel_rfl) (.cons rfl (.of_eq (by rw [h12, h13]; try rfl)) .nil)
     ·
      exact RT hnt (nn 4 (sk 3 (pF :: .no :: sk 3 (pF :: .no :: sk 3 (pF :: .no :: []))))) [(4, pB false)] (an4 h12 (an2 ff (an6 ff trivial))) (by kernel_rfl) (.cons rfl (.of_eq (by rw [h12]; try rfl)) .nil)
    ·
     refine DW.ret ?_
     obtain rfl := Option.some.inj hm
     refine retOK (bs' := []) [] (pB (((((p0.nodes.getD (Int.toNat p1) dNode).id == 1) && ((p0.nodes.getD (Int.toNat p1) dNode).parent == 0)) && (beqS (p0.nodes.getD (Int.toNat p1) dNode).name ByteArray.empty)) && ((p0.nodes.getD (Int.toNat p1) dNode).kind == 0))) (by kernel_rfl) ?_ ?_
     · rfl
     · rfl
   ·
    intro h11
    replace hm := if_f h11 hm
    refine DW.skip ?_
    obtain ⟨g15, hm⟩ := guard_open hm
    refine DW.seq (DW.seq ?_)
    refine DW.join (ι := Bool) (fun (y1 : Bool) => mkSt [(1, pI p1), (2, rr 1016), (5, rr 1040), (76, pB y1)] [(1016, bx (pm (encTree p0))), (1040, bx (pm (encNode (p0.nodes.getD (Int.toNat p1) dNode))))]) (fun y1 => (node_ref5J1 p0 p1) y1 = some RES) ?_ ?_
    ·
     intro y1 hm
     unfold node_ref5J1 at hm
     refine DW.cond y1 rfl rfl ?_ ?_
     ·
      intro h18
      replace hm := if_t h18 hm
      refine DW.seq (RK hnt (.no :: []) [(4, pB false)] [] trivial (by kernel_rfl) ?_)
      refine DW.ret ?_
      obtain rfl := Option.some.inj hm
      refine retOK (bs' := []) [] (pB false) (by kernel_rfl) ?_ ?_
      · rfl
      · rfl
     ·
      intro h18
      replace hm := if_f h18 hm
      refine DW.skip ?_
      refine DW.seq (RK hnt (.no :: []) [(1, pI p1), (2, rr 1016), (5, rr 1040), (6, pB false)] [(1016, bx (pm (encTree p0))), (1040, bx (pm (encNode (p0.nodes.getD (Int.toNat p1) dNode))))] trivial (by kernel_rfl) ?_)
      refine DW.seq (DW.seq (RK hnt (.no :: []) [(1, pI p1), (2, rr 1016), (5, rr 1040), (6, pB false), (7, pI 0)] [(1016, bx (pm (encTree p0))), (1040, bx (pm (encNode (p0.nodes.getD (Int.toNat p1) dNode))))] trivial (by kernel_rfl) ?_))
      refine DW.block ?_
      obtain ⟨hc1, hm⟩ := guard_open hm
      refine DW.forO (fun (k1 : Int) (s1 : Bool) => mkSt [(1, pI p1), (2, rr 1016), (5, rr 1040), (6, pB s1), (7, pI k1)] [(1016, bx (pm (encTree p0))), (1040, bx (pm (encNode (p0.nodes.getD (Int.toNat p1) dNode))))]) (lo := 0) (hi := p1) hm .refl ?_
      intro k1 s1 n1 hk1 hs1 he1
      refine DW.seq (DW.seq (RK hnt (nn 3 []) [(1, pI p1), (2, rr 1016), (5, rr 1040), (6, pB s1), (7, pI k1), (79, pB (decide (k1 < p1)))] [(1016, bx (pm (encTree p0))), (1040, bx (pm (encNode (p0.nodes.getD (Int.toNat p1) dNode))))] trivial (by kernel_rfl) ?_))
      refine DW.cond (decide (k1 < p1)) rfl rfl ?_ ?_
      ·
       intro h32
       have hlt1 : k1 < p1 := by have := of_decide_eq_true h32; omega
       have hm := hs1 hlt1
       unfold node_ref5L1 at hm
       refine DW.skip ?_
       refine DW.seq (DW.block ?_)
       refine DW.seq ?_
       refine DW.join (ι := Bool) (fun (y5 : Bool) => mkSt [(1, pI p1), (2, rr 1016), (5, rr 1040), (6, pB y5), (7, pI k1)] [(1016, bx (pm (encTree p0))), (1040, bx (pm (encNode (p0.nodes.getD (Int.toNat p1) dNode))))]) (fun y5 => (node_ref5J5 p0 p1 k1 n1) y5 = some RES) ?_ ?_
       ·
        intro y5 hm
        unfold node_ref5J5 at hm
        obtain ⟨g35, hm⟩ := guard_open hm
        refine DW.seq ?_
        refine DW.join (ι := Bool) (fun (y6 : Bool) => mkSt [(1, pI p1), (2, rr 1016), (5, rr 1040), (6, pB y5), (7, pI k1), (113, pB y6)] [(1016, bx (pm (encTree p0))), (1040, bx (pm (encNode (p0.nodes.getD (Int.toNat p1) dNode))))]) (fun y6 => (node_ref5J6 n1 y5) y6 = some RES) ?_ ?_
        ·
         intro y6 hm
         unfold node_ref5J6 at hm
         refine DW.cond y6 rfl rfl ?_ ?_
         ·
          intro h38
          replace hm := if_t h38 hm
          refine DW.seq (RK hnt (.no :: []) [(4, pB false)] [] trivial (by kernel_rfl) ?_)
          refine DW.ret ?_
          obtain rfl := Option.some.inj hm
          refine retOK (bs' := []) [] (pB false) (by kernel_rfl) ?_ ?_
          · rfl
          · rfl
         ·
          intro h38
          replace hm := if_f h38 hm
          refine DW.skip ?_
          refine DW.done ?_
          show DW _ _ _ _ _
          refine RK hnt (nn 3 []) [(1, pI p1), (2, rr 1016), (5, rr 1040), (6, pB y5), (7, pI (w64 (k1 + 1)))] [(1016, bx (pm (encTree p0))), (1040, bx (pm (encNode (p0.nodes.getD (Int.toNat p1) dNode))))] trivial (by kernel_rfl) ?_
          exact joinDone y5 ⟨hlt1, hm⟩ (Conv.tp [(7, pI (w64 (k1 + 1)))] [] (by kernel_rfl) (.cons rfl (.of_eq (congrArg pI (w64_for (lo := 0) (hi := p1) (by omega) hk1 hlt1 (by omega)))) .nil) .nil)
        ·
         rcases bt ((p0.nodes.getD (Int.toNat k1) dNode).parent == (p0.nodes.getD (Int.toNat p1) dNode).parent) with h36 | h36
         ·
          replace hm := if_t h36 hm
          obtain ⟨g37, hm⟩ := guard_open hm
          refine RK hnt (nn 19 (pT :: [])) [(1, pI p1), (2, rr 1016), (5, rr 1040), (6, pB y5), (7, pI k1), (113, pB (beqS (p0.nodes.getD (Int.toNat k1) dNode).name (p0.nodes.getD (Int.toNat p1) dNode).name))] [(1016, bx (pm (encTree p0))), (1040, bx (pm (encNode (p0.nodes.getD (Int.toNat p1) dNode))))] (an g35.1 (an g35.2 (an4 h36 (an g37.1 (an g37.2 (an6 h36 trivial)))))) (by kernel_rfl) ?_
          exact joinDone (beqS (p0.nodes.getD (Int.toNat k1) dNode).name (p0.nodes.getD (Int.toNat p1) dNode).name) hm .refl
         ·
          replace hm := if_f h36 hm
          refine RK hnt (nn 10 (sk 9 (pF :: []))) [(1, pI p1), (2, rr 1016), (5, rr 1040), (6, pB y5), (7, pI k1), (113, pB false)] [(1016, bx (pm (encTree p0))), (1040, bx (pm (encNode (p0.nodes.getD (Int.toNat p1) dNode))))] (an g35.1 (an g35.2 (an4 h36 (an6 h36 trivial)))) (by kernel_rfl) ?_
          exact joinDone false hm .refl
       ·
        rcases bt s1 with h33 | h33
        ·
         replace hm := if_t h33 hm
         refine RK hnt (nn 2 (sk 9 (pT :: .no :: []))) [(1, pI p1), (2, rr 1016), (5, rr 1040), (6, pB true), (7, pI k1)] [(1016, bx (pm (encTree p0))), (1040, bx (pm (encNode (p0.nodes.getD (Int.toNat p1) dNode))))] (an4 h33 (an6 h33 trivial)) (by kernel_rfl) ?_
         exact joinDone true hm .refl
        ·
         replace hm := if_f h33 hm
         obtain ⟨g34, hm⟩ := guard_open hm
         refine RK hnt (nn 11 (pF :: .no :: [])) [(1, pI p1), (2, rr 1016), (5, rr 1040), (6, pB ((p0.nodes.getD (Int.toNat k1) dNode).id == (p0.nodes.getD (Int.toNat p1) dNode).parent)), (7, pI k1)] [(1016, bx (pm (encTree p0))), (1040, bx (pm (encNode (p0.nodes.getD (Int.toNat p1) dNode))))] (an4 h33 (an g34.1 (an g34.2 (an6 h33 trivial)))) (by kernel_rfl) ?_
         exact joinDone ((p0.nodes.getD (Int.toNat k1) dNode).id == (p0.nodes.getD (Int.toNat p1) dNode).parent) hm .refl
      ·
       intro h32
       have hge1 : ¬ k1 < p1 := by have := of_decide_eq_false h32; omega
       have hm := he1 hge1
       unfold node_ref5D1 at hm
       refine DW.exit ?_
       refine joinQ_exit ?_
       refine KQ_exit ?_
       refine blockQ_exit ?_
       show DW _ _ _ _ _
       refine DW.seq (RK hnt (nn 2 []) [(4, pB s1)] [] trivial (by kernel_rfl) ?_)
       refine DW.ret ?_
       obtain rfl := Option.some.inj hm
       refine retOK (bs' := []) [] (pB s1) (by kernel_rfl) ?_ ?_
       · rfl
       · rfl
    ·
     rcases bt (decide ((p0.nodes.getD (Int.toNat p1) dNode).id ≤ (p0.nodes.getD (Int.toNat (w64 (p1 - 1))) dNode).id)) with h16 | h16
     ·
      replace hm := if_t h16 hm
      refine RK hnt (nn 11 (sk 4 (pT :: []))) [(1, pI p1), (2, rr 1016), (5, rr 1040), (76, pB true)] [(1016, bx (pm (encTree p0))), (1040, bx (pm (encNode (p0.nodes.getD (Int.toNat p1) dNode))))] (an g15.1 (an g15.2 (an5 h16 trivial))) (by kernel_rfl) ?_
      exact joinDone true hm .refl
     ·
      replace hm := if_f h16 hm
      obtain ⟨r17, hr17, hm⟩ := bind_open hm
      refine RK hnt (nn 13 (.call 77 [] true (pB r17) [] [] :: .no :: pF :: [])) [(1, pI p1), (2, rr 1016), (5, rr 1040), (76, pB (!r17))] [(1016, bx (pm (encTree p0))), (1040, bx (pm (encNode (p0.nodes.getD (Int.toNat p1) dNode))))] (an g15.1 (an g15.2 (an3 h16 (an (Valid_ref1Spec (p0.nodes.getD (Int.toNat p1) dNode).name r17 hr17) (an2 h16 trivial))))) (by kernel_rfl) ?_
      exact joinDone (!r17) hm .refl

theorem up_ref5Spec (p0 : Tree) (p1 : Int) (RES : List Int) (hm : up_ref5 p0 p1 = some RES) : Spec Try.prog 42 [.p (.agg (encTree p0)), pI p1] [] (ow 0 RES.length) [] [roI RES] := by
 unfold up_ref5 at hm
 refine spec_of Tgood (T := Tt) Try.func42 (by decide) (c := _) rfl rfl (sl := [(0, .p (.agg (encTree p0))), (1, pI p1)]) (ob := []) (Nat.le_of_ble_eq_true rfl) (Nat.le_of_ble_eq_true rfl) (by kernel_rfl) (by kernel_rfl) ?_
 intro cx hnt
 refine DW.start ?_
 refine DW.seq (RK hnt (nn 2 []) [(1, pI p1), (2, rr 1016)] [(1016, bx (pm (encTree p0)))] trivial (by kernel_rfl) ?_)
 refine DW.seq (RK hnt (.no :: []) [(1, pI p1), (2, rr 1016), (5, .p (.sl .nil 0 0 (fun _ => [])))] [(1016, bx (pm (encTree p0)))] trivial (by kernel_rfl) ?_)
 refine DW.seq (DW.seq (RK hnt (nn 5 []) [(1, pI p1), (2, rr 1016), (5, .p (.sl .nil 0 0 (fun _ => []))), (6, pI (w64 (((p0.nodes.length : Nat) : Int) - 1)))] [(1016, bx (pm (encTree p0)))] trivial (by kernel_rfl) ?_))
 refine DW.block ?_
 refine DW.whileO (fun (s1 : (List Int) × Int × Int) => mkSt [(1, pI s1.2.1), (2, rr 1016), (5, ow 1208 s1.1.length), (6, pI s1.2.2)] [(1016, bx (pm (encTree p0))), (1208, ob0 (roI s1.1))]) hm (Conv.trans (τ := mkSt [(1, pI p1), (2, rr 1016), (5, ow 1208 0), (6, pI (w64 (((p0.nodes.length : Nat) : Int) - 1)))] ((1208, ⟨0, .row 1 0 (elems encI 0 [])⟩) :: [(1016, bx (pm (encTree p0)))])) (Conv.adopt 1208 1 (elems encI 0 []) rfl rfl (.cons (.one (.rfl _)) (.cons (.one (.rfl _)) (.cons (.one (.nil _ _)) (.cons (.one (.rfl _)) (.rfl _))))) (.rfl _)) (Conv.trans (τ := mkSt [(1, pI p1), (2, rr 1016), (5, ow 1208 0), (6, pI (w64 (((p0.nodes.length : Nat) : Int) - 1)))] [(1016, bx (pm (encTree p0))), (1208, ob0 (roI []))]) (Conv.tp [] [] (by kernel_rfl) .nil .nil) .refl)) ?_
 intro s1 n1 hm
 unfold up_ref5L1 at hm
 refine DW.seq (DW.seq (RK hnt (nn 2 []) [(1, pI s1.2.1), (2, rr 1016), (5, ow 1208 s1.1.length), (6, pI s1.2.2), (12, pB (decide (s1.2.2 ≥ 0)))] [(1016, bx (pm (encTree p0))), (1208, ob0 (roI s1.1))] trivial (by kernel_rfl) ?_))
 refine DW.cond (decide (s1.2.2 ≥ 0)) rfl rfl ?_ ?_
 ·
  intro h5
  replace hm := if_t h5 hm
  refine DW.skip ?_
  refine DW.seq ?_
  refine DW.join (ι := (List Int) × Int) (fun (y2 : (List Int) × Int) => mkSt [(1, pI y2.2), (2, rr 1016), (5, ow 1208 y2.1.length), (6, pI s1.2.2)] [(1016, bx (pm (encTree p0))), (1208, ob0 (roI y2.1))]) (fun y2 => (up_ref5J2 s1 n1) y2 = some RES) ?_ ?_
  ·
   intro y2 hm
   unfold up_ref5J2 at hm
   refine RK hnt (nn 3 []) [(1, pI y2.2), (2, rr 1016), (5, ow 1208 y2.1.length), (6, pI (w64 (s1.2.2 - 1)))] [(1016, bx (pm (encTree p0))), (1208, ob0 (roI y2.1))] trivial (by kernel_rfl) ?_
   exact joinDone (y2.1, y2.2, (w64 (s1.2.2 - 1))) hm .refl
  ·
   refine DW.block ?_
   obtain ⟨g6, hm⟩ := guard_open hm
   refine DW.seq (RK hnt (nn 8 []) [(1, pI s1.2.1), (2, rr 1016), (5, ow 1208 s1.1.length), (6, pI s1.2.2), (22, pB ((p0.nodes.getD (Int.toNat s1.2.2) dNode).id == s1.2.1))] [(1016, bx (pm (encTree p0))), (1208, ob0 (roI s1.1))] (an g6.1 (an g6.2 trivial)) (by kernel_rfl) ?_)
   refine DW.cond ((p0.nodes.getD (Int.toNat s1.2.2) dNode).id == s1.2.1) rfl rfl ?_ ?_
   ·
    intro h7
    replace hm := if_t h7 hm
    obtain ⟨g8, hm⟩ := guard_open hm
    refine DW.seq (RN hnt (nn 5 []) [(2, rr 1016), (5, ow 1208 (s1.1 ++ [s1.2.1]).length), (6, pI s1.2.2)] [(1016, bx (pm (encTree p0))), (1208, ob0 (roI (s1.1 ++ [s1.2.1])))] [(5, ow 1208 (s1.1.length + 1))] [(1208, .row 1 (s1.1.length + 1) (catF s1.1.length (elI s1.1) (cut 1 [vi s1.2.1])))] (an (by omega : (s1.1.length + 1) * 8 ≤ 140737488355328) trivial) (by kernel_rfl) (.cons rfl (MLe.ownLen (enc := encI) (d := 0) (f := (catF s1.1.length (elI s1.1) (cut 1 [vi s1.2.1]))) (RowIs.cat RowIs.elems (RowIs.lit (enc := encI) (d := 0) (n := 1) (f := (cut 1 [vi s1.2.1])) [s1.2.1] rfl (fun | 0, _ => rfl | n + 1, h => absurd h (by omega))))) .nil) (.cons rfl (BLe.typed (RowIs.cat RowIs.elems (RowIs.lit (enc := encI) (d := 0) (n := 1) (f := (cut 1 [vi s1.2.1])) [s1.2.1] rfl (fun | 0, _ => rfl | n + 1, h => absurd h (by omega))))) .nil) ?_)
    obtain ⟨g9, hm⟩ := guard_open hm
    refine RK hnt (nn 7 []) [(1, pI (p0.nodes.getD (Int.toNat s1.2.2) dNode).parent), (2, rr 1016), (5, ow 1208 (s1.1 ++ [s1.2.1]).length), (6, pI s1.2.2)] [(1016, bx (pm (encTree p0))), (1208, ob0 (roI (s1.1 ++ [s1.2.1])))] (an g9.1 (an g9.2 trivial)) (by kernel_rfl) ?_
    exact blockDone ((s1.1 ++ [s1.2.1]), (p0.nodes.getD (Int.toNat s1.2.2) dNode).parent) hm .refl
   ·
    intro h7
    replace hm := if_f h7 hm
    refine DW.skip ?_
    exact blockDone (s1.1, s1.2.1) hm (Conv.tp [] [] (by kernel_rfl) .nil .nil)
 ·
  intro h5
  replace hm := if_f h5 hm
  refine DW.exit ?_
  refine joinQ_exit ?_
  refine KQ_exit ?_
  refine blockQ_exit ?_
  show DW _ _ _ _ _
  refine DW.seq (RK hnt (nn 2 []) [(4, ow 1208 s1.1.length)] [(1208, ob0 (roI s1.1))] trivial (by kernel_rfl) ?_)
  refine DW.ret ?_
  obtain rfl := Option.some.inj hm
  refine retOK (bs' := [roI s1.1]) [1208] (ow 0 s1.1.length) (by kernel_rfl) ?_ ?_
  · rfl
  · rfl

theorem Check_ref5Spec (p0 : Tree) (RES : Bool) (hm : Check_ref5 p0 = some RES) : Spec Try.prog 49 [.p (.agg (encTree p0))] [] (pB RES) [] [] := by
 unfold Check_ref5 at hm
 refine spec_of Tgood (T := Tt) Try.func49 (by decide) (c := _) rfl rfl (sl := [(0, .p (.agg (encTree p0)))]) (ob := []) (Nat.le_of_ble_eq_true rfl) (Nat.le_of_ble_eq_true rfl) (by kernel_rfl) (by kernel_rfl) ?_
 intro cx hnt
 refine DW.start ?_
 refine DW.seq (RK hnt (nn 2 []) [(1, rr 1008)] [(1008, bx (pm (encTree p0)))] trivial (by kernel_rfl) ?_)
 refine DW.seq (RK hnt (nn 4 []) [(1, rr 1008), (3, pI ((p0.nodes.length : Nat) : Int))] [(1008, bx (pm (encTree p0)))] trivial (by kernel_rfl) ?_)
 refine DW.seq (DW.seq (DW.regJ (sl2 := [(1, rr 1008), (3, pI ((p0.nodes.length : Nat) : Int)), (14, pB ((decide (((p0.nodes.length : Nat) : Int) < 1)) || (decide (((p0.nodes.length : Nat) : Int) > 64))))]) (ob2 := [(1008, bx (pm (encTree p0)))]) ?_ ?_))
 ·
  rcases bt (decide (((p0.nodes.length : Nat) : Int) < 1)) with h1 | h1
  ·
   exact RT hnt (nn 3 (sk 2 (pT :: []))) [(14, pB true)] (an3 h1 trivial) (by kernel_rfl) (.cons rfl (.of_eq (by rw [h1]; try rfl)) .nil)
  ·
   exact RT hnt (nn 5 (pF :: [])) [(14, pB (decide (((p0.nodes.length : Nat) : Int) > 64)))] (an3 h1 trivial) (by kernel_rfl) (.cons rfl (.of_eq (by rw [h1]; try rfl)) .nil)
 ·
  refine DW.cond ((decide (((p0.nodes.length : Nat) : Int) < 1)) || (decide (((p0.nodes.length : Nat) : Int) > 64))) rfl rfl ?_ ?_
  ·
   intro h2
   replace hm := if_t h2 hm
   refine DW.seq (RK hnt (.no :: []) [(2, pB false)] [] trivial (by kernel_rfl) ?_)
   refine DW.ret ?_
   obtain rfl := Option.some.inj hm
   refine retOK (bs' := []) [] (pB false) (by kernel_rfl) ?_ ?_
   · rfl
   · rfl
  ·
   intro h2
   replace hm := if_f h2 hm
   refine DW.skip ?_
   refine DW.seq (DW.seq (RK hnt (.no :: []) [(1, rr 1008), (3, pI ((p0.nodes.length : Nat) : Int)), (4, pI 0)] [(1008, bx (pm (encTree p0)))] trivial (by kernel_rfl) ?_))
   refine DW.block ?_
   obtain ⟨hc1, hm⟩ := guard_open hm
   refine DW.rangeO (fun (k1 : Nat) (s1 : Unit) => mkSt [(1, rr 1008), (3, pI ((p0.nodes.length : Nat) : Int)), (4, pI ((k1 : Nat) : Int))] [(1008, bx (pm (encTree p0)))]) dNode hm .refl ?_
   intro k1 s1 n1 hk1 hs1 he1
   refine DW.seq (DW.seq (RK hnt (nn 3 []) [(1, rr 1008), (3, pI ((p0.nodes.length : Nat) : Int)), (4, pI ((k1 : Nat) : Int)), (17, pB (decide (((k1 : Nat) : Int) < ((p0.nodes.length : Nat) : Int))))] [(1008, bx (pm (encTree p0)))] trivial (by kernel_rfl) ?_))
   refine DW.cond (decide (((k1 : Nat) : Int) < ((p0.nodes.length : Nat) : Int))) rfl rfl ?_ ?_
   ·
    intro h32
    have hlt1 : k1 < p0.nodes.length := by have := of_decide_eq_true h32; omega
    have hm := hs1 hlt1
    unfold Check_ref5L1 at hm
    refine DW.skip ?_
    refine DW.seq (DW.block ?_)
    obtain ⟨r33, hr33, hm⟩ := bind_open hm
    refine DW.seq (RK hnt (nn 2 (.call 76 [] true (pB r33) [] [] :: .no :: [])) [(1, rr 1008), (3, pI ((p0.nodes.length : Nat) : Int)), (4, pI ((k1 : Nat) : Int)), (23, pB (!r33))] [(1008, bx (pm (encTree p0)))] (an (node_ref5Spec p0 ((k1 : Nat) : Int) r33 hr33) trivial) (by kernel_rfl) ?_)
    refine DW.cond (!r33) rfl rfl ?_ ?_
    ·
     intro h34
     replace hm := if_t h34 hm
     refine DW.seq (RK hnt (.no :: []) [(2, pB false)] [] trivial (by kernel_rfl) ?_)
     refine DW.ret ?_
     obtain rfl := Option.some.inj hm
     refine retOK (bs' := []) [] (pB false) (by kernel_rfl) ?_ ?_
     · rfl
     · rfl
    ·
     intro h34
     replace hm := if_f h34 hm
     refine DW.skip ?_
     refine DW.done ?_
     show DW _ _ _ _ _
     refine RK hnt (nn 3 []) [(1, rr 1008), (3, pI ((p0.nodes.length : Nat) : Int)), (4, pI (w64 (((k1 : Nat) : Int) + 1)))] [(1008, bx (pm (encTree p0)))] trivial (by kernel_rfl) ?_
     exact joinDone () ⟨hlt1, hm⟩ (Conv.tp [(4, pI (w64 (((k1 : Nat) : Int) + 1)))] [] (by kernel_rfl) (.cons rfl (.of_eq (congrArg pI (w64_succ hlt1 hc1))) .nil) .nil)
   ·
    intro h32
    have hge1 : ¬ k1 < p0.nodes.length := by have := of_decide_eq_false h32; omega
    have hm := he1 hge1
    unfold Check_ref5D1 at hm
    refine DW.exit ?_
    refine joinQ_exit ?_
    refine KQ_exit ?_
    refine blockQ_exit ?_
    show DW _ _ _ _ _
    refine DW.seq (DW.seq (RK hnt (.no :: []) [(1, rr 1008), (3, pI ((p0.nodes.length : Nat) : Int)), (5, pI 0)] [(1008, bx (pm (encTree p0)))] trivial (by kernel_rfl) ?_))
    refine DW.block ?_
    obtain ⟨hc4, hm⟩ := guard_open hm
    refine DW.rangeO (fun (k4 : Nat) (s4 : Unit) => mkSt [(1, rr 1008), (3, pI ((p0.nodes.length : Nat) : Int)), (5, pI ((k4 : Nat) : Int))] [(1008, bx (pm (encTree p0)))]) dNode hm .refl ?_
    intro k4 s4 n4 hk4 hs4 he4
    refine DW.seq (DW.seq (RK hnt (nn 3 []) [(1, rr 1008), (3, pI ((p0.nodes.length : Nat) : Int)), (5, pI ((k4 : Nat) : Int)), (26, pB (decide (((k4 : Nat) : Int) < ((p0.nodes.length : Nat) : Int))))] [(1008, bx (pm (encTree p0)))] trivial (by kernel_rfl) ?_))
    refine DW.cond (decide (((k4 : Nat) : Int) < ((p0.nodes.length : Nat) : Int))) rfl rfl ?_ ?_
    ·
     intro h49
     have hlt4 : k4 < p0.nodes.length := by have := of_decide_eq_true h49; omega
     have hm := hs4 hlt4
     unfold Check_ref5L4 at hm
     refine DW.skip ?_
     refine DW.seq (DW.block ?_)
     obtain ⟨r50, hr50, hm⟩ := bind_open hm
     refine DW.seq (RK hnt (nn 7 (.call 42 [] true (ow 0 r50.length) [] [roI r50] :: nn 2 [])) [(1, rr 1008), (3, pI ((p0.nodes.length : Nat) : Int)), (5, pI ((k4 : Nat) : Int)), (38, pB (decide (((r50.length : Nat) : Int) > 9)))] [(1008, bx (pm (encTree p0)))] (an (nn0 k4) (an (ltc hlt4) (an (up_ref5Spec p0 (p0.nodes.getD k4 (default : Node)).id r50 hr50) trivial))) (by kernel_rfl) ?_)
     refine DW.cond (decide (((r50.length : Nat) : Int) > 9)) rfl rfl ?_ ?_
     ·
      intro h51
      replace hm := if_t h51 hm
      refine DW.seq (RK hnt (.no :: []) [(2, pB false)] [] trivial (by kernel_rfl) ?_)
      refine DW.ret ?_
      obtain rfl := Option.some.inj hm
      refine retOK (bs' := []) [] (pB false) (by kernel_rfl) ?_ ?_
      · rfl
      · rfl
     ·
      intro h51
      replace hm := if_f h51 hm
      refine DW.skip ?_
      refine DW.done ?_
      show DW _ _ _ _ _
      refine RK hnt (nn 3 []) [(1, rr 1008), (3, pI ((p0.nodes.length : Nat) : Int)), (5, pI (w64 (((k4 : Nat) : Int) + 1)))] [(1008, bx (pm (encTree p0)))] trivial (by kernel_rfl) ?_
      exact joinDone () ⟨hlt4, hm⟩ (Conv.tp [(5, pI (w64 (((k4 : Nat) : Int) + 1)))] [] (by kernel_rfl) (.cons rfl (.of_eq (congrArg pI (w64_succ hlt4 hc4))) .nil) .nil)
    ·
     intro h49
     have hge4 : ¬ k4 < p0.nodes.length := by have := of_decide_eq_false h49; omega
     have hm := he4 hge4
     unfold Check_ref5D4 at hm
     refine DW.exit ?_
     refine joinQ_exit ?_
     refine KQ_exit ?_
     refine blockQ_exit ?_
     show DW _ _ _ _ _
     obtain ⟨g52, hm⟩ := guard_open hm
     refine DW.seq ?_
     refine DW.join (ι := Bool) (fun (y7 : Bool) => mkSt [(2, pB y7)] []) (fun y7 => Check_ref5J7 y7 = some RES) ?_ ?_
     ·
      intro y7 hm
      unfold Check_ref5J7 at hm
      refine DW.ret ?_
      obtain rfl := Option.some.inj hm
      refine retOK (bs' := []) [] (pB y7) (by kernel_rfl) ?_ ?_
      · rfl
      · rfl
     ·
      rcases bt (decide (p0.next > (p0.nodes.getD (Int.toNat (w64 (((p0.nodes.length : Nat) : Int) - 1))) dNode).id)) with h53 | h53
      ·
       replace hm := if_t h53 hm
       refine RK hnt (nn 14 (pT :: .no :: [])) [(2, pB (decide (p0.next ≤ 2147483648)))] [] (an g52.1 (an g52.2 (an4 h53 trivial))) (by kernel_rfl) ?_
       exact joinDone (decide (p0.next ≤ 2147483648)) hm .refl
      ·
       replace hm := if_f h53 hm
       refine RK hnt (nn 11 (sk 3 (pF :: .no :: []))) [(2, pB false)] [] (an g52.1 (an g52.2 (an4 h53 trivial))) (by kernel_rfl) ?_
       exact joinDone false hm .refl

theorem Find_ref5Spec (p0 : Tree) (p1 : Int) (RES : Node × Bool) (hm : Find_ref5 p0 p1 = some RES) : Spec Try.prog 51 [.p (.agg (encTree p0)), pI p1] [] (.p (.tup [.agg (encNode RES.1), vb RES.2])) [] [] := by
 unfold Find_ref5 at hm
 refine spec_of Tgood (T := Tt) Try.func51 (by decide) (c := _) rfl rfl (sl := [(0, .p (.agg (encTree p0))), (1, pI p1)]) (ob := []) (Nat.le_of_ble_eq_true rfl) (Nat.le_of_ble_eq_true rfl) (by kernel_rfl) (by kernel_rfl) ?_
 intro cx hnt
 refine DW.start ?_
 refine DW.seq (RK hnt (nn 3 []) [(1, pI p1), (2, rr 1016), (4, rr 1032)] [(1016, bx (pm (encTree p0))), (1032, bx [pI 0, pI 0, pS ByteArray.empty, pI 0, pI 0, pI 0])] trivial (by kernel_rfl) ?_)
 obtain ⟨r1, hr1, hm⟩ := bind_open hm
 refine DW.seq (DW.seq (RK hnt (.no :: .call 49 [] true (pB r1) [] [] :: .no :: []) [(1, pI p1), (2, rr 1016), (4, rr 1032), (9, pB (!r1))] [(1016, bx (pm (encTree p0))), (1032, bx [pI 0, pI 0, pS ByteArray.empty, pI 0, pI 0, pI 0])] (an (Check_ref5Spec p0 r1 hr1) trivial) (by kernel_rfl) ?_))
 refine DW.cond (!r1) rfl rfl ?_ ?_
 ·
  intro h2
  replace hm := if_t h2 hm
  refine DW.seq (RK hnt (nn 3 []) [(4, rr 1032), (5, pB false)] [(1032, bx [pI 0, pI 0, pS ByteArray.empty, pI 0, pI 0, pI 0])] trivial (by kernel_rfl) ?_)
  refine DW.ret ?_
  obtain rfl := Option.some.inj hm
  refine retOK (bs' := []) [] (.p (.tup [.agg [vi 0, vi 0, vs ByteArray.empty, vi 0, vi 0, vi 0], vb false])) (by kernel_rfl) ?_ ?_
  · rfl
  · rfl
 ·
  intro h2
  replace hm := if_f h2 hm
  refine DW.skip ?_
  refine DW.seq (DW.seq (RK hnt (.no :: []) [(1, pI p1), (2, rr 1016), (4, rr 1032), (6, pI 0)] [(1016, bx (pm (encTree p0))), (1032, bx [pI 0, pI 0, pS ByteArray.empty, pI 0, pI 0, pI 0])] trivial (by kernel_rfl) ?_))
  refine DW.block ?_
  obtain ⟨hc1, hm⟩ := guard_open hm
  refine DW.rangeO (fun (k1 : Nat) (s1 : Unit) => mkSt [(1, pI p1), (2, rr 1016), (4, rr 1032), (6, pI ((k1 : Nat) : Int))] [(1016, bx (pm (encTree p0))), (1032, bx [pI 0, pI 0, pS ByteArray.empty, pI 0, pI 0, pI 0])]) dNode hm .refl ?_
  intro k1 s1 n1 hk1 hs1 he1
  refine DW.seq (DW.seq (RK hnt (nn 5 []) [(1, pI p1), (2, rr 1016), (4, rr 1032), (6, pI ((k1 : Nat) : Int)), (15, pB (decide (((k1 : Nat) : Int) < ((p0.nodes.length : Nat) : Int))))] [(1016, bx (pm (encTree p0))), (1032, bx [pI 0, pI 0, pS ByteArray.empty, pI 0, pI 0, pI 0])] trivial (by kernel_rfl) ?_))
  refine DW.cond (decide (((k1 : Nat) : Int) < ((p0.nodes.length : Nat) : Int))) rfl rfl ?_ ?_
  ·
   intro h11
   have hlt1 : k1 < p0.nodes.length := by have := of_decide_eq_true h11; omega
   have hm := hs1 hlt1
   unfold Find_ref5L1 at hm
   refine DW.skip ?_
   refine DW.seq (DW.block ?_)
   refine DW.seq (RK hnt (nn 8 []) [(1, pI p1), (2, rr 1016), (4, rr 1032), (6, pI ((k1 : Nat) : Int)), (25, pB ((p0.nodes.getD k1 (default : Node)).id == p1))] [(1016, bx (pm (encTree p0))), (1032, bx [pI 0, pI 0, pS ByteArray.empty, pI 0, pI 0, pI 0])] (an (nn0 k1) (an (ltc hlt1) trivial)) (by kernel_rfl) ?_)
   refine DW.cond ((p0.nodes.getD k1 (default : Node)).id == p1) rfl rfl ?_ ?_
   ·
    intro h12
    replace hm := if_t h12 hm
    refine DW.seq (RK hnt (nn 7 []) [(4, rr 1032), (5, pB true)] [(1032, bx (pm (encNode (p0.nodes.getD k1 (default : Node)))))] (an (nn0 k1) (an (ltc hlt1) trivial)) (by kernel_rfl) ?_)
    refine DW.ret ?_
    obtain rfl := Option.some.inj hm
    refine retOK (bs' := []) [] (.p (.tup [.agg (encNode (p0.nodes.getD k1 (default : Node))), vb true])) (by kernel_rfl) ?_ ?_
    · rfl
    · rfl
   ·
    intro h12
    replace hm := if_f h12 hm
    refine DW.skip ?_
    refine DW.done ?_
    show DW _ _ _ _ _
    refine RK hnt (nn 3 []) [(1, pI p1), (2, rr 1016), (4, rr 1032), (6, pI (w64 (((k1 : Nat) : Int) + 1)))] [(1016, bx (pm (encTree p0))), (1032, bx [pI 0, pI 0, pS ByteArray.empty, pI 0, pI 0, pI 0])] trivial (by kernel_rfl) ?_
    exact joinDone () ⟨hlt1, hm⟩ (Conv.tp [(6, pI (w64 (((k1 : Nat) : Int) + 1)))] [] (by kernel_rfl) (.cons rfl (.of_eq (congrArg pI (w64_succ hlt1 hc1))) .nil) .nil)
  ·
   intro h11
   have hge1 : ¬ k1 < p0.nodes.length := by have := of_decide_eq_false h11; omega
   have hm := he1 hge1
   unfold Find_ref5D1 at hm
   refine DW.exit ?_
   refine joinQ_exit ?_
   refine KQ_exit ?_
   refine blockQ_exit ?_
   show DW _ _ _ _ _
   refine DW.seq (RK hnt (nn 3 []) [(4, rr 1032), (5, pB false)] [(1032, bx [pI 0, pI 0, pS ByteArray.empty, pI 0, pI 0, pI 0])] trivial (by kernel_rfl) ?_)
   refine DW.ret ?_
   obtain rfl := Option.some.inj hm
   refine retOK (bs' := []) [] (.p (.tup [.agg [vi 0, vi 0, vs ByteArray.empty, vi 0, vi 0, vi 0], vb false])) (by kernel_rfl) ?_ ?_
   · rfl
   · rfl

theorem Has_ref5Spec (p0 : Tree) (p1 : Int) (RES : Bool) (hm : Has_ref5 p0 p1 = some RES) : Spec Try.prog 25 [.p (.agg (encTree p0)), pI p1] [] (pB RES) [] [] := by
 unfold Has_ref5 at hm
 refine spec_of Tgood (T := Tt) Try.func25 (by decide) (c := _) rfl rfl (sl := [(0, .p (.agg (encTree p0))), (1, pI p1)]) (ob := []) (Nat.le_of_ble_eq_true rfl) (Nat.le_of_ble_eq_true rfl) (by kernel_rfl) (by kernel_rfl) ?_
 intro cx hnt
 refine DW.start ?_
 refine DW.seq (RK hnt (nn 2 []) [(1, pI p1), (2, rr 1016)] [(1016, bx (pm (encTree p0)))] trivial (by kernel_rfl) ?_)
 obtain ⟨r1, hr1, hm⟩ := bind_open hm
 refine DW.seq (RK hnt (nn 2 (.call 51 [] true (.p (.tup [.agg (encNode r1.1), vb r1.2])) [] [] :: nn 6 [])) [(6, pB r1.2)] [] (an (Find_ref5Spec p0 p1 r1 hr1) trivial) (by kernel_rfl) ?_)
 refine DW.seq (RK hnt (nn 2 []) [(4, pB r1.2)] [] trivial (by kernel_rfl) ?_)
 refine DW.ret ?_
 obtain rfl := Option.some.inj hm
 refine retOK (bs' := []) [] (pB r1.2) (by kernel_rfl) ?_ ?_
 · rfl
 · rfl

theorem Ancestors_ref5Spec (p0 : Tree) (p1 : Int) (RES : List Int) (hm : Ancestors_ref5 p0 p1 = some RES) : Spec Try.prog 17 [.p (.agg (encTree p0)), pI p1] [] (ow 0 RES.length) [] [roI RES] := by
 unfold Ancestors_ref5 at hm
 refine spec_of Tgood (T := Tt) Try.func17 (by decide) (c := _) rfl rfl (sl := [(0, .p (.agg (encTree p0))), (1, pI p1)]) (ob := []) (Nat.le_of_ble_eq_true rfl) (Nat.le_of_ble_eq_true rfl) (by kernel_rfl) (by kernel_rfl) ?_
 intro cx hnt
 refine DW.start ?_
 refine DW.seq (RK hnt (nn 2 []) [(1, pI p1), (2, rr 1016)] [(1016, bx (pm (encTree p0)))] trivial (by kernel_rfl) ?_)
 obtain ⟨r1, hr1, hm⟩ := bind_open hm
 refine DW.seq (DW.seq (RK hnt (nn 2 (.call 25 [] true (pB r1) [] [] :: .no :: [])) [(1, pI p1), (2, rr 1016), (8, pB (!r1))] [(1016, bx (pm (encTree p0)))] (an (Has_ref5Spec p0 p1 r1 hr1) trivial) (by kernel_rfl) ?_))
 refine DW.cond (!r1) rfl rfl ?_ ?_
 ·
  intro h2
  replace hm := if_t h2 hm
  refine DW.seq (RK hnt (.no :: []) [(4, .p (.sl .nil 0 0 (fun _ => [])))] [] trivial (by kernel_rfl) ?_)
  refine DW.conv (τ := mkSt [(4, ow 100000 0)] [(100000, ob0 (roI []))]) (Conv.trans (τ := mkSt [(4, ow 100000 0)] ((100000, ⟨0, .row 1 0 (elems encI 0 [])⟩) :: [])) (Conv.adopt 100000 1 (elems encI 0 []) rfl rfl (.cons (.one (.nil _ _)) (.rfl _)) (.rfl _)) (Conv.trans (τ := mkSt [(4, ow 100000 0)] [(100000, ob0 (roI []))]) (Conv.tp [] [] (by kernel_rfl) .nil .nil) .refl)) ?_
  refine DW.ret ?_
  obtain rfl := Option.some.inj hm
  refine retOK (bs' := [roI []]) [100000] (ow 0 0) (by kernel_rfl) ?_ ?_
  · rfl
  · rfl
 ·
  intro h2
  replace hm := if_f h2 hm
  refine DW.skip ?_
  obtain ⟨r3, hr3, hm⟩ := bind_open hm
  refine DW.seq (RK hnt (nn 2 (.call 42 [] true (ow 0 r3.length) [] [roI r3] :: .no :: [])) [(4, ow 1088 r3.length)] [(1088, ob0 (roI r3))] (an (up_ref5Spec p0 p1 r3 hr3) trivial) (by kernel_rfl) ?_)
  refine DW.ret ?_
  obtain rfl := Option.some.inj hm
  refine retOK (bs' := [roI r3]) [1088] (ow 0 r3.length) (by kernel_rfl) ?_ ?_
  · rfl
  · rfl

theorem Depth_ref5Spec (p0 : Tree) (p1 : Int) (RES : Int) (hm : Depth_ref5 p0 p1 = some RES) : Spec Try.prog 78 [.p (.agg (encTree p0)), pI p1] [] (pI RES) [] [] := by
 unfold Depth_ref5 at hm
 refine spec_of Tgood (T := Tt) Try.func78 (by decide) (c := _) rfl rfl (sl := [(0, .p (.agg (encTree p0))), (1, pI p1)]) (ob := []) (Nat.le_of_ble_eq_true rfl) (Nat.le_of_ble_eq_true rfl) (by kernel_rfl) (by kernel_rfl) ?_
 intro cx hnt
 refine DW.start ?_
 refine DW.seq (RK hnt (nn 2 []) [(1, pI p1), (2, rr 1016)] [(1016, bx (pm (encTree p0)))] trivial (by kernel_rfl) ?_)
 obtain ⟨r1, hr1, hm⟩ := bind_open hm
 refine DW.seq (RK hnt (nn 2 (.call 17 [] true (ow 0 r1.length) [] [roI r1] :: nn 3 [])) [(4, pI (w64 (((r1.length : Nat) : Int) - 1)))] [] (an (Ancestors_ref5Spec p0 p1 r1 hr1) trivial) (by kernel_rfl) ?_)
 refine DW.ret ?_
 obtain rfl := Option.some.inj hm
 refine retOK (bs' := []) [] (pI (w64 (((r1.length : Nat) : Int) - 1))) (by kernel_rfl) ?_ ?_
 · rfl
 · rfl

theorem Copy_ref5Spec (p0 : Tree) (RES : Tree) (hm : Copy_ref5 p0 = some RES) : Spec Try.prog 67 [.p (.agg (encTree p0))] [] (.agg [ow 0 RES.nodes.length, pI RES.next]) [] [roNode RES.nodes] := by
 unfold Copy_ref5 at hm
 refine spec_of Tgood (T := Tt) Try.func67 (by decide) (c := _) rfl rfl (sl := [(0, .p (.agg (encTree p0)))]) (ob := []) (Nat.le_of_ble_eq_true rfl) (Nat.le_of_ble_eq_true rfl) (by kernel_rfl) (by kernel_rfl) ?_
 intro cx hnt
 refine DW.start ?_
 refine DW.seq (RK hnt (nn 2 []) [(1, rr 1008), (2, rr 1016)] [(1008, bx (pm (encTree p0))), (1016, bx [.p (.sl .nil 0 0 (fun _ => [])), pI 0])] trivial (by kernel_rfl) ?_)
 obtain ⟨g1, hm⟩ := guard_open hm
 refine DW.seq (RN hnt (nn 7 []) [(2, rr 1016)] [(1016, bx [ow 1040 p0.nodes.length, pI p0.next]), (1040, ob0 (roNode p0.nodes))] [] [(1040, .row 6 p0.nodes.length (elNode p0.nodes))] (an (by omega : p0.nodes.length * 56 ≤ 140737488355328) trivial) (by kernel_rfl) .nil (.cons rfl (BLe.typed RowIs.elems) .nil) ?_)
 refine DW.ret ?_
 obtain rfl := Option.some.inj hm
 refine retOK (bs' := [roNode p0.nodes]) [1040] (.agg [ow 0 p0.nodes.length, pI p0.next]) (by kernel_rfl) ?_ ?_
 · rfl
 · rfl

theorem Add_ref5Spec (p0 : Tree) (p1 : Int) (p2 : ByteArray) (RES : Tree × Int × Int) (hm : Add_ref5 p0 p1 p2 = some RES) : Spec Try.prog 56 [.p (.agg (encTree p0)), pI p1, pS p2] [] (.tup [.agg [ow 0 RES.1.nodes.length, pI RES.1.next], pI RES.2.1, pI RES.2.2]) [] [roNode RES.1.nodes] := by
 unfold Add_ref5 at hm
 refine spec_of Tgood (T := Tt) Try.func56 (by decide) (c := _) rfl rfl (sl := [(0, .p (.agg (encTree p0))), (1, pI p1), (2, pS p2)]) (ob := []) (Nat.le_of_ble_eq_true rfl) (Nat.le_of_ble_eq_true rfl) (by kernel_rfl) (by kernel_rfl) ?_
 intro cx hnt
 refine DW.start ?_
 refine DW.seq (RK hnt (nn 4 []) [(1, pI p1), (2, pS p2), (3, rr 1024), (6, rr 1048)] [(1024, bx (pm (encTree p0))), (1048, bx [.p (.sl .nil 0 0 (fun _ => [])), pI 0])] trivial (by kernel_rfl) ?_)
 obtain ⟨r1, hr1, hm⟩ := bind_open hm
 refine DW.seq (DW.seq ?_)
 refine DW.join (ι := Bool) (fun (y1 : Bool) => mkSt [(1, pI p1), (2, pS p2), (3, rr 1024), (6, rr 1048), (18, pB y1)] [(1024, bx (pm (encTree p0))), (1048, bx [.p (.sl .nil 0 0 (fun _ => [])), pI 0])]) (fun y1 => (Add_ref5J1 p0 p1 p2) y1 = some RES) ?_ ?_
 ·
  intro y1 hm
  unfold Add_ref5J1 at hm
  refine DW.cond y1 rfl rfl ?_ ?_
  ·
   intro h4
   replace hm := if_t h4 hm
   refine DW.seq (RK hnt (nn 4 []) [(6, rr 1048), (7, pI 0), (8, pI 1)] [(1048, bx [.p (.sl .nil 0 0 (fun _ => [])), pI 0])] trivial (by kernel_rfl) ?_)
   refine DW.conv (τ := mkSt [(6, rr 1048), (7, pI 0), (8, pI 1)] [(1048, bx [ow 100000 0, pI 0]), (100000, ob0 (roNode []))]) (Conv.trans (τ := mkSt [(6, rr 1048), (7, pI 0), (8, pI 1)] ((100000, ⟨0, .row 6 0 (elems encNode dNode [])⟩) :: [(1048, bx [ow 100000 0, pI 0])])) (Conv.adopt 100000 6 (elems encNode dNode []) rfl rfl (.rfl _) (.box (.cons (.nil _ _) (.cons (.rfl _) (.rfl _))) (.rfl _))) (Conv.trans (τ := mkSt [(6, rr 1048), (7, pI 0), (8, pI 1)] [(1048, bx [ow 100000 0, pI 0]), (100000, ob0 (roNode []))]) (Conv.tp [] [] (by kernel_rfl) .nil .nil) .refl)) ?_
   refine DW.ret ?_
   obtain rfl := Option.some.inj hm
   refine retOK (bs' := [roNode []]) [100000] (.tup [.agg [ow 0 0, pI 0], pI 0, pI 1]) (by kernel_rfl) ?_ ?_
   · rfl
   · rfl
  ·
   intro h4
   replace hm := if_f h4 hm
   refine DW.skip ?_
   obtain ⟨r5, hr5, hm⟩ := bind_open hm
   refine DW.seq (DW.seq (RK hnt (nn 2 (.call 25 [] true (pB r5) [] [] :: .no :: [])) [(1, pI p1), (2, pS p2), (3, rr 1024), (6, rr 1048), (23, pB (!r5))] [(1024, bx (pm (encTree p0))), (1048, bx [.p (.sl .nil 0 0 (fun _ => [])), pI 0])] (an (Has_ref5Spec p0 p1 r5 hr5) trivial) (by kernel_rfl) ?_))
   refine DW.cond (!r5) rfl rfl ?_ ?_
   ·
    intro h6
    replace hm := if_t h6 hm
    refine DW.seq (RK hnt (nn 4 []) [(6, rr 1048), (7, pI 0), (8, pI 4)] [(1048, bx [.p (.sl .nil 0 0 (fun _ => [])), pI 0])] trivial (by kernel_rfl) ?_)
    refine DW.conv (τ := mkSt [(6, rr 1048), (7, pI 0), (8, pI 4)] [(1048, bx [ow 100000 0, pI 0]), (100000, ob0 (roNode []))]) (Conv.trans (τ := mkSt [(6, rr 1048), (7, pI 0), (8, pI 4)] ((100000, ⟨0, .row 6 0 (elems encNode dNode [])⟩) :: [(1048, bx [ow 100000 0, pI 0])])) (Conv.adopt 100000 6 (elems encNode dNode []) rfl rfl (.rfl _) (.box (.cons (.nil _ _) (.cons (.rfl _) (.rfl _))) (.rfl _))) (Conv.trans (τ := mkSt [(6, rr 1048), (7, pI 0), (8, pI 4)] [(1048, bx [ow 100000 0, pI 0]), (100000, ob0 (roNode []))]) (Conv.tp [] [] (by kernel_rfl) .nil .nil) .refl)) ?_
    refine DW.ret ?_
    obtain rfl := Option.some.inj hm
    refine retOK (bs' := [roNode []]) [100000] (.tup [.agg [ow 0 0, pI 0], pI 0, pI 4]) (by kernel_rfl) ?_ ?_
    · rfl
    · rfl
   ·
    intro h6
    replace hm := if_f h6 hm
    refine DW.skip ?_
    refine DW.seq (DW.seq (RK hnt (.no :: []) [(1, pI p1), (2, pS p2), (3, rr 1024), (6, rr 1048), (9, pI 0)] [(1024, bx (pm (encTree p0))), (1048, bx [.p (.sl .nil 0 0 (fun _ => [])), pI 0])] trivial (by kernel_rfl) ?_))
    refine DW.block ?_
    obtain ⟨hc1, hm⟩ := guard_open hm
    refine DW.rangeO (fun (k1 : Nat) (s1 : Unit) => mkSt [(1, pI p1), (2, pS p2), (3, rr 1024), (6, rr 1048), (9, pI ((k1 : Nat) : Int))] [(1024, bx (pm (encTree p0))), (1048, bx [.p (.sl .nil 0 0 (fun _ => [])), pI 0])]) dNode hm .refl ?_
    intro k1 s1 n1 hk1 hs1 he1
    refine DW.seq (DW.seq (RK hnt (nn 5 []) [(1, pI p1), (2, pS p2), (3, rr 1024), (6, rr 1048), (9, pI ((k1 : Nat) : Int)), (29, pB (decide (((k1 : Nat) : Int) < ((p0.nodes.length : Nat) : Int))))] [(1024, bx (pm (encTree p0))), (1048, bx [.p (.sl .nil 0 0 (fun _ => [])), pI 0])] trivial (by kernel_rfl) ?_))
    refine DW.cond (decide (((k1 : Nat) : Int) < ((p0.nodes.length : Nat) : Int))) rfl rfl ?_ ?_
    ·
     intro h29
     have hlt1 : k1 < p0.nodes.length := by have := of_decide_eq_true h29; omega
     have hm := hs1 hlt1
     unfold Add_ref5L1 at hm
     refine DW.skip ?_
     refine DW.seq (DW.block ?_)
     refine DW.seq (DW.regJ (sl2 := [(1, pI p1), (2, pS p2), (3, rr 1024), (6, rr 1048), (9, pI ((k1 : Nat) : Int)), (49, pB (((p0.nodes.getD k1 (default : Node)).parent == p1) && (beqS (p0.nodes.getD k1 (default : Node)).name p2)))]) (ob2 := [(1024, bx (pm (encTree p0))), (1048, bx [.p (.sl .nil 0 0 (fun _ => [])), pI 0])]) ?_ ?_)
     ·
      rcases bt ((p0.nodes.getD k1 (default : Node)).parent == p1) with h30 | h30
      ·
       exact RT hnt (nn 17 (pT :: [])) [(49, pB (beqS (p0.nodes.getD k1 (default : Node)).name p2))] (an (nn0 k1) (an (ltc hlt1) (an4 h30 (an (nn0 k1) (an (ltc hlt1) (an5 h30 trivial)))))) (by kernel_rfl) (.cons rfl (.of_eq (by rw [h30]; try rfl)) .nil)
      ·
       exact RT hnt (nn 9 (sk 8 (pF :: []))) [(49, pB false)] (an (nn0 k1) (an (ltc hlt1) (an3 h30 (an6 h30 trivial)))) (by kernel_rfl) (.cons rfl (.of_eq (by rw [h30]; try rfl)) .nil)
     ·
      refine DW.cond (((p0.nodes.getD k1 (default : Node)).parent == p1) && (beqS (p0.nodes.getD k1 (default : Node)).name p2)) rfl rfl ?_ ?_
      ·
       intro h31
       replace hm := if_t h31 hm
       refine DW.seq (RK hnt (nn 4 []) [(6, rr 1048), (7, pI 0), (8, pI 5)] [(1048, bx [.p (.sl .nil 0 0 (fun _ => [])), pI 0])] trivial (by kernel_rfl) ?_)
       refine DW.conv (τ := mkSt [(6, rr 1048), (7, pI 0), (8, pI 5)] [(1048, bx [ow 100000 0, pI 0]), (100000, ob0 (roNode []))]) (Conv.trans (τ := mkSt [(6, rr 1048), (7, pI 0), (8, pI 5)] ((100000, ⟨0, .row 6 0 (elems encNode dNode [])⟩) :: [(1048, bx [ow 100000 0, pI 0])])) (Conv.adopt 100000 6 (elems encNode dNode []) rfl rfl (.rfl _) (.box (.cons (.nil _ _) (.cons (.rfl _) (.rfl _))) (.rfl _))) (Conv.trans (τ := mkSt [(6, rr 1048), (7, pI 0), (8, pI 5)] [(1048, bx [ow 100000 0, pI 0]), (100000, ob0 (roNode []))]) (Conv.tp [] [] (by kernel_rfl) .nil .nil) .refl)) ?_
       refine DW.ret ?_
       obtain rfl := Option.some.inj hm
       refine retOK (bs' := [roNode []]) [100000] (.tup [.agg [ow 0 0, pI 0], pI 0, pI 5]) (by kernel_rfl) ?_ ?_
       · rfl
       · rfl
      ·
       intro h31
       replace hm := if_f h31 hm
       refine DW.skip ?_
       refine DW.done ?_
       show DW _ _ _ _ _
       refine RK hnt (nn 3 []) [(1, pI p1), (2, pS p2), (3, rr 1024), (6, rr 1048), (9, pI (w64 (((k1 : Nat) : Int) + 1)))] [(1024, bx (pm (encTree p0))), (1048, bx [.p (.sl .nil 0 0 (fun _ => [])), pI 0])] trivial (by kernel_rfl) ?_
       exact joinDone () ⟨hlt1, hm⟩ (Conv.tp [(9, pI (w64 (((k1 : Nat) : Int) + 1)))] [] (by kernel_rfl) (.cons rfl (.of_eq (congrArg pI (w64_succ hlt1 hc1))) .nil) .nil)
    ·
     intro h29
     have hge1 : ¬ k1 < p0.nodes.length := by have := of_decide_eq_false h29; omega
     have hm := he1 hge1
     unfold Add_ref5D1 at hm
     refine DW.exit ?_
     refine joinQ_exit ?_
     refine KQ_exit ?_
     refine blockQ_exit ?_
     show DW _ _ _ _ _
     obtain ⟨r32, hr32, hm⟩ := bind_open hm
     refine DW.seq (DW.seq ?_)
     refine DW.join (ι := Bool) (fun (y6 : Bool) => mkSt [(1, pI p1), (2, pS p2), (3, rr 1024), (6, rr 1048), (65, pB y6)] [(1024, bx (pm (encTree p0))), (1048, bx [.p (.sl .nil 0 0 (fun _ => [])), pI 0])]) (fun y6 => (Add_ref5J6 p0 p1 p2) y6 = some RES) ?_ ?_
     ·
      intro y6 hm
      unfold Add_ref5J6 at hm
      refine DW.cond y6 rfl rfl ?_ ?_
      ·
       intro h35
       replace hm := if_t h35 hm
       refine DW.seq (RK hnt (nn 4 []) [(6, rr 1048), (7, pI 0), (8, pI 7)] [(1048, bx [.p (.sl .nil 0 0 (fun _ => [])), pI 0])] trivial (by kernel_rfl) ?_)
       refine DW.conv (τ := mkSt [(6, rr 1048), (7, pI 0), (8, pI 7)] [(1048, bx [ow 100000 0, pI 0]), (100000, ob0 (roNode []))]) (Conv.trans (τ := mkSt [(6, rr 1048), (7, pI 0), (8, pI 7)] ((100000, ⟨0, .row 6 0 (elems encNode dNode [])⟩) :: [(1048, bx [ow 100000 0, pI 0])])) (Conv.adopt 100000 6 (elems encNode dNode []) rfl rfl (.rfl _) (.box (.cons (.nil _ _) (.cons (.rfl _) (.rfl _))) (.rfl _))) (Conv.trans (τ := mkSt [(6, rr 1048), (7, pI 0), (8, pI 7)] [(1048, bx [ow 100000 0, pI 0]), (100000, ob0 (roNode []))]) (Conv.tp [] [] (by kernel_rfl) .nil .nil) .refl)) ?_
       refine DW.ret ?_
       obtain rfl := Option.some.inj hm
       refine retOK (bs' := [roNode []]) [100000] (.tup [.agg [ow 0 0, pI 0], pI 0, pI 7]) (by kernel_rfl) ?_ ?_
       · rfl
       · rfl
      ·
       intro h35
       replace hm := if_f h35 hm
       refine DW.skip ?_
       obtain ⟨r36, hr36, hm⟩ := bind_open hm
       refine DW.seq (RK hnt (.no :: .call 67 [] true (.agg [ow 0 r36.nodes.length, pI r36.next]) [] [roNode r36.nodes] :: nn 2 []) [(1, pI p1), (2, pS p2), (3, rr 1024), (6, rr 1048), (10, rr 1080)] [(1024, bx (pm (encTree p0))), (1048, bx [.p (.sl .nil 0 0 (fun _ => [])), pI 0]), (1080, bx [ow 1544 r36.nodes.length, pI r36.next]), (1544, ob0 (roNode r36.nodes))] (an (Copy_ref5Spec p0 r36 hr36) trivial) (by kernel_rfl) ?_)
       obtain ⟨g37, hm⟩ := guard_open hm
       refine DW.seq (RN hnt (nn 11 []) [(3, rr 1024), (6, rr 1048), (10, rr 1080)] [(1024, bx (pm (encTree p0))), (1048, bx [.p (.sl .nil 0 0 (fun _ => [])), pI 0]), (1080, bx [ow 1544 (r36.nodes ++ [({ id := p0.next, parent := p1, name := p2, control := 0, kind := 0, owner := 0 } : Node)]).length, pI r36.next]), (1544, ob0 (roNode (r36.nodes ++ [({ id := p0.next, parent := p1, name := p2, control := 0, kind := 0, owner := 0 } : Node)])))] [] [(1080, .box [ow 1544 (r36.nodes.length + 1), pI r36.next]), (1544, .row 6 (r36.nodes.length + 1) (catF r36.nodes.length (elNode r36.nodes) (cut 6 [vi p0.next, vi p1, vs p2, vi 0, vi 0, vi 0])))] (an (by omega : (r36.nodes.length + 1) * 56 ≤ 140737488355328) trivial) (by kernel_rfl) .nil (.cons rfl (.box (.cons (MLe.ownLen (enc := encNode) (d := dNode) (f := (catF r36.nodes.length (elNode r36.nodes) (cut 6 [vi p0.next, vi p1, vs p2, vi 0, vi 0, vi 0]))) (RowIs.cat RowIs.elems (RowIs.lit (enc := encNode) (d := dNode) (n := 1) (f := (cut 6 [vi p0.next, vi p1, vs p2, vi 0, vi 0, vi 0])) [({ id := p0.next, parent := p1, name := p2, control := 0, kind := 0, owner := 0 } : Node)] rfl (fun | 0, _ => rfl | n + 1, h => absurd h (by omega))))) (.cons .rfl .nil))) (.cons rfl (BLe.typed (RowIs.cat RowIs.elems (RowIs.lit (enc := encNode) (d := dNode) (n := 1) (f := (cut 6 [vi p0.next, vi p1, vs p2, vi 0, vi 0, vi 0])) [({ id := p0.next, parent := p1, name := p2, control := 0, kind := 0, owner := 0 } : Node)] rfl (fun | 0, _ => rfl | n + 1, h => absurd h (by omega))))) .nil)) ?_)
       refine DW.seq (RK hnt (nn 5 []) [(3, rr 1024), (6, rr 1048), (10, rr 1080)] [(1024, bx (pm (encTree p0))), (1048, bx [.p (.sl .nil 0 0 (fun _ => [])), pI 0]), (1080, bx [ow 1544 (r36.nodes ++ [({ id := p0.next, parent := p1, name := p2, control := 0, kind := 0, owner := 0 } : Node)]).length, pI (w64 (r36.next + 1))]), (1544, ob0 (roNode (r36.nodes ++ [({ id := p0.next, parent := p1, name := p2, control := 0, kind := 0, owner := 0 } : Node)])))] trivial (by kernel_rfl) ?_)
       refine DW.seq (RK hnt (nn 6 []) [(6, rr 1048), (7, pI p0.next), (8, pI 0)] [(1048, bx [ow 1544 (r36.nodes ++ [({ id := p0.next, parent := p1, name := p2, control := 0, kind := 0, owner := 0 } : Node)]).length, pI (w64 (r36.next + 1))]), (1544, ob0 (roNode (r36.nodes ++ [({ id := p0.next, parent := p1, name := p2, control := 0, kind := 0, owner := 0 } : Node)])))] trivial (by kernel_rfl) ?_)
       refine DW.ret ?_
       obtain rfl := Option.some.inj hm
       refine retOK (bs' := [roNode (r36.nodes ++ [({ id := p0.next, parent := p1, name := p2, control := 0, kind := 0, owner := 0 } : Node)])]) [1544] (.tup [.agg [ow 0 (r36.nodes ++ [({ id := p0.next, parent := p1, name := p2, control := 0, kind := 0, owner := 0 } : Node)]).length, pI (w64 (r36.next + 1))], pI p0.next, pI 0]) (by kernel_rfl) ?_ ?_
       · rfl
       · rfl
     ·
      rcases bt (decide (r32 ≥ 8)) with h33 | h33
      ·
       replace hm := if_t h33 hm
       refine RK hnt (nn 2 (.call 78 [] true (pI r32) [] [] :: nn 2 (sk 4 (pT :: .no :: sk 3 (pT :: []))))) [(1, pI p1), (2, pS p2), (3, rr 1024), (6, rr 1048), (65, pB true)] [(1024, bx (pm (encTree p0))), (1048, bx [.p (.sl .nil 0 0 (fun _ => [])), pI 0])] (an (Depth_ref5Spec p0 p1 r32 hr32) (an5 h33 (an4 tt trivial))) (by kernel_rfl) ?_
       exact joinDone true hm .refl
      ·
       replace hm := if_f h33 hm
       rcases bt (decide (((p0.nodes.length : Nat) : Int) ≥ 64)) with h34 | h34
       ·
        replace hm := if_t h34 hm
        refine RK hnt (nn 2 (.call 78 [] true (pI r32) [] [] :: nn 6 (pF :: .no :: sk 3 (pT :: [])))) [(1, pI p1), (2, pS p2), (3, rr 1024), (6, rr 1048), (65, pB true)] [(1024, bx (pm (encTree p0))), (1048, bx [.p (.sl .nil 0 0 (fun _ => [])), pI 0])] (an (Depth_ref5Spec p0 p1 r32 hr32) (an5 h33 (an4 h34 trivial))) (by kernel_rfl) ?_
        exact joinDone true hm .refl
       ·
        replace hm := if_f h34 hm
        refine RK hnt (nn 2 (.call 78 [] true (pI r32) [] [] :: nn 6 (pF :: nn 4 (pF :: [])))) [(1, pI p1), (2, pS p2), (3, rr 1024), (6, rr 1048), (65, pB (decide (p0.next > 2147483647)))] [(1024, bx (pm (encTree p0))), (1048, bx [.p (.sl .nil 0 0 (fun _ => [])), pI 0])] (an (Depth_ref5Spec p0 p1 r32 hr32) (an5 h33 (an4 h34 trivial))) (by kernel_rfl) ?_
        exact joinDone (decide (p0.next > 2147483647)) hm .refl
 ·
  rcases bt (!r1) with h2 | h2
  ·
   replace hm := if_t h2 hm
   refine RK hnt (.no :: .call 49 [] true (pB r1) [] [] :: nn 2 (sk 3 (pT :: []))) [(1, pI p1), (2, pS p2), (3, rr 1024), (6, rr 1048), (18, pB true)] [(1024, bx (pm (encTree p0))), (1048, bx [.p (.sl .nil 0 0 (fun _ => [])), pI 0])] (an (Check_ref5Spec p0 r1 hr1) (an4 h2 trivial)) (by kernel_rfl) ?_
   exact joinDone true hm .refl
  ·
   replace hm := if_f h2 hm
   obtain ⟨r3, hr3, hm⟩ := bind_open hm
   refine RK hnt (.no :: .call 49 [] true (pB r1) [] [] :: nn 3 (.call 77 [] true (pB r3) [] [] :: .no :: pF :: [])) [(1, pI p1), (2, pS p2), (3, rr 1024), (6, rr 1048), (18, pB (!r3))] [(1024, bx (pm (encTree p0))), (1048, bx [.p (.sl .nil 0 0 (fun _ => [])), pI 0])] (an (Check_ref5Spec p0 r1 hr1) (an2 h2 (an (Valid_ref1Spec p2 r3 hr3) (an2 h2 trivial)))) (by kernel_rfl) ?_
   exact joinDone (!r3) hm .refl

theorem Bool_Dice_madeSpec (p0 : Dice) (p1 : Int) (RES : Bool × Dice) (hm : Bool_Dice_made p0 p1 = some RES) : Spec Try.prog 36 [rr 0, pI p1] [.box (pm (encDice p0))] (pB RES.1) [.box (pm (encDice RES.2))] [] := by
 unfold Bool_Dice_made at hm
 refine spec_of Tgood (T := Tt) Try.func36 (by decide) (c := _) rfl rfl (sl := [(0, rr 0), (1, pI p1)]) (ob := [(0, bx (pm (encDice p0)))]) (Nat.le_of_ble_eq_true rfl) (Nat.le_of_ble_eq_true rfl) (by kernel_rfl) (by kernel_rfl) ?_
 intro cx hnt
 refine DW.start ?_
 refine DW.seq (RK hnt (.no :: []) [(0, rr 0), (1, pI p1)] [(0, bx (pm (encDice p0)))] trivial (by kernel_rfl) ?_)
 obtain ⟨r1, hr1, hm⟩ := bind_open hm
 refine DW.seq (RK hnt (nn 2 (.call 15 [0] true (pI r1.1) [.box (pm (encDice r1.2))] [] :: nn 4 [])) [(4, pB (r1.1 == (w64 (p1 - 1))))] [(0, bx (pm (encDice r1.2)))] (an (Next_Dice_madeSpec p0 p1 r1 hr1) (an trivial trivial)) (by kernel_rfl) ?_)
 refine DW.ret ?_
 obtain rfl := Option.some.inj hm
 refine retOK (bs' := [.box (pm (encDice r1.2))]) [] (pB (r1.1 == (w64 (p1 - 1)))) (by kernel_rfl) ?_ ?_
 · rfl
 · rfl

theorem Children_ref5Spec (p0 : Tree) (p1 : Int) (RES : List Int) (hm : Children_ref5 p0 p1 = some RES) : Spec Try.prog 79 [.p (.agg (encTree p0)), pI p1] [] (ow 0 RES.length) [] [roI RES] := by
 unfold Children_ref5 at hm
 refine spec_of Tgood (T := Tt) Try.func79 (by decide) (c := _) rfl rfl (sl := [(0, .p (.agg (encTree p0))), (1, pI p1)]) (ob := []) (Nat.le_of_ble_eq_true rfl) (Nat.le_of_ble_eq_true rfl) (by kernel_rfl) (by kernel_rfl) ?_
 intro cx hnt
 refine DW.start ?_
 refine DW.seq (RK hnt (nn 2 []) [(1, pI p1), (2, rr 1016)] [(1016, bx (pm (encTree p0)))] trivial (by kernel_rfl) ?_)
 obtain ⟨r1, hr1, hm⟩ := bind_open hm
 refine DW.seq (DW.seq (RK hnt (nn 2 (.call 25 [] true (pB r1) [] [] :: .no :: [])) [(1, pI p1), (2, rr 1016), (10, pB (!r1))] [(1016, bx (pm (encTree p0)))] (an (Has_ref5Spec p0 p1 r1 hr1) trivial) (by kernel_rfl) ?_))
 refine DW.cond (!r1) rfl rfl ?_ ?_
 ·
  intro h2
  replace hm := if_t h2 hm
  refine DW.seq (RK hnt (.no :: []) [(4, .p (.sl .nil 0 0 (fun _ => [])))] [] trivial (by kernel_rfl) ?_)
  refine DW.conv (τ := mkSt [(4, ow 100000 0)] [(100000, ob0 (roI []))]) (Conv.trans (τ := mkSt [(4, ow 100000 0)] ((100000, ⟨0, .row 1 0 (elems encI 0 [])⟩) :: [])) (Conv.adopt 100000 1 (elems encI 0 []) rfl rfl (.cons (.one (.nil _ _)) (.rfl _)) (.rfl _)) (Conv.trans (τ := mkSt [(4, ow 100000 0)] [(100000, ob0 (roI []))]) (Conv.tp [] [] (by kernel_rfl) .nil .nil) .refl)) ?_
  refine DW.ret ?_
  obtain rfl := Option.some.inj hm
  refine retOK (bs' := [roI []]) [100000] (ow 0 0) (by kernel_rfl) ?_ ?_
  · rfl
  · rfl
 ·
  intro h2
  replace hm := if_f h2 hm
  refine DW.skip ?_
  refine DW.seq (RK hnt (.no :: []) [(1, pI p1), (2, rr 1016), (5, .p (.sl .nil 0 0 (fun _ => [])))] [(1016, bx (pm (encTree p0)))] trivial (by kernel_rfl) ?_)
  refine DW.seq (DW.seq (RK hnt (.no :: []) [(1, pI p1), (2, rr 1016), (5, .p (.sl .nil 0 0 (fun _ => []))), (6, pI 0)] [(1016, bx (pm (encTree p0)))] trivial (by kernel_rfl) ?_))
  refine DW.block ?_
  obtain ⟨hc1, hm⟩ := guard_open hm
  refine DW.rangeO (fun (k1 : Nat) (s1 : List Int) => mkSt [(1, pI p1), (2, rr 1016), (5, ow 1272 s1.length), (6, pI ((k1 : Nat) : Int))] [(1016, bx (pm (encTree p0))), (1272, ob0 (roI s1))]) dNode hm (Conv.trans (τ := mkSt [(1, pI p1), (2, rr 1016), (5, ow 1272 0), (6, pI 0)] ((1272, ⟨0, .row 1 0 (elems encI 0 [])⟩) :: [(1016, bx (pm (encTree p0)))])) (Conv.adopt 1272 1 (elems encI 0 []) rfl rfl (.cons (.one (.rfl _)) (.cons (.one (.rfl _)) (.cons (.one (.nil _ _)) (.cons (.one (.rfl _)) (.rfl _))))) (.rfl _)) (Conv.trans (τ := mkSt [(1, pI p1), (2, rr 1016), (5, ow 1272 0), (6, pI 0)] [(1016, bx (pm (encTree p0))), (1272, ob0 (roI []))]) (Conv.tp [] [] (by kernel_rfl) .nil .nil) .refl)) ?_
  intro k1 s1 n1 hk1 hs1 he1
  refine DW.seq (DW.seq (RK hnt (nn 5 []) [(1, pI p1), (2, rr 1016), (5, ow 1272 s1.length), (6, pI ((k1 : Nat) : Int)), (15, pB (decide (((k1 : Nat) : Int) < ((p0.nodes.length : Nat) : Int))))] [(1016, bx (pm (encTree p0))), (1272, ob0 (roI s1))] trivial (by kernel_rfl) ?_))
  refine DW.cond (decide (((k1 : Nat) : Int) < ((p0.nodes.length : Nat) : Int))) rfl rfl ?_ ?_
  ·
   intro h12
   have hlt1 : k1 < p0.nodes.length := by have := of_decide_eq_true h12; omega
   have hm := hs1 hlt1
   unfold Children_ref5L1 at hm
   refine DW.skip ?_
   refine DW.seq ?_
   refine DW.join (ι := List Int) (fun (y3 : List Int) => mkSt [(1, pI p1), (2, rr 1016), (5, ow 1272 y3.length), (6, pI ((k1 : Nat) : Int))] [(1016, bx (pm (encTree p0))), (1272, ob0 (roI y3))]) (fun y3 => (Children_ref5J3 n1) y3 = some RES) ?_ ?_
   ·
    intro y3 hm
    unfold Children_ref5J3 at hm
    refine RK hnt (nn 3 []) [(1, pI p1), (2, rr 1016), (5, ow 1272 y3.length), (6, pI (w64 (((k1 : Nat) : Int) + 1)))] [(1016, bx (pm (encTree p0))), (1272, ob0 (roI y3))] trivial (by kernel_rfl) ?_
    exact joinDone y3 ⟨hlt1, hm⟩ (Conv.tp [(6, pI (w64 (((k1 : Nat) : Int) + 1)))] [] (by kernel_rfl) (.cons rfl (.of_eq (congrArg pI (w64_succ hlt1 hc1))) .nil) .nil)
   ·
    refine DW.block ?_
    refine DW.seq (RK hnt (nn 8 []) [(1, pI p1), (2, rr 1016), (5, ow 1272 s1.length), (6, pI ((k1 : Nat) : Int)), (25, pB ((p0.nodes.getD k1 (default : Node)).parent == p1))] [(1016, bx (pm (encTree p0))), (1272, ob0 (roI s1))] (an (nn0 k1) (an (ltc hlt1) trivial)) (by kernel_rfl) ?_)
    refine DW.cond ((p0.nodes.getD k1 (default : Node)).parent == p1) rfl rfl ?_ ?_
    ·
     intro h13
     replace hm := if_t h13 hm
     obtain ⟨g14, hm⟩ := guard_open hm
     refine RN hnt (nn 10 []) [(1, pI p1), (2, rr 1016), (5, ow 1272 (s1 ++ [(p0.nodes.getD k1 (default : Node)).id]).length), (6, pI ((k1 : Nat) : Int))] [(1016, bx (pm (encTree p0))), (1272, ob0 (roI (s1 ++ [(p0.nodes.getD k1 (default : Node)).id])))] [(5, ow 1272 (s1.length + 1))] [(1272, .row 1 (s1.length + 1) (catF s1.length (elI s1) (cut 1 [vi (p0.nodes.getD k1 (default : Node)).id])))] (an (nn0 k1) (an (ltc hlt1) (an (by omega : (s1.length + 1) * 8 ≤ 140737488355328) trivial))) (by kernel_rfl) (.cons rfl (MLe.ownLen (enc := encI) (d := 0) (f := (catF s1.length (elI s1) (cut 1 [vi (p0.nodes.getD k1 (default : Node)).id]))) (RowIs.cat RowIs.elems (RowIs.lit (enc := encI) (d := 0) (n := 1) (f := (cut 1 [vi (p0.nodes.getD k1 (default : Node)).id])) [(p0.nodes.getD k1 (default : Node)).id] rfl (fun | 0, _ => rfl | n + 1, h => absurd h (by omega))))) .nil) (.cons rfl (BLe.typed (RowIs.cat RowIs.elems (RowIs.lit (enc := encI) (d := 0) (n := 1) (f := (cut 1 [vi (p0.nodes.getD k1 (default : Node)).id])) [(p0.nodes.getD k1 (default : Node)).id] rfl (fun | 0, _ => rfl | n + 1, h => absurd h (by omega))))) .nil) ?_
     exact blockDone (s1 ++ [(p0.nodes.getD k1 (default : Node)).id]) hm .refl
    ·
     intro h13
     replace hm := if_f h13 hm
     refine DW.skip ?_
     exact blockDone s1 hm (Conv.tp [] [] (by kernel_rfl) .nil .nil)
  ·
   intro h12
   have hge1 : ¬ k1 < p0.nodes.length := by have := of_decide_eq_false h12; omega
   have hm := he1 hge1
   unfold Children_ref5D1 at hm
   refine DW.exit ?_
   refine joinQ_exit ?_
   refine KQ_exit ?_
   refine blockQ_exit ?_
   show DW _ _ _ _ _
   refine DW.seq (RK hnt (nn 2 []) [(4, ow 1272 s1.length)] [(1272, ob0 (roI s1))] trivial (by kernel_rfl) ?_)
   refine DW.ret ?_
   obtain rfl := Option.some.inj hm
   refine retOK (bs' := [roI s1]) [1272] (ow 0 s1.length) (by kernel_rfl) ?_ ?_
   · rfl
   · rfl

theorem Remove_ref5Spec (p0 : Tree) (p1 : Int) (RES : Tree × Int) (hm : Remove_ref5 p0 p1 = some RES) : Spec Try.prog 58 [.p (.agg (encTree p0)), pI p1] [] (.tup [.agg [ow 0 RES.1.nodes.length, pI RES.1.next], pI RES.2]) [] [roNode RES.1.nodes] := by
 unfold Remove_ref5 at hm
 refine spec_of Tgood (T := Tt) Try.func58 (by decide) (c := _) rfl rfl (sl := [(0, .p (.agg (encTree p0))), (1, pI p1)]) (ob := []) (Nat.le_of_ble_eq_true rfl) (Nat.le_of_ble_eq_true rfl) (by kernel_rfl) (by kernel_rfl) ?_
 intro cx hnt
 refine DW.start ?_
 refine DW.seq (RK hnt (nn 3 []) [(1, pI p1), (2, rr 1016), (4, rr 1032)] [(1016, bx (pm (encTree p0))), (1032, bx [.p (.sl .nil 0 0 (fun _ => [])), pI 0])] trivial (by kernel_rfl) ?_)
 refine DW.seq (DW.block ?_)
 obtain ⟨r1, hr1, hm⟩ := bind_open hm
 refine DW.seq (RK hnt (.no :: .call 49 [] true (pB r1) [] [] :: nn 2 []) [(1, pI p1), (2, rr 1016), (4, rr 1032), (8, pB (!r1))] [(1016, bx (pm (encTree p0))), (1032, bx [.p (.sl .nil 0 0 (fun _ => [])), pI 0])] (an (Check_ref5Spec p0 r1 hr1) trivial) (by kernel_rfl) ?_)
 refine DW.cond (!r1) rfl rfl ?_ ?_
 ·
  intro h2
  replace hm := if_t h2 hm
  refine DW.seq (RK hnt (nn 3 []) [(4, rr 1032), (5, pI 1)] [(1032, bx [.p (.sl .nil 0 0 (fun _ => [])), pI 0])] trivial (by kernel_rfl) ?_)
  refine DW.conv (τ := mkSt [(4, rr 1032), (5, pI 1)] [(1032, bx [ow 100000 0, pI 0]), (100000, ob0 (roNode []))]) (Conv.trans (τ := mkSt [(4, rr 1032), (5, pI 1)] ((100000, ⟨0, .row 6 0 (elems encNode dNode [])⟩) :: [(1032, bx [ow 100000 0, pI 0])])) (Conv.adopt 100000 6 (elems encNode dNode []) rfl rfl (.rfl _) (.box (.cons (.nil _ _) (.cons (.rfl _) (.rfl _))) (.rfl _))) (Conv.trans (τ := mkSt [(4, rr 1032), (5, pI 1)] [(1032, bx [ow 100000 0, pI 0]), (100000, ob0 (roNode []))]) (Conv.tp [] [] (by kernel_rfl) .nil .nil) .refl)) ?_
  refine DW.ret ?_
  obtain rfl := Option.some.inj hm
  refine retOK (bs' := [roNode []]) [100000] (.tup [.agg [ow 0 0, pI 0], pI 1]) (by kernel_rfl) ?_ ?_
  · rfl
  · rfl
 ·
  intro h2
  replace hm := if_f h2 hm
  obtain ⟨r3, hr3, hm⟩ := bind_open hm
  refine DW.seq (RK hnt (nn 2 (.call 25 [] true (pB r3) [] [] :: nn 2 [])) [(1, pI p1), (2, rr 1016), (4, rr 1032), (13, pB (!r3))] [(1016, bx (pm (encTree p0))), (1032, bx [.p (.sl .nil 0 0 (fun _ => [])), pI 0])] (an (Has_ref5Spec p0 p1 r3 hr3) trivial) (by kernel_rfl) ?_)
  refine DW.cond (!r3) rfl rfl ?_ ?_
  ·
   intro h4
   replace hm := if_t h4 hm
   refine DW.seq (RK hnt (nn 3 []) [(4, rr 1032), (5, pI 4)] [(1032, bx [.p (.sl .nil 0 0 (fun _ => [])), pI 0])] trivial (by kernel_rfl) ?_)
   refine DW.conv (τ := mkSt [(4, rr 1032), (5, pI 4)] [(1032, bx [ow 100000 0, pI 0]), (100000, ob0 (roNode []))]) (Conv.trans (τ := mkSt [(4, rr 1032), (5, pI 4)] ((100000, ⟨0, .row 6 0 (elems encNode dNode [])⟩) :: [(1032, bx [ow 100000 0, pI 0])])) (Conv.adopt 100000 6 (elems encNode dNode []) rfl rfl (.rfl _) (.box (.cons (.nil _ _) (.cons (.rfl _) (.rfl _))) (.rfl _))) (Conv.trans (τ := mkSt [(4, rr 1032), (5, pI 4)] [(1032, bx [ow 100000 0, pI 0]), (100000, ob0 (roNode []))]) (Conv.tp [] [] (by kernel_rfl) .nil .nil) .refl)) ?_
   refine DW.ret ?_
   obtain rfl := Option.some.inj hm
   refine retOK (bs' := [roNode []]) [100000] (.tup [.agg [ow 0 0, pI 0], pI 4]) (by kernel_rfl) ?_ ?_
   · rfl
   · rfl
  ·
   intro h4
   replace hm := if_f h4 hm
   refine DW.seq (RK hnt (nn 3 []) [(1, pI p1), (2, rr 1016), (4, rr 1032), (19, pB (p1 == 1))] [(1016, bx (pm (encTree p0))), (1032, bx [.p (.sl .nil 0 0 (fun _ => [])), pI 0])] trivial (by kernel_rfl) ?_)
   refine DW.cond (p1 == 1) rfl rfl ?_ ?_
   ·
    intro h5
    replace hm := if_t h5 hm
    refine DW.seq (RK hnt (nn 3 []) [(4, rr 1032), (5, pI 9)] [(1032, bx [.p (.sl .nil 0 0 (fun _ => [])), pI 0])] trivial (by kernel_rfl) ?_)
    refine DW.conv (τ := mkSt [(4, rr 1032), (5, pI 9)] [(1032, bx [ow 100000 0, pI 0]), (100000, ob0 (roNode []))]) (Conv.trans (τ := mkSt [(4, rr 1032), (5, pI 9)] ((100000, ⟨0, .row 6 0 (elems encNode dNode [])⟩) :: [(1032, bx [ow 100000 0, pI 0])])) (Conv.adopt 100000 6 (elems encNode dNode []) rfl rfl (.rfl _) (.box (.cons (.nil _ _) (.cons (.rfl _) (.rfl _))) (.rfl _))) (Conv.trans (τ := mkSt [(4, rr 1032), (5, pI 9)] [(1032, bx [ow 100000 0, pI 0]), (100000, ob0 (roNode []))]) (Conv.tp [] [] (by kernel_rfl) .nil .nil) .refl)) ?_
    refine DW.ret ?_
    obtain rfl := Option.some.inj hm
    refine retOK (bs' := [roNode []]) [100000] (.tup [.agg [ow 0 0, pI 0], pI 9]) (by kernel_rfl) ?_ ?_
    · rfl
    · rfl
   ·
    intro h5
    replace hm := if_f h5 hm
    obtain ⟨r6, hr6, hm⟩ := bind_open hm
    refine DW.seq (RK hnt (nn 2 (.call 79 [] true (ow 0 r6.length) [] [roI r6] :: nn 3 [])) [(1, pI p1), (2, rr 1016), (4, rr 1032), (23, pB (decide (((r6.length : Nat) : Int) > 0)))] [(1016, bx (pm (encTree p0))), (1032, bx [.p (.sl .nil 0 0 (fun _ => [])), pI 0])] (an (Children_ref5Spec p0 p1 r6 hr6) trivial) (by kernel_rfl) ?_)
    refine DW.cond (decide (((r6.length : Nat) : Int) > 0)) rfl rfl ?_ ?_
    ·
     intro h7
     replace hm := if_t h7 hm
     refine DW.seq (RK hnt (nn 3 []) [(4, rr 1032), (5, pI 6)] [(1032, bx [.p (.sl .nil 0 0 (fun _ => [])), pI 0])] trivial (by kernel_rfl) ?_)
     refine DW.conv (τ := mkSt [(4, rr 1032), (5, pI 6)] [(1032, bx [ow 100000 0, pI 0]), (100000, ob0 (roNode []))]) (Conv.trans (τ := mkSt [(4, rr 1032), (5, pI 6)] ((100000, ⟨0, .row 6 0 (elems encNode dNode [])⟩) :: [(1032, bx [ow 100000 0, pI 0])])) (Conv.adopt 100000 6 (elems encNode dNode []) rfl rfl (.rfl _) (.box (.cons (.nil _ _) (.cons (.rfl _) (.rfl _))) (.rfl _))) (Conv.trans (τ := mkSt [(4, rr 1032), (5, pI 6)] [(1032, bx [ow 100000 0, pI 0]), (100000, ob0 (roNode []))]) (Conv.tp [] [] (by kernel_rfl) .nil .nil) .refl)) ?_
     refine DW.ret ?_
     obtain rfl := Option.some.inj hm
     refine retOK (bs' := [roNode []]) [100000] (.tup [.agg [ow 0 0, pI 0], pI 6]) (by kernel_rfl) ?_ ?_
     · rfl
     · rfl
    ·
     intro h7
     replace hm := if_f h7 hm
     refine DW.skip ?_
     refine DW.done ?_
     show DW _ _ _ _ _
     refine DW.seq (RK hnt (nn 5 []) [(1, pI p1), (2, rr 1016), (4, rr 1032), (6, rr 1048)] [(1016, bx (pm (encTree p0))), (1032, bx [.p (.sl .nil 0 0 (fun _ => [])), pI 0]), (1048, bx [.p (.sl .nil 0 0 (fun _ => [])), pI p0.next])] trivial (by kernel_rfl) ?_)
     refine DW.seq (DW.seq (RK hnt (.no :: []) [(1, pI p1), (2, rr 1016), (4, rr 1032), (6, rr 1048), (7, pI 0)] [(1016, bx (pm (encTree p0))), (1032, bx [.p (.sl .nil 0 0 (fun _ => [])), pI 0]), (1048, bx [.p (.sl .nil 0 0 (fun _ => [])), pI p0.next])] trivial (by kernel_rfl) ?_))
     refine DW.block ?_
     obtain ⟨hc1, hm⟩ := guard_open hm
     refine DW.rangeO (fun (k1 : Nat) (s1 : List Node) => mkSt [(1, pI p1), (2, rr 1016), (4, rr 1032), (6, rr 1048), (7, pI ((k1 : Nat) : Int))] [(1016, bx (pm (encTree p0))), (1032, bx [.p (.sl .nil 0 0 (fun _ => [])), pI 0]), (1048, bx [ow 1448 s1.length, pI p0.next]), (1448, ob0 (roNode s1))]) dNode hm (Conv.trans (τ := mkSt [(1, pI p1), (2, rr 1016), (4, rr 1032), (6, rr 1048), (7, pI 0)] ((1448, ⟨0, .row 6 0 (elems encNode dNode [])⟩) :: [(1016, bx (pm (encTree p0))), (1032, bx [.p (.sl .nil 0 0 (fun _ => [])), pI 0]), (1048, bx [ow 1448 0, pI p0.next])])) (Conv.adopt 1448 6 (elems encNode dNode []) rfl rfl (.rfl _) (.keep (.keep (.box (.cons (.nil _ _) (.cons (.rfl _) (.rfl _))) (.rfl _))))) (Conv.trans (τ := mkSt [(1, pI p1), (2, rr 1016), (4, rr 1032), (6, rr 1048), (7, pI 0)] [(1016, bx (pm (encTree p0))), (1032, bx [.p (.sl .nil 0 0 (fun _ => [])), pI 0]), (1048, bx [ow 1448 0, pI p0.next]), (1448, ob0 (roNode []))]) (Conv.tp [] [] (by kernel_rfl) .nil .nil) .refl)) ?_
     intro k1 s1 n1 hk1 hs1 he1
     refine DW.seq (DW.seq (RK hnt (nn 5 []) [(1, pI p1), (2, rr 1016), (4, rr 1032), (6, rr 1048), (7, pI ((k1 : Nat) : Int)), (37, pB (decide (((k1 : Nat) : Int) < ((p0.nodes.length : Nat) : Int))))] [(1016, bx (pm (encTree p0))), (1032, bx [.p (.sl .nil 0 0 (fun _ => [])), pI 0]), (1048, bx [ow 1448 s1.length, pI p0.next]), (1448, ob0 (roNode s1))] trivial (by kernel_rfl) ?_))
     refine DW.cond (decide (((k1 : Nat) : Int) < ((p0.nodes.length : Nat) : Int))) rfl rfl ?_ ?_
     ·
      intro h17
      have hlt1 : k1 < p0.nodes.length := by have := of_decide_eq_true h17; omega
      have hm := hs1 hlt1
      unfold Remove_ref5L1 at hm
      refine DW.skip ?_
      refine DW.seq ?_
      refine DW.join (ι := List Node) (fun (y3 : List Node) => mkSt [(1, pI p1), (2, rr 1016), (4, rr 1032), (6, rr 1048), (7, pI ((k1 : Nat) : Int))] [(1016, bx (pm (encTree p0))), (1032, bx [.p (.sl .nil 0 0 (fun _ => [])), pI 0]), (1048, bx [ow 1448 y3.length, pI p0.next]), (1448, ob0 (roNode y3))]) (fun y3 => (Remove_ref5J3 n1) y3 = some RES) ?_ ?_
      ·
       intro y3 hm
       unfold Remove_ref5J3 at hm
       refine RK hnt (nn 3 []) [(1, pI p1), (2, rr 1016), (4, rr 1032), (6, rr 1048), (7, pI (w64 (((k1 : Nat) : Int) + 1)))] [(1016, bx (pm (encTree p0))), (1032, bx [.p (.sl .nil 0 0 (fun _ => [])), pI 0]), (1048, bx [ow 1448 y3.length, pI p0.next]), (1448, ob0 (roNode y3))] trivial (by kernel_rfl) ?_
       exact joinDone y3 ⟨hlt1, hm⟩ (Conv.tp [(7, pI (w64 (((k1 : Nat) : Int) + 1)))] [] (by kernel_rfl) (.cons rfl (.of_eq (congrArg pI (w64_succ hlt1 hc1))) .nil) .nil)
      ·
       refine DW.block ?_
       refine DW.seq (RK hnt (nn 8 []) [(1, pI p1), (2, rr 1016), (4, rr 1032), (6, rr 1048), (7, pI ((k1 : Nat) : Int)), (47, pB ((p0.nodes.getD k1 (default : Node)).id != p1))] [(1016, bx (pm (encTree p0))), (1032, bx [.p (.sl .nil 0 0 (fun _ => [])), pI 0]), (1048, bx [ow 1448 s1.length, pI p0.next]), (1448, ob0 (roNode s1))] (an (nn0 k1) (an (ltc hlt1) trivial)) (by kernel_rfl) ?_)
       refine DW.cond ((p0.nodes.getD k1 (default : Node)).id != p1) rfl rfl ?_ ?_
       ·
        intro h18
        replace hm := if_t h18 hm
        obtain ⟨g19, hm⟩ := guard_open hm
        refine RN hnt (nn 11 []) [(1, pI p1), (2, rr 1016), (4, rr 1032), (6, rr 1048), (7, pI ((k1 : Nat) : Int))] [(1016, bx (pm (encTree p0))), (1032, bx [.p (.sl .nil 0 0 (fun _ => [])), pI 0]), (1048, bx [ow 1448 (s1 ++ [(p0.nodes.getD k1 (default : Node))]).length, pI p0.next]), (1448, ob0 (roNode (s1 ++ [(p0.nodes.getD k1 (default : Node))])))] [] [(1048, .box [ow 1448 (s1.length + 1), pI p0.next]), (1448, .row 6 (s1.length + 1) (catF s1.length (elNode s1) (cut 6 [vi (p0.nodes.getD k1 (default : Node)).id, vi (p0.nodes.getD k1 (default : Node)).parent, vs (p0.nodes.getD k1 (default : Node)).name, vi (p0.nodes.getD k1 (default : Node)).control, vi (p0.nodes.getD k1 (default : Node)).kind, vi (p0.nodes.getD k1 (default : Node)).owner])))] (an (nn0 k1) (an (ltc hlt1) (an (by omega : (s1.length + 1) * 56 ≤ 140737488355328) trivial))) (by kernel_rfl) .nil (.cons rfl (.box (.cons (MLe.ownLen (enc := encNode) (d := dNode) (f := (catF s1.length (elNode s1) (cut 6 [vi (p0.nodes.getD k1 (default : Node)).id, vi (p0.nodes.getD k1 (default : Node)).parent, vs (p0.nodes.getD k1 (default : Node)).name, vi (p0.nodes.getD k1 (default : Node)).control, vi (p0.nodes.getD k1 (default : Node)).kind, vi (p0.nodes.getD k1 (default : Node)).owner]))) (RowIs.cat RowIs.elems (RowIs.lit (enc := encNode) (d := dNode) (n := 1) (f := (cut 6 [vi (p0.nodes.getD k1 (default : Node)).id, vi (p0.nodes.getD k1 (default : Node)).parent, vs (p0.nodes.getD k1 (default : Node)).name, vi (p0.nodes.getD k1 (default : Node)).control, vi (p0.nodes.getD k1 (default : Node)).kind, vi (p0.nodes.getD k1 (default : Node)).owner])) [(p0.nodes.getD k1 (default : Node))] rfl (fun | 0, _ => rfl | n + 1, h => absurd h (by omega))))) (.cons .rfl .nil))) (.cons rfl (BLe.typed (RowIs.cat RowIs.elems (RowIs.lit (enc := encNode) (d := dNode) (n := 1) (f := (cut 6 [vi (p0.nodes.getD k1 (default : Node)).id, vi (p0.nodes.getD k1 (default : Node)).parent, vs (p0.nodes.getD k1 (default : Node)).name, vi (p0.nodes.getD k1 (default : Node)).control, vi (p0.nodes.getD k1 (default : Node)).kind, vi (p0.nodes.getD k1 (default : Node)).owner])) [(p0.nodes.getD k1 (default : Node))] rfl (fun | 0, _ => rfl | n + 1, h => absurd h (by omega))))) .nil)) ?_
        exact blockDone (s1 ++ [(p0.nodes.getD k1 (default : Node))]) hm .refl
       ·
        intro h18
        replace hm := if_f h18 hm
        refine DW.skip ?_
        exact blockDone s1 hm (Conv.tp [] [] (by kernel_rfl) .nil .nil)
     ·
      intro h17
      have hge1 : ¬ k1 < p0.nodes.length := by have := of_decide_eq_false h17; omega
      have hm := he1 hge1
      unfold Remove_ref5D1 at hm
      refine DW.exit ?_
      refine joinQ_exit ?_
      refine KQ_exit ?_
      refine blockQ_exit ?_
      show DW _ _ _ _ _
      refine DW.seq (RK hnt (nn 3 []) [(4, rr 1032), (5, pI 0)] [(1032, bx [ow 1448 s1.length, pI p0.next]), (1448, ob0 (roNode s1))] trivial (by kernel_rfl) ?_)
      refine DW.ret ?_
      obtain rfl := Option.some.inj hm
      refine retOK (bs' := [roNode s1]) [1448] (.tup [.agg [ow 0 s1.length, pI p0.next], pI 0]) (by kernel_rfl) ?_ ?_
      · rfl
      · rfl

theorem Tree_Dice_madeSpec (p0 : Dice) (p1 : Int) (RES : Tree × Dice) (hm : Tree_Dice_made p0 p1 = some RES) : Spec Try.prog 32 [rr 0, pI p1] [.box (pm (encDice p0))] (.p (.agg (encTree RES.1))) [.box (pm (encDice RES.2))] [] := by
 unfold Tree_Dice_made at hm
 refine spec_of Tgood (T := Tt) Try.func32 (by decide) (c := _) rfl rfl (sl := [(0, rr 0), (1, pI p1)]) (ob := [(0, bx (pm (encDice p0)))]) (Nat.le_of_ble_eq_true rfl) (Nat.le_of_ble_eq_true rfl) (by kernel_rfl) (by kernel_rfl) ?_
 intro cx hnt
 refine DW.start ?_
 refine DW.seq (RK hnt (.no :: []) [(0, rr 0), (1, pI p1), (4, rr 1032)] [(0, bx (pm (encDice p0))), (1032, bx [.p (.sl .nil 0 0 (fun _ => [])), pI 0])] trivial (by kernel_rfl) ?_)
 obtain ⟨r1, hr1, hm⟩ := bind_open hm
 refine DW.seq (RK hnt (.call 20 [] true (.agg [ow 0 r1.nodes.length, pI r1.next]) [] [roNode r1.nodes] :: nn 2 []) [(0, rr 0), (1, pI p1), (4, rr 1032), (5, rr 1040)] [(0, bx (pm (encDice p0))), (1032, bx [.p (.sl .nil 0 0 (fun _ => [])), pI 0]), (1040, bx [ow 1104 r1.nodes.length, pI r1.next]), (1104, ob0 (roNode r1.nodes))] (an (New_ref5Spec r1 hr1) trivial) (by kernel_rfl) ?_)
 obtain ⟨r2, hr2, hm⟩ := bind_open hm
 refine DW.seq (DW.seq (RK hnt (nn 3 (.call 15 [0] true (pI r2.1) [.box (pm (encDice r2.2))] [] :: .no :: [])) [(0, rr 0), (4, rr 1032), (5, rr 1040), (6, pI r2.1)] [(0, bx (pm (encDice r2.2))), (1032, bx [.p (.sl .nil 0 0 (fun _ => [])), pI 0]), (1040, bx [ow 1104 r1.nodes.length, pI r1.next]), (1104, ob0 (roNode r1.nodes))] (an (Next_Dice_madeSpec p0 (w64 (p1 + 1)) r2 hr2) (an trivial trivial)) (by kernel_rfl) ?_))
 refine DW.block ?_
 refine DW.whileO (fun (s1 : Dice × Tree × Int) => mkSt [(0, rr 0), (4, rr 1032), (5, rr 1040), (6, pI s1.2.2)] [(0, bx (pm (encDice s1.1))), (1032, bx [.p (.sl .nil 0 0 (fun _ => [])), pI 0]), (1040, bx (pm (encTree s1.2.1)))]) hm (Conv.trans (τ := mkSt [(0, rr 0), (4, rr 1032), (5, rr 1040), (6, pI r2.1)] [(0, bx (pm (encDice r2.2))), (1032, bx [.p (.sl .nil 0 0 (fun _ => [])), pI 0]), (1040, bx (pm (encTree r1)))]) (Conv.freezes [1104] (by kernel_rfl)) .refl) ?_
 intro s1 n1 hm
 unfold Tree_Dice_madeL1 at hm
 refine DW.seq (DW.seq (RK hnt (nn 2 []) [(0, rr 0), (4, rr 1032), (5, rr 1040), (6, pI s1.2.2), (19, pB (decide (s1.2.2 > 0)))] [(0, bx (pm (encDice s1.1))), (1032, bx [.p (.sl .nil 0 0 (fun _ => [])), pI 0]), (1040, bx (pm (encTree s1.2.1)))] trivial (by kernel_rfl) ?_))
 refine DW.cond (decide (s1.2.2 > 0)) rfl rfl ?_ ?_
 ·
  intro h18
  replace hm := if_t h18 hm
  refine DW.skip ?_
  refine DW.seq ?_
  refine DW.join (ι := Dice × Tree) (fun (y3 : Dice × Tree) => mkSt [(0, rr 0), (4, rr 1032), (5, rr 1040), (6, pI s1.2.2)] [(0, bx (pm (encDice y3.1))), (1032, bx [.p (.sl .nil 0 0 (fun _ => [])), pI 0]), (1040, bx (pm (encTree y3.2)))]) (fun y3 => (Tree_Dice_madeJ3 s1 n1) y3 = some RES) ?_ ?_
  ·
   intro y3 hm
   unfold Tree_Dice_madeJ3 at hm
   refine RK hnt (nn 3 []) [(0, rr 0), (4, rr 1032), (5, rr 1040), (6, pI (w64 (s1.2.2 - 1)))] [(0, bx (pm (encDice y3.1))), (1032, bx [.p (.sl .nil 0 0 (fun _ => [])), pI 0]), (1040, bx (pm (encTree y3.2)))] trivial (by kernel_rfl) ?_
   exact joinDone (y3.1, y3.2, (w64 (s1.2.2 - 1))) hm .refl
  ·
   refine DW.block ?_
   obtain ⟨r19, hr19, hm⟩ := bind_open hm
   obtain ⟨g20, hm⟩ := guard_open hm
   refine DW.seq (RK hnt (nn 6 (.call 15 [0] true (pI r19.1) [.box (pm (encDice r19.2))] [] :: nn 4 [])) [(0, rr 0), (4, rr 1032), (5, rr 1040), (6, pI s1.2.2), (7, pI (s1.2.1.nodes.getD (Int.toNat r19.1) dNode).id)] [(0, bx (pm (encDice r19.2))), (1032, bx [.p (.sl .nil 0 0 (fun _ => [])), pI 0]), (1040, bx (pm (encTree s1.2.1)))] (an (Next_Dice_madeSpec s1.1 ((s1.2.1.nodes.length : Nat) : Int) r19 hr19) (an trivial (an g20.1 (an g20.2 trivial)))) (by kernel_rfl) ?_)
   obtain ⟨r21, hr21, hm⟩ := bind_open hm
   obtain ⟨r22, hr22, hm⟩ := bind_open hm
   refine DW.seq (DW.seq (RK hnt (nn 3 (.call 57 [0] true (pS r21.1) [.box (pm (encDice r21.2))] [] :: .call 56 [] true (.tup [.agg [ow 0 r22.1.nodes.length, pI r22.1.next], pI r22.2.1, pI r22.2.2]) [] [roNode r22.1.nodes] :: nn 8 [])) [(0, rr 0), (4, rr 1032), (5, rr 1040), (6, pI s1.2.2), (8, rr 1064), (10, pI r22.2.2)] [(0, bx (pm (encDice r21.2))), (1032, bx [.p (.sl .nil 0 0 (fun _ => [])), pI 0]), (1040, bx (pm (encTree s1.2.1))), (1064, bx [ow 1296 r22.1.nodes.length, pI r22.1.next]), (1296, ob0 (roNode r22.1.nodes))] (an (Name_Dice_madeSpec r19.2 r21 hr21) (an trivial (an (Add_ref5Spec s1.2.1 (s1.2.1.nodes.getD (Int.toNat r19.1) dNode).id r21.1 r22 hr22) trivial))) (by kernel_rfl) ?_))
   refine DW.seq (RK hnt (nn 2 []) [(0, rr 0), (4, rr 1032), (5, rr 1040), (6, pI s1.2.2), (8, rr 1064), (42, pB (r22.2.2 == 0))] [(0, bx (pm (encDice r21.2))), (1032, bx [.p (.sl .nil 0 0 (fun _ => [])), pI 0]), (1040, bx (pm (encTree s1.2.1))), (1064, bx [ow 1296 r22.1.nodes.length, pI r22.1.next]), (1296, ob0 (roNode r22.1.nodes))] trivial (by kernel_rfl) ?_)
   refine DW.join (ι := Tree) (fun (y4 : Tree) => mkSt [(0, rr 0), (4, rr 1032), (5, rr 1040), (6, pI s1.2.2)] [(0, bx (pm (encDice r21.2))), (1032, bx [.p (.sl .nil 0 0 (fun _ => [])), pI 0]), (1040, bx (pm (encTree y4)))]) (fun y4 => (Tree_Dice_madeJ4 s1 n1 r21) y4 = some RES) ?_ ?_
   ·
    intro y4 hm
    unfold Tree_Dice_madeJ4 at hm
    obtain ⟨r24, hr24, hm⟩ := bind_open hm
    refine DW.seq (RK hnt (.no :: .call 36 [0] true (pB r24.1) [.box (pm (encDice r24.2))] [] :: []) [(0, rr 0), (4, rr 1032), (5, rr 1040), (6, pI s1.2.2), (45, pB r24.1)] [(0, bx (pm (encDice r24.2))), (1032, bx [.p (.sl .nil 0 0 (fun _ => [])), pI 0]), (1040, bx (pm (encTree y4)))] (an (Bool_Dice_madeSpec r21.2 6 r24 hr24) (an trivial trivial)) (by kernel_rfl) ?_)
    refine DW.cond r24.1 rfl rfl ?_ ?_
    ·
     intro h25
     replace hm := if_t h25 hm
     obtain ⟨r26, hr26, hm⟩ := bind_open hm
     obtain ⟨g27, hm⟩ := guard_open hm
     obtain ⟨r28, hr28, hm⟩ := bind_open hm
     refine DW.seq (RK hnt (nn 7 (.call 15 [0] true (pI r26.1) [.box (pm (encDice r26.2))] [] :: nn 3 (.call 58 [] true (.tup [.agg [ow 0 r28.1.nodes.length, pI r28.1.next], pI r28.2]) [] [roNode r28.1.nodes] :: nn 6 []))) [(0, rr 0), (4, rr 1032), (5, rr 1040), (6, pI s1.2.2), (11, rr 1088), (12, pI r28.2)] [(0, bx (pm (encDice r26.2))), (1032, bx [.p (.sl .nil 0 0 (fun _ => [])), pI 0]), (1040, bx (pm (encTree y4))), (1088, bx [ow 1464 r28.1.nodes.length, pI r28.1.next]), (1464, ob0 (roNode r28.1.nodes))] (an (Next_Dice_madeSpec r24.2 ((y4.nodes.length : Nat) : Int) r26 hr26) (an trivial (an g27.1 (an g27.2 (an (Remove_ref5Spec y4 (y4.nodes.getD (Int.toNat r26.1) dNode).id r28 hr28) trivial))))) (by kernel_rfl) ?_)
     refine DW.seq (RK hnt (nn 2 []) [(0, rr 0), (4, rr 1032), (5, rr 1040), (6, pI s1.2.2), (11, rr 1088), (62, pB (r28.2 == 0))] [(0, bx (pm (encDice r26.2))), (1032, bx [.p (.sl .nil 0 0 (fun _ => [])), pI 0]), (1040, bx (pm (encTree y4))), (1088, bx [ow 1464 r28.1.nodes.length, pI r28.1.next]), (1464, ob0 (roNode r28.1.nodes))] trivial (by kernel_rfl) ?_)
     refine DW.cond (r28.2 == 0) rfl rfl ?_ ?_
     ·
      intro h29
      replace hm := if_t h29 hm
      refine RK hnt (nn 2 []) [(0, rr 0), (4, rr 1032), (5, rr 1040), (6, pI s1.2.2)] [(0, bx (pm (encDice r26.2))), (1032, bx [.p (.sl .nil 0 0 (fun _ => [])), pI 0]), (1040, bx [ow 1464 r28.1.nodes.length, pI r28.1.next]), (1464, ob0 (roNode r28.1.nodes))] trivial (by kernel_rfl) ?_
      exact blockDone (r26.2, r28.1) hm (Conv.trans (τ := mkSt [(0, rr 0), (4, rr 1032), (5, rr 1040), (6, pI s1.2.2)] [(0, bx (pm (encDice r26.2))), (1032, bx [.p (.sl .nil 0 0 (fun _ => [])), pI 0]), (1040, bx (pm (encTree r28.1)))]) (Conv.freezes [1464] (by kernel_rfl)) .refl)
     ·
      intro h29
      replace hm := if_f h29 hm
      refine DW.skip ?_
      exact blockDone (r26.2, y4) hm (Conv.tp [] [] (by kernel_rfl) .nil .nil)
    ·
     intro h25
     replace hm := if_f h25 hm
     refine DW.skip ?_
     exact blockDone (r24.2, y4) hm (Conv.tp [] [] (by kernel_rfl) .nil .nil)
   ·
    refine DW.cond (r22.2.2 == 0) rfl rfl ?_ ?_
    ·
     intro h23
     replace hm := if_t h23 hm
     refine RK hnt (nn 2 []) [(0, rr 0), (4, rr 1032), (5, rr 1040), (6, pI s1.2.2)] [(0, bx (pm (encDice r21.2))), (1032, bx [.p (.sl .nil 0 0 (fun _ => [])), pI 0]), (1040, bx [ow 1296 r22.1.nodes.length, pI r22.1.next]), (1296, ob0 (roNode r22.1.nodes))] trivial (by kernel_rfl) ?_
     exact joinDone r22.1 hm (Conv.trans (τ := mkSt [(0, rr 0), (4, rr 1032), (5, rr 1040), (6, pI s1.2.2)] [(0, bx (pm (encDice r21.2))), (1032, bx [.p (.sl .nil 0 0 (fun _ => [])), pI 0]), (1040, bx (pm (encTree r22.1)))]) (Conv.freezes [1296] (by kernel_rfl)) .refl)
    ·
     intro h23
     replace hm := if_f h23 hm
     refine DW.skip ?_
     exact joinDone s1.2.1 hm (Conv.tp [] [] (by kernel_rfl) .nil .nil)
 ·
  intro h18
  replace hm := if_f h18 hm
  refine DW.exit ?_
  refine joinQ_exit ?_
  refine KQ_exit ?_
  refine blockQ_exit ?_
  show DW _ _ _ _ _
  refine DW.seq (RK hnt (nn 2 []) [(4, rr 1032)] [(0, bx (pm (encDice s1.1))), (1032, bx (pm (encTree s1.2.1)))] trivial (by kernel_rfl) ?_)
  refine DW.ret ?_
  obtain rfl := Option.some.inj hm
  refine retOK (bs' := [.box (pm (encDice s1.1))]) [] (.p (.agg (encTree s1.2.1))) (by kernel_rfl) ?_ ?_
  · rfl
  · rfl
end Go.Dm
