/- Texts of the proof of MemberLimits: the data machine, the models of the Go functions, their contracts. -/
import Derived.Test.YtdckdjkjjmadeaaMemberLimitsA1
set_option linter.unusedVariables false
set_option linter.unusedSimpArgs false
/- Go functions compute their models, printed by a program. -/
namespace Go.Dm
open Go.Proofs
set_option linter.unusedVariables false
theorem ref5_New_spec (RES : Tree) (hm : ref5_New = some RES) : Spec Try.prog 20 [] [] (.agg [.own 0 0 0 RES.nodes.length, .p (vi RES.next)]) [] [rowOf 6 encNode (default : Node) RES.nodes] := by
  unfold ref5_New at hm
  refine spec_of Tgood (T := Tt) Try.func20 (by decide) (c := _) rfl rfl (sl := []) (ob := []) (Nat.le_of_ble_eq_true rfl) (Nat.le_of_ble_eq_true rfl) (by kernel_rfl) (by kernel_rfl) ?_
  intro cx hnt
  refine DW.start ?_
  refine DW.seq ?_
  refine DW.regE Tgood mixed hnt [.no] [0] [1000]
    [(0, .ref 1000 0 0)]
    [(1000, ⟨0, .box [.p (.sl .nil 0 0 (fun _ => [])), .p (vi 0)]⟩)]
    [] (by kernel_rfl) trivial ?_
  refine DW.seq ?_
  refine DW.reg Tgood mixed hnt [.no, .no, .no, .no] [0] [1000, 1016]
    [(0, .ref 1000 0 0)]
    [(0, .ref 1000 0 0)]
    [(1000, ⟨0, .box [.own 1016 0 0 1, .p (vi 2)]⟩), (1016, ⟨0, .row 6 1 (cut 6 [vi 1, vi 0, vs ByteArray.empty, vi 0, vi 0, vi 0])⟩)]
    [(1000, ⟨0, .box [.own 1016 0 0 [({ id := 1, parent := 0, name := ByteArray.empty, control := 0, kind := 0, owner := 0 } : Node)].length, .p (vi 2)]⟩), (1016, ⟨0, rowOf 6 encNode (default : Node) [({ id := 1, parent := 0, name := ByteArray.empty, control := 0, kind := 0, owner := 0 } : Node)]⟩)]
    [] (by kernel_rfl) trivial .rfl (.cons (.box (.cons (MLe.ownLen (enc := encNode) (d := (default : Node)) (f := (cut 6 [vi 1, vi 0, vs ByteArray.empty, vi 0, vi 0, vi 0])) (RowIs.lit (enc := encNode) (d := (default : Node)) (n := 1) (f := (cut 6 [vi 1, vi 0, vs ByteArray.empty, vi 0, vi 0, vi 0])) [({ id := 1, parent := 0, name := ByteArray.empty, control := 0, kind := 0, owner := 0 } : Node)] rfl (fun | 0, _ => rfl | n + 1, h => absurd h (by omega)))) (.cons .rfl .nil))) (.cons (BLe.typed (RowIs.lit (enc := encNode) (d := (default : Node)) (n := 1) (f := (cut 6 [vi 1, vi 0, vs ByteArray.empty, vi 0, vi 0, vi 0])) [({ id := 1, parent := 0, name := ByteArray.empty, control := 0, kind := 0, owner := 0 } : Node)] rfl (fun | 0, _ => rfl | n + 1, h => absurd h (by omega)))) .rfl)) ?_
  refine DW.ret ?_
  obtain rfl := Option.some.inj hm
  refine retOK (bs' := [rowOf 6 encNode (default : Node) [({ id := 1, parent := 0, name := ByteArray.empty, control := 0, kind := 0, owner := 0 } : Node)]]) [1016] (.agg [.own 0 0 0 [({ id := 1, parent := 0, name := ByteArray.empty, control := 0, kind := 0, owner := 0 } : Node)].length, .p (vi 2)]) (by kernel_rfl) ?_ ?_
  · rfl
  · rfl

theorem ref6_New_spec (RES : Hierarchy) (hm : ref6_New = some RES) : Spec Try.prog 5 [] [] (.agg [.own 0 0 0 RES.tree.nodes.length, .p (vi RES.tree.next), .own 1 0 0 RES.tasks.length, .p (vi RES.next)]) [] [rowOf 6 encNode (default : Node) RES.tree.nodes, rowOf 4 encTask (default : Task) RES.tasks] := by
  unfold ref6_New at hm
  refine spec_of Tgood (T := Tt) Try.func5 (by decide) (c := _) rfl rfl (sl := []) (ob := []) (Nat.le_of_ble_eq_true rfl) (Nat.le_of_ble_eq_true rfl) (by kernel_rfl) (by kernel_rfl) ?_
  intro cx hnt
  refine DW.start ?_
  refine DW.seq ?_
  refine DW.regE Tgood mixed hnt [.no] [0] [1000]
    [(0, .ref 1000 0 0)]
    [(1000, ⟨0, .box [.p (.sl .nil 0 0 (fun _ => [])), .p (vi 0), .p (.sl .nil 0 0 (fun _ => [])), .p (vi 0)]⟩)]
    [] (by kernel_rfl) trivial ?_
  refine DW.seq ?_
  obtain ⟨r1, hr1, hm⟩ := bind_open hm
  refine DW.regE Tgood mixed hnt [.call 20 [] true (.agg [.own 0 0 0 r1.nodes.length, .p (vi r1.next)]) [] [rowOf 6 encNode (default : Node) r1.nodes], .no, .no] [0] [1000, 1008]
    [(0, .ref 1000 0 0)]
    [(1000, ⟨0, .box [.own 1008 0 0 r1.nodes.length, .p (vi r1.next), .p (.sl .nil 0 0 (fun _ => [])), .p (vi 1)]⟩), (1008, ⟨0, rowOf 6 encNode (default : Node) r1.nodes⟩)]
    [(Spec Try.prog 20 [] [] (.agg [.own 0 0 0 r1.nodes.length, .p (vi r1.next)]) [] [rowOf 6 encNode (default : Node) r1.nodes])] (by kernel_rfl) ⟨(ref5_New_spec r1 hr1), trivial⟩ ?_
  refine DW.conv (τ := mkSt [(0, .ref 1000 0 0)] [(1000, ⟨0, .box [.own 1008 0 0 r1.nodes.length, .p (vi r1.next), .own 100000 0 0 0, .p (vi 1)]⟩), (1008, ⟨0, rowOf 6 encNode (default : Node) r1.nodes⟩), (100000, ⟨0, rowOf 4 encTask (default : Task) []⟩)]) (Conv.trans (τ := mkSt [(0, .ref 1000 0 0)] ((100000, ⟨0, .row 4 0 (elems encTask (default : Task) [])⟩) :: [(1000, ⟨0, .box [.own 1008 0 0 r1.nodes.length, .p (vi r1.next), .own 100000 0 0 0, .p (vi 1)]⟩), (1008, ⟨0, rowOf 6 encNode (default : Node) r1.nodes⟩)])) (Conv.adopt 100000 4 (elems encTask (default : Task) []) rfl rfl (.rfl _) (.box (.cons (.rfl _) (.cons (.rfl _) (.cons (.nil _ _) (.cons (.rfl _) (.rfl _))))) (.keep (.rfl _)))) (Conv.trans (τ := mkSt [(0, .ref 1000 0 0)] [(1000, ⟨0, .box [.own 1008 0 0 r1.nodes.length, .p (vi r1.next), .own 100000 0 0 0, .p (vi 1)]⟩), (1008, ⟨0, rowOf 6 encNode (default : Node) r1.nodes⟩), (100000, ⟨0, rowOf 4 encTask (default : Task) []⟩)]) (Conv.to [0] [1000, 1008, 100000] [(0, .ref 1000 0 0)] [(0, .ref 1000 0 0)] [(1000, ⟨0, .box [.own 1008 0 0 r1.nodes.length, .p (vi r1.next), .own 100000 0 0 0, .p (vi 1)]⟩), (1008, ⟨0, rowOf 6 encNode (default : Node) r1.nodes⟩), (100000, ⟨0, rowOf 4 encTask (default : Task) []⟩)] [(1000, ⟨0, .box [.own 1008 0 0 r1.nodes.length, .p (vi r1.next), .own 100000 0 0 0, .p (vi 1)]⟩), (1008, ⟨0, rowOf 6 encNode (default : Node) r1.nodes⟩), (100000, ⟨0, rowOf 4 encTask (default : Task) []⟩)] (by kernel_rfl) (by kernel_rfl) .rfl .rfl) .refl)) ?_
  refine DW.ret ?_
  obtain rfl := Option.some.inj hm
  refine retOK (bs' := [rowOf 6 encNode (default : Node) r1.nodes, rowOf 4 encTask (default : Task) []]) [1008, 100000] (.agg [.own 0 0 0 r1.nodes.length, .p (vi r1.next), .own 1 0 0 0, .p (vi 1)]) (by kernel_rfl) ?_ ?_
  · rfl
  · rfl

theorem tree_root_spec (p0 : Node) (RES : Bool) (hm : tree_root p0 = some RES) : Spec Try.prog 74 [.p (.agg [vi p0.id, vi p0.parent, vs p0.name, vi p0.control, vi p0.kind, vi p0.owner])] [] (.p (vb RES)) [] [] := by
  unfold tree_root at hm
  refine spec_of Tgood (T := Tt) Try.func74 (by decide) (c := _) rfl rfl (sl := [(0, .p (.agg [vi p0.id, vi p0.parent, vs p0.name, vi p0.control, vi p0.kind, vi p0.owner]))]) (ob := []) (Nat.le_of_ble_eq_true rfl) (Nat.le_of_ble_eq_true rfl) (by kernel_rfl) (by kernel_rfl) ?_
  intro cx hnt
  refine DW.start ?_
  refine DW.seq ?_
  refine DW.regE Tgood mixed hnt [.no, .no] [1] [1008]
    [(1, .ref 1008 0 0)]
    [(1008, ⟨0, .box [.p (vi p0.id), .p (vi p0.parent), .p (vs p0.name), .p (vi p0.control), .p (vi p0.kind), .p (vi p0.owner)]⟩)]
    [] (by kernel_rfl) trivial ?_
  refine DW.seq ?_
  refine DW.regJ (sl2 := [(2, .p (vb ((((p0.id == 1) && (p0.parent == 0)) && (beqS p0.name ByteArray.empty)) && (p0.kind == 0))))]) (ob2 := []) ?_ ?_
  ·
    rcases Bool.eq_false_or_eq_true (p0.id == 1) with h1 | h1
    ·
      rcases Bool.eq_false_or_eq_true (p0.parent == 0) with h2 | h2
      ·
        rcases Bool.eq_false_or_eq_true (beqS p0.name ByteArray.empty) with h3 | h3
        ·
          exact RegTo.mk Tgood mixed hnt [.no, .no, .no, .no, .no, .no, .no, .pk true, .no, .no, .no, .no, .pk true, .no, .no, .no, .no, .pk true, .no] [2] []
            [(2, .p (vb (p0.kind == 0)))]
            [(2, .p (vb ((((p0.id == 1) && (p0.parent == 0)) && (beqS p0.name ByteArray.empty)) && (p0.kind == 0))))]
            []
            []
            [((p0.id == 1) = true), ((p0.id == 1) = true), ((p0.id == 1) = true), ((p0.id == 1) = true), ((p0.parent == 0) = true), ((p0.parent == 0) = true), ((p0.parent == 0) = true), ((p0.parent == 0) = true), ((beqS p0.name ByteArray.empty) = true), ((beqS p0.name ByteArray.empty) = true), ((beqS p0.name ByteArray.empty) = true), ((beqS p0.name ByteArray.empty) = true)] (by kernel_rfl) ⟨h1, h1, h1, h1, h2, h2, h2, h2, h3, h3, h3, h3, trivial⟩ (.cons (.of_eq (by first | (rw [h1, h2, h3]; done) | (rw [h1, h2, h3]; rfl) | simp [h1, h2, h3])) .rfl) .rfl
        ·
          exact RegTo.mk Tgood mixed hnt [.no, .no, .no, .no, .no, .no, .no, .pk true, .no, .no, .no, .no, .pk true, .no, .skip, .skip, .skip, .pk false, .no] [2] []
            [(2, .p (vb false))]
            [(2, .p (vb ((((p0.id == 1) && (p0.parent == 0)) && (beqS p0.name ByteArray.empty)) && (p0.kind == 0))))]
            []
            []
            [((p0.id == 1) = true), ((p0.id == 1) = true), ((p0.id == 1) = true), ((p0.id == 1) = true), ((p0.parent == 0) = true), ((p0.parent == 0) = true), ((p0.parent == 0) = true), ((p0.parent == 0) = true), ((beqS p0.name ByteArray.empty) = false), ((beqS p0.name ByteArray.empty) = false), ((beqS p0.name ByteArray.empty) = false), ((beqS p0.name ByteArray.empty) = false)] (by kernel_rfl) ⟨h1, h1, h1, h1, h2, h2, h2, h2, h3, h3, h3, h3, trivial⟩ (.cons (.of_eq (by first | (rw [h1, h2, h3]; done) | (rw [h1, h2, h3]; rfl) | simp [h1, h2, h3])) .rfl) .rfl
      ·
        exact RegTo.mk Tgood mixed hnt [.no, .no, .no, .no, .no, .no, .no, .pk true, .no, .skip, .skip, .skip, .pk false, .no, .skip, .skip, .skip, .pk false, .no] [2] []
          [(2, .p (vb false))]
          [(2, .p (vb ((((p0.id == 1) && (p0.parent == 0)) && (beqS p0.name ByteArray.empty)) && (p0.kind == 0))))]
          []
          []
          [((p0.id == 1) = true), ((p0.id == 1) = true), ((p0.id == 1) = true), ((p0.id == 1) = true), ((p0.parent == 0) = false), ((p0.parent == 0) = false), ((p0.parent == 0) = false), ((p0.parent == 0) = false), (false = false), (false = false), (false = false), (false = false)] (by kernel_rfl) ⟨h1, h1, h1, h1, h2, h2, h2, h2, rfl, rfl, rfl, rfl, trivial⟩ (.cons (.of_eq (by first | (rw [h1, h2]; done) | (rw [h1, h2]; rfl) | simp [h1, h2])) .rfl) .rfl
    ·
      exact RegTo.mk Tgood mixed hnt [.no, .no, .no, .no, .skip, .skip, .skip, .pk false, .no, .skip, .skip, .skip, .pk false, .no, .skip, .skip, .skip, .pk false, .no] [2] []
        [(2, .p (vb false))]
        [(2, .p (vb ((((p0.id == 1) && (p0.parent == 0)) && (beqS p0.name ByteArray.empty)) && (p0.kind == 0))))]
        []
        []
        [((p0.id == 1) = false), ((p0.id == 1) = false), ((p0.id == 1) = false), ((p0.id == 1) = false), (false = false), (false = false), (false = false), (false = false), (false = false), (false = false), (false = false), (false = false)] (by kernel_rfl) ⟨h1, h1, h1, h1, rfl, rfl, rfl, rfl, rfl, rfl, rfl, rfl, trivial⟩ (.cons (.of_eq (by first | (rw [h1]; done) | (rw [h1]; rfl) | simp [h1])) .rfl) .rfl
  ·
    refine DW.ret ?_
    obtain rfl := Option.some.inj hm
    refine retOK (bs' := []) [] (.p (vb ((((p0.id == 1) && (p0.parent == 0)) && (beqS p0.name ByteArray.empty)) && (p0.kind == 0)))) (by kernel_rfl) ?_ ?_
    · rfl
    · rfl

theorem name_inner_spec (p0 : Int) (RES : Bool) (hm : name_inner p0 = some RES) : Spec Try.prog 88 [.p (vk .u8 p0)] [] (.p (vb RES)) [] [] := by
  unfold name_inner at hm
  refine spec_of Tgood (T := Tt) Try.func88 (by decide) (c := _) rfl rfl (sl := [(0, .p (vk .u8 p0))]) (ob := []) (Nat.le_of_ble_eq_true rfl) (Nat.le_of_ble_eq_true rfl) (by kernel_rfl) (by kernel_rfl) ?_
  intro cx hnt
  refine DW.start ?_
  refine DW.seq ?_
  refine DW.regE Tgood mixed hnt [.no] [0] []
    [(0, .p (vk .u8 p0))]
    []
    [] (by kernel_rfl) trivial ?_
  refine DW.seq ?_
  refine DW.regJ (sl2 := [(2, .p (vb ((((((decide (p0 ≥ 97)) && (decide (p0 ≤ 122))) || ((decide (p0 ≥ 65)) && (decide (p0 ≤ 90)))) || ((decide (p0 ≥ 48)) && (decide (p0 ≤ 57)))) || (p0 == 95)) || (p0 == 45))))]) (ob2 := []) ?_ ?_
  ·
    rcases Bool.eq_false_or_eq_true (decide (p0 ≥ 97)) with h1 | h1
    ·
      rcases Bool.eq_false_or_eq_true (decide (p0 ≤ 122)) with h2 | h2
      ·
        exact RegTo.mk Tgood mixed hnt [.no, .no, .no, .no, .no, .pk true, .no, .skip, .skip, .skip, .skip, .skip, .skip, .pk true, .no, .skip, .skip, .skip, .skip, .skip, .skip, .pk true, .no, .skip, .skip, .pk true, .no, .skip, .skip, .pk true, .no] [2] []
          [(2, .p (vb true))]
          [(2, .p (vb ((((((decide (p0 ≥ 97)) && (decide (p0 ≤ 122))) || ((decide (p0 ≥ 65)) && (decide (p0 ≤ 90)))) || ((decide (p0 ≥ 48)) && (decide (p0 ≤ 57)))) || (p0 == 95)) || (p0 == 45))))]
          []
          []
          [((decide (p0 ≥ 97)) = true), ((decide (p0 ≥ 97)) = true), ((decide (p0 ≥ 97)) = true), ((decide (p0 ≤ 122)) = true), ((decide (p0 ≤ 122)) = true), ((decide (p0 ≤ 122)) = true), ((decide (p0 ≤ 122)) = true), ((decide (p0 ≤ 122)) = true), (true = true), (true = true), (true = true), (true = true), (true = true), (true = true), (true = true), (true = true), (true = true), (true = true), (true = true)] (by kernel_rfl) ⟨h1, h1, h1, h2, h2, h2, h2, h2, rfl, rfl, rfl, rfl, rfl, rfl, rfl, rfl, rfl, rfl, rfl, trivial⟩ (.cons (.of_eq (by first | (rw [h1, h2]; done) | (rw [h1, h2]; rfl) | simp [h1, h2])) .rfl) .rfl
      ·
        rcases Bool.eq_false_or_eq_true (decide (p0 ≥ 65)) with h3 | h3
        ·
          rcases Bool.eq_false_or_eq_true (decide (p0 ≤ 90)) with h4 | h4
          ·
            exact RegTo.mk Tgood mixed hnt [.no, .no, .no, .no, .no, .pk true, .no, .no, .no, .no, .no, .no, .pk true, .pk false, .no, .skip, .skip, .skip, .skip, .skip, .skip, .pk true, .no, .skip, .skip, .pk true, .no, .skip, .skip, .pk true, .no] [2] []
              [(2, .p (vb true))]
              [(2, .p (vb ((((((decide (p0 ≥ 97)) && (decide (p0 ≤ 122))) || ((decide (p0 ≥ 65)) && (decide (p0 ≤ 90)))) || ((decide (p0 ≥ 48)) && (decide (p0 ≤ 57)))) || (p0 == 95)) || (p0 == 45))))]
              []
              []
              [((decide (p0 ≥ 97)) = true), ((decide (p0 ≥ 97)) = true), ((decide (p0 ≥ 97)) = true), ((decide (p0 ≤ 122)) = false), ((decide (p0 ≤ 122)) = false), ((decide (p0 ≤ 122)) = false), ((decide (p0 ≥ 65)) = true), ((decide (p0 ≥ 65)) = true), ((decide (p0 ≤ 122)) = false), ((decide (p0 ≥ 65)) = true), ((decide (p0 ≤ 122)) = false), ((decide (p0 ≤ 90)) = true), ((decide (p0 ≤ 90)) = true), ((decide (p0 ≤ 90)) = true), ((decide (p0 ≤ 90)) = true), ((decide (p0 ≤ 90)) = true), (true = true), (true = true), (true = true), (true = true), (true = true), (true = true)] (by kernel_rfl) ⟨h1, h1, h1, h2, h2, h2, h3, h3, h2, h3, h2, h4, h4, h4, h4, h4, rfl, rfl, rfl, rfl, rfl, rfl, trivial⟩ (.cons (.of_eq (by first | (rw [h1, h2, h3, h4]; done) | (rw [h1, h2, h3, h4]; rfl) | simp [h1, h2, h3, h4])) .rfl) .rfl
          ·
            rcases Bool.eq_false_or_eq_true (decide (p0 ≥ 48)) with h5 | h5
            ·
              rcases Bool.eq_false_or_eq_true (decide (p0 ≤ 57)) with h6 | h6
              ·
                exact RegTo.mk Tgood mixed hnt [.no, .no, .no, .no, .no, .pk true, .no, .no, .no, .no, .no, .no, .pk true, .pk false, .no, .no, .no, .no, .no, .no, .pk true, .pk false, .no, .skip, .skip, .pk true, .no, .skip, .skip, .pk true, .no] [2] []
                  [(2, .p (vb true))]
                  [(2, .p (vb ((((((decide (p0 ≥ 97)) && (decide (p0 ≤ 122))) || ((decide (p0 ≥ 65)) && (decide (p0 ≤ 90)))) || ((decide (p0 ≥ 48)) && (decide (p0 ≤ 57)))) || (p0 == 95)) || (p0 == 45))))]
                  []
                  []
                  [((decide (p0 ≥ 97)) = true), ((decide (p0 ≥ 97)) = true), ((decide (p0 ≥ 97)) = true), ((decide (p0 ≤ 122)) = false), ((decide (p0 ≤ 122)) = false), ((decide (p0 ≤ 122)) = false), ((decide (p0 ≥ 65)) = true), ((decide (p0 ≥ 65)) = true), ((decide (p0 ≤ 122)) = false), ((decide (p0 ≥ 65)) = true), ((decide (p0 ≤ 122)) = false), ((decide (p0 ≤ 90)) = false), ((decide (p0 ≤ 90)) = false), ((decide (p0 ≤ 90)) = false), ((decide (p0 ≥ 48)) = true), ((decide (p0 ≥ 48)) = true), ((decide (p0 ≤ 90)) = false), ((decide (p0 ≥ 48)) = true), ((decide (p0 ≤ 90)) = false), ((decide (p0 ≤ 57)) = true), ((decide (p0 ≤ 57)) = true), ((decide (p0 ≤ 57)) = true), (true = true), (true = true), (true = true)] (by kernel_rfl) ⟨h1, h1, h1, h2, h2, h2, h3, h3, h2, h3, h2, h4, h4, h4, h5, h5, h4, h5, h4, h6, h6, h6, rfl, rfl, rfl, trivial⟩ (.cons (.of_eq (by first | (rw [h1, h2, h3, h4, h5, h6]; done) | (rw [h1, h2, h3, h4, h5, h6]; rfl) | simp [h1, h2, h3, h4, h5, h6])) .rfl) .rfl
              ·
                rcases Bool.eq_false_or_eq_true (p0 == 95) with h7 | h7
                ·
                  exact RegTo.mk Tgood mixed hnt [.no, .no, .no, .no, .no, .pk true, .no, .no, .no, .no, .no, .no, .pk true, .pk false, .no, .no, .no, .no, .no, .no, .pk true, .pk false, .no, .no, .no, .pk false, .no, .skip, .skip, .pk true, .no] [2] []
                    [(2, .p (vb true))]
                    [(2, .p (vb ((((((decide (p0 ≥ 97)) && (decide (p0 ≤ 122))) || ((decide (p0 ≥ 65)) && (decide (p0 ≤ 90)))) || ((decide (p0 ≥ 48)) && (decide (p0 ≤ 57)))) || (p0 == 95)) || (p0 == 45))))]
                    []
                    []
                    [((decide (p0 ≥ 97)) = true), ((decide (p0 ≥ 97)) = true), ((decide (p0 ≥ 97)) = true), ((decide (p0 ≤ 122)) = false), ((decide (p0 ≤ 122)) = false), ((decide (p0 ≤ 122)) = false), ((decide (p0 ≥ 65)) = true), ((decide (p0 ≥ 65)) = true), ((decide (p0 ≤ 122)) = false), ((decide (p0 ≥ 65)) = true), ((decide (p0 ≤ 122)) = false), ((decide (p0 ≤ 90)) = false), ((decide (p0 ≤ 90)) = false), ((decide (p0 ≤ 90)) = false), ((decide (p0 ≥ 48)) = true), ((decide (p0 ≥ 48)) = true), ((decide (p0 ≤ 90)) = false), ((decide (p0 ≥ 48)) = true), ((decide (p0 ≤ 90)) = false), ((decide (p0 ≤ 57)) = false), ((decide (p0 ≤ 57)) = false), ((decide (p0 ≤ 57)) = false), ((p0 == 95) = true), ((p0 == 95) = true), ((p0 == 95) = true)] (by kernel_rfl) ⟨h1, h1, h1, h2, h2, h2, h3, h3, h2, h3, h2, h4, h4, h4, h5, h5, h4, h5, h4, h6, h6, h6, h7, h7, h7, trivial⟩ (.cons (.of_eq (by first | (rw [h1, h2, h3, h4, h5, h6, h7]; done) | (rw [h1, h2, h3, h4, h5, h6, h7]; rfl) | simp [h1, h2, h3, h4, h5, h6, h7])) .rfl) .rfl
                ·
                  exact RegTo.mk Tgood mixed hnt [.no, .no, .no, .no, .no, .pk true, .no, .no, .no, .no, .no, .no, .pk true, .pk false, .no, .no, .no, .no, .no, .no, .pk true, .pk false, .no, .no, .no, .pk false, .no, .no, .no, .pk false, .no] [2] []
                    [(2, .p (vb (p0 == 45)))]
                    [(2, .p (vb ((((((decide (p0 ≥ 97)) && (decide (p0 ≤ 122))) || ((decide (p0 ≥ 65)) && (decide (p0 ≤ 90)))) || ((decide (p0 ≥ 48)) && (decide (p0 ≤ 57)))) || (p0 == 95)) || (p0 == 45))))]
                    []
                    []
                    [((decide (p0 ≥ 97)) = true), ((decide (p0 ≥ 97)) = true), ((decide (p0 ≥ 97)) = true), ((decide (p0 ≤ 122)) = false), ((decide (p0 ≤ 122)) = false), ((decide (p0 ≤ 122)) = false), ((decide (p0 ≥ 65)) = true), ((decide (p0 ≥ 65)) = true), ((decide (p0 ≤ 122)) = false), ((decide (p0 ≥ 65)) = true), ((decide (p0 ≤ 122)) = false), ((decide (p0 ≤ 90)) = false), ((decide (p0 ≤ 90)) = false), ((decide (p0 ≤ 90)) = false), ((decide (p0 ≥ 48)) = true), ((decide (p0 ≥ 48)) = true), ((decide (p0 ≤ 90)) = false), ((decide (p0 ≥ 48)) = true), ((decide (p0 ≤ 90)) = false), ((decide (p0 ≤ 57)) = false), ((decide (p0 ≤ 57)) = false), ((decide (p0 ≤ 57)) = false), ((p0 == 95) = false), ((p0 == 95) = false), ((p0 == 95) = false)] (by kernel_rfl) ⟨h1, h1, h1, h2, h2, h2, h3, h3, h2, h3, h2, h4, h4, h4, h5, h5, h4, h5, h4, h6, h6, h6, h7, h7, h7, trivial⟩ (.cons (.of_eq (by first | (rw [h1, h2, h3, h4, h5, h6, h7]; done) | (rw [h1, h2, h3, h4, h5, h6, h7]; rfl) | simp [h1, h2, h3, h4, h5, h6, h7])) .rfl) .rfl
            ·
              rcases Bool.eq_false_or_eq_true (p0 == 95) with h8 | h8
              ·
                exact RegTo.mk Tgood mixed hnt [.no, .no, .no, .no, .no, .pk true, .no, .no, .no, .no, .no, .no, .pk true, .pk false, .no, .no, .no, .no, .skip, .skip, .pk false, .pk false, .no, .no, .no, .pk false, .no, .skip, .skip, .pk true, .no] [2] []
                  [(2, .p (vb true))]
                  [(2, .p (vb ((((((decide (p0 ≥ 97)) && (decide (p0 ≤ 122))) || ((decide (p0 ≥ 65)) && (decide (p0 ≤ 90)))) || ((decide (p0 ≥ 48)) && (decide (p0 ≤ 57)))) || (p0 == 95)) || (p0 == 45))))]
                  []
                  []
                  [((decide (p0 ≥ 97)) = true), ((decide (p0 ≥ 97)) = true), ((decide (p0 ≥ 97)) = true), ((decide (p0 ≤ 122)) = false), ((decide (p0 ≤ 122)) = false), ((decide (p0 ≤ 122)) = false), ((decide (p0 ≥ 65)) = true), ((decide (p0 ≥ 65)) = true), ((decide (p0 ≤ 122)) = false), ((decide (p0 ≥ 65)) = true), ((decide (p0 ≤ 122)) = false), ((decide (p0 ≤ 90)) = false), ((decide (p0 ≤ 90)) = false), ((decide (p0 ≤ 90)) = false), ((decide (p0 ≥ 48)) = false), ((decide (p0 ≥ 48)) = false), ((decide (p0 ≤ 90)) = false), ((decide (p0 ≥ 48)) = false), ((decide (p0 ≤ 90)) = false), (false = false), (false = false), (false = false), ((p0 == 95) = true), ((p0 == 95) = true), ((p0 == 95) = true)] (by kernel_rfl) ⟨h1, h1, h1, h2, h2, h2, h3, h3, h2, h3, h2, h4, h4, h4, h5, h5, h4, h5, h4, rfl, rfl, rfl, h8, h8, h8, trivial⟩ (.cons (.of_eq (by first | (rw [h1, h2, h3, h4, h5, h8]; done) | (rw [h1, h2, h3, h4, h5, h8]; rfl) | simp [h1, h2, h3, h4, h5, h8])) .rfl) .rfl
              ·
                exact RegTo.mk Tgood mixed hnt [.no, .no, .no, .no, .no, .pk true, .no, .no, .no, .no, .no, .no, .pk true, .pk false, .no, .no, .no, .no, .skip, .skip, .pk false, .pk false, .no, .no, .no, .pk false, .no, .no, .no, .pk false, .no] [2] []
                  [(2, .p (vb (p0 == 45)))]
                  [(2, .p (vb ((((((decide (p0 ≥ 97)) && (decide (p0 ≤ 122))) || ((decide (p0 ≥ 65)) && (decide (p0 ≤ 90)))) || ((decide (p0 ≥ 48)) && (decide (p0 ≤ 57)))) || (p0 == 95)) || (p0 == 45))))]
                  []
                  []
                  [((decide (p0 ≥ 97)) = true), ((decide (p0 ≥ 97)) = true), ((decide (p0 ≥ 97)) = true), ((decide (p0 ≤ 122)) = false), ((decide (p0 ≤ 122)) = false), ((decide (p0 ≤ 122)) = false), ((decide (p0 ≥ 65)) = true), ((decide (p0 ≥ 65)) = true), ((decide (p0 ≤ 122)) = false), ((decide (p0 ≥ 65)) = true), ((decide (p0 ≤ 122)) = false), ((decide (p0 ≤ 90)) = false), ((decide (p0 ≤ 90)) = false), ((decide (p0 ≤ 90)) = false), ((decide (p0 ≥ 48)) = false), ((decide (p0 ≥ 48)) = false), ((decide (p0 ≤ 90)) = false), ((decide (p0 ≥ 48)) = false), ((decide (p0 ≤ 90)) = false), (false = false), (false = false), (false = false), ((p0 == 95) = false), ((p0 == 95) = false), ((p0 == 95) = false)] (by kernel_rfl) ⟨h1, h1, h1, h2, h2, h2, h3, h3, h2, h3, h2, h4, h4, h4, h5, h5, h4, h5, h4, rfl, rfl, rfl, h8, h8, h8, trivial⟩ (.cons (.of_eq (by first | (rw [h1, h2, h3, h4, h5, h8]; done) | (rw [h1, h2, h3, h4, h5, h8]; rfl) | simp [h1, h2, h3, h4, h5, h8])) .rfl) .rfl
        ·
          rcases Bool.eq_false_or_eq_true (decide (p0 ≥ 48)) with h9 | h9
          ·
            rcases Bool.eq_false_or_eq_true (decide (p0 ≤ 57)) with h10 | h10
            ·
              exact RegTo.mk Tgood mixed hnt [.no, .no, .no, .no, .no, .pk true, .no, .no, .no, .no, .skip, .skip, .pk false, .pk false, .no, .no, .no, .no, .no, .no, .pk true, .pk false, .no, .skip, .skip, .pk true, .no, .skip, .skip, .pk true, .no] [2] []
                [(2, .p (vb true))]
                [(2, .p (vb ((((((decide (p0 ≥ 97)) && (decide (p0 ≤ 122))) || ((decide (p0 ≥ 65)) && (decide (p0 ≤ 90)))) || ((decide (p0 ≥ 48)) && (decide (p0 ≤ 57)))) || (p0 == 95)) || (p0 == 45))))]
                []
                []
                [((decide (p0 ≥ 97)) = true), ((decide (p0 ≥ 97)) = true), ((decide (p0 ≥ 97)) = true), ((decide (p0 ≤ 122)) = false), ((decide (p0 ≤ 122)) = false), ((decide (p0 ≤ 122)) = false), ((decide (p0 ≥ 65)) = false), ((decide (p0 ≥ 65)) = false), ((decide (p0 ≤ 122)) = false), ((decide (p0 ≥ 65)) = false), ((decide (p0 ≤ 122)) = false), (false = false), (false = false), (false = false), ((decide (p0 ≥ 48)) = true), ((decide (p0 ≥ 48)) = true), (false = false), ((decide (p0 ≥ 48)) = true), (false = false), ((decide (p0 ≤ 57)) = true), ((decide (p0 ≤ 57)) = true), ((decide (p0 ≤ 57)) = true), (true = true), (true = true), (true = true)] (by kernel_rfl) ⟨h1, h1, h1, h2, h2, h2, h3, h3, h2, h3, h2, rfl, rfl, rfl, h9, h9, rfl, h9, rfl, h10, h10, h10, rfl, rfl, rfl, trivial⟩ (.cons (.of_eq (by first | (rw [h1, h2, h3, h9, h10]; done) | (rw [h1, h2, h3, h9, h10]; rfl) | simp [h1, h2, h3, h9, h10])) .rfl) .rfl
            ·
              rcases Bool.eq_false_or_eq_true (p0 == 95) with h11 | h11
              ·
                exact RegTo.mk Tgood mixed hnt [.no, .no, .no, .no, .no, .pk true, .no, .no, .no, .no, .skip, .skip, .pk false, .pk false, .no, .no, .no, .no, .no, .no, .pk true, .pk false, .no, .no, .no, .pk false, .no, .skip, .skip, .pk true, .no] [2] []
                  [(2, .p (vb true))]
                  [(2, .p (vb ((((((decide (p0 ≥ 97)) && (decide (p0 ≤ 122))) || ((decide (p0 ≥ 65)) && (decide (p0 ≤ 90)))) || ((decide (p0 ≥ 48)) && (decide (p0 ≤ 57)))) || (p0 == 95)) || (p0 == 45))))]
                  []
                  []
                  [((decide (p0 ≥ 97)) = true), ((decide (p0 ≥ 97)) = true), ((decide (p0 ≥ 97)) = true), ((decide (p0 ≤ 122)) = false), ((decide (p0 ≤ 122)) = false), ((decide (p0 ≤ 122)) = false), ((decide (p0 ≥ 65)) = false), ((decide (p0 ≥ 65)) = false), ((decide (p0 ≤ 122)) = false), ((decide (p0 ≥ 65)) = false), ((decide (p0 ≤ 122)) = false), (false = false), (false = false), (false = false), ((decide (p0 ≥ 48)) = true), ((decide (p0 ≥ 48)) = true), (false = false), ((decide (p0 ≥ 48)) = true), (false = false), ((decide (p0 ≤ 57)) = false), ((decide (p0 ≤ 57)) = false), ((decide (p0 ≤ 57)) = false), ((p0 == 95) = true), ((p0 == 95) = true), ((p0 == 95) = true)] (by kernel_rfl) ⟨h1, h1, h1, h2, h2, h2, h3, h3, h2, h3, h2, rfl, rfl, rfl, h9, h9, rfl, h9, rfl, h10, h10, h10, h11, h11, h11, trivial⟩ (.cons (.of_eq (by first | (rw [h1, h2, h3, h9, h10, h11]; done) | (rw [h1, h2, h3, h9, h10, h11]; rfl) | simp [h1, h2, h3, h9, h10, h11])) .rfl) .rfl
              ·
                exact RegTo.mk Tgood mixed hnt [.no, .no, .no, .no, .no, .pk true, .no, .no, .no, .no, .skip, .skip, .pk false, .pk false, .no, .no, .no, .no, .no, .no, .pk true, .pk false, .no, .no, .no, .pk false, .no, .no, .no, .pk false, .no] [2] []
                  [(2, .p (vb (p0 == 45)))]
                  [(2, .p (vb ((((((decide (p0 ≥ 97)) && (decide (p0 ≤ 122))) || ((decide (p0 ≥ 65)) && (decide (p0 ≤ 90)))) || ((decide (p0 ≥ 48)) && (decide (p0 ≤ 57)))) || (p0 == 95)) || (p0 == 45))))]
                  []
                  []
                  [((decide (p0 ≥ 97)) = true), ((decide (p0 ≥ 97)) = true), ((decide (p0 ≥ 97)) = true), ((decide (p0 ≤ 122)) = false), ((decide (p0 ≤ 122)) = false), ((decide (p0 ≤ 122)) = false), ((decide (p0 ≥ 65)) = false), ((decide (p0 ≥ 65)) = false), ((decide (p0 ≤ 122)) = false), ((decide (p0 ≥ 65)) = false), ((decide (p0 ≤ 122)) = false), (false = false), (false = false), (false = false), ((decide (p0 ≥ 48)) = true), ((decide (p0 ≥ 48)) = true), (false = false), ((decide (p0 ≥ 48)) = true), (false = false), ((decide (p0 ≤ 57)) = false), ((decide (p0 ≤ 57)) = false), ((decide (p0 ≤ 57)) = false), ((p0 == 95) = false), ((p0 == 95) = false), ((p0 == 95) = false)] (by kernel_rfl) ⟨h1, h1, h1, h2, h2, h2, h3, h3, h2, h3, h2, rfl, rfl, rfl, h9, h9, rfl, h9, rfl, h10, h10, h10, h11, h11, h11, trivial⟩ (.cons (.of_eq (by first | (rw [h1, h2, h3, h9, h10, h11]; done) | (rw [h1, h2, h3, h9, h10, h11]; rfl) | simp [h1, h2, h3, h9, h10, h11])) .rfl) .rfl
          ·
            rcases Bool.eq_false_or_eq_true (p0 == 95) with h12 | h12
            ·
              exact RegTo.mk Tgood mixed hnt [.no, .no, .no, .no, .no, .pk true, .no, .no, .no, .no, .skip, .skip, .pk false, .pk false, .no, .no, .no, .no, .skip, .skip, .pk false, .pk false, .no, .no, .no, .pk false, .no, .skip, .skip, .pk true, .no] [2] []
                [(2, .p (vb true))]
                [(2, .p (vb ((((((decide (p0 ≥ 97)) && (decide (p0 ≤ 122))) || ((decide (p0 ≥ 65)) && (decide (p0 ≤ 90)))) || ((decide (p0 ≥ 48)) && (decide (p0 ≤ 57)))) || (p0 == 95)) || (p0 == 45))))]
                []
                []
                [((decide (p0 ≥ 97)) = true), ((decide (p0 ≥ 97)) = true), ((decide (p0 ≥ 97)) = true), ((decide (p0 ≤ 122)) = false), ((decide (p0 ≤ 122)) = false), ((decide (p0 ≤ 122)) = false), ((decide (p0 ≥ 65)) = false), ((decide (p0 ≥ 65)) = false), ((decide (p0 ≤ 122)) = false), ((decide (p0 ≥ 65)) = false), ((decide (p0 ≤ 122)) = false), (false = false), (false = false), (false = false), ((decide (p0 ≥ 48)) = false), ((decide (p0 ≥ 48)) = false), (false = false), ((decide (p0 ≥ 48)) = false), (false = false), (false = false), (false = false), (false = false), ((p0 == 95) = true), ((p0 == 95) = true), ((p0 == 95) = true)] (by kernel_rfl) ⟨h1, h1, h1, h2, h2, h2, h3, h3, h2, h3, h2, rfl, rfl, rfl, h9, h9, rfl, h9, rfl, rfl, rfl, rfl, h12, h12, h12, trivial⟩ (.cons (.of_eq (by first | (rw [h1, h2, h3, h9, h12]; done) | (rw [h1, h2, h3, h9, h12]; rfl) | simp [h1, h2, h3, h9, h12])) .rfl) .rfl
            ·
              exact RegTo.mk Tgood mixed hnt [.no, .no, .no, .no, .no, .pk true, .no, .no, .no, .no, .skip, .skip, .pk false, .pk false, .no, .no, .no, .no, .skip, .skip, .pk false, .pk false, .no, .no, .no, .pk false, .no, .no, .no, .pk false, .no] [2] []
                [(2, .p (vb (p0 == 45)))]
                [(2, .p (vb ((((((decide (p0 ≥ 97)) && (decide (p0 ≤ 122))) || ((decide (p0 ≥ 65)) && (decide (p0 ≤ 90)))) || ((decide (p0 ≥ 48)) && (decide (p0 ≤ 57)))) || (p0 == 95)) || (p0 == 45))))]
                []
                []
                [((decide (p0 ≥ 97)) = true), ((decide (p0 ≥ 97)) = true), ((decide (p0 ≥ 97)) = true), ((decide (p0 ≤ 122)) = false), ((decide (p0 ≤ 122)) = false), ((decide (p0 ≤ 122)) = false), ((decide (p0 ≥ 65)) = false), ((decide (p0 ≥ 65)) = false), ((decide (p0 ≤ 122)) = false), ((decide (p0 ≥ 65)) = false), ((decide (p0 ≤ 122)) = false), (false = false), (false = false), (false = false), ((decide (p0 ≥ 48)) = false), ((decide (p0 ≥ 48)) = false), (false = false), ((decide (p0 ≥ 48)) = false), (false = false), (false = false), (false = false), (false = false), ((p0 == 95) = false), ((p0 == 95) = false), ((p0 == 95) = false)] (by kernel_rfl) ⟨h1, h1, h1, h2, h2, h2, h3, h3, h2, h3, h2, rfl, rfl, rfl, h9, h9, rfl, h9, rfl, rfl, rfl, rfl, h12, h12, h12, trivial⟩ (.cons (.of_eq (by first | (rw [h1, h2, h3, h9, h12]; done) | (rw [h1, h2, h3, h9, h12]; rfl) | simp [h1, h2, h3, h9, h12])) .rfl) .rfl
    ·
      rcases Bool.eq_false_or_eq_true (decide (p0 ≥ 65)) with h13 | h13
      ·
        rcases Bool.eq_false_or_eq_true (decide (p0 ≤ 90)) with h14 | h14
        ·
          exact RegTo.mk Tgood mixed hnt [.no, .no, .no, .skip, .skip, .pk false, .no, .no, .no, .no, .no, .no, .pk true, .pk false, .no, .skip, .skip, .skip, .skip, .skip, .skip, .pk true, .no, .skip, .skip, .pk true, .no, .skip, .skip, .pk true, .no] [2] []
            [(2, .p (vb true))]
            [(2, .p (vb ((((((decide (p0 ≥ 97)) && (decide (p0 ≤ 122))) || ((decide (p0 ≥ 65)) && (decide (p0 ≤ 90)))) || ((decide (p0 ≥ 48)) && (decide (p0 ≤ 57)))) || (p0 == 95)) || (p0 == 45))))]
            []
            []
            [((decide (p0 ≥ 97)) = false), ((decide (p0 ≥ 97)) = false), ((decide (p0 ≥ 97)) = false), (false = false), (false = false), (false = false), ((decide (p0 ≥ 65)) = true), ((decide (p0 ≥ 65)) = true), (false = false), ((decide (p0 ≥ 65)) = true), (false = false), ((decide (p0 ≤ 90)) = true), ((decide (p0 ≤ 90)) = true), ((decide (p0 ≤ 90)) = true), ((decide (p0 ≤ 90)) = true), ((decide (p0 ≤ 90)) = true), (true = true), (true = true), (true = true), (true = true), (true = true), (true = true)] (by kernel_rfl) ⟨h1, h1, h1, rfl, rfl, rfl, h13, h13, rfl, h13, rfl, h14, h14, h14, h14, h14, rfl, rfl, rfl, rfl, rfl, rfl, trivial⟩ (.cons (.of_eq (by first | (rw [h1, h13, h14]; done) | (rw [h1, h13, h14]; rfl) | simp [h1, h13, h14])) .rfl) .rfl
        ·
          rcases Bool.eq_false_or_eq_true (decide (p0 ≥ 48)) with h15 | h15
          ·
            rcases Bool.eq_false_or_eq_true (decide (p0 ≤ 57)) with h16 | h16
            ·
              exact RegTo.mk Tgood mixed hnt [.no, .no, .no, .skip, .skip, .pk false, .no, .no, .no, .no, .no, .no, .pk true, .pk false, .no, .no, .no, .no, .no, .no, .pk true, .pk false, .no, .skip, .skip, .pk true, .no, .skip, .skip, .pk true, .no] [2] []
                [(2, .p (vb true))]
                [(2, .p (vb ((((((decide (p0 ≥ 97)) && (decide (p0 ≤ 122))) || ((decide (p0 ≥ 65)) && (decide (p0 ≤ 90)))) || ((decide (p0 ≥ 48)) && (decide (p0 ≤ 57)))) || (p0 == 95)) || (p0 == 45))))]
                []
                []
                [((decide (p0 ≥ 97)) = false), ((decide (p0 ≥ 97)) = false), ((decide (p0 ≥ 97)) = false), (false = false), (false = false), (false = false), ((decide (p0 ≥ 65)) = true), ((decide (p0 ≥ 65)) = true), (false = false), ((decide (p0 ≥ 65)) = true), (false = false), ((decide (p0 ≤ 90)) = false), ((decide (p0 ≤ 90)) = false), ((decide (p0 ≤ 90)) = false), ((decide (p0 ≥ 48)) = true), ((decide (p0 ≥ 48)) = true), ((decide (p0 ≤ 90)) = false), ((decide (p0 ≥ 48)) = true), ((decide (p0 ≤ 90)) = false), ((decide (p0 ≤ 57)) = true), ((decide (p0 ≤ 57)) = true), ((decide (p0 ≤ 57)) = true), (true = true), (true = true), (true = true)] (by kernel_rfl) ⟨h1, h1, h1, rfl, rfl, rfl, h13, h13, rfl, h13, rfl, h14, h14, h14, h15, h15, h14, h15, h14, h16, h16, h16, rfl, rfl, rfl, trivial⟩ (.cons (.of_eq (by first | (rw [h1, h13, h14, h15, h16]; done) | (rw [h1, h13, h14, h15, h16]; rfl) | simp [h1, h13, h14, h15, h16])) .rfl) .rfl
            ·
              rcases Bool.eq_false_or_eq_true (p0 == 95) with h17 | h17
              ·
                exact RegTo.mk Tgood mixed hnt [.no, .no, .no, .skip, .skip, .pk false, .no, .no, .no, .no, .no, .no, .pk true, .pk false, .no, .no, .no, .no, .no, .no, .pk true, .pk false, .no, .no, .no, .pk false, .no, .skip, .skip, .pk true, .no] [2] []
                  [(2, .p (vb true))]
                  [(2, .p (vb ((((((decide (p0 ≥ 97)) && (decide (p0 ≤ 122))) || ((decide (p0 ≥ 65)) && (decide (p0 ≤ 90)))) || ((decide (p0 ≥ 48)) && (decide (p0 ≤ 57)))) || (p0 == 95)) || (p0 == 45))))]
                  []
                  []
                  [((decide (p0 ≥ 97)) = false), ((decide (p0 ≥ 97)) = false), ((decide (p0 ≥ 97)) = false), (false = false), (false = false), (false = false), ((decide (p0 ≥ 65)) = true), ((decide (p0 ≥ 65)) = true), (false = false), ((decide (p0 ≥ 65)) = true), (false = false), ((decide (p0 ≤ 90)) = false), ((decide (p0 ≤ 90)) = false), ((decide (p0 ≤ 90)) = false), ((decide (p0 ≥ 48)) = true), ((decide (p0 ≥ 48)) = true), ((decide (p0 ≤ 90)) = false), ((decide (p0 ≥ 48)) = true), ((decide (p0 ≤ 90)) = false), ((decide (p0 ≤ 57)) = false), ((decide (p0 ≤ 57)) = false), ((decide (p0 ≤ 57)) = false), ((p0 == 95) = true), ((p0 == 95) = true), ((p0 == 95) = true)] (by kernel_rfl) ⟨h1, h1, h1, rfl, rfl, rfl, h13, h13, rfl, h13, rfl, h14, h14, h14, h15, h15, h14, h15, h14, h16, h16, h16, h17, h17, h17, trivial⟩ (.cons (.of_eq (by first | (rw [h1, h13, h14, h15, h16, h17]; done) | (rw [h1, h13, h14, h15, h16, h17]; rfl) | simp [h1, h13, h14, h15, h16, h17])) .rfl) .rfl
              ·
                exact RegTo.mk Tgood mixed hnt [.no, .no, .no, .skip, .skip, .pk false, .no, .no, .no, .no, .no, .no, .pk true, .pk false, .no, .no, .no, .no, .no, .no, .pk true, .pk false, .no, .no, .no, .pk false, .no, .no, .no, .pk false, .no] [2] []
                  [(2, .p (vb (p0 == 45)))]
                  [(2, .p (vb ((((((decide (p0 ≥ 97)) && (decide (p0 ≤ 122))) || ((decide (p0 ≥ 65)) && (decide (p0 ≤ 90)))) || ((decide (p0 ≥ 48)) && (decide (p0 ≤ 57)))) || (p0 == 95)) || (p0 == 45))))]
                  []
                  []
                  [((decide (p0 ≥ 97)) = false), ((decide (p0 ≥ 97)) = false), ((decide (p0 ≥ 97)) = false), (false = false), (false = false), (false = false), ((decide (p0 ≥ 65)) = true), ((decide (p0 ≥ 65)) = true), (false = false), ((decide (p0 ≥ 65)) = true), (false = false), ((decide (p0 ≤ 90)) = false), ((decide (p0 ≤ 90)) = false), ((decide (p0 ≤ 90)) = false), ((decide (p0 ≥ 48)) = true), ((decide (p0 ≥ 48)) = true), ((decide (p0 ≤ 90)) = false), ((decide (p0 ≥ 48)) = true), ((decide (p0 ≤ 90)) = false), ((decide (p0 ≤ 57)) = false), ((decide (p0 ≤ 57)) = false), ((decide (p0 ≤ 57)) = false), ((p0 == 95) = false), ((p0 == 95) = false), ((p0 == 95) = false)] (by kernel_rfl) ⟨h1, h1, h1, rfl, rfl, rfl, h13, h13, rfl, h13, rfl, h14, h14, h14, h15, h15, h14, h15, h14, h16, h16, h16, h17, h17, h17, trivial⟩ (.cons (.of_eq (by first | (rw [h1, h13, h14, h15, h16, h17]; done) | (rw [h1, h13, h14, h15, h16, h17]; rfl) | simp [h1, h13, h14, h15, h16, h17])) .rfl) .rfl
          ·
            rcases Bool.eq_false_or_eq_true (p0 == 95) with h18 | h18
            ·
              exact RegTo.mk Tgood mixed hnt [.no, .no, .no, .skip, .skip, .pk false, .no, .no, .no, .no, .no, .no, .pk true, .pk false, .no, .no, .no, .no, .skip, .skip, .pk false, .pk false, .no, .no, .no, .pk false, .no, .skip, .skip, .pk true, .no] [2] []
                [(2, .p (vb true))]
                [(2, .p (vb ((((((decide (p0 ≥ 97)) && (decide (p0 ≤ 122))) || ((decide (p0 ≥ 65)) && (decide (p0 ≤ 90)))) || ((decide (p0 ≥ 48)) && (decide (p0 ≤ 57)))) || (p0 == 95)) || (p0 == 45))))]
                []
                []
                [((decide (p0 ≥ 97)) = false), ((decide (p0 ≥ 97)) = false), ((decide (p0 ≥ 97)) = false), (false = false), (false = false), (false = false), ((decide (p0 ≥ 65)) = true), ((decide (p0 ≥ 65)) = true), (false = false), ((decide (p0 ≥ 65)) = true), (false = false), ((decide (p0 ≤ 90)) = false), ((decide (p0 ≤ 90)) = false), ((decide (p0 ≤ 90)) = false), ((decide (p0 ≥ 48)) = false), ((decide (p0 ≥ 48)) = false), ((decide (p0 ≤ 90)) = false), ((decide (p0 ≥ 48)) = false), ((decide (p0 ≤ 90)) = false), (false = false), (false = false), (false = false), ((p0 == 95) = true), ((p0 == 95) = true), ((p0 == 95) = true)] (by kernel_rfl) ⟨h1, h1, h1, rfl, rfl, rfl, h13, h13, rfl, h13, rfl, h14, h14, h14, h15, h15, h14, h15, h14, rfl, rfl, rfl, h18, h18, h18, trivial⟩ (.cons (.of_eq (by first | (rw [h1, h13, h14, h15, h18]; done) | (rw [h1, h13, h14, h15, h18]; rfl) | simp [h1, h13, h14, h15, h18])) .rfl) .rfl
            ·
              exact RegTo.mk Tgood mixed hnt [.no, .no, .no, .skip, .skip, .pk false, .no, .no, .no, .no, .no, .no, .pk true, .pk false, .no, .no, .no, .no, .skip, .skip, .pk false, .pk false, .no, .no, .no, .pk false, .no, .no, .no, .pk false, .no] [2] []
                [(2, .p (vb (p0 == 45)))]
                [(2, .p (vb ((((((decide (p0 ≥ 97)) && (decide (p0 ≤ 122))) || ((decide (p0 ≥ 65)) && (decide (p0 ≤ 90)))) || ((decide (p0 ≥ 48)) && (decide (p0 ≤ 57)))) || (p0 == 95)) || (p0 == 45))))]
                []
                []
                [((decide (p0 ≥ 97)) = false), ((decide (p0 ≥ 97)) = false), ((decide (p0 ≥ 97)) = false), (false = false), (false = false), (false = false), ((decide (p0 ≥ 65)) = true), ((decide (p0 ≥ 65)) = true), (false = false), ((decide (p0 ≥ 65)) = true), (false = false), ((decide (p0 ≤ 90)) = false), ((decide (p0 ≤ 90)) = false), ((decide (p0 ≤ 90)) = false), ((decide (p0 ≥ 48)) = false), ((decide (p0 ≥ 48)) = false), ((decide (p0 ≤ 90)) = false), ((decide (p0 ≥ 48)) = false), ((decide (p0 ≤ 90)) = false), (false = false), (false = false), (false = false), ((p0 == 95) = false), ((p0 == 95) = false), ((p0 == 95) = false)] (by kernel_rfl) ⟨h1, h1, h1, rfl, rfl, rfl, h13, h13, rfl, h13, rfl, h14, h14, h14, h15, h15, h14, h15, h14, rfl, rfl, rfl, h18, h18, h18, trivial⟩ (.cons (.of_eq (by first | (rw [h1, h13, h14, h15, h18]; done) | (rw [h1, h13, h14, h15, h18]; rfl) | simp [h1, h13, h14, h15, h18])) .rfl) .rfl
      ·
        rcases Bool.eq_false_or_eq_true (decide (p0 ≥ 48)) with h19 | h19
        ·
          rcases Bool.eq_false_or_eq_true (decide (p0 ≤ 57)) with h20 | h20
          ·
            exact RegTo.mk Tgood mixed hnt [.no, .no, .no, .skip, .skip, .pk false, .no, .no, .no, .no, .skip, .skip, .pk false, .pk false, .no, .no, .no, .no, .no, .no, .pk true, .pk false, .no, .skip, .skip, .pk true, .no, .skip, .skip, .pk true, .no] [2] []
              [(2, .p (vb true))]
              [(2, .p (vb ((((((decide (p0 ≥ 97)) && (decide (p0 ≤ 122))) || ((decide (p0 ≥ 65)) && (decide (p0 ≤ 90)))) || ((decide (p0 ≥ 48)) && (decide (p0 ≤ 57)))) || (p0 == 95)) || (p0 == 45))))]
              []
              []
              [((decide (p0 ≥ 97)) = false), ((decide (p0 ≥ 97)) = false), ((decide (p0 ≥ 97)) = false), (false = false), (false = false), (false = false), ((decide (p0 ≥ 65)) = false), ((decide (p0 ≥ 65)) = false), (false = false), ((decide (p0 ≥ 65)) = false), (false = false), (false = false), (false = false), (false = false), ((decide (p0 ≥ 48)) = true), ((decide (p0 ≥ 48)) = true), (false = false), ((decide (p0 ≥ 48)) = true), (false = false), ((decide (p0 ≤ 57)) = true), ((decide (p0 ≤ 57)) = true), ((decide (p0 ≤ 57)) = true), (true = true), (true = true), (true = true)] (by kernel_rfl) ⟨h1, h1, h1, rfl, rfl, rfl, h13, h13, rfl, h13, rfl, rfl, rfl, rfl, h19, h19, rfl, h19, rfl, h20, h20, h20, rfl, rfl, rfl, trivial⟩ (.cons (.of_eq (by first | (rw [h1, h13, h19, h20]; done) | (rw [h1, h13, h19, h20]; rfl) | simp [h1, h13, h19, h20])) .rfl) .rfl
          ·
            rcases Bool.eq_false_or_eq_true (p0 == 95) with h21 | h21
            ·
              exact RegTo.mk Tgood mixed hnt [.no, .no, .no, .skip, .skip, .pk false, .no, .no, .no, .no, .skip, .skip, .pk false, .pk false, .no, .no, .no, .no, .no, .no, .pk true, .pk false, .no, .no, .no, .pk false, .no, .skip, .skip, .pk true, .no] [2] []
                [(2, .p (vb true))]
                [(2, .p (vb ((((((decide (p0 ≥ 97)) && (decide (p0 ≤ 122))) || ((decide (p0 ≥ 65)) && (decide (p0 ≤ 90)))) || ((decide (p0 ≥ 48)) && (decide (p0 ≤ 57)))) || (p0 == 95)) || (p0 == 45))))]
                []
                []
                [((decide (p0 ≥ 97)) = false), ((decide (p0 ≥ 97)) = false), ((decide (p0 ≥ 97)) = false), (false = false), (false = false), (false = false), ((decide (p0 ≥ 65)) = false), ((decide (p0 ≥ 65)) = false), (false = false), ((decide (p0 ≥ 65)) = false), (false = false), (false = false), (false = false), (false = false), ((decide (p0 ≥ 48)) = true), ((decide (p0 ≥ 48)) = true), (false = false), ((decide (p0 ≥ 48)) = true), (false = false), ((decide (p0 ≤ 57)) = false), ((decide (p0 ≤ 57)) = false), ((decide (p0 ≤ 57)) = false), ((p0 == 95) = true), ((p0 == 95) = true), ((p0 == 95) = true)] (by kernel_rfl) ⟨h1, h1, h1, rfl, rfl, rfl, h13, h13, rfl, h13, rfl, rfl, rfl, rfl, h19, h19, rfl, h19, rfl, h20, h20, h20, h21, h21, h21, trivial⟩ (.cons (.of_eq (by first | (rw [h1, h13, h19, h20, h21]; done) | (rw [h1, h13, h19, h20, h21]; rfl) | simp [h1, h13, h19, h20, h21])) .rfl) .rfl
            ·
              exact RegTo.mk Tgood mixed hnt [.no, .no, .no, .skip, .skip, .pk false, .no, .no, .no, .no, .skip, .skip, .pk false, .pk false, .no, .no, .no, .no, .no, .no, .pk true, .pk false, .no, .no, .no, .pk false, .no, .no, .no, .pk false, .no] [2] []
                [(2, .p (vb (p0 == 45)))]
                [(2, .p (vb ((((((decide (p0 ≥ 97)) && (decide (p0 ≤ 122))) || ((decide (p0 ≥ 65)) && (decide (p0 ≤ 90)))) || ((decide (p0 ≥ 48)) && (decide (p0 ≤ 57)))) || (p0 == 95)) || (p0 == 45))))]
                []
                []
                [((decide (p0 ≥ 97)) = false), ((decide (p0 ≥ 97)) = false), ((decide (p0 ≥ 97)) = false), (false = false), (false = false), (false = false), ((decide (p0 ≥ 65)) = false), ((decide (p0 ≥ 65)) = false), (false = false), ((decide (p0 ≥ 65)) = false), (false = false), (false = false), (false = false), (false = false), ((decide (p0 ≥ 48)) = true), ((decide (p0 ≥ 48)) = true), (false = false), ((decide (p0 ≥ 48)) = true), (false = false), ((decide (p0 ≤ 57)) = false), ((decide (p0 ≤ 57)) = false), ((decide (p0 ≤ 57)) = false), ((p0 == 95) = false), ((p0 == 95) = false), ((p0 == 95) = false)] (by kernel_rfl) ⟨h1, h1, h1, rfl, rfl, rfl, h13, h13, rfl, h13, rfl, rfl, rfl, rfl, h19, h19, rfl, h19, rfl, h20, h20, h20, h21, h21, h21, trivial⟩ (.cons (.of_eq (by first | (rw [h1, h13, h19, h20, h21]; done) | (rw [h1, h13, h19, h20, h21]; rfl) | simp [h1, h13, h19, h20, h21])) .rfl) .rfl
        ·
          rcases Bool.eq_false_or_eq_true (p0 == 95) with h22 | h22
          ·
            exact RegTo.mk Tgood mixed hnt [.no, .no, .no, .skip, .skip, .pk false, .no, .no, .no, .no, .skip, .skip, .pk false, .pk false, .no, .no, .no, .no, .skip, .skip, .pk false, .pk false, .no, .no, .no, .pk false, .no, .skip, .skip, .pk true, .no] [2] []
              [(2, .p (vb true))]
              [(2, .p (vb ((((((decide (p0 ≥ 97)) && (decide (p0 ≤ 122))) || ((decide (p0 ≥ 65)) && (decide (p0 ≤ 90)))) || ((decide (p0 ≥ 48)) && (decide (p0 ≤ 57)))) || (p0 == 95)) || (p0 == 45))))]
              []
              []
              [((decide (p0 ≥ 97)) = false), ((decide (p0 ≥ 97)) = false), ((decide (p0 ≥ 97)) = false), (false = false), (false = false), (false = false), ((decide (p0 ≥ 65)) = false), ((decide (p0 ≥ 65)) = false), (false = false), ((decide (p0 ≥ 65)) = false), (false = false), (false = false), (false = false), (false = false), ((decide (p0 ≥ 48)) = false), ((decide (p0 ≥ 48)) = false), (false = false), ((decide (p0 ≥ 48)) = false), (false = false), (false = false), (false = false), (false = false), ((p0 == 95) = true), ((p0 == 95) = true), ((p0 == 95) = true)] (by kernel_rfl) ⟨h1, h1, h1, rfl, rfl, rfl, h13, h13, rfl, h13, rfl, rfl, rfl, rfl, h19, h19, rfl, h19, rfl, rfl, rfl, rfl, h22, h22, h22, trivial⟩ (.cons (.of_eq (by first | (rw [h1, h13, h19, h22]; done) | (rw [h1, h13, h19, h22]; rfl) | simp [h1, h13, h19, h22])) .rfl) .rfl
          ·
            exact RegTo.mk Tgood mixed hnt [.no, .no, .no, .skip, .skip, .pk false, .no, .no, .no, .no, .skip, .skip, .pk false, .pk false, .no, .no, .no, .no, .skip, .skip, .pk false, .pk false, .no, .no, .no, .pk false, .no, .no, .no, .pk false, .no] [2] []
              [(2, .p (vb (p0 == 45)))]
              [(2, .p (vb ((((((decide (p0 ≥ 97)) && (decide (p0 ≤ 122))) || ((decide (p0 ≥ 65)) && (decide (p0 ≤ 90)))) || ((decide (p0 ≥ 48)) && (decide (p0 ≤ 57)))) || (p0 == 95)) || (p0 == 45))))]
              []
              []
              [((decide (p0 ≥ 97)) = false), ((decide (p0 ≥ 97)) = false), ((decide (p0 ≥ 97)) = false), (false = false), (false = false), (false = false), ((decide (p0 ≥ 65)) = false), ((decide (p0 ≥ 65)) = false), (false = false), ((decide (p0 ≥ 65)) = false), (false = false), (false = false), (false = false), (false = false), ((decide (p0 ≥ 48)) = false), ((decide (p0 ≥ 48)) = false), (false = false), ((decide (p0 ≥ 48)) = false), (false = false), (false = false), (false = false), (false = false), ((p0 == 95) = false), ((p0 == 95) = false), ((p0 == 95) = false)] (by kernel_rfl) ⟨h1, h1, h1, rfl, rfl, rfl, h13, h13, rfl, h13, rfl, rfl, rfl, rfl, h19, h19, rfl, h19, rfl, rfl, rfl, rfl, h22, h22, h22, trivial⟩ (.cons (.of_eq (by first | (rw [h1, h13, h19, h22]; done) | (rw [h1, h13, h19, h22]; rfl) | simp [h1, h13, h19, h22])) .rfl) .rfl
  ·
    refine DW.ret ?_
    obtain rfl := Option.some.inj hm
    refine retOK (bs' := []) [] (.p (vb ((((((decide (p0 ≥ 97)) && (decide (p0 ≤ 122))) || ((decide (p0 ≥ 65)) && (decide (p0 ≤ 90)))) || ((decide (p0 ≥ 48)) && (decide (p0 ≤ 57)))) || (p0 == 95)) || (p0 == 45)))) (by kernel_rfl) ?_ ?_
    · rfl
    · rfl

theorem name_Valid_spec (p0 : ByteArray) (RES : Bool) (hm : name_Valid p0 = some RES) : Spec Try.prog 85 [.p (vs p0)] [] (.p (vb RES)) [] [] := by
  unfold name_Valid at hm
  refine spec_of Tgood (T := Tt) Try.func85 (by decide) (c := _) rfl rfl (sl := [(0, .p (vs p0))]) (ob := []) (Nat.le_of_ble_eq_true rfl) (Nat.le_of_ble_eq_true rfl) (by kernel_rfl) (by kernel_rfl) ?_
  intro cx hnt
  refine DW.start ?_
  refine DW.seq ?_
  refine DW.regE Tgood mixed hnt [.no] [0] []
    [(0, .p (vs p0))]
    []
    [] (by kernel_rfl) trivial ?_
  refine DW.seq ?_
  refine DW.seq ?_
  refine DW.reg Tgood mixed hnt [.no, .no, .no, .no] [0, 6, 7, 8] []
    [(0, .p (vs p0)), (6, .p (.sl .unk 1 p0.size (bytesF p0))), (7, .p (vi ((p0.size : Nat) : Int))), (8, .p (vi 0))]
    [(0, .p (vs p0)), (6, .p (slOf 1 (encK .u8) 0 (bytesL p0))), (7, .p (vi ((p0.size : Nat) : Int))), (8, .p (vi 0))]
    []
    []
    [] (by kernel_rfl) trivial (.cons .rfl (.cons (MLe.typed RowIs.bytes) .rfl)) .rfl ?_
  refine DW.block ?_
  obtain ⟨hc1, hm⟩ := guard_open hm
  refine DW.rangeO (fun (k1 : Nat) (s1 : Unit) => mkSt [(0, .p (vs p0)), (6, .p (slOf 1 (encK .u8) 0 (bytesL p0))), (7, .p (vi ((p0.size : Nat) : Int))), (8, .p (vi ((k1 : Nat) : Int)))] []) 0 hm .refl ?_
  intro k1 s1 n1 hk1 hs1 he1
  refine DW.seq ?_
  refine DW.regE Tgood mixed hnt [.no] [0, 6, 7, 8, 9] []
    [(0, .p (vs p0)), (6, .p (slOf 1 (encK .u8) 0 (bytesL p0))), (7, .p (vi ((p0.size : Nat) : Int))), (8, .p (vi ((k1 : Nat) : Int))), (9, .p (vb (decide (((k1 : Nat) : Int) < ((p0.size : Nat) : Int)))))]
    []
    [] (by kernel_rfl) trivial ?_
  refine DW.seq ?_
  refine DW.cond (decide (((k1 : Nat) : Int) < ((p0.size : Nat) : Int))) rfl rfl ?_ ?_
  ·
    intro h15
    have hlt1 : k1 < (bytesL p0).length := by have := of_decide_eq_true h15; have := bytesL_length p0; omega
    have hm := hs1 hlt1
    unfold name_Valid_l1 at hm
    refine DW.skip ?_
    refine DW.seq ?_
    refine DW.block ?_
    refine DW.seq ?_
    refine DW.regE Tgood mixed hnt [.no, .no, .no] [0, 4, 6, 7, 8] []
      [(0, .p (vs p0)), (4, .p (vk .u8 ((bytesL p0).getD k1 0))), (6, .p (slOf 1 (encK .u8) 0 (bytesL p0))), (7, .p (vi ((p0.size : Nat) : Int))), (8, .p (vi ((k1 : Nat) : Int)))]
      []
      [((0 : Int) ≤ ((k1 : Nat) : Int)), (((k1 : Nat) : Int) < (((bytesL p0).length : Nat) : Int))] (by kernel_rfl) ⟨(by omega), (by omega), trivial⟩ ?_
    refine DW.seq ?_
    obtain ⟨r16, hr16, hm⟩ := bind_open hm
    refine DW.regE Tgood mixed hnt [.no, .call 88 [] true (.p (vb r16)) [] [], .no] [0, 6, 7, 8, 14] []
      [(0, .p (vs p0)), (6, .p (slOf 1 (encK .u8) 0 (bytesL p0))), (7, .p (vi ((p0.size : Nat) : Int))), (8, .p (vi ((k1 : Nat) : Int))), (14, .p (vb (!r16)))]
      []
      [(Spec Try.prog 88 [.p (vk .u8 ((bytesL p0).getD k1 0))] [] (.p (vb r16)) [] [])] (by kernel_rfl) ⟨(name_inner_spec ((bytesL p0).getD k1 0) r16 hr16), trivial⟩ ?_
    refine DW.cond (!r16) rfl rfl ?_ ?_
    ·
      intro h17
      replace hm := if_t h17 hm
      refine DW.seq ?_
      refine DW.regE Tgood mixed hnt [.no] [2] []
        [(2, .p (vb false))]
        []
        [] (by kernel_rfl) trivial ?_
      refine DW.ret ?_
      obtain rfl := Option.some.inj hm
      refine retOK (bs' := []) [] (.p (vb false)) (by kernel_rfl) ?_ ?_
      · rfl
      · rfl
    ·
      intro h17
      replace hm := if_f h17 hm
      refine DW.skip ?_
      refine DW.done ?_
      show DW _ _ _ _ _
      refine DW.regE Tgood mixed hnt [.no, .no] [0, 6, 7, 8] []
        [(0, .p (vs p0)), (6, .p (slOf 1 (encK .u8) 0 (bytesL p0))), (7, .p (vi ((p0.size : Nat) : Int))), (8, .p (vi (w64 (((k1 : Nat) : Int) + 1))))]
        []
        [] (by kernel_rfl) trivial ?_
      exact joinDone () ⟨hlt1, hm⟩ (Conv.to [0, 6, 7, 8] [] [(0, .p (vs p0)), (6, .p (slOf 1 (encK .u8) 0 (bytesL p0))), (7, .p (vi ((p0.size : Nat) : Int))), (8, .p (vi (w64 (((k1 : Nat) : Int) + 1))))] [(0, .p (vs p0)), (6, .p (slOf 1 (encK .u8) 0 (bytesL p0))), (7, .p (vi ((p0.size : Nat) : Int))), (8, .p (vi (((k1 + 1) : Nat) : Int)))] [] [] (by kernel_rfl) (by kernel_rfl) (.cons .rfl (.cons .rfl (.cons .rfl (.cons (.of_eq (congrArg (fun n => MV.p (vi n)) (w64_succ hlt1 hc1))) .rfl)))) .rfl)
  ·
    intro h15
    have hge1 : ¬ k1 < (bytesL p0).length := by have := of_decide_eq_false h15; have := bytesL_length p0; omega
    have hm := he1 hge1
    unfold name_Valid_d1 at hm
    refine DW.exit ?_
    refine joinQ_exit ?_
    refine KQ_exit ?_
    refine blockQ_exit ?_
    show DW _ _ _ _ _
    refine DW.seq ?_
    refine DW.join (ι := Bool) (fun (y3 : Bool) => mkSt [(2, .p (vb y3))] []) (fun y3 => name_Valid_j3 y3 = some RES) ?_ ?_
    · intro y3 hm
      unfold name_Valid_j3 at hm
      refine DW.ret ?_
      obtain rfl := Option.some.inj hm
      refine retOK (bs' := []) [] (.p (vb y3)) (by kernel_rfl) ?_ ?_
      · rfl
      · rfl
    ·
      rcases Bool.eq_false_or_eq_true (!(beqS p0 ByteArray.empty)) with h18 | h18
      ·
        replace hm := if_t h18 hm
        rcases Bool.eq_false_or_eq_true (decide (((p0.size : Nat) : Int) ≤ 32)) with h19 | h19
        ·
          replace hm := if_t h19 hm
          obtain ⟨g20, hm⟩ := guard_open hm
          refine DW.regE Tgood mixed hnt [.no, .no, .no, .no, .no, .no, .pk true, .no, .no, .no, .no, .pk true, .no] [2] []
            [(2, .p (vb ((((byteAt p0 0) : Nat) : Int) != 45)))]
            []
            [((!(beqS p0 ByteArray.empty)) = true), ((!(beqS p0 ByteArray.empty)) = true), ((!(beqS p0 ByteArray.empty)) = true), ((!(beqS p0 ByteArray.empty)) = true), ((decide (((p0.size : Nat) : Int) ≤ 32)) = true), ((decide (((p0.size : Nat) : Int) ≤ 32)) = true), ((0 : Int) ≤ 0), (0 < ((p0.size : Nat) : Int)), ((decide (((p0.size : Nat) : Int) ≤ 32)) = true), ((decide (((p0.size : Nat) : Int) ≤ 32)) = true)] (by kernel_rfl) ⟨h18, h18, h18, h18, h19, h19, (by omega), (by omega), h19, h19, trivial⟩ ?_
          exact joinDone ((((byteAt p0 0) : Nat) : Int) != 45) hm .refl
        ·
          replace hm := if_f h19 hm
          refine DW.regE Tgood mixed hnt [.no, .no, .no, .no, .no, .no, .pk true, .no, .skip, .skip, .skip, .pk false, .no] [2] []
            [(2, .p (vb false))]
            []
            [((!(beqS p0 ByteArray.empty)) = true), ((!(beqS p0 ByteArray.empty)) = true), ((!(beqS p0 ByteArray.empty)) = true), ((!(beqS p0 ByteArray.empty)) = true), ((decide (((p0.size : Nat) : Int) ≤ 32)) = false), ((decide (((p0.size : Nat) : Int) ≤ 32)) = false), ((decide (((p0.size : Nat) : Int) ≤ 32)) = false), ((decide (((p0.size : Nat) : Int) ≤ 32)) = false)] (by kernel_rfl) ⟨h18, h18, h18, h18, h19, h19, h19, h19, trivial⟩ ?_
          exact joinDone false hm .refl
      ·
        replace hm := if_f h18 hm
        refine DW.regE Tgood mixed hnt [.no, .no, .no, .skip, .skip, .skip, .pk false, .no, .skip, .skip, .skip, .pk false, .no] [2] []
          [(2, .p (vb false))]
          []
          [((!(beqS p0 ByteArray.empty)) = false), ((!(beqS p0 ByteArray.empty)) = false), ((!(beqS p0 ByteArray.empty)) = false), ((!(beqS p0 ByteArray.empty)) = false), (false = false), (false = false), (false = false), (false = false)] (by kernel_rfl) ⟨h18, h18, h18, h18, rfl, rfl, rfl, rfl, trivial⟩ ?_
        exact joinDone false hm .refl

theorem tree_fine_spec (p0 : List Node) (p1 : Node) (RES : Bool) (hm : tree_fine p0 p1 = some RES) : Spec Try.prog 75 [.p (slOf 6 encNode (default : Node) p0), .p (.agg [vi p1.id, vi p1.parent, vs p1.name, vi p1.control, vi p1.kind, vi p1.owner])] [] (.p (vb RES)) [] [] := by
  unfold tree_fine at hm
  refine spec_of Tgood (T := Tt) Try.func75 (by decide) (c := _) rfl rfl (sl := [(0, .p (slOf 6 encNode (default : Node) p0)), (1, .p (.agg [vi p1.id, vi p1.parent, vs p1.name, vi p1.control, vi p1.kind, vi p1.owner]))]) (ob := []) (Nat.le_of_ble_eq_true rfl) (Nat.le_of_ble_eq_true rfl) (by kernel_rfl) (by kernel_rfl) ?_
  intro cx hnt
  refine DW.start ?_
  refine DW.seq ?_
  refine DW.regE Tgood mixed hnt [.no, .no] [0, 3] [1024]
    [(0, .p (slOf 6 encNode (default : Node) p0)), (3, .ref 1024 0 0)]
    [(1024, ⟨0, .box [.p (vi p1.id), .p (vi p1.parent), .p (vs p1.name), .p (vi p1.control), .p (vi p1.kind), .p (vi p1.owner)]⟩)]
    [] (by kernel_rfl) trivial ?_
  refine DW.seq ?_
  refine DW.seq ?_
  obtain ⟨g1, hm⟩ := guard_open hm
  refine DW.join (ι := Bool) (fun (y1 : Bool) => mkSt [(0, .p (slOf 6 encNode (default : Node) p0)), (3, .ref 1024 0 0), (33, .p (vb y1))] [(1024, ⟨0, .box [.p (vi p1.id), .p (vi p1.parent), .p (vs p1.name), .p (vi p1.control), .p (vi p1.kind), .p (vi p1.owner)]⟩)]) (fun y1 => (tree_fine_j1 p0 p1) y1 = some RES) ?_ ?_
  · intro y1 hm
    unfold tree_fine_j1 at hm
    refine DW.cond y1 rfl rfl ?_ ?_
    ·
      intro h6
      replace hm := if_t h6 hm
      refine DW.seq ?_
      refine DW.regE Tgood mixed hnt [.no] [4] []
        [(4, .p (vb false))]
        []
        [] (by kernel_rfl) trivial ?_
      refine DW.ret ?_
      obtain rfl := Option.some.inj hm
      refine retOK (bs' := []) [] (.p (vb false)) (by kernel_rfl) ?_ ?_
      · rfl
      · rfl
    ·
      intro h6
      replace hm := if_f h6 hm
      refine DW.skip ?_
      refine DW.seq ?_
      refine DW.regE Tgood mixed hnt [.no] [0, 3, 5] [1024]
        [(0, .p (slOf 6 encNode (default : Node) p0)), (3, .ref 1024 0 0), (5, .p (vb false))]
        [(1024, ⟨0, .box [.p (vi p1.id), .p (vi p1.parent), .p (vs p1.name), .p (vi p1.control), .p (vi p1.kind), .p (vi p1.owner)]⟩)]
        [] (by kernel_rfl) trivial ?_
      refine DW.seq ?_
      refine DW.seq ?_
      refine DW.regE Tgood mixed hnt [.no, .no, .no] [3, 5, 34, 35, 36] [1024]
        [(3, .ref 1024 0 0), (5, .p (vb false)), (34, .p (slOf 6 encNode (default : Node) p0)), (35, .p (vi ((p0.length : Nat) : Int))), (36, .p (vi 0))]
        [(1024, ⟨0, .box [.p (vi p1.id), .p (vi p1.parent), .p (vs p1.name), .p (vi p1.control), .p (vi p1.kind), .p (vi p1.owner)]⟩)]
        [] (by kernel_rfl) trivial ?_
      refine DW.block ?_
      obtain ⟨hc1, hm⟩ := guard_open hm
      refine DW.rangeO (fun (k1 : Nat) (s1 : Bool) => mkSt [(3, .ref 1024 0 0), (5, .p (vb s1)), (34, .p (slOf 6 encNode (default : Node) p0)), (35, .p (vi ((p0.length : Nat) : Int))), (36, .p (vi ((k1 : Nat) : Int)))] [(1024, ⟨0, .box [.p (vi p1.id), .p (vi p1.parent), .p (vs p1.name), .p (vi p1.control), .p (vi p1.kind), .p (vi p1.owner)]⟩)]) (default : Node) hm .refl ?_
      intro k1 s1 n1 hk1 hs1 he1
      refine DW.seq ?_
      refine DW.regE Tgood mixed hnt [.no] [3, 5, 34, 35, 36, 37] [1024]
        [(3, .ref 1024 0 0), (5, .p (vb s1)), (34, .p (slOf 6 encNode (default : Node) p0)), (35, .p (vi ((p0.length : Nat) : Int))), (36, .p (vi ((k1 : Nat) : Int))), (37, .p (vb (decide (((k1 : Nat) : Int) < ((p0.length : Nat) : Int)))))]
        [(1024, ⟨0, .box [.p (vi p1.id), .p (vi p1.parent), .p (vs p1.name), .p (vi p1.control), .p (vi p1.kind), .p (vi p1.owner)]⟩)]
        [] (by kernel_rfl) trivial ?_
      refine DW.seq ?_
      refine DW.cond (decide (((k1 : Nat) : Int) < ((p0.length : Nat) : Int))) rfl rfl ?_ ?_
      ·
        intro h16
        have hlt1 : k1 < p0.length := by have := of_decide_eq_true h16; omega
        have hm := hs1 hlt1
        unfold tree_fine_l1 at hm
        refine DW.skip ?_
        refine DW.seq ?_
        refine DW.block ?_
        refine DW.seq ?_
        refine DW.regE Tgood mixed hnt [.no, .no, .no, .no] [3, 5, 7, 34, 35, 36] [1024, 1056]
          [(3, .ref 1024 0 0), (5, .p (vb s1)), (7, .ref 1056 0 0), (34, .p (slOf 6 encNode (default : Node) p0)), (35, .p (vi ((p0.length : Nat) : Int))), (36, .p (vi ((k1 : Nat) : Int)))]
          [(1024, ⟨0, .box [.p (vi p1.id), .p (vi p1.parent), .p (vs p1.name), .p (vi p1.control), .p (vi p1.kind), .p (vi p1.owner)]⟩), (1056, ⟨0, .box [.p (vi (p0.getD k1 (default : Node)).id), .p (vi (p0.getD k1 (default : Node)).parent), .p (vs (p0.getD k1 (default : Node)).name), .p (vi (p0.getD k1 (default : Node)).control), .p (vi (p0.getD k1 (default : Node)).kind), .p (vi (p0.getD k1 (default : Node)).owner)]⟩)]
          [((0 : Int) ≤ ((k1 : Nat) : Int)), (((k1 : Nat) : Int) < ((p0.length : Nat) : Int))] (by kernel_rfl) ⟨(by omega), (by omega), trivial⟩ ?_
        refine DW.seq ?_
        refine DW.regJ (sl2 := [(3, .ref 1024 0 0), (5, .p (vb (s1 || ((p0.getD k1 (default : Node)).id == p1.parent)))), (7, .ref 1056 0 0), (34, .p (slOf 6 encNode (default : Node) p0)), (35, .p (vi ((p0.length : Nat) : Int))), (36, .p (vi ((k1 : Nat) : Int)))]) (ob2 := [(1024, ⟨0, .box [.p (vi p1.id), .p (vi p1.parent), .p (vs p1.name), .p (vi p1.control), .p (vi p1.kind), .p (vi p1.owner)]⟩), (1056, ⟨0, .box [.p (vi (p0.getD k1 (default : Node)).id), .p (vi (p0.getD k1 (default : Node)).parent), .p (vs (p0.getD k1 (default : Node)).name), .p (vi (p0.getD k1 (default : Node)).control), .p (vi (p0.getD k1 (default : Node)).kind), .p (vi (p0.getD k1 (default : Node)).owner)]⟩)]) ?_ ?_
        ·
          rcases Bool.eq_false_or_eq_true s1 with h17 | h17
          ·
            exact RegTo.mk Tgood mixed hnt [.no, .no, .skip, .skip, .skip, .skip, .skip, .pk true, .no] [3, 5, 7, 34, 35, 36] [1024, 1056]
              [(3, .ref 1024 0 0), (5, .p (vb true)), (7, .ref 1056 0 0), (34, .p (slOf 6 encNode (default : Node) p0)), (35, .p (vi ((p0.length : Nat) : Int))), (36, .p (vi ((k1 : Nat) : Int)))]
              [(3, .ref 1024 0 0), (5, .p (vb (s1 || ((p0.getD k1 (default : Node)).id == p1.parent)))), (7, .ref 1056 0 0), (34, .p (slOf 6 encNode (default : Node) p0)), (35, .p (vi ((p0.length : Nat) : Int))), (36, .p (vi ((k1 : Nat) : Int)))]
              [(1024, ⟨0, .box [.p (vi p1.id), .p (vi p1.parent), .p (vs p1.name), .p (vi p1.control), .p (vi p1.kind), .p (vi p1.owner)]⟩), (1056, ⟨0, .box [.p (vi (p0.getD k1 (default : Node)).id), .p (vi (p0.getD k1 (default : Node)).parent), .p (vs (p0.getD k1 (default : Node)).name), .p (vi (p0.getD k1 (default : Node)).control), .p (vi (p0.getD k1 (default : Node)).kind), .p (vi (p0.getD k1 (default : Node)).owner)]⟩)]
              [(1024, ⟨0, .box [.p (vi p1.id), .p (vi p1.parent), .p (vs p1.name), .p (vi p1.control), .p (vi p1.kind), .p (vi p1.owner)]⟩), (1056, ⟨0, .box [.p (vi (p0.getD k1 (default : Node)).id), .p (vi (p0.getD k1 (default : Node)).parent), .p (vs (p0.getD k1 (default : Node)).name), .p (vi (p0.getD k1 (default : Node)).control), .p (vi (p0.getD k1 (default : Node)).kind), .p (vi (p0.getD k1 (default : Node)).owner)]⟩)]
              [(s1 = true), (s1 = true), (s1 = true), (s1 = true), (s1 = true), (s1 = true)] (by kernel_rfl) ⟨h17, h17, h17, h17, h17, h17, trivial⟩ (.cons .rfl (.cons (.of_eq (by first | (rw [h17]; done) | (rw [h17]; rfl) | simp [h17])) .rfl)) .rfl
          ·
            exact RegTo.mk Tgood mixed hnt [.no, .no, .no, .no, .no, .no, .no, .pk false, .no] [3, 5, 7, 34, 35, 36] [1024, 1056]
              [(3, .ref 1024 0 0), (5, .p (vb ((p0.getD k1 (default : Node)).id == p1.parent))), (7, .ref 1056 0 0), (34, .p (slOf 6 encNode (default : Node) p0)), (35, .p (vi ((p0.length : Nat) : Int))), (36, .p (vi ((k1 : Nat) : Int)))]
              [(3, .ref 1024 0 0), (5, .p (vb (s1 || ((p0.getD k1 (default : Node)).id == p1.parent)))), (7, .ref 1056 0 0), (34, .p (slOf 6 encNode (default : Node) p0)), (35, .p (vi ((p0.length : Nat) : Int))), (36, .p (vi ((k1 : Nat) : Int)))]
              [(1024, ⟨0, .box [.p (vi p1.id), .p (vi p1.parent), .p (vs p1.name), .p (vi p1.control), .p (vi p1.kind), .p (vi p1.owner)]⟩), (1056, ⟨0, .box [.p (vi (p0.getD k1 (default : Node)).id), .p (vi (p0.getD k1 (default : Node)).parent), .p (vs (p0.getD k1 (default : Node)).name), .p (vi (p0.getD k1 (default : Node)).control), .p (vi (p0.getD k1 (default : Node)).kind), .p (vi (p0.getD k1 (default : Node)).owner)]⟩)]
              [(1024, ⟨0, .box [.p (vi p1.id), .p (vi p1.parent), .p (vs p1.name), .p (vi p1.control), .p (vi p1.kind), .p (vi p1.owner)]⟩), (1056, ⟨0, .box [.p (vi (p0.getD k1 (default : Node)).id), .p (vi (p0.getD k1 (default : Node)).parent), .p (vs (p0.getD k1 (default : Node)).name), .p (vi (p0.getD k1 (default : Node)).control), .p (vi (p0.getD k1 (default : Node)).kind), .p (vi (p0.getD k1 (default : Node)).owner)]⟩)]
              [(s1 = false), (s1 = false), (s1 = false), (s1 = false), (s1 = false), (s1 = false)] (by kernel_rfl) ⟨h17, h17, h17, h17, h17, h17, trivial⟩ (.cons .rfl (.cons (.of_eq (by first | (rw [h17]; done) | (rw [h17]; rfl) | simp [h17])) .rfl)) .rfl
        ·
          refine DW.seq ?_
          refine DW.regJ (sl2 := [(3, .ref 1024 0 0), (5, .p (vb (s1 || ((p0.getD k1 (default : Node)).id == p1.parent)))), (34, .p (slOf 6 encNode (default : Node) p0)), (35, .p (vi ((p0.length : Nat) : Int))), (36, .p (vi ((k1 : Nat) : Int))), (59, .p (vb (((p0.getD k1 (default : Node)).parent == p1.parent) && (beqS (p0.getD k1 (default : Node)).name p1.name))))]) (ob2 := [(1024, ⟨0, .box [.p (vi p1.id), .p (vi p1.parent), .p (vs p1.name), .p (vi p1.control), .p (vi p1.kind), .p (vi p1.owner)]⟩)]) ?_ ?_
          ·
            rcases Bool.eq_false_or_eq_true ((p0.getD k1 (default : Node)).parent == p1.parent) with h18 | h18
            ·
              exact RegTo.mk Tgood mixed hnt [.no, .no, .no, .no, .no, .no, .no, .no, .no, .no, .no, .pk true] [3, 5, 34, 35, 36, 59] [1024]
                [(3, .ref 1024 0 0), (5, .p (vb (s1 || ((p0.getD k1 (default : Node)).id == p1.parent)))), (34, .p (slOf 6 encNode (default : Node) p0)), (35, .p (vi ((p0.length : Nat) : Int))), (36, .p (vi ((k1 : Nat) : Int))), (59, .p (vb (beqS (p0.getD k1 (default : Node)).name p1.name)))]
                [(3, .ref 1024 0 0), (5, .p (vb (s1 || ((p0.getD k1 (default : Node)).id == p1.parent)))), (34, .p (slOf 6 encNode (default : Node) p0)), (35, .p (vi ((p0.length : Nat) : Int))), (36, .p (vi ((k1 : Nat) : Int))), (59, .p (vb (((p0.getD k1 (default : Node)).parent == p1.parent) && (beqS (p0.getD k1 (default : Node)).name p1.name))))]
                [(1024, ⟨0, .box [.p (vi p1.id), .p (vi p1.parent), .p (vs p1.name), .p (vi p1.control), .p (vi p1.kind), .p (vi p1.owner)]⟩)]
                [(1024, ⟨0, .box [.p (vi p1.id), .p (vi p1.parent), .p (vs p1.name), .p (vi p1.control), .p (vi p1.kind), .p (vi p1.owner)]⟩)]
                [(((p0.getD k1 (default : Node)).parent == p1.parent) = true), (((p0.getD k1 (default : Node)).parent == p1.parent) = true), (((p0.getD k1 (default : Node)).parent == p1.parent) = true), (((p0.getD k1 (default : Node)).parent == p1.parent) = true), (((p0.getD k1 (default : Node)).parent == p1.parent) = true), (((p0.getD k1 (default : Node)).parent == p1.parent) = true)] (by kernel_rfl) ⟨h18, h18, h18, h18, h18, h18, trivial⟩ (.cons .rfl (.cons .rfl (.cons .rfl (.cons .rfl (.cons .rfl (.cons (.of_eq (by first | (rw [h18]; done) | (rw [h18]; rfl) | simp [h18])) .rfl)))))) .rfl
            ·
              exact RegTo.mk Tgood mixed hnt [.no, .no, .no, .no, .no, .no, .skip, .skip, .skip, .skip, .skip, .pk false] [3, 5, 34, 35, 36, 59] [1024]
                [(3, .ref 1024 0 0), (5, .p (vb (s1 || ((p0.getD k1 (default : Node)).id == p1.parent)))), (34, .p (slOf 6 encNode (default : Node) p0)), (35, .p (vi ((p0.length : Nat) : Int))), (36, .p (vi ((k1 : Nat) : Int))), (59, .p (vb false))]
                [(3, .ref 1024 0 0), (5, .p (vb (s1 || ((p0.getD k1 (default : Node)).id == p1.parent)))), (34, .p (slOf 6 encNode (default : Node) p0)), (35, .p (vi ((p0.length : Nat) : Int))), (36, .p (vi ((k1 : Nat) : Int))), (59, .p (vb (((p0.getD k1 (default : Node)).parent == p1.parent) && (beqS (p0.getD k1 (default : Node)).name p1.name))))]
                [(1024, ⟨0, .box [.p (vi p1.id), .p (vi p1.parent), .p (vs p1.name), .p (vi p1.control), .p (vi p1.kind), .p (vi p1.owner)]⟩)]
                [(1024, ⟨0, .box [.p (vi p1.id), .p (vi p1.parent), .p (vs p1.name), .p (vi p1.control), .p (vi p1.kind), .p (vi p1.owner)]⟩)]
                [(((p0.getD k1 (default : Node)).parent == p1.parent) = false), (((p0.getD k1 (default : Node)).parent == p1.parent) = false), (((p0.getD k1 (default : Node)).parent == p1.parent) = false), (((p0.getD k1 (default : Node)).parent == p1.parent) = false), (((p0.getD k1 (default : Node)).parent == p1.parent) = false), (((p0.getD k1 (default : Node)).parent == p1.parent) = false)] (by kernel_rfl) ⟨h18, h18, h18, h18, h18, h18, trivial⟩ (.cons .rfl (.cons .rfl (.cons .rfl (.cons .rfl (.cons .rfl (.cons (.of_eq (by first | (rw [h18]; done) | (rw [h18]; rfl) | simp [h18])) .rfl)))))) .rfl
          ·
            refine DW.cond (((p0.getD k1 (default : Node)).parent == p1.parent) && (beqS (p0.getD k1 (default : Node)).name p1.name)) rfl rfl ?_ ?_
            ·
              intro h19
              replace hm := if_t h19 hm
              refine DW.seq ?_
              refine DW.regE Tgood mixed hnt [.no] [4] []
                [(4, .p (vb false))]
                []
                [] (by kernel_rfl) trivial ?_
              refine DW.ret ?_
              obtain rfl := Option.some.inj hm
              refine retOK (bs' := []) [] (.p (vb false)) (by kernel_rfl) ?_ ?_
              · rfl
              · rfl
            ·
              intro h19
              replace hm := if_f h19 hm
              refine DW.skip ?_
              refine DW.done ?_
              show DW _ _ _ _ _
              refine DW.regE Tgood mixed hnt [.no, .no] [3, 5, 34, 35, 36] [1024]
                [(3, .ref 1024 0 0), (5, .p (vb (s1 || ((p0.getD k1 (default : Node)).id == p1.parent)))), (34, .p (slOf 6 encNode (default : Node) p0)), (35, .p (vi ((p0.length : Nat) : Int))), (36, .p (vi (w64 (((k1 : Nat) : Int) + 1))))]
                [(1024, ⟨0, .box [.p (vi p1.id), .p (vi p1.parent), .p (vs p1.name), .p (vi p1.control), .p (vi p1.kind), .p (vi p1.owner)]⟩)]
                [] (by kernel_rfl) trivial ?_
              exact joinDone (s1 || ((p0.getD k1 (default : Node)).id == p1.parent)) ⟨hlt1, hm⟩ (Conv.to [3, 5, 34, 35, 36] [1024] [(3, .ref 1024 0 0), (5, .p (vb (s1 || ((p0.getD k1 (default : Node)).id == p1.parent)))), (34, .p (slOf 6 encNode (default : Node) p0)), (35, .p (vi ((p0.length : Nat) : Int))), (36, .p (vi (w64 (((k1 : Nat) : Int) + 1))))] [(3, .ref 1024 0 0), (5, .p (vb (s1 || ((p0.getD k1 (default : Node)).id == p1.parent)))), (34, .p (slOf 6 encNode (default : Node) p0)), (35, .p (vi ((p0.length : Nat) : Int))), (36, .p (vi (((k1 + 1) : Nat) : Int)))] [(1024, ⟨0, .box [.p (vi p1.id), .p (vi p1.parent), .p (vs p1.name), .p (vi p1.control), .p (vi p1.kind), .p (vi p1.owner)]⟩)] [(1024, ⟨0, .box [.p (vi p1.id), .p (vi p1.parent), .p (vs p1.name), .p (vi p1.control), .p (vi p1.kind), .p (vi p1.owner)]⟩)] (by kernel_rfl) (by kernel_rfl) (.cons .rfl (.cons .rfl (.cons .rfl (.cons .rfl (.cons (.of_eq (congrArg (fun n => MV.p (vi n)) (w64_succ hlt1 hc1))) .rfl))))) .rfl)
      ·
        intro h16
        have hge1 : ¬ k1 < p0.length := by have := of_decide_eq_false h16; omega
        have hm := he1 hge1
        unfold tree_fine_d1 at hm
        refine DW.exit ?_
        refine joinQ_exit ?_
        refine KQ_exit ?_
        refine blockQ_exit ?_
        show DW _ _ _ _ _
        refine DW.seq ?_
        refine DW.regE Tgood mixed hnt [.no, .no] [4] []
          [(4, .p (vb s1))]
          []
          [] (by kernel_rfl) trivial ?_
        refine DW.ret ?_
        obtain rfl := Option.some.inj hm
        refine retOK (bs' := []) [] (.p (vb s1)) (by kernel_rfl) ?_ ?_
        · rfl
        · rfl
  ·
    rcases Bool.eq_false_or_eq_true (decide (p1.id ≤ (p0.getD (Int.toNat (w64 (((p0.length : Nat) : Int) - 1))) (default : Node)).id)) with h2 | h2
    ·
      replace hm := if_t h2 hm
      refine DW.regE Tgood mixed hnt [.no, .no, .no, .no, .no, .no, .no, .no, .no, .no, .no, .skip, .skip, .skip, .skip, .pk true, .no, .skip, .skip, .skip, .skip, .skip, .skip, .skip, .skip, .pk true] [0, 3, 33] [1024]
        [(0, .p (slOf 6 encNode (default : Node) p0)), (3, .ref 1024 0 0), (33, .p (vb true))]
        [(1024, ⟨0, .box [.p (vi p1.id), .p (vi p1.parent), .p (vs p1.name), .p (vi p1.control), .p (vi p1.kind), .p (vi p1.owner)]⟩)]
        [((0 : Int) ≤ (w64 (((p0.length : Nat) : Int) - 1))), ((w64 (((p0.length : Nat) : Int) - 1)) < ((p0.length : Nat) : Int)), ((decide (p1.id ≤ (p0.getD (Int.toNat (w64 (((p0.length : Nat) : Int) - 1))) (default : Node)).id)) = true), ((decide (p1.id ≤ (p0.getD (Int.toNat (w64 (((p0.length : Nat) : Int) - 1))) (default : Node)).id)) = true), ((decide (p1.id ≤ (p0.getD (Int.toNat (w64 (((p0.length : Nat) : Int) - 1))) (default : Node)).id)) = true), ((decide (p1.id ≤ (p0.getD (Int.toNat (w64 (((p0.length : Nat) : Int) - 1))) (default : Node)).id)) = true), ((decide (p1.id ≤ (p0.getD (Int.toNat (w64 (((p0.length : Nat) : Int) - 1))) (default : Node)).id)) = true), (true = true), (true = true), (true = true), (true = true), (true = true), (true = true)] (by kernel_rfl) ⟨g1.1, g1.2, h2, h2, h2, h2, h2, rfl, rfl, rfl, rfl, rfl, rfl, trivial⟩ ?_
      exact joinDone true hm .refl
    ·
      replace hm := if_f h2 hm
      obtain ⟨r3, hr3, hm⟩ := bind_open hm
      rcases Bool.eq_false_or_eq_true (!r3) with h4 | h4
      ·
        replace hm := if_t h4 hm
        refine DW.regE Tgood mixed hnt [.no, .no, .no, .no, .no, .no, .no, .no, .no, .no, .no, .no, .no, .call 85 [] true (.p (vb r3)) [] [], .no, .pk false, .no, .skip, .skip, .skip, .skip, .skip, .skip, .skip, .skip, .pk true] [0, 3, 33] [1024]
          [(0, .p (slOf 6 encNode (default : Node) p0)), (3, .ref 1024 0 0), (33, .p (vb true))]
          [(1024, ⟨0, .box [.p (vi p1.id), .p (vi p1.parent), .p (vs p1.name), .p (vi p1.control), .p (vi p1.kind), .p (vi p1.owner)]⟩)]
          [((0 : Int) ≤ (w64 (((p0.length : Nat) : Int) - 1))), ((w64 (((p0.length : Nat) : Int) - 1)) < ((p0.length : Nat) : Int)), ((decide (p1.id ≤ (p0.getD (Int.toNat (w64 (((p0.length : Nat) : Int) - 1))) (default : Node)).id)) = false), ((decide (p1.id ≤ (p0.getD (Int.toNat (w64 (((p0.length : Nat) : Int) - 1))) (default : Node)).id)) = false), ((decide (p1.id ≤ (p0.getD (Int.toNat (w64 (((p0.length : Nat) : Int) - 1))) (default : Node)).id)) = false), (Spec Try.prog 85 [.p (vs p1.name)] [] (.p (vb r3)) [] []), ((decide (p1.id ≤ (p0.getD (Int.toNat (w64 (((p0.length : Nat) : Int) - 1))) (default : Node)).id)) = false), ((decide (p1.id ≤ (p0.getD (Int.toNat (w64 (((p0.length : Nat) : Int) - 1))) (default : Node)).id)) = false), ((!r3) = true), ((!r3) = true), ((!r3) = true), ((!r3) = true), ((!r3) = true), ((!r3) = true)] (by kernel_rfl) ⟨g1.1, g1.2, h2, h2, h2, (name_Valid_spec p1.name r3 hr3), h2, h2, h4, h4, h4, h4, h4, h4, trivial⟩ ?_
        exact joinDone true hm .refl
      ·
        replace hm := if_f h4 hm
        rcases Bool.eq_false_or_eq_true (p1.kind != 0) with h5 | h5
        ·
          replace hm := if_t h5 hm
          refine DW.regE Tgood mixed hnt [.no, .no, .no, .no, .no, .no, .no, .no, .no, .no, .no, .no, .no, .call 85 [] true (.p (vb r3)) [] [], .no, .pk false, .no, .no, .no, .no, .no, .no, .no, .no, .pk true, .pk false] [0, 3, 33] [1024]
            [(0, .p (slOf 6 encNode (default : Node) p0)), (3, .ref 1024 0 0), (33, .p (vb (p1.kind != 1)))]
            [(1024, ⟨0, .box [.p (vi p1.id), .p (vi p1.parent), .p (vs p1.name), .p (vi p1.control), .p (vi p1.kind), .p (vi p1.owner)]⟩)]
            [((0 : Int) ≤ (w64 (((p0.length : Nat) : Int) - 1))), ((w64 (((p0.length : Nat) : Int) - 1)) < ((p0.length : Nat) : Int)), ((decide (p1.id ≤ (p0.getD (Int.toNat (w64 (((p0.length : Nat) : Int) - 1))) (default : Node)).id)) = false), ((decide (p1.id ≤ (p0.getD (Int.toNat (w64 (((p0.length : Nat) : Int) - 1))) (default : Node)).id)) = false), ((decide (p1.id ≤ (p0.getD (Int.toNat (w64 (((p0.length : Nat) : Int) - 1))) (default : Node)).id)) = false), (Spec Try.prog 85 [.p (vs p1.name)] [] (.p (vb r3)) [] []), ((decide (p1.id ≤ (p0.getD (Int.toNat (w64 (((p0.length : Nat) : Int) - 1))) (default : Node)).id)) = false), ((decide (p1.id ≤ (p0.getD (Int.toNat (w64 (((p0.length : Nat) : Int) - 1))) (default : Node)).id)) = false), ((!r3) = false), ((!r3) = false), ((!r3) = false), ((!r3) = false), ((p1.kind != 0) = true), ((p1.kind != 0) = true), ((p1.kind != 0) = true), ((!r3) = false), ((p1.kind != 0) = true), ((!r3) = false)] (by kernel_rfl) ⟨g1.1, g1.2, h2, h2, h2, (name_Valid_spec p1.name r3 hr3), h2, h2, h4, h4, h4, h4, h5, h5, h5, h4, h5, h4, trivial⟩ ?_
          exact joinDone (p1.kind != 1) hm .refl
        ·
          replace hm := if_f h5 hm
          refine DW.regE Tgood mixed hnt [.no, .no, .no, .no, .no, .no, .no, .no, .no, .no, .no, .no, .no, .call 85 [] true (.p (vb r3)) [] [], .no, .pk false, .no, .no, .no, .no, .no, .skip, .skip, .skip, .pk false, .pk false] [0, 3, 33] [1024]
            [(0, .p (slOf 6 encNode (default : Node) p0)), (3, .ref 1024 0 0), (33, .p (vb false))]
            [(1024, ⟨0, .box [.p (vi p1.id), .p (vi p1.parent), .p (vs p1.name), .p (vi p1.control), .p (vi p1.kind), .p (vi p1.owner)]⟩)]
            [((0 : Int) ≤ (w64 (((p0.length : Nat) : Int) - 1))), ((w64 (((p0.length : Nat) : Int) - 1)) < ((p0.length : Nat) : Int)), ((decide (p1.id ≤ (p0.getD (Int.toNat (w64 (((p0.length : Nat) : Int) - 1))) (default : Node)).id)) = false), ((decide (p1.id ≤ (p0.getD (Int.toNat (w64 (((p0.length : Nat) : Int) - 1))) (default : Node)).id)) = false), ((decide (p1.id ≤ (p0.getD (Int.toNat (w64 (((p0.length : Nat) : Int) - 1))) (default : Node)).id)) = false), (Spec Try.prog 85 [.p (vs p1.name)] [] (.p (vb r3)) [] []), ((decide (p1.id ≤ (p0.getD (Int.toNat (w64 (((p0.length : Nat) : Int) - 1))) (default : Node)).id)) = false), ((decide (p1.id ≤ (p0.getD (Int.toNat (w64 (((p0.length : Nat) : Int) - 1))) (default : Node)).id)) = false), ((!r3) = false), ((!r3) = false), ((!r3) = false), ((!r3) = false), ((p1.kind != 0) = false), ((p1.kind != 0) = false), ((p1.kind != 0) = false), ((!r3) = false), ((p1.kind != 0) = false), ((!r3) = false)] (by kernel_rfl) ⟨g1.1, g1.2, h2, h2, h2, (name_Valid_spec p1.name r3 hr3), h2, h2, h4, h4, h4, h4, h5, h5, h5, h4, h5, h4, trivial⟩ ?_
          exact joinDone false hm .refl

theorem tree_Check_spec (p0 : Tree) (RES : Bool) (hm : tree_Check p0 = some RES) : Spec Try.prog 45 [.p (.agg [slOf 6 encNode (default : Node) p0.nodes, vi p0.next])] [] (.p (vb RES)) [] [] := by
  unfold tree_Check at hm
  refine spec_of Tgood (T := Tt) Try.func45 (by decide) (c := _) rfl rfl (sl := [(0, .p (.agg [slOf 6 encNode (default : Node) p0.nodes, vi p0.next]))]) (ob := []) (Nat.le_of_ble_eq_true rfl) (Nat.le_of_ble_eq_true rfl) (by kernel_rfl) (by kernel_rfl) ?_
  intro cx hnt
  refine DW.start ?_
  refine DW.seq ?_
  refine DW.regE Tgood mixed hnt [.no, .no] [1] [1008]
    [(1, .ref 1008 0 0)]
    [(1008, ⟨0, .box [.p (slOf 6 encNode (default : Node) p0.nodes), .p (vi p0.next)]⟩)]
    [] (by kernel_rfl) trivial ?_
  refine DW.seq ?_
  refine DW.seq ?_
  refine DW.join (ι := Bool) (fun (y1 : Bool) => mkSt [(1, .ref 1008 0 0), (23, .p (vb y1))] [(1008, ⟨0, .box [.p (slOf 6 encNode (default : Node) p0.nodes), .p (vi p0.next)]⟩)]) (fun y1 => (tree_Check_j1 p0) y1 = some RES) ?_ ?_
  · intro y1 hm
    unfold tree_Check_j1 at hm
    refine DW.cond y1 rfl rfl ?_ ?_
    ·
      intro h5
      replace hm := if_t h5 hm
      refine DW.seq ?_
      refine DW.regE Tgood mixed hnt [.no] [2] []
        [(2, .p (vb false))]
        []
        [] (by kernel_rfl) trivial ?_
      refine DW.ret ?_
      obtain rfl := Option.some.inj hm
      refine retOK (bs' := []) [] (.p (vb false)) (by kernel_rfl) ?_ ?_
      · rfl
      · rfl
    ·
      intro h5
      replace hm := if_f h5 hm
      refine DW.skip ?_
      refine DW.seq ?_
      refine DW.regE Tgood mixed hnt [.no, .no] [1, 3] [1008, 1192]
        [(1, .ref 1008 0 0), (3, .mref 1192 0)]
        [(1008, ⟨0, .box [.p (slOf 6 encNode (default : Node) p0.nodes), .p (vi p0.next)]⟩), (1192, ⟨0, mapOf vi (vi 0) (IMap.empty 0)⟩)]
        [] (by kernel_rfl) trivial ?_
      refine DW.seq ?_
      refine DW.seq ?_
      refine DW.regE Tgood mixed hnt [.no, .no, .no, .no] [1, 3, 26, 27, 28] [1008, 1192]
        [(1, .ref 1008 0 0), (3, .mref 1192 0), (26, .p (slOf 6 encNode (default : Node) p0.nodes)), (27, .p (vi ((p0.nodes.length : Nat) : Int))), (28, .p (vi 0))]
        [(1008, ⟨0, .box [.p (slOf 6 encNode (default : Node) p0.nodes), .p (vi p0.next)]⟩), (1192, ⟨0, mapOf vi (vi 0) (IMap.empty 0)⟩)]
        [] (by kernel_rfl) trivial ?_
      refine DW.block ?_
      obtain ⟨hc1, hm⟩ := guard_open hm
      refine DW.rangeO (fun (k1 : Nat) (s1 : IMap Int) => mkSt [(1, .ref 1008 0 0), (3, .mref 1192 0), (26, .p (slOf 6 encNode (default : Node) p0.nodes)), (27, .p (vi ((p0.nodes.length : Nat) : Int))), (28, .p (vi ((k1 : Nat) : Int)))] [(1008, ⟨0, .box [.p (slOf 6 encNode (default : Node) p0.nodes), .p (vi p0.next)]⟩), (1192, ⟨0, mapOf vi (vi 0) s1⟩)]) (default : Node) hm .refl ?_
      intro k1 s1 n1 hk1 hs1 he1
      refine DW.seq ?_
      refine DW.regE Tgood mixed hnt [.no] [1, 3, 26, 27, 28, 29] [1008, 1192]
        [(1, .ref 1008 0 0), (3, .mref 1192 0), (26, .p (slOf 6 encNode (default : Node) p0.nodes)), (27, .p (vi ((p0.nodes.length : Nat) : Int))), (28, .p (vi ((k1 : Nat) : Int))), (29, .p (vb (decide (((k1 : Nat) : Int) < ((p0.nodes.length : Nat) : Int)))))]
        [(1008, ⟨0, .box [.p (slOf 6 encNode (default : Node) p0.nodes), .p (vi p0.next)]⟩), (1192, ⟨0, mapOf vi (vi 0) s1⟩)]
        [] (by kernel_rfl) trivial ?_
      refine DW.seq ?_
      refine DW.cond (decide (((k1 : Nat) : Int) < ((p0.nodes.length : Nat) : Int))) rfl rfl ?_ ?_
      ·
        intro h36
        have hlt1 : k1 < p0.nodes.length := by have := of_decide_eq_true h36; omega
        have hm := hs1 hlt1
        unfold tree_Check_l1 at hm
        refine DW.skip ?_
        refine DW.seq ?_
        refine DW.block ?_
        refine DW.seq ?_
        refine DW.regE Tgood mixed hnt [.no, .no, .no, .no, .no, .no] [1, 3, 4, 5, 26, 27, 28] [1008, 1040, 1192]
          [(1, .ref 1008 0 0), (3, .mref 1192 0), (4, .p (vi ((k1 : Nat) : Int))), (5, .ref 1040 0 0), (26, .p (slOf 6 encNode (default : Node) p0.nodes)), (27, .p (vi ((p0.nodes.length : Nat) : Int))), (28, .p (vi ((k1 : Nat) : Int)))]
          [(1008, ⟨0, .box [.p (slOf 6 encNode (default : Node) p0.nodes), .p (vi p0.next)]⟩), (1040, ⟨0, .box [.p (vi (p0.nodes.getD k1 (default : Node)).id), .p (vi (p0.nodes.getD k1 (default : Node)).parent), .p (vs (p0.nodes.getD k1 (default : Node)).name), .p (vi (p0.nodes.getD k1 (default : Node)).control), .p (vi (p0.nodes.getD k1 (default : Node)).kind), .p (vi (p0.nodes.getD k1 (default : Node)).owner)]⟩), (1192, ⟨0, mapOf vi (vi 0) s1⟩)]
          [((0 : Int) ≤ ((k1 : Nat) : Int)), (((k1 : Nat) : Int) < ((p0.nodes.length : Nat) : Int))] (by kernel_rfl) ⟨(by omega), (by omega), trivial⟩ ?_
        refine DW.seq ?_
        refine DW.seq ?_
        refine DW.join (ι := Bool) (fun (y8 : Bool) => mkSt [(1, .ref 1008 0 0), (3, .mref 1192 0), (4, .p (vi ((k1 : Nat) : Int))), (5, .ref 1040 0 0), (26, .p (slOf 6 encNode (default : Node) p0.nodes)), (27, .p (vi ((p0.nodes.length : Nat) : Int))), (28, .p (vi ((k1 : Nat) : Int))), (64, .p (vb y8))] [(1008, ⟨0, .box [.p (slOf 6 encNode (default : Node) p0.nodes), .p (vi p0.next)]⟩), (1040, ⟨0, .box [.p (vi (p0.nodes.getD k1 (default : Node)).id), .p (vi (p0.nodes.getD k1 (default : Node)).parent), .p (vs (p0.nodes.getD k1 (default : Node)).name), .p (vi (p0.nodes.getD k1 (default : Node)).control), .p (vi (p0.nodes.getD k1 (default : Node)).kind), .p (vi (p0.nodes.getD k1 (default : Node)).owner)]⟩), (1192, ⟨0, mapOf vi (vi 0) s1⟩)]) (fun y8 => (tree_Check_j8 k1 (p0.nodes.getD k1 (default : Node)) s1 n1) y8 = some RES) ?_ ?_
        · intro y8 hm
          unfold tree_Check_j8 at hm
          refine DW.cond y8 rfl rfl ?_ ?_
          ·
            intro h44
            replace hm := if_t h44 hm
            refine DW.seq ?_
            refine DW.regE Tgood mixed hnt [.no] [2] []
              [(2, .p (vb false))]
              []
              [] (by kernel_rfl) trivial ?_
            refine DW.ret ?_
            obtain rfl := Option.some.inj hm
            refine retOK (bs' := []) [] (.p (vb false)) (by kernel_rfl) ?_ ?_
            · rfl
            · rfl
          ·
            intro h44
            replace hm := if_f h44 hm
            refine DW.skip ?_
            refine DW.seq ?_
            refine DW.seq ?_
            refine DW.regE Tgood mixed hnt [.no, .no] [1, 3, 5, 26, 27, 28, 66] [1008, 1040, 1192]
              [(1, .ref 1008 0 0), (3, .mref 1192 0), (5, .ref 1040 0 0), (26, .p (slOf 6 encNode (default : Node) p0.nodes)), (27, .p (vi ((p0.nodes.length : Nat) : Int))), (28, .p (vi ((k1 : Nat) : Int))), (66, .p (vb (decide (((k1 : Nat) : Int) > 0))))]
              [(1008, ⟨0, .box [.p (slOf 6 encNode (default : Node) p0.nodes), .p (vi p0.next)]⟩), (1040, ⟨0, .box [.p (vi (p0.nodes.getD k1 (default : Node)).id), .p (vi (p0.nodes.getD k1 (default : Node)).parent), .p (vs (p0.nodes.getD k1 (default : Node)).name), .p (vi (p0.nodes.getD k1 (default : Node)).control), .p (vi (p0.nodes.getD k1 (default : Node)).kind), .p (vi (p0.nodes.getD k1 (default : Node)).owner)]⟩), (1192, ⟨0, mapOf vi (vi 0) s1⟩)]
              [] (by kernel_rfl) trivial ?_
            refine DW.join (ι := IMap Int) (fun (y9 : IMap Int) => mkSt [(1, .ref 1008 0 0), (3, .mref 1192 0), (5, .ref 1040 0 0), (26, .p (slOf 6 encNode (default : Node) p0.nodes)), (27, .p (vi ((p0.nodes.length : Nat) : Int))), (28, .p (vi ((k1 : Nat) : Int)))] [(1008, ⟨0, .box [.p (slOf 6 encNode (default : Node) p0.nodes), .p (vi p0.next)]⟩), (1040, ⟨0, .box [.p (vi (p0.nodes.getD k1 (default : Node)).id), .p (vi (p0.nodes.getD k1 (default : Node)).parent), .p (vs (p0.nodes.getD k1 (default : Node)).name), .p (vi (p0.nodes.getD k1 (default : Node)).control), .p (vi (p0.nodes.getD k1 (default : Node)).kind), .p (vi (p0.nodes.getD k1 (default : Node)).owner)]⟩), (1192, ⟨0, mapOf vi (vi 0) y9⟩)]) (fun y9 => (tree_Check_j9 (p0.nodes.getD k1 (default : Node)) n1) y9 = some RES) ?_ ?_
            · intro y9 hm
              unfold tree_Check_j9 at hm
              refine DW.seq ?_
              refine DW.regE Tgood mixed hnt [.no, .no, .no, .no, .no] [1, 3, 26, 27, 28, 79] [1008, 1192]
                [(1, .ref 1008 0 0), (3, .mref 1192 0), (26, .p (slOf 6 encNode (default : Node) p0.nodes)), (27, .p (vi ((p0.nodes.length : Nat) : Int))), (28, .p (vi ((k1 : Nat) : Int))), (79, .p (vb (decide ((y9.get (p0.nodes.getD k1 (default : Node)).id) > 8))))]
                [(1008, ⟨0, .box [.p (slOf 6 encNode (default : Node) p0.nodes), .p (vi p0.next)]⟩), (1192, ⟨0, mapOf vi (vi 0) y9⟩)]
                [(vi 0 = vi 0)] (by kernel_rfl) ⟨rfl, trivial⟩ ?_
              refine DW.cond (decide ((y9.get (p0.nodes.getD k1 (default : Node)).id) > 8)) rfl rfl ?_ ?_
              ·
                intro h46
                replace hm := if_t h46 hm
                refine DW.seq ?_
                refine DW.regE Tgood mixed hnt [.no] [2] []
                  [(2, .p (vb false))]
                  []
                  [] (by kernel_rfl) trivial ?_
                refine DW.ret ?_
                obtain rfl := Option.some.inj hm
                refine retOK (bs' := []) [] (.p (vb false)) (by kernel_rfl) ?_ ?_
                · rfl
                · rfl
              ·
                intro h46
                replace hm := if_f h46 hm
                refine DW.skip ?_
                refine DW.done ?_
                show DW _ _ _ _ _
                refine DW.regE Tgood mixed hnt [.no, .no] [1, 3, 26, 27, 28] [1008, 1192]
                  [(1, .ref 1008 0 0), (3, .mref 1192 0), (26, .p (slOf 6 encNode (default : Node) p0.nodes)), (27, .p (vi ((p0.nodes.length : Nat) : Int))), (28, .p (vi (w64 (((k1 : Nat) : Int) + 1))))]
                  [(1008, ⟨0, .box [.p (slOf 6 encNode (default : Node) p0.nodes), .p (vi p0.next)]⟩), (1192, ⟨0, mapOf vi (vi 0) y9⟩)]
                  [] (by kernel_rfl) trivial ?_
                exact joinDone y9 ⟨hlt1, hm⟩ (Conv.to [1, 3, 26, 27, 28] [1008, 1192] [(1, .ref 1008 0 0), (3, .mref 1192 0), (26, .p (slOf 6 encNode (default : Node) p0.nodes)), (27, .p (vi ((p0.nodes.length : Nat) : Int))), (28, .p (vi (w64 (((k1 : Nat) : Int) + 1))))] [(1, .ref 1008 0 0), (3, .mref 1192 0), (26, .p (slOf 6 encNode (default : Node) p0.nodes)), (27, .p (vi ((p0.nodes.length : Nat) : Int))), (28, .p (vi (((k1 + 1) : Nat) : Int)))] [(1008, ⟨0, .box [.p (slOf 6 encNode (default : Node) p0.nodes), .p (vi p0.next)]⟩), (1192, ⟨0, mapOf vi (vi 0) y9⟩)] [(1008, ⟨0, .box [.p (slOf 6 encNode (default : Node) p0.nodes), .p (vi p0.next)]⟩), (1192, ⟨0, mapOf vi (vi 0) y9⟩)] (by kernel_rfl) (by kernel_rfl) (.cons .rfl (.cons .rfl (.cons .rfl (.cons .rfl (.cons (.of_eq (congrArg (fun n => MV.p (vi n)) (w64_succ hlt1 hc1))) .rfl))))) .rfl)
            ·
              refine DW.cond (decide (((k1 : Nat) : Int) > 0)) rfl rfl ?_ ?_
              ·
                intro h45
                replace hm := if_t h45 hm
                refine DW.reg Tgood mixed hnt [.no, .no, .no, .no, .no, .no, .no, .no, .no] [1, 3, 5, 26, 27, 28] [1008, 1040, 1192]
                  [(1, .ref 1008 0 0), (3, .mref 1192 0), (5, .ref 1040 0 0), (26, .p (slOf 6 encNode (default : Node) p0.nodes)), (27, .p (vi ((p0.nodes.length : Nat) : Int))), (28, .p (vi ((k1 : Nat) : Int)))]
                  [(1, .ref 1008 0 0), (3, .mref 1192 0), (5, .ref 1040 0 0), (26, .p (slOf 6 encNode (default : Node) p0.nodes)), (27, .p (vi ((p0.nodes.length : Nat) : Int))), (28, .p (vi ((k1 : Nat) : Int)))]
                  [(1008, ⟨0, .box [.p (slOf 6 encNode (default : Node) p0.nodes), .p (vi p0.next)]⟩), (1040, ⟨0, .box [.p (vi (p0.nodes.getD k1 (default : Node)).id), .p (vi (p0.nodes.getD k1 (default : Node)).parent), .p (vs (p0.nodes.getD k1 (default : Node)).name), .p (vi (p0.nodes.getD k1 (default : Node)).control), .p (vi (p0.nodes.getD k1 (default : Node)).kind), .p (vi (p0.nodes.getD k1 (default : Node)).owner)]⟩), (1192, ⟨0, .mp (vi 0) (updI s1.has (p0.nodes.getD k1 (default : Node)).id true) (updI (fun j => vi (s1.get j)) (p0.nodes.getD k1 (default : Node)).id (vi (w64 ((s1.get (p0.nodes.getD k1 (default : Node)).parent) + 1))))⟩)]
                  [(1008, ⟨0, .box [.p (slOf 6 encNode (default : Node) p0.nodes), .p (vi p0.next)]⟩), (1040, ⟨0, .box [.p (vi (p0.nodes.getD k1 (default : Node)).id), .p (vi (p0.nodes.getD k1 (default : Node)).parent), .p (vs (p0.nodes.getD k1 (default : Node)).name), .p (vi (p0.nodes.getD k1 (default : Node)).control), .p (vi (p0.nodes.getD k1 (default : Node)).kind), .p (vi (p0.nodes.getD k1 (default : Node)).owner)]⟩), (1192, ⟨0, mapOf vi (vi 0) (s1.set (p0.nodes.getD k1 (default : Node)).id (w64 ((s1.get (p0.nodes.getD k1 (default : Node)).parent) + 1)))⟩)]
                  [(vi 0 = vi 0)] (by kernel_rfl) ⟨rfl, trivial⟩ .rfl (.cons .rfl (.cons .rfl (.cons (map_set (w64 ((s1.get (p0.nodes.getD k1 (default : Node)).parent) + 1)) rfl) .rfl))) ?_
                exact joinDone (s1.set (p0.nodes.getD k1 (default : Node)).id (w64 ((s1.get (p0.nodes.getD k1 (default : Node)).parent) + 1))) hm .refl
              ·
                intro h45
                replace hm := if_f h45 hm
                refine DW.skip ?_
                exact joinDone s1 hm (Conv.to [1, 3, 5, 26, 27, 28] [1008, 1040, 1192] [(1, .ref 1008 0 0), (3, .mref 1192 0), (5, .ref 1040 0 0), (26, .p (slOf 6 encNode (default : Node) p0.nodes)), (27, .p (vi ((p0.nodes.length : Nat) : Int))), (28, .p (vi ((k1 : Nat) : Int)))] [(1, .ref 1008 0 0), (3, .mref 1192 0), (5, .ref 1040 0 0), (26, .p (slOf 6 encNode (default : Node) p0.nodes)), (27, .p (vi ((p0.nodes.length : Nat) : Int))), (28, .p (vi ((k1 : Nat) : Int)))] [(1008, ⟨0, .box [.p (slOf 6 encNode (default : Node) p0.nodes), .p (vi p0.next)]⟩), (1040, ⟨0, .box [.p (vi (p0.nodes.getD k1 (default : Node)).id), .p (vi (p0.nodes.getD k1 (default : Node)).parent), .p (vs (p0.nodes.getD k1 (default : Node)).name), .p (vi (p0.nodes.getD k1 (default : Node)).control), .p (vi (p0.nodes.getD k1 (default : Node)).kind), .p (vi (p0.nodes.getD k1 (default : Node)).owner)]⟩), (1192, ⟨0, mapOf vi (vi 0) s1⟩)] [(1008, ⟨0, .box [.p (slOf 6 encNode (default : Node) p0.nodes), .p (vi p0.next)]⟩), (1040, ⟨0, .box [.p (vi (p0.nodes.getD k1 (default : Node)).id), .p (vi (p0.nodes.getD k1 (default : Node)).parent), .p (vs (p0.nodes.getD k1 (default : Node)).name), .p (vi (p0.nodes.getD k1 (default : Node)).control), .p (vi (p0.nodes.getD k1 (default : Node)).kind), .p (vi (p0.nodes.getD k1 (default : Node)).owner)]⟩), (1192, ⟨0, mapOf vi (vi 0) s1⟩)] (by kernel_rfl) (by kernel_rfl) .rfl .rfl)
        ·
          rcases Bool.eq_false_or_eq_true (decide ((p0.nodes.getD k1 (default : Node)).control < 0)) with h37 | h37
          ·
            replace hm := if_t h37 hm
            refine DW.regE Tgood mixed hnt [.no, .no, .no, .no, .skip, .skip, .skip, .skip, .pk true, .no, .skip, .skip, .skip, .pk true, .no, .skip, .skip, .skip, .pk true, .no, .skip, .skip, .skip, .skip, .skip, .skip, .skip, .skip, .skip, .skip, .skip, .pk true] [1, 3, 4, 5, 26, 27, 28, 64] [1008, 1040, 1192]
              [(1, .ref 1008 0 0), (3, .mref 1192 0), (4, .p (vi ((k1 : Nat) : Int))), (5, .ref 1040 0 0), (26, .p (slOf 6 encNode (default : Node) p0.nodes)), (27, .p (vi ((p0.nodes.length : Nat) : Int))), (28, .p (vi ((k1 : Nat) : Int))), (64, .p (vb true))]
              [(1008, ⟨0, .box [.p (slOf 6 encNode (default : Node) p0.nodes), .p (vi p0.next)]⟩), (1040, ⟨0, .box [.p (vi (p0.nodes.getD k1 (default : Node)).id), .p (vi (p0.nodes.getD k1 (default : Node)).parent), .p (vs (p0.nodes.getD k1 (default : Node)).name), .p (vi (p0.nodes.getD k1 (default : Node)).control), .p (vi (p0.nodes.getD k1 (default : Node)).kind), .p (vi (p0.nodes.getD k1 (default : Node)).owner)]⟩), (1192, ⟨0, mapOf vi (vi 0) s1⟩)]
              [((decide ((p0.nodes.getD k1 (default : Node)).control < 0)) = true), ((decide ((p0.nodes.getD k1 (default : Node)).control < 0)) = true), ((decide ((p0.nodes.getD k1 (default : Node)).control < 0)) = true), ((decide ((p0.nodes.getD k1 (default : Node)).control < 0)) = true), ((decide ((p0.nodes.getD k1 (default : Node)).control < 0)) = true), (true = true), (true = true), (true = true), (true = true), (true = true), (true = true), (true = true), (true = true), (true = true), (true = true), (true = true), (true = true), (true = true)] (by kernel_rfl) ⟨h37, h37, h37, h37, h37, rfl, rfl, rfl, rfl, rfl, rfl, rfl, rfl, rfl, rfl, rfl, rfl, rfl, trivial⟩ ?_
            exact joinDone true hm .refl
          ·
            replace hm := if_f h37 hm
            rcases Bool.eq_false_or_eq_true ((kandNot .i64 (p0.nodes.getD k1 (default : Node)).control 31) != 0) with h38 | h38
            ·
              replace hm := if_t h38 hm
              refine DW.regE Tgood mixed hnt [.no, .no, .no, .no, .no, .no, .no, .no, .pk false, .no, .skip, .skip, .skip, .pk true, .no, .skip, .skip, .skip, .pk true, .no, .skip, .skip, .skip, .skip, .skip, .skip, .skip, .skip, .skip, .skip, .skip, .pk true] [1, 3, 4, 5, 26, 27, 28, 64] [1008, 1040, 1192]
                [(1, .ref 1008 0 0), (3, .mref 1192 0), (4, .p (vi ((k1 : Nat) : Int))), (5, .ref 1040 0 0), (26, .p (slOf 6 encNode (default : Node) p0.nodes)), (27, .p (vi ((p0.nodes.length : Nat) : Int))), (28, .p (vi ((k1 : Nat) : Int))), (64, .p (vb true))]
                [(1008, ⟨0, .box [.p (slOf 6 encNode (default : Node) p0.nodes), .p (vi p0.next)]⟩), (1040, ⟨0, .box [.p (vi (p0.nodes.getD k1 (default : Node)).id), .p (vi (p0.nodes.getD k1 (default : Node)).parent), .p (vs (p0.nodes.getD k1 (default : Node)).name), .p (vi (p0.nodes.getD k1 (default : Node)).control), .p (vi (p0.nodes.getD k1 (default : Node)).kind), .p (vi (p0.nodes.getD k1 (default : Node)).owner)]⟩), (1192, ⟨0, mapOf vi (vi 0) s1⟩)]
                [((decide ((p0.nodes.getD k1 (default : Node)).control < 0)) = false), ((decide ((p0.nodes.getD k1 (default : Node)).control < 0)) = false), ((decide ((p0.nodes.getD k1 (default : Node)).control < 0)) = false), ((decide ((p0.nodes.getD k1 (default : Node)).control < 0)) = false), ((decide ((p0.nodes.getD k1 (default : Node)).control < 0)) = false), (((kandNot .i64 (p0.nodes.getD k1 (default : Node)).control 31) != 0) = true), (((kandNot .i64 (p0.nodes.getD k1 (default : Node)).control 31) != 0) = true), (((kandNot .i64 (p0.nodes.getD k1 (default : Node)).control 31) != 0) = true), (((kandNot .i64 (p0.nodes.getD k1 (default : Node)).control 31) != 0) = true), (true = true), (true = true), (true = true), (true = true), (true = true), (true = true), (true = true), (true = true), (true = true)] (by kernel_rfl) ⟨h37, h37, h37, h37, h37, h38, h38, h38, h38, rfl, rfl, rfl, rfl, rfl, rfl, rfl, rfl, rfl, trivial⟩ ?_
              exact joinDone true hm .refl
            ·
              replace hm := if_f h38 hm
              rcases Bool.eq_false_or_eq_true (decide ((p0.nodes.getD k1 (default : Node)).owner < 0)) with h39 | h39
              ·
                replace hm := if_t h39 hm
                refine DW.regE Tgood mixed hnt [.no, .no, .no, .no, .no, .no, .no, .no, .pk false, .no, .no, .no, .no, .pk false, .no, .skip, .skip, .skip, .pk true, .no, .skip, .skip, .skip, .skip, .skip, .skip, .skip, .skip, .skip, .skip, .skip, .pk true] [1, 3, 4, 5, 26, 27, 28, 64] [1008, 1040, 1192]
                  [(1, .ref 1008 0 0), (3, .mref 1192 0), (4, .p (vi ((k1 : Nat) : Int))), (5, .ref 1040 0 0), (26, .p (slOf 6 encNode (default : Node) p0.nodes)), (27, .p (vi ((p0.nodes.length : Nat) : Int))), (28, .p (vi ((k1 : Nat) : Int))), (64, .p (vb true))]
                  [(1008, ⟨0, .box [.p (slOf 6 encNode (default : Node) p0.nodes), .p (vi p0.next)]⟩), (1040, ⟨0, .box [.p (vi (p0.nodes.getD k1 (default : Node)).id), .p (vi (p0.nodes.getD k1 (default : Node)).parent), .p (vs (p0.nodes.getD k1 (default : Node)).name), .p (vi (p0.nodes.getD k1 (default : Node)).control), .p (vi (p0.nodes.getD k1 (default : Node)).kind), .p (vi (p0.nodes.getD k1 (default : Node)).owner)]⟩), (1192, ⟨0, mapOf vi (vi 0) s1⟩)]
                  [((decide ((p0.nodes.getD k1 (default : Node)).control < 0)) = false), ((decide ((p0.nodes.getD k1 (default : Node)).control < 0)) = false), ((decide ((p0.nodes.getD k1 (default : Node)).control < 0)) = false), ((decide ((p0.nodes.getD k1 (default : Node)).control < 0)) = false), ((decide ((p0.nodes.getD k1 (default : Node)).control < 0)) = false), (((kandNot .i64 (p0.nodes.getD k1 (default : Node)).control 31) != 0) = false), (((kandNot .i64 (p0.nodes.getD k1 (default : Node)).control 31) != 0) = false), (((kandNot .i64 (p0.nodes.getD k1 (default : Node)).control 31) != 0) = false), (((kandNot .i64 (p0.nodes.getD k1 (default : Node)).control 31) != 0) = false), ((decide ((p0.nodes.getD k1 (default : Node)).owner < 0)) = true), ((decide ((p0.nodes.getD k1 (default : Node)).owner < 0)) = true), ((decide ((p0.nodes.getD k1 (default : Node)).owner < 0)) = true), ((decide ((p0.nodes.getD k1 (default : Node)).owner < 0)) = true), (true = true), (true = true), (true = true), (true = true), (true = true)] (by kernel_rfl) ⟨h37, h37, h37, h37, h37, h38, h38, h38, h38, h39, h39, h39, h39, rfl, rfl, rfl, rfl, rfl, trivial⟩ ?_
                exact joinDone true hm .refl
              ·
                replace hm := if_f h39 hm
                rcases Bool.eq_false_or_eq_true (decide ((p0.nodes.getD k1 (default : Node)).owner > 1048576)) with h40 | h40
                ·
                  replace hm := if_t h40 hm
                  refine DW.regE Tgood mixed hnt [.no, .no, .no, .no, .no, .no, .no, .no, .pk false, .no, .no, .no, .no, .pk false, .no, .no, .no, .no, .pk false, .no, .skip, .skip, .skip, .skip, .skip, .skip, .skip, .skip, .skip, .skip, .skip, .pk true] [1, 3, 4, 5, 26, 27, 28, 64] [1008, 1040, 1192]
                    [(1, .ref 1008 0 0), (3, .mref 1192 0), (4, .p (vi ((k1 : Nat) : Int))), (5, .ref 1040 0 0), (26, .p (slOf 6 encNode (default : Node) p0.nodes)), (27, .p (vi ((p0.nodes.length : Nat) : Int))), (28, .p (vi ((k1 : Nat) : Int))), (64, .p (vb true))]
                    [(1008, ⟨0, .box [.p (slOf 6 encNode (default : Node) p0.nodes), .p (vi p0.next)]⟩), (1040, ⟨0, .box [.p (vi (p0.nodes.getD k1 (default : Node)).id), .p (vi (p0.nodes.getD k1 (default : Node)).parent), .p (vs (p0.nodes.getD k1 (default : Node)).name), .p (vi (p0.nodes.getD k1 (default : Node)).control), .p (vi (p0.nodes.getD k1 (default : Node)).kind), .p (vi (p0.nodes.getD k1 (default : Node)).owner)]⟩), (1192, ⟨0, mapOf vi (vi 0) s1⟩)]
                    [((decide ((p0.nodes.getD k1 (default : Node)).control < 0)) = false), ((decide ((p0.nodes.getD k1 (default : Node)).control < 0)) = false), ((decide ((p0.nodes.getD k1 (default : Node)).control < 0)) = false), ((decide ((p0.nodes.getD k1 (default : Node)).control < 0)) = false), ((decide ((p0.nodes.getD k1 (default : Node)).control < 0)) = false), (((kandNot .i64 (p0.nodes.getD k1 (default : Node)).control 31) != 0) = false), (((kandNot .i64 (p0.nodes.getD k1 (default : Node)).control 31) != 0) = false), (((kandNot .i64 (p0.nodes.getD k1 (default : Node)).control 31) != 0) = false), (((kandNot .i64 (p0.nodes.getD k1 (default : Node)).control 31) != 0) = false), ((decide ((p0.nodes.getD k1 (default : Node)).owner < 0)) = false), ((decide ((p0.nodes.getD k1 (default : Node)).owner < 0)) = false), ((decide ((p0.nodes.getD k1 (default : Node)).owner < 0)) = false), ((decide ((p0.nodes.getD k1 (default : Node)).owner < 0)) = false), ((decide ((p0.nodes.getD k1 (default : Node)).owner > 1048576)) = true), ((decide ((p0.nodes.getD k1 (default : Node)).owner > 1048576)) = true), ((decide ((p0.nodes.getD k1 (default : Node)).owner > 1048576)) = true), ((decide ((p0.nodes.getD k1 (default : Node)).owner > 1048576)) = true), ((decide ((p0.nodes.getD k1 (default : Node)).owner > 1048576)) = true)] (by kernel_rfl) ⟨h37, h37, h37, h37, h37, h38, h38, h38, h38, h39, h39, h39, h39, h40, h40, h40, h40, h40, trivial⟩ ?_
                  exact joinDone true hm .refl
                ·
                  replace hm := if_f h40 hm
                  rcases Bool.eq_false_or_eq_true (decide (((k1 : Nat) : Int) > 0)) with h41 | h41
                  ·
                    replace hm := if_t h41 hm
                    obtain ⟨g42, hm⟩ := guard_open hm
                    obtain ⟨r43, hr43, hm⟩ := bind_open hm
                    refine DW.regE Tgood mixed hnt [.no, .no, .no, .no, .no, .no, .no, .no, .pk false, .no, .no, .no, .no, .pk false, .no, .no, .no, .no, .pk false, .no, .no, .no, .no, .no, .no, .no, .no, .no, .call 75 [] true (.p (vb r43)) [] [], .no, .pk true, .pk false] [1, 3, 4, 5, 26, 27, 28, 64] [1008, 1040, 1192]
                      [(1, .ref 1008 0 0), (3, .mref 1192 0), (4, .p (vi ((k1 : Nat) : Int))), (5, .ref 1040 0 0), (26, .p (slOf 6 encNode (default : Node) p0.nodes)), (27, .p (vi ((p0.nodes.length : Nat) : Int))), (28, .p (vi ((k1 : Nat) : Int))), (64, .p (vb (!r43)))]
                      [(1008, ⟨0, .box [.p (slOf 6 encNode (default : Node) p0.nodes), .p (vi p0.next)]⟩), (1040, ⟨0, .box [.p (vi (p0.nodes.getD k1 (default : Node)).id), .p (vi (p0.nodes.getD k1 (default : Node)).parent), .p (vs (p0.nodes.getD k1 (default : Node)).name), .p (vi (p0.nodes.getD k1 (default : Node)).control), .p (vi (p0.nodes.getD k1 (default : Node)).kind), .p (vi (p0.nodes.getD k1 (default : Node)).owner)]⟩), (1192, ⟨0, mapOf vi (vi 0) s1⟩)]
                      [((decide ((p0.nodes.getD k1 (default : Node)).control < 0)) = false), ((decide ((p0.nodes.getD k1 (default : Node)).control < 0)) = false), ((decide ((p0.nodes.getD k1 (default : Node)).control < 0)) = false), ((decide ((p0.nodes.getD k1 (default : Node)).control < 0)) = false), ((decide ((p0.nodes.getD k1 (default : Node)).control < 0)) = false), (((kandNot .i64 (p0.nodes.getD k1 (default : Node)).control 31) != 0) = false), (((kandNot .i64 (p0.nodes.getD k1 (default : Node)).control 31) != 0) = false), (((kandNot .i64 (p0.nodes.getD k1 (default : Node)).control 31) != 0) = false), (((kandNot .i64 (p0.nodes.getD k1 (default : Node)).control 31) != 0) = false), ((decide ((p0.nodes.getD k1 (default : Node)).owner < 0)) = false), ((decide ((p0.nodes.getD k1 (default : Node)).owner < 0)) = false), ((decide ((p0.nodes.getD k1 (default : Node)).owner < 0)) = false), ((decide ((p0.nodes.getD k1 (default : Node)).owner < 0)) = false), ((decide ((p0.nodes.getD k1 (default : Node)).owner > 1048576)) = false), ((decide ((p0.nodes.getD k1 (default : Node)).owner > 1048576)) = false), ((decide ((p0.nodes.getD k1 (default : Node)).owner > 1048576)) = false), ((decide (((k1 : Nat) : Int) > 0)) = true), ((decide (((k1 : Nat) : Int) > 0)) = true), ((decide (((k1 : Nat) : Int) > 0)) = true), ((decide (((k1 : Nat) : Int) > 0)) = true), ((0 : Int) ≤ 0), ((0 : Int) ≤ ((k1 : Nat) : Int)), (((k1 : Nat) : Int) ≤ ((p0.nodes.length : Nat) : Int)), ((decide (((k1 : Nat) : Int) > 0)) = true), ((decide (((k1 : Nat) : Int) > 0)) = true), (Spec Try.prog 75 [.p (.sl .unk 6 k1 (elems encNode (default : Node) p0.nodes)), .p (.agg [vi (p0.nodes.getD k1 (default : Node)).id, vi (p0.nodes.getD k1 (default : Node)).parent, vs (p0.nodes.getD k1 (default : Node)).name, vi (p0.nodes.getD k1 (default : Node)).control, vi (p0.nodes.getD k1 (default : Node)).kind, vi (p0.nodes.getD k1 (default : Node)).owner])] [] (.p (vb r43)) [] []), ((decide (((k1 : Nat) : Int) > 0)) = true), ((decide ((p0.nodes.getD k1 (default : Node)).owner > 1048576)) = false), ((decide (((k1 : Nat) : Int) > 0)) = true), ((decide ((p0.nodes.getD k1 (default : Node)).owner > 1048576)) = false)] (by kernel_rfl) ⟨h37, h37, h37, h37, h37, h38, h38, h38, h38, h39, h39, h39, h39, h40, h40, h40, h41, h41, h41, h41, (by omega), (by omega), (by omega), h41, h41, (Spec.args (tree_fine_spec (p0.nodes.take k1) (p0.nodes.getD k1 (default : Node)) r43 hr43) (.cons (.p (PLe.typed (RowIs.elems.take (by omega)))) (.cons .rfl .nil))), h41, h40, h41, h40, trivial⟩ ?_
                    exact joinDone (!r43) hm .refl
                  ·
                    replace hm := if_f h41 hm
                    refine DW.regE Tgood mixed hnt [.no, .no, .no, .no, .no, .no, .no, .no, .pk false, .no, .no, .no, .no, .pk false, .no, .no, .no, .no, .pk false, .no, .no, .no, .no, .skip, .skip, .skip, .skip, .skip, .skip, .skip, .pk false, .pk false] [1, 3, 4, 5, 26, 27, 28, 64] [1008, 1040, 1192]
                      [(1, .ref 1008 0 0), (3, .mref 1192 0), (4, .p (vi ((k1 : Nat) : Int))), (5, .ref 1040 0 0), (26, .p (slOf 6 encNode (default : Node) p0.nodes)), (27, .p (vi ((p0.nodes.length : Nat) : Int))), (28, .p (vi ((k1 : Nat) : Int))), (64, .p (vb false))]
                      [(1008, ⟨0, .box [.p (slOf 6 encNode (default : Node) p0.nodes), .p (vi p0.next)]⟩), (1040, ⟨0, .box [.p (vi (p0.nodes.getD k1 (default : Node)).id), .p (vi (p0.nodes.getD k1 (default : Node)).parent), .p (vs (p0.nodes.getD k1 (default : Node)).name), .p (vi (p0.nodes.getD k1 (default : Node)).control), .p (vi (p0.nodes.getD k1 (default : Node)).kind), .p (vi (p0.nodes.getD k1 (default : Node)).owner)]⟩), (1192, ⟨0, mapOf vi (vi 0) s1⟩)]
                      [((decide ((p0.nodes.getD k1 (default : Node)).control < 0)) = false), ((decide ((p0.nodes.getD k1 (default : Node)).control < 0)) = false), ((decide ((p0.nodes.getD k1 (default : Node)).control < 0)) = false), ((decide ((p0.nodes.getD k1 (default : Node)).control < 0)) = false), ((decide ((p0.nodes.getD k1 (default : Node)).control < 0)) = false), (((kandNot .i64 (p0.nodes.getD k1 (default : Node)).control 31) != 0) = false), (((kandNot .i64 (p0.nodes.getD k1 (default : Node)).control 31) != 0) = false), (((kandNot .i64 (p0.nodes.getD k1 (default : Node)).control 31) != 0) = false), (((kandNot .i64 (p0.nodes.getD k1 (default : Node)).control 31) != 0) = false), ((decide ((p0.nodes.getD k1 (default : Node)).owner < 0)) = false), ((decide ((p0.nodes.getD k1 (default : Node)).owner < 0)) = false), ((decide ((p0.nodes.getD k1 (default : Node)).owner < 0)) = false), ((decide ((p0.nodes.getD k1 (default : Node)).owner < 0)) = false), ((decide ((p0.nodes.getD k1 (default : Node)).owner > 1048576)) = false), ((decide ((p0.nodes.getD k1 (default : Node)).owner > 1048576)) = false), ((decide ((p0.nodes.getD k1 (default : Node)).owner > 1048576)) = false), ((decide (((k1 : Nat) : Int) > 0)) = false), ((decide (((k1 : Nat) : Int) > 0)) = false), ((decide (((k1 : Nat) : Int) > 0)) = false), ((decide (((k1 : Nat) : Int) > 0)) = false), ((decide (((k1 : Nat) : Int) > 0)) = false), ((decide (((k1 : Nat) : Int) > 0)) = false), ((decide (((k1 : Nat) : Int) > 0)) = false), ((decide ((p0.nodes.getD k1 (default : Node)).owner > 1048576)) = false), ((decide (((k1 : Nat) : Int) > 0)) = false), ((decide ((p0.nodes.getD k1 (default : Node)).owner > 1048576)) = false)] (by kernel_rfl) ⟨h37, h37, h37, h37, h37, h38, h38, h38, h38, h39, h39, h39, h39, h40, h40, h40, h41, h41, h41, h41, h41, h41, h41, h40, h41, h40, trivial⟩ ?_
                    exact joinDone false hm .refl
      ·
        intro h36
        have hge1 : ¬ k1 < p0.nodes.length := by have := of_decide_eq_false h36; omega
        have hm := he1 hge1
        unfold tree_Check_d1 at hm
        refine DW.exit ?_
        refine joinQ_exit ?_
        refine KQ_exit ?_
        refine blockQ_exit ?_
        show DW _ _ _ _ _
        refine DW.seq ?_
        obtain ⟨g47, hm⟩ := guard_open hm
        refine DW.join (ι := Bool) (fun (y10 : Bool) => mkSt [(2, .p (vb y10))] []) (fun y10 => tree_Check_j10 y10 = some RES) ?_ ?_
        · intro y10 hm
          unfold tree_Check_j10 at hm
          refine DW.ret ?_
          obtain rfl := Option.some.inj hm
          refine retOK (bs' := []) [] (.p (vb y10)) (by kernel_rfl) ?_ ?_
          · rfl
          · rfl
        ·
          rcases Bool.eq_false_or_eq_true (decide (p0.next > (p0.nodes.getD (Int.toNat (w64 (((p0.nodes.length : Nat) : Int) - 1))) (default : Node)).id)) with h48 | h48
          ·
            replace hm := if_t h48 hm
            refine DW.regE Tgood mixed hnt [.no, .no, .no, .no, .no, .no, .no, .no, .no, .no, .no, .no, .no, .no, .no, .no, .pk true, .no] [2] []
              [(2, .p (vb (decide (p0.next ≤ 2147483648))))]
              []
              [((0 : Int) ≤ (w64 (((p0.nodes.length : Nat) : Int) - 1))), ((w64 (((p0.nodes.length : Nat) : Int) - 1)) < ((p0.nodes.length : Nat) : Int)), ((decide (p0.next > (p0.nodes.getD (Int.toNat (w64 (((p0.nodes.length : Nat) : Int) - 1))) (default : Node)).id)) = true), ((decide (p0.next > (p0.nodes.getD (Int.toNat (w64 (((p0.nodes.length : Nat) : Int) - 1))) (default : Node)).id)) = true), ((decide (p0.next > (p0.nodes.getD (Int.toNat (w64 (((p0.nodes.length : Nat) : Int) - 1))) (default : Node)).id)) = true), ((decide (p0.next > (p0.nodes.getD (Int.toNat (w64 (((p0.nodes.length : Nat) : Int) - 1))) (default : Node)).id)) = true)] (by kernel_rfl) ⟨g47.1, g47.2, h48, h48, h48, h48, trivial⟩ ?_
            exact joinDone (decide (p0.next ≤ 2147483648)) hm .refl
          ·
            replace hm := if_f h48 hm
            refine DW.regE Tgood mixed hnt [.no, .no, .no, .no, .no, .no, .no, .no, .no, .no, .no, .no, .no, .skip, .skip, .skip, .pk false, .no] [2] []
              [(2, .p (vb false))]
              []
              [((0 : Int) ≤ (w64 (((p0.nodes.length : Nat) : Int) - 1))), ((w64 (((p0.nodes.length : Nat) : Int) - 1)) < ((p0.nodes.length : Nat) : Int)), ((decide (p0.next > (p0.nodes.getD (Int.toNat (w64 (((p0.nodes.length : Nat) : Int) - 1))) (default : Node)).id)) = false), ((decide (p0.next > (p0.nodes.getD (Int.toNat (w64 (((p0.nodes.length : Nat) : Int) - 1))) (default : Node)).id)) = false), ((decide (p0.next > (p0.nodes.getD (Int.toNat (w64 (((p0.nodes.length : Nat) : Int) - 1))) (default : Node)).id)) = false), ((decide (p0.next > (p0.nodes.getD (Int.toNat (w64 (((p0.nodes.length : Nat) : Int) - 1))) (default : Node)).id)) = false)] (by kernel_rfl) ⟨g47.1, g47.2, h48, h48, h48, h48, trivial⟩ ?_
            exact joinDone false hm .refl
  ·
    rcases Bool.eq_false_or_eq_true (decide (((p0.nodes.length : Nat) : Int) < 1)) with h1 | h1
    ·
      replace hm := if_t h1 hm
      refine DW.regE Tgood mixed hnt [.no, .no, .no, .no, .no, .skip, .skip, .skip, .skip, .pk true, .no, .skip, .skip, .skip, .skip, .skip, .skip, .pk true] [1, 23] [1008]
        [(1, .ref 1008 0 0), (23, .p (vb true))]
        [(1008, ⟨0, .box [.p (slOf 6 encNode (default : Node) p0.nodes), .p (vi p0.next)]⟩)]
        [((decide (((p0.nodes.length : Nat) : Int) < 1)) = true), ((decide (((p0.nodes.length : Nat) : Int) < 1)) = true), ((decide (((p0.nodes.length : Nat) : Int) < 1)) = true), ((decide (((p0.nodes.length : Nat) : Int) < 1)) = true), ((decide (((p0.nodes.length : Nat) : Int) < 1)) = true), (true = true), (true = true), (true = true), (true = true), (true = true), (true = true), (true = true)] (by kernel_rfl) ⟨h1, h1, h1, h1, h1, rfl, rfl, rfl, rfl, rfl, rfl, rfl, trivial⟩ ?_
      exact joinDone true hm .refl
    ·
      replace hm := if_f h1 hm
      rcases Bool.eq_false_or_eq_true (decide (((p0.nodes.length : Nat) : Int) > 64)) with h2 | h2
      ·
        replace hm := if_t h2 hm
        refine DW.regE Tgood mixed hnt [.no, .no, .no, .no, .no, .no, .no, .no, .no, .pk false, .no, .skip, .skip, .skip, .skip, .skip, .skip, .pk true] [1, 23] [1008]
          [(1, .ref 1008 0 0), (23, .p (vb true))]
          [(1008, ⟨0, .box [.p (slOf 6 encNode (default : Node) p0.nodes), .p (vi p0.next)]⟩)]
          [((decide (((p0.nodes.length : Nat) : Int) < 1)) = false), ((decide (((p0.nodes.length : Nat) : Int) < 1)) = false), ((decide (((p0.nodes.length : Nat) : Int) < 1)) = false), ((decide (((p0.nodes.length : Nat) : Int) < 1)) = false), ((decide (((p0.nodes.length : Nat) : Int) < 1)) = false), ((decide (((p0.nodes.length : Nat) : Int) > 64)) = true), ((decide (((p0.nodes.length : Nat) : Int) > 64)) = true), ((decide (((p0.nodes.length : Nat) : Int) > 64)) = true), ((decide (((p0.nodes.length : Nat) : Int) > 64)) = true), ((decide (((p0.nodes.length : Nat) : Int) > 64)) = true), ((decide (((p0.nodes.length : Nat) : Int) > 64)) = true), ((decide (((p0.nodes.length : Nat) : Int) > 64)) = true)] (by kernel_rfl) ⟨h1, h1, h1, h1, h1, h2, h2, h2, h2, h2, h2, h2, trivial⟩ ?_
        exact joinDone true hm .refl
      ·
        replace hm := if_f h2 hm
        obtain ⟨g3, hm⟩ := guard_open hm
        obtain ⟨r4, hr4, hm⟩ := bind_open hm
        refine DW.regE Tgood mixed hnt [.no, .no, .no, .no, .no, .no, .no, .no, .no, .pk false, .no, .no, .no, .no, .no, .call 74 [] true (.p (vb r4)) [] [], .no, .pk false] [1, 23] [1008]
          [(1, .ref 1008 0 0), (23, .p (vb (!r4)))]
          [(1008, ⟨0, .box [.p (slOf 6 encNode (default : Node) p0.nodes), .p (vi p0.next)]⟩)]
          [((decide (((p0.nodes.length : Nat) : Int) < 1)) = false), ((decide (((p0.nodes.length : Nat) : Int) < 1)) = false), ((decide (((p0.nodes.length : Nat) : Int) < 1)) = false), ((decide (((p0.nodes.length : Nat) : Int) < 1)) = false), ((decide (((p0.nodes.length : Nat) : Int) < 1)) = false), ((decide (((p0.nodes.length : Nat) : Int) > 64)) = false), ((decide (((p0.nodes.length : Nat) : Int) > 64)) = false), ((decide (((p0.nodes.length : Nat) : Int) > 64)) = false), ((0 : Int) ≤ 0), (0 < ((p0.nodes.length : Nat) : Int)), ((decide (((p0.nodes.length : Nat) : Int) > 64)) = false), ((decide (((p0.nodes.length : Nat) : Int) > 64)) = false), (Spec Try.prog 74 [.p (.agg [vi (p0.nodes.getD 0 (default : Node)).id, vi (p0.nodes.getD 0 (default : Node)).parent, vs (p0.nodes.getD 0 (default : Node)).name, vi (p0.nodes.getD 0 (default : Node)).control, vi (p0.nodes.getD 0 (default : Node)).kind, vi (p0.nodes.getD 0 (default : Node)).owner])] [] (.p (vb r4)) [] []), ((decide (((p0.nodes.length : Nat) : Int) > 64)) = false), ((decide (((p0.nodes.length : Nat) : Int) > 64)) = false)] (by kernel_rfl) ⟨h1, h1, h1, h1, h1, h2, h2, h2, (by omega), (by omega), h2, h2, (tree_root_spec (p0.nodes.getD 0 (default : Node)) r4 hr4), h2, h2, trivial⟩ ?_
        exact joinDone (!r4) hm .refl

theorem crew_At_1_spec (p0 : Task) (p1 : Int) (RES : Bool) (hm : crew_At_1 p0 p1 = some RES) : Spec Try.prog 69 [.p (.agg [vi p0.id, vi p0.process, vi p0.group, vi p0.user]), .ref 0 0 0] [.box [.p (vi p1)]] (.p (vb RES)) [.box [.p (vi p1)]] [] := by
  unfold crew_At_1 at hm
  refine spec_of Tgood (T := Tt) Try.func69 (by decide) (c := _) rfl rfl (sl := [(0, .p (.agg [vi p0.id, vi p0.process, vi p0.group, vi p0.user])), (1, .ref 0 0 0)]) (ob := [(0, ⟨0, .box [.p (vi p1)]⟩)]) (Nat.le_of_ble_eq_true rfl) (Nat.le_of_ble_eq_true rfl) (by kernel_rfl) (by kernel_rfl) ?_
  intro cx hnt
  refine DW.start ?_
  refine DW.seq ?_
  refine DW.regE Tgood mixed hnt [.no, .no] [1, 2] [0, 1016]
    [(1, .ref 0 0 0), (2, .ref 1016 0 0)]
    [(0, ⟨0, .box [.p (vi p1)]⟩), (1016, ⟨0, .box [.p (vi p0.id), .p (vi p0.process), .p (vi p0.group), .p (vi p0.user)]⟩)]
    [] (by kernel_rfl) trivial ?_
  refine DW.seq ?_
  refine DW.regE Tgood mixed hnt [.no, .no, .no, .no, .no] [3] [0]
    [(3, .p (vb (p0.id == p1)))]
    [(0, ⟨0, .box [.p (vi p1)]⟩)]
    [] (by kernel_rfl) trivial ?_
  refine DW.ret ?_
  obtain rfl := Option.some.inj hm
  refine retOK (bs' := [.box [.p (vi p1)]]) [] (.p (vb (p0.id == p1))) (by kernel_rfl) ?_ ?_
  · rfl
  · rfl
end Go.Dm

/- Go functions compute their models, printed by a program. -/
namespace Go.Dm
open Go.Proofs
set_option linter.unusedVariables false
theorem slices_IndexFunc_Task_crew_At_1_spec (p0 : List Task) (p1_0 : Int) (RES : Int) (hm : slices_IndexFunc_Task_crew_At_1 p0 p1_0 = some RES) : Spec Try.prog 68 [.p (slOf 4 encTask (default : Task) p0), .fn 69 [.ref 0 0 0]] [.box [.p (vi p1_0)]] (.p (vi RES)) [.box [.p (vi p1_0)]] [] := by
  unfold slices_IndexFunc_Task_crew_At_1 at hm
  refine spec_of Tgood (T := Tt) Try.func68 (by decide) (c := _) rfl rfl (sl := [(0, .p (slOf 4 encTask (default : Task) p0)), (1, .fn 69 [.ref 0 0 0])]) (ob := [(0, ⟨0, .box [.p (vi p1_0)]⟩)]) (Nat.le_of_ble_eq_true rfl) (Nat.le_of_ble_eq_true rfl) (by kernel_rfl) (by kernel_rfl) ?_
  intro cx hnt
  refine DW.start ?_
  refine DW.seq ?_
  refine DW.regE Tgood mixed hnt [.no] [0, 1] [0]
    [(0, .p (slOf 4 encTask (default : Task) p0)), (1, .fn 69 [.ref 0 0 0])]
    [(0, ⟨0, .box [.p (vi p1_0)]⟩)]
    [] (by kernel_rfl) trivial ?_
  refine DW.seq ?_
  refine DW.seq ?_
  refine DW.regE Tgood mixed hnt [.no, .no, .no] [0, 1, 7, 8] [0]
    [(0, .p (slOf 4 encTask (default : Task) p0)), (1, .fn 69 [.ref 0 0 0]), (7, .p (vi ((p0.length : Nat) : Int))), (8, .p (vi 0))]
    [(0, ⟨0, .box [.p (vi p1_0)]⟩)]
    [] (by kernel_rfl) trivial ?_
  refine DW.block ?_
  obtain ⟨hc1, hm⟩ := guard_open hm
  refine DW.rangeO (fun (k1 : Nat) (s1 : Unit) => mkSt [(0, .p (slOf 4 encTask (default : Task) p0)), (1, .fn 69 [.ref 0 0 0]), (7, .p (vi ((p0.length : Nat) : Int))), (8, .p (vi ((k1 : Nat) : Int)))] [(0, ⟨0, .box [.p (vi p1_0)]⟩)]) (default : Task) hm .refl ?_
  intro k1 s1 n1 hk1 hs1 he1
  refine DW.seq ?_
  refine DW.regE Tgood mixed hnt [.no] [0, 1, 7, 8, 9] [0]
    [(0, .p (slOf 4 encTask (default : Task) p0)), (1, .fn 69 [.ref 0 0 0]), (7, .p (vi ((p0.length : Nat) : Int))), (8, .p (vi ((k1 : Nat) : Int))), (9, .p (vb (decide (((k1 : Nat) : Int) < ((p0.length : Nat) : Int)))))]
    [(0, ⟨0, .box [.p (vi p1_0)]⟩)]
    [] (by kernel_rfl) trivial ?_
  refine DW.seq ?_
  refine DW.cond (decide (((k1 : Nat) : Int) < ((p0.length : Nat) : Int))) rfl rfl ?_ ?_
  ·
    intro h9
    have hlt1 : k1 < p0.length := by have := of_decide_eq_true h9; omega
    have hm := hs1 hlt1
    unfold slices_IndexFunc_Task_crew_At_1_l1 at hm
    refine DW.skip ?_
    refine DW.seq ?_
    refine DW.block ?_
    refine DW.seq ?_
    refine DW.regE Tgood mixed hnt [.no, .no] [0, 1, 5, 7, 8] [0]
      [(0, .p (slOf 4 encTask (default : Task) p0)), (1, .fn 69 [.ref 0 0 0]), (5, .p (vi ((k1 : Nat) : Int))), (7, .p (vi ((p0.length : Nat) : Int))), (8, .p (vi ((k1 : Nat) : Int)))]
      [(0, ⟨0, .box [.p (vi p1_0)]⟩)]
      [] (by kernel_rfl) trivial ?_
    refine DW.seq ?_
    obtain ⟨r10, hr10, hm⟩ := bind_open hm
    refine DW.regE Tgood mixed hnt [.no, .no, .no, .no, .no, .call 69 [0] true (.p (vb r10)) [.box [.p (vi p1_0)]] []] [0, 1, 5, 7, 8, 16] [0]
      [(0, .p (slOf 4 encTask (default : Task) p0)), (1, .fn 69 [.ref 0 0 0]), (5, .p (vi ((k1 : Nat) : Int))), (7, .p (vi ((p0.length : Nat) : Int))), (8, .p (vi ((k1 : Nat) : Int))), (16, .p (vb r10))]
      [(0, ⟨0, .box [.p (vi p1_0)]⟩)]
      [((0 : Int) ≤ ((k1 : Nat) : Int)), (((k1 : Nat) : Int) < ((p0.length : Nat) : Int)), (Spec Try.prog 69 [.p (.agg [vi (p0.getD k1 (default : Task)).id, vi (p0.getD k1 (default : Task)).process, vi (p0.getD k1 (default : Task)).group, vi (p0.getD k1 (default : Task)).user]), .ref 0 0 0] [.box [.p (vi p1_0)]] (.p (vb r10)) [.box [.p (vi p1_0)]] []), (True)] (by kernel_rfl) ⟨(by omega), (by omega), (crew_At_1_spec (p0.getD k1 (default : Task)) p1_0 r10 hr10), trivial, trivial⟩ ?_
    refine DW.cond r10 rfl rfl ?_ ?_
    ·
      intro h11
      replace hm := if_t h11 hm
      refine DW.seq ?_
      refine DW.regE Tgood mixed hnt [.no, .no] [4] [0]
        [(4, .p (vi ((k1 : Nat) : Int)))]
        [(0, ⟨0, .box [.p (vi p1_0)]⟩)]
        [] (by kernel_rfl) trivial ?_
      refine DW.ret ?_
      obtain rfl := Option.some.inj hm
      refine retOK (bs' := [.box [.p (vi p1_0)]]) [] (.p (vi ((k1 : Nat) : Int))) (by kernel_rfl) ?_ ?_
      · rfl
      · rfl
    ·
      intro h11
      replace hm := if_f h11 hm
      refine DW.skip ?_
      refine DW.done ?_
      show DW _ _ _ _ _
      refine DW.regE Tgood mixed hnt [.no, .no] [0, 1, 7, 8] [0]
        [(0, .p (slOf 4 encTask (default : Task) p0)), (1, .fn 69 [.ref 0 0 0]), (7, .p (vi ((p0.length : Nat) : Int))), (8, .p (vi (w64 (((k1 : Nat) : Int) + 1))))]
        [(0, ⟨0, .box [.p (vi p1_0)]⟩)]
        [] (by kernel_rfl) trivial ?_
      exact joinDone () ⟨hlt1, hm⟩ (Conv.to [0, 1, 7, 8] [0] [(0, .p (slOf 4 encTask (default : Task) p0)), (1, .fn 69 [.ref 0 0 0]), (7, .p (vi ((p0.length : Nat) : Int))), (8, .p (vi (w64 (((k1 : Nat) : Int) + 1))))] [(0, .p (slOf 4 encTask (default : Task) p0)), (1, .fn 69 [.ref 0 0 0]), (7, .p (vi ((p0.length : Nat) : Int))), (8, .p (vi (((k1 + 1) : Nat) : Int)))] [(0, ⟨0, .box [.p (vi p1_0)]⟩)] [(0, ⟨0, .box [.p (vi p1_0)]⟩)] (by kernel_rfl) (by kernel_rfl) (.cons .rfl (.cons .rfl (.cons .rfl (.cons (.of_eq (congrArg (fun n => MV.p (vi n)) (w64_succ hlt1 hc1))) .rfl)))) .rfl)
  ·
    intro h9
    have hge1 : ¬ k1 < p0.length := by have := of_decide_eq_false h9; omega
    have hm := he1 hge1
    unfold slices_IndexFunc_Task_crew_At_1_d1 at hm
    refine DW.exit ?_
    refine joinQ_exit ?_
    refine KQ_exit ?_
    refine blockQ_exit ?_
    show DW _ _ _ _ _
    refine DW.seq ?_
    refine DW.regE Tgood mixed hnt [.no] [4] [0]
      [(4, .p (vi (-1)))]
      [(0, ⟨0, .box [.p (vi p1_0)]⟩)]
      [] (by kernel_rfl) trivial ?_
    refine DW.ret ?_
    obtain rfl := Option.some.inj hm
    refine retOK (bs' := [.box [.p (vi p1_0)]]) [] (.p (vi (-1))) (by kernel_rfl) ?_ ?_
    · rfl
    · rfl

theorem crew_At_spec (p0 : Hierarchy) (p1 : Int) (RES : Int) (hm : crew_At p0 p1 = some RES) : Spec Try.prog 40 [.p (.agg [slOf 6 encNode (default : Node) p0.tree.nodes, vi p0.tree.next, slOf 4 encTask (default : Task) p0.tasks, vi p0.next]), .p (vi p1)] [] (.p (vi RES)) [] [] := by
  unfold crew_At at hm
  refine spec_of Tgood (T := Tt) Try.func40 (by decide) (c := _) rfl rfl (sl := [(0, .p (.agg [slOf 6 encNode (default : Node) p0.tree.nodes, vi p0.tree.next, slOf 4 encTask (default : Task) p0.tasks, vi p0.next])), (1, .p (vi p1))]) (ob := []) (Nat.le_of_ble_eq_true rfl) (Nat.le_of_ble_eq_true rfl) (by kernel_rfl) (by kernel_rfl) ?_
  intro cx hnt
  refine DW.start ?_
  refine DW.seq ?_
  refine DW.regE Tgood mixed hnt [.no, .no, .no] [2, 3] [1016, 1024]
    [(2, .ref 1016 0 0), (3, .ref 1024 0 0)]
    [(1016, ⟨0, .box [.p (slOf 6 encNode (default : Node) p0.tree.nodes), .p (vi p0.tree.next), .p (slOf 4 encTask (default : Task) p0.tasks), .p (vi p0.next)]⟩), (1024, ⟨0, .box [.p (vi p1)]⟩)]
    [] (by kernel_rfl) trivial ?_
  refine DW.seq ?_
  obtain ⟨r1, hr1, hm⟩ := bind_open hm
  refine DW.regE Tgood mixed hnt [.no, .no, .no, .call 68 [1024] true (.p (vi r1)) [.box [.p (vi p1)]] [], .no] [4] []
    [(4, .p (vi r1))]
    []
    [(Spec Try.prog 68 [.p (slOf 4 encTask (default : Task) p0.tasks), .fn 69 [.ref 0 0 0]] [.box [.p (vi p1)]] (.p (vi r1)) [.box [.p (vi p1)]] []), (True)] (by kernel_rfl) ⟨(slices_IndexFunc_Task_crew_At_1_spec p0.tasks p1 r1 hr1), trivial, trivial⟩ ?_
  refine DW.ret ?_
  obtain rfl := Option.some.inj hm
  refine retOK (bs' := []) [] (.p (vi r1)) (by kernel_rfl) ?_ ?_
  · rfl
  · rfl

theorem crew_Find_spec (p0 : Hierarchy) (p1 : Int) (RES : Task × Bool) (hm : crew_Find p0 p1 = some RES) : Spec Try.prog 27 [.p (.agg [slOf 6 encNode (default : Node) p0.tree.nodes, vi p0.tree.next, slOf 4 encTask (default : Task) p0.tasks, vi p0.next]), .p (vi p1)] [] (.p (.tup [.agg [vi RES.1.id, vi RES.1.process, vi RES.1.group, vi RES.1.user], vb RES.2])) [] [] := by
  unfold crew_Find at hm
  refine spec_of Tgood (T := Tt) Try.func27 (by decide) (c := _) rfl rfl (sl := [(0, .p (.agg [slOf 6 encNode (default : Node) p0.tree.nodes, vi p0.tree.next, slOf 4 encTask (default : Task) p0.tasks, vi p0.next])), (1, .p (vi p1))]) (ob := []) (Nat.le_of_ble_eq_true rfl) (Nat.le_of_ble_eq_true rfl) (by kernel_rfl) (by kernel_rfl) ?_
  intro cx hnt
  refine DW.start ?_
  refine DW.seq ?_
  refine DW.regE Tgood mixed hnt [.no, .no, .no] [1, 2, 4] [1016, 1032]
    [(1, .p (vi p1)), (2, .ref 1016 0 0), (4, .ref 1032 0 0)]
    [(1016, ⟨0, .box [.p (slOf 6 encNode (default : Node) p0.tree.nodes), .p (vi p0.tree.next), .p (slOf 4 encTask (default : Task) p0.tasks), .p (vi p0.next)]⟩), (1032, ⟨0, .box [.p (vi 0), .p (vi 0), .p (vi 0), .p (vi 0)]⟩)]
    [] (by kernel_rfl) trivial ?_
  refine DW.seq ?_
  obtain ⟨r1, hr1, hm⟩ := bind_open hm
  refine DW.regE Tgood mixed hnt [.no, .no, .call 40 [] true (.p (vi r1)) [] [], .no] [2, 4, 6] [1016, 1032]
    [(2, .ref 1016 0 0), (4, .ref 1032 0 0), (6, .p (vi r1))]
    [(1016, ⟨0, .box [.p (slOf 6 encNode (default : Node) p0.tree.nodes), .p (vi p0.tree.next), .p (slOf 4 encTask (default : Task) p0.tasks), .p (vi p0.next)]⟩), (1032, ⟨0, .box [.p (vi 0), .p (vi 0), .p (vi 0), .p (vi 0)]⟩)]
    [(Spec Try.prog 40 [.p (.agg [slOf 6 encNode (default : Node) p0.tree.nodes, vi p0.tree.next, slOf 4 encTask (default : Task) p0.tasks, vi p0.next]), .p (vi p1)] [] (.p (vi r1)) [] [])] (by kernel_rfl) ⟨(crew_At_spec p0 p1 r1 hr1), trivial⟩ ?_
  refine DW.seq ?_
  refine DW.seq ?_
  refine DW.regE Tgood mixed hnt [.no, .no] [2, 4, 6, 11] [1016, 1032]
    [(2, .ref 1016 0 0), (4, .ref 1032 0 0), (6, .p (vi r1)), (11, .p (vb (decide (r1 < 0))))]
    [(1016, ⟨0, .box [.p (slOf 6 encNode (default : Node) p0.tree.nodes), .p (vi p0.tree.next), .p (slOf 4 encTask (default : Task) p0.tasks), .p (vi p0.next)]⟩), (1032, ⟨0, .box [.p (vi 0), .p (vi 0), .p (vi 0), .p (vi 0)]⟩)]
    [] (by kernel_rfl) trivial ?_
  refine DW.cond (decide (r1 < 0)) rfl rfl ?_ ?_
  ·
    intro h2
    replace hm := if_t h2 hm
    refine DW.seq ?_
    refine DW.regE Tgood mixed hnt [.no, .no, .no] [4, 5] [1032]
      [(4, .ref 1032 0 0), (5, .p (vb false))]
      [(1032, ⟨0, .box [.p (vi 0), .p (vi 0), .p (vi 0), .p (vi 0)]⟩)]
      [] (by kernel_rfl) trivial ?_
    refine DW.ret ?_
    obtain rfl := Option.some.inj hm
    refine retOK (bs' := []) [] (.p (.tup [.agg [vi 0, vi 0, vi 0, vi 0], vb false])) (by kernel_rfl) ?_ ?_
    · rfl
    · rfl
  ·
    intro h2
    replace hm := if_f h2 hm
    refine DW.skip ?_
    refine DW.seq ?_
    obtain ⟨g3, hm⟩ := guard_open hm
    refine DW.regE Tgood mixed hnt [.no, .no, .no, .no, .no, .no, .no] [4, 5] [1032]
      [(4, .ref 1032 0 0), (5, .p (vb true))]
      [(1032, ⟨0, .box [.p (vi (p0.tasks.getD (Int.toNat r1) (default : Task)).id), .p (vi (p0.tasks.getD (Int.toNat r1) (default : Task)).process), .p (vi (p0.tasks.getD (Int.toNat r1) (default : Task)).group), .p (vi (p0.tasks.getD (Int.toNat r1) (default : Task)).user)]⟩)]
      [((0 : Int) ≤ r1), (r1 < ((p0.tasks.length : Nat) : Int))] (by kernel_rfl) ⟨g3.1, g3.2, trivial⟩ ?_
    refine DW.ret ?_
    obtain rfl := Option.some.inj hm
    refine retOK (bs' := []) [] (.p (.tup [.agg [vi (p0.tasks.getD (Int.toNat r1) (default : Task)).id, vi (p0.tasks.getD (Int.toNat r1) (default : Task)).process, vi (p0.tasks.getD (Int.toNat r1) (default : Task)).group, vi (p0.tasks.getD (Int.toNat r1) (default : Task)).user], vb true])) (by kernel_rfl) ?_ ?_
    · rfl
    · rfl

theorem forest_At_1_spec (p0 : Node) (p1 : Int) (RES : Bool) (hm : forest_At_1 p0 p1 = some RES) : Spec Try.prog 48 [.p (.agg [vi p0.id, vi p0.parent, vs p0.name, vi p0.control, vi p0.kind, vi p0.owner]), .ref 0 0 0] [.box [.p (vi p1)]] (.p (vb RES)) [.box [.p (vi p1)]] [] := by
  unfold forest_At_1 at hm
  refine spec_of Tgood (T := Tt) Try.func48 (by decide) (c := _) rfl rfl (sl := [(0, .p (.agg [vi p0.id, vi p0.parent, vs p0.name, vi p0.control, vi p0.kind, vi p0.owner])), (1, .ref 0 0 0)]) (ob := [(0, ⟨0, .box [.p (vi p1)]⟩)]) (Nat.le_of_ble_eq_true rfl) (Nat.le_of_ble_eq_true rfl) (by kernel_rfl) (by kernel_rfl) ?_
  intro cx hnt
  refine DW.start ?_
  refine DW.seq ?_
  refine DW.regE Tgood mixed hnt [.no, .no] [1, 2] [0, 1016]
    [(1, .ref 0 0 0), (2, .ref 1016 0 0)]
    [(0, ⟨0, .box [.p (vi p1)]⟩), (1016, ⟨0, .box [.p (vi p0.id), .p (vi p0.parent), .p (vs p0.name), .p (vi p0.control), .p (vi p0.kind), .p (vi p0.owner)]⟩)]
    [] (by kernel_rfl) trivial ?_
  refine DW.seq ?_
  refine DW.regE Tgood mixed hnt [.no, .no, .no, .no, .no] [3] [0]
    [(3, .p (vb (p0.id == p1)))]
    [(0, ⟨0, .box [.p (vi p1)]⟩)]
    [] (by kernel_rfl) trivial ?_
  refine DW.ret ?_
  obtain rfl := Option.some.inj hm
  refine retOK (bs' := [.box [.p (vi p1)]]) [] (.p (vb (p0.id == p1))) (by kernel_rfl) ?_ ?_
  · rfl
  · rfl

theorem slices_IndexFunc_Node_forest_At_1_spec (p0 : List Node) (p1_0 : Int) (RES : Int) (hm : slices_IndexFunc_Node_forest_At_1 p0 p1_0 = some RES) : Spec Try.prog 47 [.p (slOf 6 encNode (default : Node) p0), .fn 48 [.ref 0 0 0]] [.box [.p (vi p1_0)]] (.p (vi RES)) [.box [.p (vi p1_0)]] [] := by
  unfold slices_IndexFunc_Node_forest_At_1 at hm
  refine spec_of Tgood (T := Tt) Try.func47 (by decide) (c := _) rfl rfl (sl := [(0, .p (slOf 6 encNode (default : Node) p0)), (1, .fn 48 [.ref 0 0 0])]) (ob := [(0, ⟨0, .box [.p (vi p1_0)]⟩)]) (Nat.le_of_ble_eq_true rfl) (Nat.le_of_ble_eq_true rfl) (by kernel_rfl) (by kernel_rfl) ?_
  intro cx hnt
  refine DW.start ?_
  refine DW.seq ?_
  refine DW.regE Tgood mixed hnt [.no] [0, 1] [0]
    [(0, .p (slOf 6 encNode (default : Node) p0)), (1, .fn 48 [.ref 0 0 0])]
    [(0, ⟨0, .box [.p (vi p1_0)]⟩)]
    [] (by kernel_rfl) trivial ?_
  refine DW.seq ?_
  refine DW.seq ?_
  refine DW.regE Tgood mixed hnt [.no, .no, .no] [0, 1, 7, 8] [0]
    [(0, .p (slOf 6 encNode (default : Node) p0)), (1, .fn 48 [.ref 0 0 0]), (7, .p (vi ((p0.length : Nat) : Int))), (8, .p (vi 0))]
    [(0, ⟨0, .box [.p (vi p1_0)]⟩)]
    [] (by kernel_rfl) trivial ?_
  refine DW.block ?_
  obtain ⟨hc1, hm⟩ := guard_open hm
  refine DW.rangeO (fun (k1 : Nat) (s1 : Unit) => mkSt [(0, .p (slOf 6 encNode (default : Node) p0)), (1, .fn 48 [.ref 0 0 0]), (7, .p (vi ((p0.length : Nat) : Int))), (8, .p (vi ((k1 : Nat) : Int)))] [(0, ⟨0, .box [.p (vi p1_0)]⟩)]) (default : Node) hm .refl ?_
  intro k1 s1 n1 hk1 hs1 he1
  refine DW.seq ?_
  refine DW.regE Tgood mixed hnt [.no] [0, 1, 7, 8, 9] [0]
    [(0, .p (slOf 6 encNode (default : Node) p0)), (1, .fn 48 [.ref 0 0 0]), (7, .p (vi ((p0.length : Nat) : Int))), (8, .p (vi ((k1 : Nat) : Int))), (9, .p (vb (decide (((k1 : Nat) : Int) < ((p0.length : Nat) : Int)))))]
    [(0, ⟨0, .box [.p (vi p1_0)]⟩)]
    [] (by kernel_rfl) trivial ?_
  refine DW.seq ?_
  refine DW.cond (decide (((k1 : Nat) : Int) < ((p0.length : Nat) : Int))) rfl rfl ?_ ?_
  ·
    intro h9
    have hlt1 : k1 < p0.length := by have := of_decide_eq_true h9; omega
    have hm := hs1 hlt1
    unfold slices_IndexFunc_Node_forest_At_1_l1 at hm
    refine DW.skip ?_
    refine DW.seq ?_
    refine DW.block ?_
    refine DW.seq ?_
    refine DW.regE Tgood mixed hnt [.no, .no] [0, 1, 5, 7, 8] [0]
      [(0, .p (slOf 6 encNode (default : Node) p0)), (1, .fn 48 [.ref 0 0 0]), (5, .p (vi ((k1 : Nat) : Int))), (7, .p (vi ((p0.length : Nat) : Int))), (8, .p (vi ((k1 : Nat) : Int)))]
      [(0, ⟨0, .box [.p (vi p1_0)]⟩)]
      [] (by kernel_rfl) trivial ?_
    refine DW.seq ?_
    obtain ⟨r10, hr10, hm⟩ := bind_open hm
    refine DW.regE Tgood mixed hnt [.no, .no, .no, .no, .no, .call 48 [0] true (.p (vb r10)) [.box [.p (vi p1_0)]] []] [0, 1, 5, 7, 8, 16] [0]
      [(0, .p (slOf 6 encNode (default : Node) p0)), (1, .fn 48 [.ref 0 0 0]), (5, .p (vi ((k1 : Nat) : Int))), (7, .p (vi ((p0.length : Nat) : Int))), (8, .p (vi ((k1 : Nat) : Int))), (16, .p (vb r10))]
      [(0, ⟨0, .box [.p (vi p1_0)]⟩)]
      [((0 : Int) ≤ ((k1 : Nat) : Int)), (((k1 : Nat) : Int) < ((p0.length : Nat) : Int)), (Spec Try.prog 48 [.p (.agg [vi (p0.getD k1 (default : Node)).id, vi (p0.getD k1 (default : Node)).parent, vs (p0.getD k1 (default : Node)).name, vi (p0.getD k1 (default : Node)).control, vi (p0.getD k1 (default : Node)).kind, vi (p0.getD k1 (default : Node)).owner]), .ref 0 0 0] [.box [.p (vi p1_0)]] (.p (vb r10)) [.box [.p (vi p1_0)]] []), (True)] (by kernel_rfl) ⟨(by omega), (by omega), (forest_At_1_spec (p0.getD k1 (default : Node)) p1_0 r10 hr10), trivial, trivial⟩ ?_
    refine DW.cond r10 rfl rfl ?_ ?_
    ·
      intro h11
      replace hm := if_t h11 hm
      refine DW.seq ?_
      refine DW.regE Tgood mixed hnt [.no, .no] [4] [0]
        [(4, .p (vi ((k1 : Nat) : Int)))]
        [(0, ⟨0, .box [.p (vi p1_0)]⟩)]
        [] (by kernel_rfl) trivial ?_
      refine DW.ret ?_
      obtain rfl := Option.some.inj hm
      refine retOK (bs' := [.box [.p (vi p1_0)]]) [] (.p (vi ((k1 : Nat) : Int))) (by kernel_rfl) ?_ ?_
      · rfl
      · rfl
    ·
      intro h11
      replace hm := if_f h11 hm
      refine DW.skip ?_
      refine DW.done ?_
      show DW _ _ _ _ _
      refine DW.regE Tgood mixed hnt [.no, .no] [0, 1, 7, 8] [0]
        [(0, .p (slOf 6 encNode (default : Node) p0)), (1, .fn 48 [.ref 0 0 0]), (7, .p (vi ((p0.length : Nat) : Int))), (8, .p (vi (w64 (((k1 : Nat) : Int) + 1))))]
        [(0, ⟨0, .box [.p (vi p1_0)]⟩)]
        [] (by kernel_rfl) trivial ?_
      exact joinDone () ⟨hlt1, hm⟩ (Conv.to [0, 1, 7, 8] [0] [(0, .p (slOf 6 encNode (default : Node) p0)), (1, .fn 48 [.ref 0 0 0]), (7, .p (vi ((p0.length : Nat) : Int))), (8, .p (vi (w64 (((k1 : Nat) : Int) + 1))))] [(0, .p (slOf 6 encNode (default : Node) p0)), (1, .fn 48 [.ref 0 0 0]), (7, .p (vi ((p0.length : Nat) : Int))), (8, .p (vi (((k1 + 1) : Nat) : Int)))] [(0, ⟨0, .box [.p (vi p1_0)]⟩)] [(0, ⟨0, .box [.p (vi p1_0)]⟩)] (by kernel_rfl) (by kernel_rfl) (.cons .rfl (.cons .rfl (.cons .rfl (.cons (.of_eq (congrArg (fun n => MV.p (vi n)) (w64_succ hlt1 hc1))) .rfl)))) .rfl)
  ·
    intro h9
    have hge1 : ¬ k1 < p0.length := by have := of_decide_eq_false h9; omega
    have hm := he1 hge1
    unfold slices_IndexFunc_Node_forest_At_1_d1 at hm
    refine DW.exit ?_
    refine joinQ_exit ?_
    refine KQ_exit ?_
    refine blockQ_exit ?_
    show DW _ _ _ _ _
    refine DW.seq ?_
    refine DW.regE Tgood mixed hnt [.no] [4] [0]
      [(4, .p (vi (-1)))]
      [(0, ⟨0, .box [.p (vi p1_0)]⟩)]
      [] (by kernel_rfl) trivial ?_
    refine DW.ret ?_
    obtain rfl := Option.some.inj hm
    refine retOK (bs' := [.box [.p (vi p1_0)]]) [] (.p (vi (-1))) (by kernel_rfl) ?_ ?_
    · rfl
    · rfl

theorem forest_At_spec (p0 : Tree) (p1 : Int) (RES : Int) (hm : forest_At p0 p1 = some RES) : Spec Try.prog 22 [.p (.agg [slOf 6 encNode (default : Node) p0.nodes, vi p0.next]), .p (vi p1)] [] (.p (vi RES)) [] [] := by
  unfold forest_At at hm
  refine spec_of Tgood (T := Tt) Try.func22 (by decide) (c := _) rfl rfl (sl := [(0, .p (.agg [slOf 6 encNode (default : Node) p0.nodes, vi p0.next])), (1, .p (vi p1))]) (ob := []) (Nat.le_of_ble_eq_true rfl) (Nat.le_of_ble_eq_true rfl) (by kernel_rfl) (by kernel_rfl) ?_
  intro cx hnt
  refine DW.start ?_
  refine DW.seq ?_
  refine DW.regE Tgood mixed hnt [.no, .no, .no] [2, 3] [1016, 1024]
    [(2, .ref 1016 0 0), (3, .ref 1024 0 0)]
    [(1016, ⟨0, .box [.p (slOf 6 encNode (default : Node) p0.nodes), .p (vi p0.next)]⟩), (1024, ⟨0, .box [.p (vi p1)]⟩)]
    [] (by kernel_rfl) trivial ?_
  refine DW.seq ?_
  obtain ⟨r1, hr1, hm⟩ := bind_open hm
  refine DW.regE Tgood mixed hnt [.no, .no, .no, .call 47 [1024] true (.p (vi r1)) [.box [.p (vi p1)]] [], .no] [4] []
    [(4, .p (vi r1))]
    []
    [(Spec Try.prog 47 [.p (slOf 6 encNode (default : Node) p0.nodes), .fn 48 [.ref 0 0 0]] [.box [.p (vi p1)]] (.p (vi r1)) [.box [.p (vi p1)]] []), (True)] (by kernel_rfl) ⟨(slices_IndexFunc_Node_forest_At_1_spec p0.nodes p1 r1 hr1), trivial, trivial⟩ ?_
  refine DW.ret ?_
  obtain rfl := Option.some.inj hm
  refine retOK (bs' := []) [] (.p (vi r1)) (by kernel_rfl) ?_ ?_
  · rfl
  · rfl

theorem member_fine_spec (p0 : Hierarchy) (p1 : Task) (RES : Bool) (hm : member_fine p0 p1 = some RES) : Spec Try.prog 46 [.p (.agg [slOf 6 encNode (default : Node) p0.tree.nodes, vi p0.tree.next, slOf 4 encTask (default : Task) p0.tasks, vi p0.next]), .p (.agg [vi p1.id, vi p1.process, vi p1.group, vi p1.user])] [] (.p (vb RES)) [] [] := by
  unfold member_fine at hm
  refine spec_of Tgood (T := Tt) Try.func46 (by decide) (c := _) rfl rfl (sl := [(0, .p (.agg [slOf 6 encNode (default : Node) p0.tree.nodes, vi p0.tree.next, slOf 4 encTask (default : Task) p0.tasks, vi p0.next])), (1, .p (.agg [vi p1.id, vi p1.process, vi p1.group, vi p1.user]))]) (ob := []) (Nat.le_of_ble_eq_true rfl) (Nat.le_of_ble_eq_true rfl) (by kernel_rfl) (by kernel_rfl) ?_
  intro cx hnt
  refine DW.start ?_
  refine DW.seq ?_
  refine DW.regE Tgood mixed hnt [.no, .no, .no] [2, 3] [1016, 1024]
    [(2, .ref 1016 0 0), (3, .ref 1024 0 0)]
    [(1016, ⟨0, .box [.p (slOf 6 encNode (default : Node) p0.tree.nodes), .p (vi p0.tree.next), .p (slOf 4 encTask (default : Task) p0.tasks), .p (vi p0.next)]⟩), (1024, ⟨0, .box [.p (vi p1.id), .p (vi p1.process), .p (vi p1.group), .p (vi p1.user)]⟩)]
    [] (by kernel_rfl) trivial ?_
  refine DW.seq ?_
  obtain ⟨r1, hr1, hm⟩ := bind_open hm
  refine DW.regE Tgood mixed hnt [.no, .no, .no, .call 27 [] true (.p (.tup [.agg [vi r1.1.id, vi r1.1.process, vi r1.1.group, vi r1.1.user], vb r1.2])) [] [], .no, .no, .no, .no, .no, .no] [2, 3, 5, 6] [1016, 1024, 1040]
    [(2, .ref 1016 0 0), (3, .ref 1024 0 0), (5, .ref 1040 0 0), (6, .p (vb r1.2))]
    [(1016, ⟨0, .box [.p (slOf 6 encNode (default : Node) p0.tree.nodes), .p (vi p0.tree.next), .p (slOf 4 encTask (default : Task) p0.tasks), .p (vi p0.next)]⟩), (1024, ⟨0, .box [.p (vi p1.id), .p (vi p1.process), .p (vi p1.group), .p (vi p1.user)]⟩), (1040, ⟨0, .box [.p (vi r1.1.id), .p (vi r1.1.process), .p (vi r1.1.group), .p (vi r1.1.user)]⟩)]
    [(Spec Try.prog 27 [.p (.agg [slOf 6 encNode (default : Node) p0.tree.nodes, vi p0.tree.next, slOf 4 encTask (default : Task) p0.tasks, vi p0.next]), .p (vi p1.process)] [] (.p (.tup [.agg [vi r1.1.id, vi r1.1.process, vi r1.1.group, vi r1.1.user], vb r1.2])) [] [])] (by kernel_rfl) ⟨(crew_Find_spec p0 p1.process r1 hr1), trivial⟩ ?_
  refine DW.seq ?_
  refine DW.join (ι := Bool) (fun (y1 : Bool) => mkSt [(4, .p (vb y1))] []) (fun y1 => member_fine_j1 y1 = some RES) ?_ ?_
  · intro y1 hm
    unfold member_fine_j1 at hm
    refine DW.ret ?_
    obtain rfl := Option.some.inj hm
    refine retOK (bs' := []) [] (.p (vb y1)) (by kernel_rfl) ?_ ?_
    · rfl
    · rfl
  ·
    rcases Bool.eq_false_or_eq_true (decide (p1.user ≥ 0)) with h2 | h2
    ·
      replace hm := if_t h2 hm
      rcases Bool.eq_false_or_eq_true (decide (p1.user ≤ 1048576)) with h3 | h3
      ·
        replace hm := if_t h3 hm
        rcases Bool.eq_false_or_eq_true r1.2 with h4 | h4
        ·
          replace hm := if_t h4 hm
          rcases Bool.eq_false_or_eq_true (r1.1.process == r1.1.id) with h5 | h5
          ·
            replace hm := if_t h5 hm
            rcases Bool.eq_false_or_eq_true (r1.1.user == p1.user) with h6 | h6
            ·
              replace hm := if_t h6 hm
              obtain ⟨r7, hr7, hm⟩ := bind_open hm
              refine DW.regE Tgood mixed hnt [.no, .no, .no, .no, .no, .no, .no, .pk true, .no, .no, .pk true, .no, .no, .no, .no, .no, .no, .pk true, .no, .no, .no, .no, .no, .no, .pk true, .no, .no, .no, .no, .no, .call 22 [] true (.p (vi r7)) [] [], .no, .pk true, .no] [4] []
                [(4, .p (vb (decide (r7 ≥ 0))))]
                []
                [((decide (p1.user ≥ 0)) = true), ((decide (p1.user ≥ 0)) = true), ((decide (p1.user ≥ 0)) = true), ((decide (p1.user ≥ 0)) = true), ((decide (p1.user ≤ 1048576)) = true), ((decide (p1.user ≤ 1048576)) = true), (r1.2 = true), (r1.2 = true), (r1.2 = true), (r1.2 = true), (r1.2 = true), (r1.2 = true), ((r1.1.process == r1.1.id) = true), ((r1.1.process == r1.1.id) = true), ((r1.1.process == r1.1.id) = true), ((r1.1.process == r1.1.id) = true), ((r1.1.process == r1.1.id) = true), ((r1.1.process == r1.1.id) = true), ((r1.1.user == p1.user) = true), ((r1.1.user == p1.user) = true), ((r1.1.user == p1.user) = true), ((r1.1.user == p1.user) = true), ((r1.1.user == p1.user) = true), (Spec Try.prog 22 [.p (.agg [slOf 6 encNode (default : Node) p0.tree.nodes, vi p0.tree.next]), .p (vi p1.group)] [] (.p (vi r7)) [] []), ((r1.1.user == p1.user) = true), ((r1.1.user == p1.user) = true)] (by kernel_rfl) ⟨h2, h2, h2, h2, h3, h3, h4, h4, h4, h4, h4, h4, h5, h5, h5, h5, h5, h5, h6, h6, h6, h6, h6, (forest_At_spec p0.tree p1.group r7 hr7), h6, h6, trivial⟩ ?_
              exact joinDone (decide (r7 ≥ 0)) hm .refl
            ·
              replace hm := if_f h6 hm
              refine DW.regE Tgood mixed hnt [.no, .no, .no, .no, .no, .no, .no, .pk true, .no, .no, .pk true, .no, .no, .no, .no, .no, .no, .pk true, .no, .no, .no, .no, .no, .no, .pk true, .no, .skip, .skip, .skip, .skip, .skip, .skip, .pk false, .no] [4] []
                [(4, .p (vb false))]
                []
                [((decide (p1.user ≥ 0)) = true), ((decide (p1.user ≥ 0)) = true), ((decide (p1.user ≥ 0)) = true), ((decide (p1.user ≥ 0)) = true), ((decide (p1.user ≤ 1048576)) = true), ((decide (p1.user ≤ 1048576)) = true), (r1.2 = true), (r1.2 = true), (r1.2 = true), (r1.2 = true), (r1.2 = true), (r1.2 = true), ((r1.1.process == r1.1.id) = true), ((r1.1.process == r1.1.id) = true), ((r1.1.process == r1.1.id) = true), ((r1.1.process == r1.1.id) = true), ((r1.1.process == r1.1.id) = true), ((r1.1.process == r1.1.id) = true), ((r1.1.user == p1.user) = false), ((r1.1.user == p1.user) = false), ((r1.1.user == p1.user) = false), ((r1.1.user == p1.user) = false), ((r1.1.user == p1.user) = false), ((r1.1.user == p1.user) = false), ((r1.1.user == p1.user) = false)] (by kernel_rfl) ⟨h2, h2, h2, h2, h3, h3, h4, h4, h4, h4, h4, h4, h5, h5, h5, h5, h5, h5, h6, h6, h6, h6, h6, h6, h6, trivial⟩ ?_
              exact joinDone false hm .refl
          ·
            replace hm := if_f h5 hm
            refine DW.regE Tgood mixed hnt [.no, .no, .no, .no, .no, .no, .no, .pk true, .no, .no, .pk true, .no, .no, .no, .no, .no, .no, .pk true, .no, .skip, .skip, .skip, .skip, .skip, .pk false, .no, .skip, .skip, .skip, .skip, .skip, .skip, .pk false, .no] [4] []
              [(4, .p (vb false))]
              []
              [((decide (p1.user ≥ 0)) = true), ((decide (p1.user ≥ 0)) = true), ((decide (p1.user ≥ 0)) = true), ((decide (p1.user ≥ 0)) = true), ((decide (p1.user ≤ 1048576)) = true), ((decide (p1.user ≤ 1048576)) = true), (r1.2 = true), (r1.2 = true), (r1.2 = true), (r1.2 = true), (r1.2 = true), (r1.2 = true), ((r1.1.process == r1.1.id) = false), ((r1.1.process == r1.1.id) = false), ((r1.1.process == r1.1.id) = false), ((r1.1.process == r1.1.id) = false), ((r1.1.process == r1.1.id) = false), ((r1.1.process == r1.1.id) = false), (false = false), (false = false), (false = false), (false = false), (false = false), (false = false), (false = false)] (by kernel_rfl) ⟨h2, h2, h2, h2, h3, h3, h4, h4, h4, h4, h4, h4, h5, h5, h5, h5, h5, h5, rfl, rfl, rfl, rfl, rfl, rfl, rfl, trivial⟩ ?_
            exact joinDone false hm .refl
        ·
          replace hm := if_f h4 hm
          refine DW.regE Tgood mixed hnt [.no, .no, .no, .no, .no, .no, .no, .pk true, .no, .no, .pk true, .no, .skip, .skip, .skip, .skip, .skip, .pk false, .no, .skip, .skip, .skip, .skip, .skip, .pk false, .no, .skip, .skip, .skip, .skip, .skip, .skip, .pk false, .no] [4] []
            [(4, .p (vb false))]
            []
            [((decide (p1.user ≥ 0)) = true), ((decide (p1.user ≥ 0)) = true), ((decide (p1.user ≥ 0)) = true), ((decide (p1.user ≥ 0)) = true), ((decide (p1.user ≤ 1048576)) = true), ((decide (p1.user ≤ 1048576)) = true), (r1.2 = false), (r1.2 = false), (r1.2 = false), (r1.2 = false), (r1.2 = false), (r1.2 = false), (false = false), (false = false), (false = false), (false = false), (false = false), (false = false), (false = false), (false = false), (false = false), (false = false), (false = false), (false = false), (false = false)] (by kernel_rfl) ⟨h2, h2, h2, h2, h3, h3, h4, h4, h4, h4, h4, h4, rfl, rfl, rfl, rfl, rfl, rfl, rfl, rfl, rfl, rfl, rfl, rfl, rfl, trivial⟩ ?_
          exact joinDone false hm .refl
      ·
        replace hm := if_f h3 hm
        refine DW.regE Tgood mixed hnt [.no, .no, .no, .no, .no, .no, .no, .pk true, .no, .skip, .pk false, .no, .skip, .skip, .skip, .skip, .skip, .pk false, .no, .skip, .skip, .skip, .skip, .skip, .pk false, .no, .skip, .skip, .skip, .skip, .skip, .skip, .pk false, .no] [4] []
          [(4, .p (vb false))]
          []
          [((decide (p1.user ≥ 0)) = true), ((decide (p1.user ≥ 0)) = true), ((decide (p1.user ≥ 0)) = true), ((decide (p1.user ≥ 0)) = true), ((decide (p1.user ≤ 1048576)) = false), ((decide (p1.user ≤ 1048576)) = false), (false = false), (false = false), (false = false), (false = false), (false = false), (false = false), (false = false), (false = false), (false = false), (false = false), (false = false), (false = false), (false = false), (false = false), (false = false), (false = false), (false = false), (false = false), (false = false)] (by kernel_rfl) ⟨h2, h2, h2, h2, h3, h3, rfl, rfl, rfl, rfl, rfl, rfl, rfl, rfl, rfl, rfl, rfl, rfl, rfl, rfl, rfl, rfl, rfl, rfl, rfl, trivial⟩ ?_
        exact joinDone false hm .refl
    ·
      replace hm := if_f h2 hm
      refine DW.regE Tgood mixed hnt [.no, .no, .no, .no, .skip, .skip, .skip, .pk false, .no, .skip, .pk false, .no, .skip, .skip, .skip, .skip, .skip, .pk false, .no, .skip, .skip, .skip, .skip, .skip, .pk false, .no, .skip, .skip, .skip, .skip, .skip, .skip, .pk false, .no] [4] []
        [(4, .p (vb false))]
        []
        [((decide (p1.user ≥ 0)) = false), ((decide (p1.user ≥ 0)) = false), ((decide (p1.user ≥ 0)) = false), ((decide (p1.user ≥ 0)) = false), (false = false), (false = false), (false = false), (false = false), (false = false), (false = false), (false = false), (false = false), (false = false), (false = false), (false = false), (false = false), (false = false), (false = false), (false = false), (false = false), (false = false), (false = false), (false = false), (false = false), (false = false)] (by kernel_rfl) ⟨h2, h2, h2, h2, rfl, rfl, rfl, rfl, rfl, rfl, rfl, rfl, rfl, rfl, rfl, rfl, rfl, rfl, rfl, rfl, rfl, rfl, rfl, rfl, rfl, trivial⟩ ?_
      exact joinDone false hm .refl

theorem member_Check_spec (p0 : Hierarchy) (RES : Bool) (hm : member_Check p0 = some RES) : Spec Try.prog 21 [.p (.agg [slOf 6 encNode (default : Node) p0.tree.nodes, vi p0.tree.next, slOf 4 encTask (default : Task) p0.tasks, vi p0.next])] [] (.p (vb RES)) [] [] := by
  unfold member_Check at hm
  refine spec_of Tgood (T := Tt) Try.func21 (by decide) (c := _) rfl rfl (sl := [(0, .p (.agg [slOf 6 encNode (default : Node) p0.tree.nodes, vi p0.tree.next, slOf 4 encTask (default : Task) p0.tasks, vi p0.next]))]) (ob := []) (Nat.le_of_ble_eq_true rfl) (Nat.le_of_ble_eq_true rfl) (by kernel_rfl) (by kernel_rfl) ?_
  intro cx hnt
  refine DW.start ?_
  refine DW.seq ?_
  refine DW.regE Tgood mixed hnt [.no, .no] [1] [1008]
    [(1, .ref 1008 0 0)]
    [(1008, ⟨0, .box [.p (slOf 6 encNode (default : Node) p0.tree.nodes), .p (vi p0.tree.next), .p (slOf 4 encTask (default : Task) p0.tasks), .p (vi p0.next)]⟩)]
    [] (by kernel_rfl) trivial ?_
  refine DW.seq ?_
  refine DW.seq ?_
  refine DW.join (ι := Bool) (fun (y1 : Bool) => mkSt [(1, .ref 1008 0 0), (20, .p (vb y1))] [(1008, ⟨0, .box [.p (slOf 6 encNode (default : Node) p0.tree.nodes), .p (vi p0.tree.next), .p (slOf 4 encTask (default : Task) p0.tasks), .p (vi p0.next)]⟩)]) (fun y1 => (member_Check_j1 p0) y1 = some RES) ?_ ?_
  · intro y1 hm
    unfold member_Check_j1 at hm
    refine DW.cond y1 rfl rfl ?_ ?_
    ·
      intro h4
      replace hm := if_t h4 hm
      refine DW.seq ?_
      refine DW.regE Tgood mixed hnt [.no] [2] []
        [(2, .p (vb false))]
        []
        [] (by kernel_rfl) trivial ?_
      refine DW.ret ?_
      obtain rfl := Option.some.inj hm
      refine retOK (bs' := []) [] (.p (vb false)) (by kernel_rfl) ?_ ?_
      · rfl
      · rfl
    ·
      intro h4
      replace hm := if_f h4 hm
      refine DW.skip ?_
      refine DW.seq ?_
      refine DW.regE Tgood mixed hnt [.no] [1, 3] [1008]
        [(1, .ref 1008 0 0), (3, .p (vi 0))]
        [(1008, ⟨0, .box [.p (slOf 6 encNode (default : Node) p0.tree.nodes), .p (vi p0.tree.next), .p (slOf 4 encTask (default : Task) p0.tasks), .p (vi p0.next)]⟩)]
        [] (by kernel_rfl) trivial ?_
      refine DW.seq ?_
      refine DW.seq ?_
      refine DW.regE Tgood mixed hnt [.no, .no, .no, .no] [1, 3, 22, 23, 24] [1008]
        [(1, .ref 1008 0 0), (3, .p (vi 0)), (22, .p (slOf 4 encTask (default : Task) p0.tasks)), (23, .p (vi ((p0.tasks.length : Nat) : Int))), (24, .p (vi 0))]
        [(1008, ⟨0, .box [.p (slOf 6 encNode (default : Node) p0.tree.nodes), .p (vi p0.tree.next), .p (slOf 4 encTask (default : Task) p0.tasks), .p (vi p0.next)]⟩)]
        [] (by kernel_rfl) trivial ?_
      refine DW.block ?_
      obtain ⟨hc1, hm⟩ := guard_open hm
      refine DW.rangeO (fun (k1 : Nat) (s1 : Int) => mkSt [(1, .ref 1008 0 0), (3, .p (vi s1)), (22, .p (slOf 4 encTask (default : Task) p0.tasks)), (23, .p (vi ((p0.tasks.length : Nat) : Int))), (24, .p (vi ((k1 : Nat) : Int)))] [(1008, ⟨0, .box [.p (slOf 6 encNode (default : Node) p0.tree.nodes), .p (vi p0.tree.next), .p (slOf 4 encTask (default : Task) p0.tasks), .p (vi p0.next)]⟩)]) (default : Task) hm .refl ?_
      intro k1 s1 n1 hk1 hs1 he1
      refine DW.seq ?_
      refine DW.regE Tgood mixed hnt [.no] [1, 3, 22, 23, 24, 25] [1008]
        [(1, .ref 1008 0 0), (3, .p (vi s1)), (22, .p (slOf 4 encTask (default : Task) p0.tasks)), (23, .p (vi ((p0.tasks.length : Nat) : Int))), (24, .p (vi ((k1 : Nat) : Int))), (25, .p (vb (decide (((k1 : Nat) : Int) < ((p0.tasks.length : Nat) : Int)))))]
        [(1008, ⟨0, .box [.p (slOf 6 encNode (default : Node) p0.tree.nodes), .p (vi p0.tree.next), .p (slOf 4 encTask (default : Task) p0.tasks), .p (vi p0.next)]⟩)]
        [] (by kernel_rfl) trivial ?_
      refine DW.seq ?_
      refine DW.cond (decide (((k1 : Nat) : Int) < ((p0.tasks.length : Nat) : Int))) rfl rfl ?_ ?_
      ·
        intro h15
        have hlt1 : k1 < p0.tasks.length := by have := of_decide_eq_true h15; omega
        have hm := hs1 hlt1
        unfold member_Check_l1 at hm
        refine DW.skip ?_
        refine DW.seq ?_
        refine DW.block ?_
        refine DW.seq ?_
        refine DW.regE Tgood mixed hnt [.no, .no, .no, .no] [1, 3, 5, 22, 23, 24] [1008, 1040]
          [(1, .ref 1008 0 0), (3, .p (vi s1)), (5, .ref 1040 0 0), (22, .p (slOf 4 encTask (default : Task) p0.tasks)), (23, .p (vi ((p0.tasks.length : Nat) : Int))), (24, .p (vi ((k1 : Nat) : Int)))]
          [(1008, ⟨0, .box [.p (slOf 6 encNode (default : Node) p0.tree.nodes), .p (vi p0.tree.next), .p (slOf 4 encTask (default : Task) p0.tasks), .p (vi p0.next)]⟩), (1040, ⟨0, .box [.p (vi (p0.tasks.getD k1 (default : Task)).id), .p (vi (p0.tasks.getD k1 (default : Task)).process), .p (vi (p0.tasks.getD k1 (default : Task)).group), .p (vi (p0.tasks.getD k1 (default : Task)).user)]⟩)]
          [((0 : Int) ≤ ((k1 : Nat) : Int)), (((k1 : Nat) : Int) < ((p0.tasks.length : Nat) : Int))] (by kernel_rfl) ⟨(by omega), (by omega), trivial⟩ ?_
        refine DW.seq ?_
        refine DW.seq ?_
        refine DW.join (ι := Bool) (fun (y4 : Bool) => mkSt [(1, .ref 1008 0 0), (5, .ref 1040 0 0), (22, .p (slOf 4 encTask (default : Task) p0.tasks)), (23, .p (vi ((p0.tasks.length : Nat) : Int))), (24, .p (vi ((k1 : Nat) : Int))), (37, .p (vb y4))] [(1008, ⟨0, .box [.p (slOf 6 encNode (default : Node) p0.tree.nodes), .p (vi p0.tree.next), .p (slOf 4 encTask (default : Task) p0.tasks), .p (vi p0.next)]⟩), (1040, ⟨0, .box [.p (vi (p0.tasks.getD k1 (default : Task)).id), .p (vi (p0.tasks.getD k1 (default : Task)).process), .p (vi (p0.tasks.getD k1 (default : Task)).group), .p (vi (p0.tasks.getD k1 (default : Task)).user)]⟩)]) (fun y4 => (member_Check_j4 (p0.tasks.getD k1 (default : Task)) n1) y4 = some RES) ?_ ?_
        · intro y4 hm
          unfold member_Check_j4 at hm
          refine DW.cond y4 rfl rfl ?_ ?_
          ·
            intro h18
            replace hm := if_t h18 hm
            refine DW.seq ?_
            refine DW.regE Tgood mixed hnt [.no] [2] []
              [(2, .p (vb false))]
              []
              [] (by kernel_rfl) trivial ?_
            refine DW.ret ?_
            obtain rfl := Option.some.inj hm
            refine retOK (bs' := []) [] (.p (vb false)) (by kernel_rfl) ?_ ?_
            · rfl
            · rfl
          ·
            intro h18
            replace hm := if_f h18 hm
            refine DW.skip ?_
            refine DW.regE Tgood mixed hnt [.no, .no, .no] [1, 3, 22, 23, 24] [1008]
              [(1, .ref 1008 0 0), (3, .p (vi (p0.tasks.getD k1 (default : Task)).id)), (22, .p (slOf 4 encTask (default : Task) p0.tasks)), (23, .p (vi ((p0.tasks.length : Nat) : Int))), (24, .p (vi ((k1 : Nat) : Int)))]
              [(1008, ⟨0, .box [.p (slOf 6 encNode (default : Node) p0.tree.nodes), .p (vi p0.tree.next), .p (slOf 4 encTask (default : Task) p0.tasks), .p (vi p0.next)]⟩)]
              [] (by kernel_rfl) trivial ?_
            refine DW.done ?_
            show DW _ _ _ _ _
            refine DW.regE Tgood mixed hnt [.no, .no] [1, 3, 22, 23, 24] [1008]
              [(1, .ref 1008 0 0), (3, .p (vi (p0.tasks.getD k1 (default : Task)).id)), (22, .p (slOf 4 encTask (default : Task) p0.tasks)), (23, .p (vi ((p0.tasks.length : Nat) : Int))), (24, .p (vi (w64 (((k1 : Nat) : Int) + 1))))]
              [(1008, ⟨0, .box [.p (slOf 6 encNode (default : Node) p0.tree.nodes), .p (vi p0.tree.next), .p (slOf 4 encTask (default : Task) p0.tasks), .p (vi p0.next)]⟩)]
              [] (by kernel_rfl) trivial ?_
            exact joinDone (p0.tasks.getD k1 (default : Task)).id ⟨hlt1, hm⟩ (Conv.to [1, 3, 22, 23, 24] [1008] [(1, .ref 1008 0 0), (3, .p (vi (p0.tasks.getD k1 (default : Task)).id)), (22, .p (slOf 4 encTask (default : Task) p0.tasks)), (23, .p (vi ((p0.tasks.length : Nat) : Int))), (24, .p (vi (w64 (((k1 : Nat) : Int) + 1))))] [(1, .ref 1008 0 0), (3, .p (vi (p0.tasks.getD k1 (default : Task)).id)), (22, .p (slOf 4 encTask (default : Task) p0.tasks)), (23, .p (vi ((p0.tasks.length : Nat) : Int))), (24, .p (vi (((k1 + 1) : Nat) : Int)))] [(1008, ⟨0, .box [.p (slOf 6 encNode (default : Node) p0.tree.nodes), .p (vi p0.tree.next), .p (slOf 4 encTask (default : Task) p0.tasks), .p (vi p0.next)]⟩)] [(1008, ⟨0, .box [.p (slOf 6 encNode (default : Node) p0.tree.nodes), .p (vi p0.tree.next), .p (slOf 4 encTask (default : Task) p0.tasks), .p (vi p0.next)]⟩)] (by kernel_rfl) (by kernel_rfl) (.cons .rfl (.cons .rfl (.cons .rfl (.cons .rfl (.cons (.of_eq (congrArg (fun n => MV.p (vi n)) (w64_succ hlt1 hc1))) .rfl))))) .rfl)
        ·
          rcases Bool.eq_false_or_eq_true (decide ((p0.tasks.getD k1 (default : Task)).id ≤ s1)) with h16 | h16
          ·
            replace hm := if_t h16 hm
            refine DW.regE Tgood mixed hnt [.no, .no, .no, .no, .no, .skip, .skip, .skip, .skip, .pk true] [1, 5, 22, 23, 24, 37] [1008, 1040]
              [(1, .ref 1008 0 0), (5, .ref 1040 0 0), (22, .p (slOf 4 encTask (default : Task) p0.tasks)), (23, .p (vi ((p0.tasks.length : Nat) : Int))), (24, .p (vi ((k1 : Nat) : Int))), (37, .p (vb true))]
              [(1008, ⟨0, .box [.p (slOf 6 encNode (default : Node) p0.tree.nodes), .p (vi p0.tree.next), .p (slOf 4 encTask (default : Task) p0.tasks), .p (vi p0.next)]⟩), (1040, ⟨0, .box [.p (vi (p0.tasks.getD k1 (default : Task)).id), .p (vi (p0.tasks.getD k1 (default : Task)).process), .p (vi (p0.tasks.getD k1 (default : Task)).group), .p (vi (p0.tasks.getD k1 (default : Task)).user)]⟩)]
              [((decide ((p0.tasks.getD k1 (default : Task)).id ≤ s1)) = true), ((decide ((p0.tasks.getD k1 (default : Task)).id ≤ s1)) = true), ((decide ((p0.tasks.getD k1 (default : Task)).id ≤ s1)) = true), ((decide ((p0.tasks.getD k1 (default : Task)).id ≤ s1)) = true), ((decide ((p0.tasks.getD k1 (default : Task)).id ≤ s1)) = true)] (by kernel_rfl) ⟨h16, h16, h16, h16, h16, trivial⟩ ?_
            exact joinDone true hm .refl
          ·
            replace hm := if_f h16 hm
            obtain ⟨r17, hr17, hm⟩ := bind_open hm
            refine DW.regE Tgood mixed hnt [.no, .no, .no, .no, .no, .no, .no, .call 46 [] true (.p (vb r17)) [] [], .no, .pk false] [1, 5, 22, 23, 24, 37] [1008, 1040]
              [(1, .ref 1008 0 0), (5, .ref 1040 0 0), (22, .p (slOf 4 encTask (default : Task) p0.tasks)), (23, .p (vi ((p0.tasks.length : Nat) : Int))), (24, .p (vi ((k1 : Nat) : Int))), (37, .p (vb (!r17)))]
              [(1008, ⟨0, .box [.p (slOf 6 encNode (default : Node) p0.tree.nodes), .p (vi p0.tree.next), .p (slOf 4 encTask (default : Task) p0.tasks), .p (vi p0.next)]⟩), (1040, ⟨0, .box [.p (vi (p0.tasks.getD k1 (default : Task)).id), .p (vi (p0.tasks.getD k1 (default : Task)).process), .p (vi (p0.tasks.getD k1 (default : Task)).group), .p (vi (p0.tasks.getD k1 (default : Task)).user)]⟩)]
              [((decide ((p0.tasks.getD k1 (default : Task)).id ≤ s1)) = false), ((decide ((p0.tasks.getD k1 (default : Task)).id ≤ s1)) = false), ((decide ((p0.tasks.getD k1 (default : Task)).id ≤ s1)) = false), (Spec Try.prog 46 [.p (.agg [slOf 6 encNode (default : Node) p0.tree.nodes, vi p0.tree.next, slOf 4 encTask (default : Task) p0.tasks, vi p0.next]), .p (.agg [vi (p0.tasks.getD k1 (default : Task)).id, vi (p0.tasks.getD k1 (default : Task)).process, vi (p0.tasks.getD k1 (default : Task)).group, vi (p0.tasks.getD k1 (default : Task)).user])] [] (.p (vb r17)) [] []), ((decide ((p0.tasks.getD k1 (default : Task)).id ≤ s1)) = false), ((decide ((p0.tasks.getD k1 (default : Task)).id ≤ s1)) = false)] (by kernel_rfl) ⟨h16, h16, h16, (member_fine_spec p0 (p0.tasks.getD k1 (default : Task)) r17 hr17), h16, h16, trivial⟩ ?_
            exact joinDone (!r17) hm .refl
      ·
        intro h15
        have hge1 : ¬ k1 < p0.tasks.length := by have := of_decide_eq_false h15; omega
        have hm := he1 hge1
        unfold member_Check_d1 at hm
        refine DW.exit ?_
        refine joinQ_exit ?_
        refine KQ_exit ?_
        refine blockQ_exit ?_
        show DW _ _ _ _ _
        refine DW.seq ?_
        refine DW.regE Tgood mixed hnt [.no, .no, .no, .no, .no] [2] []
          [(2, .p (vb (decide (p0.next > s1))))]
          []
          [] (by kernel_rfl) trivial ?_
        refine DW.ret ?_
        obtain rfl := Option.some.inj hm
        refine retOK (bs' := []) [] (.p (vb (decide (p0.next > s1)))) (by kernel_rfl) ?_ ?_
        · rfl
        · rfl
  ·
    rcases Bool.eq_false_or_eq_true (decide (((p0.tasks.length : Nat) : Int) > 128)) with h1 | h1
    ·
      replace hm := if_t h1 hm
      refine DW.regE Tgood mixed hnt [.no, .no, .no, .no, .no, .skip, .skip, .skip, .pk true, .no, .skip, .skip, .skip, .skip, .pk true] [1, 20] [1008]
        [(1, .ref 1008 0 0), (20, .p (vb true))]
        [(1008, ⟨0, .box [.p (slOf 6 encNode (default : Node) p0.tree.nodes), .p (vi p0.tree.next), .p (slOf 4 encTask (default : Task) p0.tasks), .p (vi p0.next)]⟩)]
        [((decide (((p0.tasks.length : Nat) : Int) > 128)) = true), ((decide (((p0.tasks.length : Nat) : Int) > 128)) = true), ((decide (((p0.tasks.length : Nat) : Int) > 128)) = true), ((decide (((p0.tasks.length : Nat) : Int) > 128)) = true), (true = true), (true = true), (true = true), (true = true), (true = true)] (by kernel_rfl) ⟨h1, h1, h1, h1, rfl, rfl, rfl, rfl, rfl, trivial⟩ ?_
      exact joinDone true hm .refl
    ·
      replace hm := if_f h1 hm
      rcases Bool.eq_false_or_eq_true (decide (p0.next > 2147483648)) with h2 | h2
      ·
        replace hm := if_t h2 hm
        refine DW.regE Tgood mixed hnt [.no, .no, .no, .no, .no, .no, .no, .no, .pk false, .no, .skip, .skip, .skip, .skip, .pk true] [1, 20] [1008]
          [(1, .ref 1008 0 0), (20, .p (vb true))]
          [(1008, ⟨0, .box [.p (slOf 6 encNode (default : Node) p0.tree.nodes), .p (vi p0.tree.next), .p (slOf 4 encTask (default : Task) p0.tasks), .p (vi p0.next)]⟩)]
          [((decide (((p0.tasks.length : Nat) : Int) > 128)) = false), ((decide (((p0.tasks.length : Nat) : Int) > 128)) = false), ((decide (((p0.tasks.length : Nat) : Int) > 128)) = false), ((decide (((p0.tasks.length : Nat) : Int) > 128)) = false), ((decide (p0.next > 2147483648)) = true), ((decide (p0.next > 2147483648)) = true), ((decide (p0.next > 2147483648)) = true), ((decide (p0.next > 2147483648)) = true), ((decide (p0.next > 2147483648)) = true)] (by kernel_rfl) ⟨h1, h1, h1, h1, h2, h2, h2, h2, h2, trivial⟩ ?_
        exact joinDone true hm .refl
      ·
        replace hm := if_f h2 hm
        obtain ⟨r3, hr3, hm⟩ := bind_open hm
        refine DW.regE Tgood mixed hnt [.no, .no, .no, .no, .no, .no, .no, .no, .pk false, .no, .no, .no, .call 45 [] true (.p (vb r3)) [] [], .no, .pk false] [1, 20] [1008]
          [(1, .ref 1008 0 0), (20, .p (vb (!r3)))]
          [(1008, ⟨0, .box [.p (slOf 6 encNode (default : Node) p0.tree.nodes), .p (vi p0.tree.next), .p (slOf 4 encTask (default : Task) p0.tasks), .p (vi p0.next)]⟩)]
          [((decide (((p0.tasks.length : Nat) : Int) > 128)) = false), ((decide (((p0.tasks.length : Nat) : Int) > 128)) = false), ((decide (((p0.tasks.length : Nat) : Int) > 128)) = false), ((decide (((p0.tasks.length : Nat) : Int) > 128)) = false), ((decide (p0.next > 2147483648)) = false), ((decide (p0.next > 2147483648)) = false), ((decide (p0.next > 2147483648)) = false), (Spec Try.prog 45 [.p (.agg [slOf 6 encNode (default : Node) p0.tree.nodes, vi p0.tree.next])] [] (.p (vb r3)) [] []), ((decide (p0.next > 2147483648)) = false), ((decide (p0.next > 2147483648)) = false)] (by kernel_rfl) ⟨h1, h1, h1, h1, h2, h2, h2, (tree_Check_spec p0.tree r3 hr3), h2, h2, trivial⟩ ?_
        exact joinDone (!r3) hm .refl

theorem slices_Clone_Node_nn_spec (p0 : List Node) (RES : List Node) (hm : slices_Clone_Node p0 = some RES) : Spec Try.prog 70 [.p (.sl .nn 6 p0.length (elems encNode (default : Node) p0))] [] (.own 0 0 0 RES.length) [] [rowOf 6 encNode (default : Node) RES] := by
  unfold slices_Clone_Node at hm
  refine spec_of Tgood (T := Tt) Try.func70 (by decide) (c := _) rfl rfl (sl := [(0, .p (.sl .nn 6 p0.length (elems encNode (default : Node) p0)))]) (ob := []) (Nat.le_of_ble_eq_true rfl) (Nat.le_of_ble_eq_true rfl) (by kernel_rfl) (by kernel_rfl) ?_
  intro cx hnt
  refine DW.start ?_
  refine DW.seq ?_
  refine DW.regE Tgood mixed hnt [.no] [0] []
    [(0, .p (.sl .nn 6 p0.length (elems encNode (default : Node) p0)))]
    []
    [] (by kernel_rfl) trivial ?_
  refine DW.seq ?_
  refine DW.seq ?_
  refine DW.regE Tgood mixed hnt [.no, .no] [0, 4] []
    [(0, .p (.sl .nn 6 p0.length (elems encNode (default : Node) p0))), (4, .p (vb false))]
    []
    [] (by kernel_rfl) trivial ?_
  refine DW.cond false rfl rfl (fun e => absurd e (by decide)) (fun _ => ?_)
  refine DW.skip ?_
  refine DW.seq ?_
  obtain ⟨g1, hm⟩ := guard_open hm
  refine DW.reg Tgood mixed hnt [.no, .no, .no, .no] [2] [1040]
    [(2, .own 1040 0 0 (0 + p0.length))]
    [(2, .own 1040 0 0 p0.length)]
    [(1040, ⟨0, .row 6 (0 + p0.length) (catF 0 (cut 6 []) (elems encNode (default : Node) p0))⟩)]
    [(1040, ⟨0, rowOf 6 encNode (default : Node) p0⟩)]
    [((0 + p0.length) * 56 ≤ 140737488355328)] (by kernel_rfl) ⟨(by omega), trivial⟩ (.cons (MLe.ownLen (enc := encNode) (d := (default : Node)) (f := (catF 0 (cut 6 []) (elems encNode (default : Node) p0))) (RowIs.cat RowIs.nil RowIs.elems)) .rfl) (.cons (BLe.typed (RowIs.cat RowIs.nil RowIs.elems)) .rfl) ?_
  refine DW.ret ?_
  obtain rfl := Option.some.inj hm
  refine retOK (bs' := [rowOf 6 encNode (default : Node) p0]) [1040] (.own 0 0 0 p0.length) (by kernel_rfl) ?_ ?_
  · rfl
  · rfl

theorem slices_Clone_Node_nil_spec (p0 : List Node) (RES : List Node) (hm : slices_Clone_Node_nil p0 = some RES) : Spec Try.prog 70 [.p (.sl .nil 6 0 (elems encNode (default : Node) p0))] [] (.own 0 0 0 RES.length) [] [rowOf 6 encNode (default : Node) RES] := by
  unfold slices_Clone_Node_nil at hm
  refine spec_of Tgood (T := Tt) Try.func70 (by decide) (c := _) rfl rfl (sl := [(0, .p (.sl .nil 6 0 (elems encNode (default : Node) p0)))]) (ob := []) (Nat.le_of_ble_eq_true rfl) (Nat.le_of_ble_eq_true rfl) (by kernel_rfl) (by kernel_rfl) ?_
  intro cx hnt
  refine DW.start ?_
  refine DW.seq ?_
  refine DW.regE Tgood mixed hnt [.no] [0] []
    [(0, .p (.sl .nil 6 0 (elems encNode (default : Node) p0)))]
    []
    [] (by kernel_rfl) trivial ?_
  refine DW.seq ?_
  refine DW.seq ?_
  refine DW.regE Tgood mixed hnt [.no, .no] [0, 4] []
    [(0, .p (.sl .nil 6 0 (elems encNode (default : Node) p0))), (4, .p (vb true))]
    []
    [] (by kernel_rfl) trivial ?_
  refine DW.cond true rfl rfl (fun _ => ?_) (fun e => absurd e (by decide))
  refine DW.seq ?_
  refine DW.regE Tgood mixed hnt [.no] [2] []
    [(2, .p (.sl .nil 0 0 (fun _ => [])))]
    []
    [] (by kernel_rfl) trivial ?_
  refine DW.conv (τ := mkSt [(2, .own 100000 0 0 0)] [(100000, ⟨0, rowOf 6 encNode (default : Node) []⟩)]) (Conv.trans (τ := mkSt [(2, .own 100000 0 0 0)] ((100000, ⟨0, .row 6 0 (elems encNode (default : Node) [])⟩) :: [])) (Conv.adopt 100000 6 (elems encNode (default : Node) []) rfl rfl (.cons (.one (.nil _ _)) (.rfl _)) (.rfl _)) (Conv.trans (τ := mkSt [(2, .own 100000 0 0 0)] [(100000, ⟨0, rowOf 6 encNode (default : Node) []⟩)]) (Conv.to [2] [100000] [(2, .own 100000 0 0 0)] [(2, .own 100000 0 0 0)] [(100000, ⟨0, rowOf 6 encNode (default : Node) []⟩)] [(100000, ⟨0, rowOf 6 encNode (default : Node) []⟩)] (by kernel_rfl) (by kernel_rfl) .rfl .rfl) .refl)) ?_
  refine DW.ret ?_
  obtain rfl := Option.some.inj hm
  refine retOK (bs' := [rowOf 6 encNode (default : Node) []]) [100000] (.own 0 0 0 0) (by kernel_rfl) ?_ ?_
  · rfl
  · rfl

theorem slices_Clone_Node_spec (p0 : List Node) (RES : List Node) (hm : slices_Clone_Node p0 = some RES) : Spec Try.prog 70 [.p (slOf 6 encNode (default : Node) p0)] [] (.own 0 0 0 RES.length) [] [rowOf 6 encNode (default : Node) RES] :=
  Spec.unk (fun h => slices_Clone_Node_nil_spec p0 RES (by have e : p0 = [] := List.eq_nil_of_length_eq_zero h; subst e; simpa [slices_Clone_Node, slices_Clone_Node_nil] using hm)) (slices_Clone_Node_nn_spec p0 RES hm)

theorem slices_Clone_Task_nn_spec (p0 : List Task) (RES : List Task) (hm : slices_Clone_Task p0 = some RES) : Spec Try.prog 71 [.p (.sl .nn 4 p0.length (elems encTask (default : Task) p0))] [] (.own 0 0 0 RES.length) [] [rowOf 4 encTask (default : Task) RES] := by
  unfold slices_Clone_Task at hm
  refine spec_of Tgood (T := Tt) Try.func71 (by decide) (c := _) rfl rfl (sl := [(0, .p (.sl .nn 4 p0.length (elems encTask (default : Task) p0)))]) (ob := []) (Nat.le_of_ble_eq_true rfl) (Nat.le_of_ble_eq_true rfl) (by kernel_rfl) (by kernel_rfl) ?_
  intro cx hnt
  refine DW.start ?_
  refine DW.seq ?_
  refine DW.regE Tgood mixed hnt [.no] [0] []
    [(0, .p (.sl .nn 4 p0.length (elems encTask (default : Task) p0)))]
    []
    [] (by kernel_rfl) trivial ?_
  refine DW.seq ?_
  refine DW.seq ?_
  refine DW.regE Tgood mixed hnt [.no, .no] [0, 4] []
    [(0, .p (.sl .nn 4 p0.length (elems encTask (default : Task) p0))), (4, .p (vb false))]
    []
    [] (by kernel_rfl) trivial ?_
  refine DW.cond false rfl rfl (fun e => absurd e (by decide)) (fun _ => ?_)
  refine DW.skip ?_
  refine DW.seq ?_
  obtain ⟨g1, hm⟩ := guard_open hm
  refine DW.reg Tgood mixed hnt [.no, .no, .no, .no] [2] [1040]
    [(2, .own 1040 0 0 (0 + p0.length))]
    [(2, .own 1040 0 0 p0.length)]
    [(1040, ⟨0, .row 4 (0 + p0.length) (catF 0 (cut 4 []) (elems encTask (default : Task) p0))⟩)]
    [(1040, ⟨0, rowOf 4 encTask (default : Task) p0⟩)]
    [((0 + p0.length) * 32 ≤ 140737488355328)] (by kernel_rfl) ⟨(by omega), trivial⟩ (.cons (MLe.ownLen (enc := encTask) (d := (default : Task)) (f := (catF 0 (cut 4 []) (elems encTask (default : Task) p0))) (RowIs.cat RowIs.nil RowIs.elems)) .rfl) (.cons (BLe.typed (RowIs.cat RowIs.nil RowIs.elems)) .rfl) ?_
  refine DW.ret ?_
  obtain rfl := Option.some.inj hm
  refine retOK (bs' := [rowOf 4 encTask (default : Task) p0]) [1040] (.own 0 0 0 p0.length) (by kernel_rfl) ?_ ?_
  · rfl
  · rfl

theorem slices_Clone_Task_nil_spec (p0 : List Task) (RES : List Task) (hm : slices_Clone_Task_nil p0 = some RES) : Spec Try.prog 71 [.p (.sl .nil 4 0 (elems encTask (default : Task) p0))] [] (.own 0 0 0 RES.length) [] [rowOf 4 encTask (default : Task) RES] := by
  unfold slices_Clone_Task_nil at hm
  refine spec_of Tgood (T := Tt) Try.func71 (by decide) (c := _) rfl rfl (sl := [(0, .p (.sl .nil 4 0 (elems encTask (default : Task) p0)))]) (ob := []) (Nat.le_of_ble_eq_true rfl) (Nat.le_of_ble_eq_true rfl) (by kernel_rfl) (by kernel_rfl) ?_
  intro cx hnt
  refine DW.start ?_
  refine DW.seq ?_
  refine DW.regE Tgood mixed hnt [.no] [0] []
    [(0, .p (.sl .nil 4 0 (elems encTask (default : Task) p0)))]
    []
    [] (by kernel_rfl) trivial ?_
  refine DW.seq ?_
  refine DW.seq ?_
  refine DW.regE Tgood mixed hnt [.no, .no] [0, 4] []
    [(0, .p (.sl .nil 4 0 (elems encTask (default : Task) p0))), (4, .p (vb true))]
    []
    [] (by kernel_rfl) trivial ?_
  refine DW.cond true rfl rfl (fun _ => ?_) (fun e => absurd e (by decide))
  refine DW.seq ?_
  refine DW.regE Tgood mixed hnt [.no] [2] []
    [(2, .p (.sl .nil 0 0 (fun _ => [])))]
    []
    [] (by kernel_rfl) trivial ?_
  refine DW.conv (τ := mkSt [(2, .own 100000 0 0 0)] [(100000, ⟨0, rowOf 4 encTask (default : Task) []⟩)]) (Conv.trans (τ := mkSt [(2, .own 100000 0 0 0)] ((100000, ⟨0, .row 4 0 (elems encTask (default : Task) [])⟩) :: [])) (Conv.adopt 100000 4 (elems encTask (default : Task) []) rfl rfl (.cons (.one (.nil _ _)) (.rfl _)) (.rfl _)) (Conv.trans (τ := mkSt [(2, .own 100000 0 0 0)] [(100000, ⟨0, rowOf 4 encTask (default : Task) []⟩)]) (Conv.to [2] [100000] [(2, .own 100000 0 0 0)] [(2, .own 100000 0 0 0)] [(100000, ⟨0, rowOf 4 encTask (default : Task) []⟩)] [(100000, ⟨0, rowOf 4 encTask (default : Task) []⟩)] (by kernel_rfl) (by kernel_rfl) .rfl .rfl) .refl)) ?_
  refine DW.ret ?_
  obtain rfl := Option.some.inj hm
  refine retOK (bs' := [rowOf 4 encTask (default : Task) []]) [100000] (.own 0 0 0 0) (by kernel_rfl) ?_ ?_
  · rfl
  · rfl

theorem slices_Clone_Task_spec (p0 : List Task) (RES : List Task) (hm : slices_Clone_Task p0 = some RES) : Spec Try.prog 71 [.p (slOf 4 encTask (default : Task) p0)] [] (.own 0 0 0 RES.length) [] [rowOf 4 encTask (default : Task) RES] :=
  Spec.unk (fun h => slices_Clone_Task_nil_spec p0 RES (by have e : p0 = [] := List.eq_nil_of_length_eq_zero h; subst e; simpa [slices_Clone_Task, slices_Clone_Task_nil] using hm)) (slices_Clone_Task_nn_spec p0 RES hm)

theorem crew_Copy_spec (p0 : Hierarchy) (RES : Hierarchy) (hm : crew_Copy p0 = some RES) : Spec Try.prog 41 [.p (.agg [slOf 6 encNode (default : Node) p0.tree.nodes, vi p0.tree.next, slOf 4 encTask (default : Task) p0.tasks, vi p0.next])] [] (.agg [.own 0 0 0 RES.tree.nodes.length, .p (vi RES.tree.next), .own 1 0 0 RES.tasks.length, .p (vi RES.next)]) [] [rowOf 6 encNode (default : Node) RES.tree.nodes, rowOf 4 encTask (default : Task) RES.tasks] := by
  unfold crew_Copy at hm
  refine spec_of Tgood (T := Tt) Try.func41 (by decide) (c := _) rfl rfl (sl := [(0, .p (.agg [slOf 6 encNode (default : Node) p0.tree.nodes, vi p0.tree.next, slOf 4 encTask (default : Task) p0.tasks, vi p0.next]))]) (ob := []) (Nat.le_of_ble_eq_true rfl) (Nat.le_of_ble_eq_true rfl) (by kernel_rfl) (by kernel_rfl) ?_
  intro cx hnt
  refine DW.start ?_
  refine DW.seq ?_
  refine DW.regE Tgood mixed hnt [.no, .no] [1, 2] [1008, 1016]
    [(1, .ref 1008 0 0), (2, .ref 1016 0 0)]
    [(1008, ⟨0, .box [.p (slOf 6 encNode (default : Node) p0.tree.nodes), .p (vi p0.tree.next), .p (slOf 4 encTask (default : Task) p0.tasks), .p (vi p0.next)]⟩), (1016, ⟨0, .box [.p (.sl .nil 0 0 (fun _ => [])), .p (vi 0), .p (.sl .nil 0 0 (fun _ => [])), .p (vi 0)]⟩)]
    [] (by kernel_rfl) trivial ?_
  refine DW.seq ?_
  obtain ⟨r1, hr1, hm⟩ := bind_open hm
  obtain ⟨r2, hr2, hm⟩ := bind_open hm
  refine DW.regE Tgood mixed hnt [.no, .no, .no, .call 70 [] true (.own 0 0 0 r1.length) [] [rowOf 6 encNode (default : Node) r1], .no, .no, .no, .no, .no, .no, .call 71 [] true (.own 0 0 0 r2.length) [] [rowOf 4 encTask (default : Task) r2], .no, .no, .no, .no] [2] [1016, 1048, 1104]
    [(2, .ref 1016 0 0)]
    [(1016, ⟨0, .box [.own 1048 0 0 r1.length, .p (vi p0.tree.next), .own 1104 0 0 r2.length, .p (vi p0.next)]⟩), (1048, ⟨0, rowOf 6 encNode (default : Node) r1⟩), (1104, ⟨0, rowOf 4 encTask (default : Task) r2⟩)]
    [(Spec Try.prog 70 [.p (slOf 6 encNode (default : Node) p0.tree.nodes)] [] (.own 0 0 0 r1.length) [] [rowOf 6 encNode (default : Node) r1]), (Spec Try.prog 71 [.p (slOf 4 encTask (default : Task) p0.tasks)] [] (.own 0 0 0 r2.length) [] [rowOf 4 encTask (default : Task) r2])] (by kernel_rfl) ⟨(slices_Clone_Node_spec p0.tree.nodes r1 hr1), (slices_Clone_Task_spec p0.tasks r2 hr2), trivial⟩ ?_
  refine DW.ret ?_
  obtain rfl := Option.some.inj hm
  refine retOK (bs' := [rowOf 6 encNode (default : Node) r1, rowOf 4 encTask (default : Task) r2]) [1048, 1104] (.agg [.own 0 0 0 r1.length, .p (vi p0.tree.next), .own 1 0 0 r2.length, .p (vi p0.next)]) (by kernel_rfl) ?_ ?_
  · rfl
  · rfl

theorem member_add_spec (p0 : Hierarchy) (p1 : Task) (RES : Hierarchy × Int × Int) (hm : member_add p0 p1 = some RES) : Spec Try.prog 23 [.p (.agg [slOf 6 encNode (default : Node) p0.tree.nodes, vi p0.tree.next, slOf 4 encTask (default : Task) p0.tasks, vi p0.next]), .p (.agg [vi p1.id, vi p1.process, vi p1.group, vi p1.user])] [] (.tup [.agg [.own 0 0 0 RES.1.tree.nodes.length, .p (vi RES.1.tree.next), .own 1 0 0 RES.1.tasks.length, .p (vi RES.1.next)], .p (vi RES.2.1), .p (vi RES.2.2)]) [] [rowOf 6 encNode (default : Node) RES.1.tree.nodes, rowOf 4 encTask (default : Task) RES.1.tasks] := by
  unfold member_add at hm
  refine spec_of Tgood (T := Tt) Try.func23 (by decide) (c := _) rfl rfl (sl := [(0, .p (.agg [slOf 6 encNode (default : Node) p0.tree.nodes, vi p0.tree.next, slOf 4 encTask (default : Task) p0.tasks, vi p0.next])), (1, .p (.agg [vi p1.id, vi p1.process, vi p1.group, vi p1.user]))]) (ob := []) (Nat.le_of_ble_eq_true rfl) (Nat.le_of_ble_eq_true rfl) (by kernel_rfl) (by kernel_rfl) ?_
  intro cx hnt
  refine DW.start ?_
  refine DW.seq ?_
  refine DW.regE Tgood mixed hnt [.no, .no, .no, .no, .no] [2, 3, 4] [1016, 1024, 1032]
    [(2, .ref 1016 0 0), (3, .ref 1024 0 0), (4, .ref 1032 0 0)]
    [(1016, ⟨0, .box [.p (slOf 6 encNode (default : Node) p0.tree.nodes), .p (vi p0.tree.next), .p (slOf 4 encTask (default : Task) p0.tasks), .p (vi p0.next)]⟩), (1024, ⟨0, .box [.p (vi p1.id), .p (vi p1.process), .p (vi p1.group), .p (vi p1.user)]⟩), (1032, ⟨0, .box [.p (.sl .nil 0 0 (fun _ => [])), .p (vi 0), .p (.sl .nil 0 0 (fun _ => [])), .p (vi 0)]⟩)]
    [] (by kernel_rfl) trivial ?_
  refine DW.seq ?_
  refine DW.seq ?_
  refine DW.regJ (sl2 := [(2, .ref 1016 0 0), (3, .ref 1024 0 0), (4, .ref 1032 0 0), (16, .p (vb ((decide (((p0.tasks.length : Nat) : Int) ≥ 128)) || (decide (p0.next > 2147483647)))))]) (ob2 := [(1016, ⟨0, .box [.p (slOf 6 encNode (default : Node) p0.tree.nodes), .p (vi p0.tree.next), .p (slOf 4 encTask (default : Task) p0.tasks), .p (vi p0.next)]⟩), (1024, ⟨0, .box [.p (vi p1.id), .p (vi p1.process), .p (vi p1.group), .p (vi p1.user)]⟩), (1032, ⟨0, .box [.p (.sl .nil 0 0 (fun _ => [])), .p (vi 0), .p (.sl .nil 0 0 (fun _ => [])), .p (vi 0)]⟩)]) ?_ ?_
  ·
    rcases Bool.eq_false_or_eq_true (decide (((p0.tasks.length : Nat) : Int) ≥ 128)) with h1 | h1
    ·
      exact RegTo.mk Tgood mixed hnt [.no, .no, .no, .no, .no, .skip, .skip, .skip, .pk true] [2, 3, 4, 16] [1016, 1024, 1032]
        [(2, .ref 1016 0 0), (3, .ref 1024 0 0), (4, .ref 1032 0 0), (16, .p (vb true))]
        [(2, .ref 1016 0 0), (3, .ref 1024 0 0), (4, .ref 1032 0 0), (16, .p (vb ((decide (((p0.tasks.length : Nat) : Int) ≥ 128)) || (decide (p0.next > 2147483647)))))]
        [(1016, ⟨0, .box [.p (slOf 6 encNode (default : Node) p0.tree.nodes), .p (vi p0.tree.next), .p (slOf 4 encTask (default : Task) p0.tasks), .p (vi p0.next)]⟩), (1024, ⟨0, .box [.p (vi p1.id), .p (vi p1.process), .p (vi p1.group), .p (vi p1.user)]⟩), (1032, ⟨0, .box [.p (.sl .nil 0 0 (fun _ => [])), .p (vi 0), .p (.sl .nil 0 0 (fun _ => [])), .p (vi 0)]⟩)]
        [(1016, ⟨0, .box [.p (slOf 6 encNode (default : Node) p0.tree.nodes), .p (vi p0.tree.next), .p (slOf 4 encTask (default : Task) p0.tasks), .p (vi p0.next)]⟩), (1024, ⟨0, .box [.p (vi p1.id), .p (vi p1.process), .p (vi p1.group), .p (vi p1.user)]⟩), (1032, ⟨0, .box [.p (.sl .nil 0 0 (fun _ => [])), .p (vi 0), .p (.sl .nil 0 0 (fun _ => [])), .p (vi 0)]⟩)]
        [((decide (((p0.tasks.length : Nat) : Int) ≥ 128)) = true), ((decide (((p0.tasks.length : Nat) : Int) ≥ 128)) = true), ((decide (((p0.tasks.length : Nat) : Int) ≥ 128)) = true), ((decide (((p0.tasks.length : Nat) : Int) ≥ 128)) = true)] (by kernel_rfl) ⟨h1, h1, h1, h1, trivial⟩ (.cons .rfl (.cons .rfl (.cons .rfl (.cons (.of_eq (by first | (rw [h1]; done) | (rw [h1]; rfl) | simp [h1])) .rfl)))) .rfl
    ·
      exact RegTo.mk Tgood mixed hnt [.no, .no, .no, .no, .no, .no, .no, .no, .pk false] [2, 3, 4, 16] [1016, 1024, 1032]
        [(2, .ref 1016 0 0), (3, .ref 1024 0 0), (4, .ref 1032 0 0), (16, .p (vb (decide (p0.next > 2147483647))))]
        [(2, .ref 1016 0 0), (3, .ref 1024 0 0), (4, .ref 1032 0 0), (16, .p (vb ((decide (((p0.tasks.length : Nat) : Int) ≥ 128)) || (decide (p0.next > 2147483647)))))]
        [(1016, ⟨0, .box [.p (slOf 6 encNode (default : Node) p0.tree.nodes), .p (vi p0.tree.next), .p (slOf 4 encTask (default : Task) p0.tasks), .p (vi p0.next)]⟩), (1024, ⟨0, .box [.p (vi p1.id), .p (vi p1.process), .p (vi p1.group), .p (vi p1.user)]⟩), (1032, ⟨0, .box [.p (.sl .nil 0 0 (fun _ => [])), .p (vi 0), .p (.sl .nil 0 0 (fun _ => [])), .p (vi 0)]⟩)]
        [(1016, ⟨0, .box [.p (slOf 6 encNode (default : Node) p0.tree.nodes), .p (vi p0.tree.next), .p (slOf 4 encTask (default : Task) p0.tasks), .p (vi p0.next)]⟩), (1024, ⟨0, .box [.p (vi p1.id), .p (vi p1.process), .p (vi p1.group), .p (vi p1.user)]⟩), (1032, ⟨0, .box [.p (.sl .nil 0 0 (fun _ => [])), .p (vi 0), .p (.sl .nil 0 0 (fun _ => [])), .p (vi 0)]⟩)]
        [((decide (((p0.tasks.length : Nat) : Int) ≥ 128)) = false), ((decide (((p0.tasks.length : Nat) : Int) ≥ 128)) = false), ((decide (((p0.tasks.length : Nat) : Int) ≥ 128)) = false), ((decide (((p0.tasks.length : Nat) : Int) ≥ 128)) = false)] (by kernel_rfl) ⟨h1, h1, h1, h1, trivial⟩ (.cons .rfl (.cons .rfl (.cons .rfl (.cons (.of_eq (by first | (rw [h1]; done) | (rw [h1]; rfl) | simp [h1])) .rfl)))) .rfl
  ·
    refine DW.cond ((decide (((p0.tasks.length : Nat) : Int) ≥ 128)) || (decide (p0.next > 2147483647))) rfl rfl ?_ ?_
    ·
      intro h2
      replace hm := if_t h2 hm
      refine DW.seq ?_
      refine DW.regE Tgood mixed hnt [.no, .no, .no, .no] [4, 5, 6] [1032]
        [(4, .ref 1032 0 0), (5, .p (vi 0)), (6, .p (vi 7))]
        [(1032, ⟨0, .box [.p (.sl .nil 0 0 (fun _ => [])), .p (vi 0), .p (.sl .nil 0 0 (fun _ => [])), .p (vi 0)]⟩)]
        [] (by kernel_rfl) trivial ?_
      refine DW.conv (τ := mkSt [(4, .ref 1032 0 0), (5, .p (vi 0)), (6, .p (vi 7))] [(1032, ⟨0, .box [.own 100000 0 0 0, .p (vi 0), .own 100001 0 0 0, .p (vi 0)]⟩), (100000, ⟨0, rowOf 6 encNode (default : Node) []⟩), (100001, ⟨0, rowOf 4 encTask (default : Task) []⟩)]) (Conv.trans (τ := mkSt [(4, .ref 1032 0 0), (5, .p (vi 0)), (6, .p (vi 7))] ((100000, ⟨0, .row 6 0 (elems encNode (default : Node) [])⟩) :: [(1032, ⟨0, .box [.own 100000 0 0 0, .p (vi 0), .p (.sl .nil 0 0 (fun _ => [])), .p (vi 0)]⟩)])) (Conv.adopt 100000 6 (elems encNode (default : Node) []) rfl rfl (.rfl _) (.box (.cons (.nil _ _) (.cons (.rfl _) (.cons (.rfl _) (.cons (.rfl _) (.rfl _))))) (.rfl _))) (Conv.trans (τ := mkSt [(4, .ref 1032 0 0), (5, .p (vi 0)), (6, .p (vi 7))] [(1032, ⟨0, .box [.own 100000 0 0 0, .p (vi 0), .p (.sl .nil 0 0 (fun _ => [])), .p (vi 0)]⟩), (100000, ⟨0, rowOf 6 encNode (default : Node) []⟩)]) (Conv.to [4, 5, 6] [1032, 100000] [(4, .ref 1032 0 0), (5, .p (vi 0)), (6, .p (vi 7))] [(4, .ref 1032 0 0), (5, .p (vi 0)), (6, .p (vi 7))] [(1032, ⟨0, .box [.own 100000 0 0 0, .p (vi 0), .p (.sl .nil 0 0 (fun _ => [])), .p (vi 0)]⟩), (100000, ⟨0, rowOf 6 encNode (default : Node) []⟩)] [(1032, ⟨0, .box [.own 100000 0 0 0, .p (vi 0), .p (.sl .nil 0 0 (fun _ => [])), .p (vi 0)]⟩), (100000, ⟨0, rowOf 6 encNode (default : Node) []⟩)] (by kernel_rfl) (by kernel_rfl) .rfl .rfl) (Conv.trans (τ := mkSt [(4, .ref 1032 0 0), (5, .p (vi 0)), (6, .p (vi 7))] ((100001, ⟨0, .row 4 0 (elems encTask (default : Task) [])⟩) :: [(1032, ⟨0, .box [.own 100000 0 0 0, .p (vi 0), .own 100001 0 0 0, .p (vi 0)]⟩), (100000, ⟨0, rowOf 6 encNode (default : Node) []⟩)])) (Conv.adopt 100001 4 (elems encTask (default : Task) []) rfl rfl (.rfl _) (.box (.cons (.rfl _) (.cons (.rfl _) (.cons (.nil _ _) (.cons (.rfl _) (.rfl _))))) (.keep (.rfl _)))) (Conv.trans (τ := mkSt [(4, .ref 1032 0 0), (5, .p (vi 0)), (6, .p (vi 7))] [(1032, ⟨0, .box [.own 100000 0 0 0, .p (vi 0), .own 100001 0 0 0, .p (vi 0)]⟩), (100000, ⟨0, rowOf 6 encNode (default : Node) []⟩), (100001, ⟨0, rowOf 4 encTask (default : Task) []⟩)]) (Conv.to [4, 5, 6] [1032, 100000, 100001] [(4, .ref 1032 0 0), (5, .p (vi 0)), (6, .p (vi 7))] [(4, .ref 1032 0 0), (5, .p (vi 0)), (6, .p (vi 7))] [(1032, ⟨0, .box [.own 100000 0 0 0, .p (vi 0), .own 100001 0 0 0, .p (vi 0)]⟩), (100000, ⟨0, rowOf 6 encNode (default : Node) []⟩), (100001, ⟨0, rowOf 4 encTask (default : Task) []⟩)] [(1032, ⟨0, .box [.own 100000 0 0 0, .p (vi 0), .own 100001 0 0 0, .p (vi 0)]⟩), (100000, ⟨0, rowOf 6 encNode (default : Node) []⟩), (100001, ⟨0, rowOf 4 encTask (default : Task) []⟩)] (by kernel_rfl) (by kernel_rfl) .rfl .rfl) .refl)))) ?_
      refine DW.ret ?_
      obtain rfl := Option.some.inj hm
      refine retOK (bs' := [rowOf 6 encNode (default : Node) [], rowOf 4 encTask (default : Task) []]) [100000, 100001] (.tup [.agg [.own 0 0 0 0, .p (vi 0), .own 1 0 0 0, .p (vi 0)], .p (vi 0), .p (vi 7)]) (by kernel_rfl) ?_ ?_
      · rfl
      · rfl
    ·
      intro h2
      replace hm := if_f h2 hm
      refine DW.skip ?_
      refine DW.seq ?_
      obtain ⟨r3, hr3, hm⟩ := bind_open hm
      refine DW.regE Tgood mixed hnt [.no, .call 41 [] true (.agg [.own 0 0 0 r3.tree.nodes.length, .p (vi r3.tree.next), .own 1 0 0 r3.tasks.length, .p (vi r3.next)]) [] [rowOf 6 encNode (default : Node) r3.tree.nodes, rowOf 4 encTask (default : Task) r3.tasks], .no, .no] [2, 3, 4, 7] [1016, 1024, 1032, 1056, 1152, 1153]
        [(2, .ref 1016 0 0), (3, .ref 1024 0 0), (4, .ref 1032 0 0), (7, .ref 1056 0 0)]
        [(1016, ⟨0, .box [.p (slOf 6 encNode (default : Node) p0.tree.nodes), .p (vi p0.tree.next), .p (slOf 4 encTask (default : Task) p0.tasks), .p (vi p0.next)]⟩), (1024, ⟨0, .box [.p (vi p1.id), .p (vi p1.process), .p (vi p1.group), .p (vi p1.user)]⟩), (1032, ⟨0, .box [.p (.sl .nil 0 0 (fun _ => [])), .p (vi 0), .p (.sl .nil 0 0 (fun _ => [])), .p (vi 0)]⟩), (1056, ⟨0, .box [.own 1152 0 0 r3.tree.nodes.length, .p (vi r3.tree.next), .own 1153 0 0 r3.tasks.length, .p (vi r3.next)]⟩), (1152, ⟨0, rowOf 6 encNode (default : Node) r3.tree.nodes⟩), (1153, ⟨0, rowOf 4 encTask (default : Task) r3.tasks⟩)]
        [(Spec Try.prog 41 [.p (.agg [slOf 6 encNode (default : Node) p0.tree.nodes, vi p0.tree.next, slOf 4 encTask (default : Task) p0.tasks, vi p0.next])] [] (.agg [.own 0 0 0 r3.tree.nodes.length, .p (vi r3.tree.next), .own 1 0 0 r3.tasks.length, .p (vi r3.next)]) [] [rowOf 6 encNode (default : Node) r3.tree.nodes, rowOf 4 encTask (default : Task) r3.tasks])] (by kernel_rfl) ⟨(crew_Copy_spec p0 r3 hr3), trivial⟩ ?_
      refine DW.seq ?_
      refine DW.regE Tgood mixed hnt [.no, .no, .no, .no] [3, 4, 7] [1024, 1032, 1056, 1152, 1153]
        [(3, .ref 1024 0 0), (4, .ref 1032 0 0), (7, .ref 1056 0 0)]
        [(1024, ⟨0, .box [.p (vi p0.next), .p (vi p1.process), .p (vi p1.group), .p (vi p1.user)]⟩), (1032, ⟨0, .box [.p (.sl .nil 0 0 (fun _ => [])), .p (vi 0), .p (.sl .nil 0 0 (fun _ => [])), .p (vi 0)]⟩), (1056, ⟨0, .box [.own 1152 0 0 r3.tree.nodes.length, .p (vi r3.tree.next), .own 1153 0 0 r3.tasks.length, .p (vi r3.next)]⟩), (1152, ⟨0, rowOf 6 encNode (default : Node) r3.tree.nodes⟩), (1153, ⟨0, rowOf 4 encTask (default : Task) r3.tasks⟩)]
        [] (by kernel_rfl) trivial ?_
      refine DW.seq ?_
      refine DW.seq ?_
      refine DW.regE Tgood mixed hnt [.no, .no, .no] [3, 4, 7, 25] [1024, 1032, 1056, 1152, 1153]
        [(3, .ref 1024 0 0), (4, .ref 1032 0 0), (7, .ref 1056 0 0), (25, .p (vb (p1.process == 0)))]
        [(1024, ⟨0, .box [.p (vi p0.next), .p (vi p1.process), .p (vi p1.group), .p (vi p1.user)]⟩), (1032, ⟨0, .box [.p (.sl .nil 0 0 (fun _ => [])), .p (vi 0), .p (.sl .nil 0 0 (fun _ => [])), .p (vi 0)]⟩), (1056, ⟨0, .box [.own 1152 0 0 r3.tree.nodes.length, .p (vi r3.tree.next), .own 1153 0 0 r3.tasks.length, .p (vi r3.next)]⟩), (1152, ⟨0, rowOf 6 encNode (default : Node) r3.tree.nodes⟩), (1153, ⟨0, rowOf 4 encTask (default : Task) r3.tasks⟩)]
        [] (by kernel_rfl) trivial ?_
      refine DW.join (ι := Task) (fun (y1 : Task) => mkSt [(3, .ref 1024 0 0), (4, .ref 1032 0 0), (7, .ref 1056 0 0)] [(1024, ⟨0, .box [.p (vi y1.id), .p (vi y1.process), .p (vi y1.group), .p (vi y1.user)]⟩), (1032, ⟨0, .box [.p (.sl .nil 0 0 (fun _ => [])), .p (vi 0), .p (.sl .nil 0 0 (fun _ => [])), .p (vi 0)]⟩), (1056, ⟨0, .box [.own 1152 0 0 r3.tree.nodes.length, .p (vi r3.tree.next), .own 1153 0 0 r3.tasks.length, .p (vi r3.next)]⟩), (1152, ⟨0, rowOf 6 encNode (default : Node) r3.tree.nodes⟩), (1153, ⟨0, rowOf 4 encTask (default : Task) r3.tasks⟩)]) (fun y1 => (member_add_j1 r3) y1 = some RES) ?_ ?_
      · intro y1 hm
        unfold member_add_j1 at hm
        refine DW.seq ?_
        obtain ⟨g5, hm⟩ := guard_open hm
        refine DW.reg Tgood mixed hnt [.no, .no, .no, .no, .no, .no, .no] [3, 4, 7] [1024, 1032, 1056, 1152, 1153]
          [(3, .ref 1024 0 0), (4, .ref 1032 0 0), (7, .ref 1056 0 0)]
          [(3, .ref 1024 0 0), (4, .ref 1032 0 0), (7, .ref 1056 0 0)]
          [(1024, ⟨0, .box [.p (vi y1.id), .p (vi y1.process), .p (vi y1.group), .p (vi y1.user)]⟩), (1032, ⟨0, .box [.p (.sl .nil 0 0 (fun _ => [])), .p (vi 0), .p (.sl .nil 0 0 (fun _ => [])), .p (vi 0)]⟩), (1056, ⟨0, .box [.own 1152 0 0 r3.tree.nodes.length, .p (vi r3.tree.next), .own 1153 0 0 (r3.tasks.length + 1), .p (vi r3.next)]⟩), (1152, ⟨0, rowOf 6 encNode (default : Node) r3.tree.nodes⟩), (1153, ⟨0, .row 4 (r3.tasks.length + 1) (catF r3.tasks.length (elems encTask (default : Task) r3.tasks) (cut 4 [vi y1.id, vi y1.process, vi y1.group, vi y1.user]))⟩)]
          [(1024, ⟨0, .box [.p (vi y1.id), .p (vi y1.process), .p (vi y1.group), .p (vi y1.user)]⟩), (1032, ⟨0, .box [.p (.sl .nil 0 0 (fun _ => [])), .p (vi 0), .p (.sl .nil 0 0 (fun _ => [])), .p (vi 0)]⟩), (1056, ⟨0, .box [.own 1152 0 0 r3.tree.nodes.length, .p (vi r3.tree.next), .own 1153 0 0 (r3.tasks ++ [y1]).length, .p (vi r3.next)]⟩), (1152, ⟨0, rowOf 6 encNode (default : Node) r3.tree.nodes⟩), (1153, ⟨0, rowOf 4 encTask (default : Task) (r3.tasks ++ [y1])⟩)]
          [((r3.tasks.length + 1) * 32 ≤ 140737488355328)] (by kernel_rfl) ⟨(by omega), trivial⟩ .rfl (.cons .rfl (.cons .rfl (.cons (.box (.cons .rfl (.cons .rfl (.cons (MLe.ownLen (enc := encTask) (d := (default : Task)) (f := (catF r3.tasks.length (elems encTask (default : Task) r3.tasks) (cut 4 [vi y1.id, vi y1.process, vi y1.group, vi y1.user]))) (RowIs.cat RowIs.elems (RowIs.lit (enc := encTask) (d := (default : Task)) (n := 1) (f := (cut 4 [vi y1.id, vi y1.process, vi y1.group, vi y1.user])) [y1] rfl (fun | 0, _ => rfl | n + 1, h => absurd h (by omega))))) (.cons .rfl .nil))))) (.cons .rfl (.cons (BLe.typed (RowIs.cat RowIs.elems (RowIs.lit (enc := encTask) (d := (default : Task)) (n := 1) (f := (cut 4 [vi y1.id, vi y1.process, vi y1.group, vi y1.user])) [y1] rfl (fun | 0, _ => rfl | n + 1, h => absurd h (by omega))))) .rfl))))) ?_
        refine DW.seq ?_
        refine DW.regE Tgood mixed hnt [.no, .no, .no, .no, .no] [3, 4, 7] [1024, 1032, 1056, 1152, 1153]
          [(3, .ref 1024 0 0), (4, .ref 1032 0 0), (7, .ref 1056 0 0)]
          [(1024, ⟨0, .box [.p (vi y1.id), .p (vi y1.process), .p (vi y1.group), .p (vi y1.user)]⟩), (1032, ⟨0, .box [.p (.sl .nil 0 0 (fun _ => [])), .p (vi 0), .p (.sl .nil 0 0 (fun _ => [])), .p (vi 0)]⟩), (1056, ⟨0, .box [.own 1152 0 0 r3.tree.nodes.length, .p (vi r3.tree.next), .own 1153 0 0 (r3.tasks ++ [y1]).length, .p (vi (w64 (r3.next + 1)))]⟩), (1152, ⟨0, rowOf 6 encNode (default : Node) r3.tree.nodes⟩), (1153, ⟨0, rowOf 4 encTask (default : Task) (r3.tasks ++ [y1])⟩)]
          [] (by kernel_rfl) trivial ?_
        refine DW.seq ?_
        refine DW.regE Tgood mixed hnt [.no, .no, .no, .no, .no, .no] [4, 5, 6] [1032, 1152, 1153]
          [(4, .ref 1032 0 0), (5, .p (vi y1.id)), (6, .p (vi 0))]
          [(1032, ⟨0, .box [.own 1152 0 0 r3.tree.nodes.length, .p (vi r3.tree.next), .own 1153 0 0 (r3.tasks ++ [y1]).length, .p (vi (w64 (r3.next + 1)))]⟩), (1152, ⟨0, rowOf 6 encNode (default : Node) r3.tree.nodes⟩), (1153, ⟨0, rowOf 4 encTask (default : Task) (r3.tasks ++ [y1])⟩)]
          [] (by kernel_rfl) trivial ?_
        refine DW.ret ?_
        obtain rfl := Option.some.inj hm
        refine retOK (bs' := [rowOf 6 encNode (default : Node) r3.tree.nodes, rowOf 4 encTask (default : Task) (r3.tasks ++ [y1])]) [1152, 1153] (.tup [.agg [.own 0 0 0 r3.tree.nodes.length, .p (vi r3.tree.next), .own 1 0 0 (r3.tasks ++ [y1]).length, .p (vi (w64 (r3.next + 1)))], .p (vi y1.id), .p (vi 0)]) (by kernel_rfl) ?_ ?_
        · rfl
        · rfl
      ·
        refine DW.cond (p1.process == 0) rfl rfl ?_ ?_
        ·
          intro h4
          replace hm := if_t h4 hm
          refine DW.regE Tgood mixed hnt [.no, .no, .no, .no] [3, 4, 7] [1024, 1032, 1056, 1152, 1153]
            [(3, .ref 1024 0 0), (4, .ref 1032 0 0), (7, .ref 1056 0 0)]
            [(1024, ⟨0, .box [.p (vi p0.next), .p (vi p0.next), .p (vi p1.group), .p (vi p1.user)]⟩), (1032, ⟨0, .box [.p (.sl .nil 0 0 (fun _ => [])), .p (vi 0), .p (.sl .nil 0 0 (fun _ => [])), .p (vi 0)]⟩), (1056, ⟨0, .box [.own 1152 0 0 r3.tree.nodes.length, .p (vi r3.tree.next), .own 1153 0 0 r3.tasks.length, .p (vi r3.next)]⟩), (1152, ⟨0, rowOf 6 encNode (default : Node) r3.tree.nodes⟩), (1153, ⟨0, rowOf 4 encTask (default : Task) r3.tasks⟩)]
            [] (by kernel_rfl) trivial ?_
          exact joinDone ({ id := p0.next, process := p0.next, group := p1.group, user := p1.user } : Task) hm .refl
        ·
          intro h4
          replace hm := if_f h4 hm
          refine DW.skip ?_
          exact joinDone ({ id := p0.next, process := p1.process, group := p1.group, user := p1.user } : Task) hm (Conv.to [3, 4, 7] [1024, 1032, 1056, 1152, 1153] [(3, .ref 1024 0 0), (4, .ref 1032 0 0), (7, .ref 1056 0 0)] [(3, .ref 1024 0 0), (4, .ref 1032 0 0), (7, .ref 1056 0 0)] [(1024, ⟨0, .box [.p (vi p0.next), .p (vi p1.process), .p (vi p1.group), .p (vi p1.user)]⟩), (1032, ⟨0, .box [.p (.sl .nil 0 0 (fun _ => [])), .p (vi 0), .p (.sl .nil 0 0 (fun _ => [])), .p (vi 0)]⟩), (1056, ⟨0, .box [.own 1152 0 0 r3.tree.nodes.length, .p (vi r3.tree.next), .own 1153 0 0 r3.tasks.length, .p (vi r3.next)]⟩), (1152, ⟨0, rowOf 6 encNode (default : Node) r3.tree.nodes⟩), (1153, ⟨0, rowOf 4 encTask (default : Task) r3.tasks⟩)] [(1024, ⟨0, .box [.p (vi ({ id := p0.next, process := p1.process, group := p1.group, user := p1.user } : Task).id), .p (vi ({ id := p0.next, process := p1.process, group := p1.group, user := p1.user } : Task).process), .p (vi ({ id := p0.next, process := p1.process, group := p1.group, user := p1.user } : Task).group), .p (vi ({ id := p0.next, process := p1.process, group := p1.group, user := p1.user } : Task).user)]⟩), (1032, ⟨0, .box [.p (.sl .nil 0 0 (fun _ => [])), .p (vi 0), .p (.sl .nil 0 0 (fun _ => [])), .p (vi 0)]⟩), (1056, ⟨0, .box [.own 1152 0 0 r3.tree.nodes.length, .p (vi r3.tree.next), .own 1153 0 0 r3.tasks.length, .p (vi r3.next)]⟩), (1152, ⟨0, rowOf 6 encNode (default : Node) r3.tree.nodes⟩), (1153, ⟨0, rowOf 4 encTask (default : Task) r3.tasks⟩)] (by kernel_rfl) (by kernel_rfl) .rfl .rfl)

theorem member_Spawn_spec (p0 : Hierarchy) (p1 : Int) (p2 : Int) (RES : Hierarchy × Int × Int) (hm : member_Spawn p0 p1 p2 = some RES) : Spec Try.prog 6 [.p (.agg [slOf 6 encNode (default : Node) p0.tree.nodes, vi p0.tree.next, slOf 4 encTask (default : Task) p0.tasks, vi p0.next]), .p (vi p1), .p (vi p2)] [] (.tup [.agg [.own 0 0 0 RES.1.tree.nodes.length, .p (vi RES.1.tree.next), .own 1 0 0 RES.1.tasks.length, .p (vi RES.1.next)], .p (vi RES.2.1), .p (vi RES.2.2)]) [] [rowOf 6 encNode (default : Node) RES.1.tree.nodes, rowOf 4 encTask (default : Task) RES.1.tasks] := by
  unfold member_Spawn at hm
  refine spec_of Tgood (T := Tt) Try.func6 (by decide) (c := _) rfl rfl (sl := [(0, .p (.agg [slOf 6 encNode (default : Node) p0.tree.nodes, vi p0.tree.next, slOf 4 encTask (default : Task) p0.tasks, vi p0.next])), (1, .p (vi p1)), (2, .p (vi p2))]) (ob := []) (Nat.le_of_ble_eq_true rfl) (Nat.le_of_ble_eq_true rfl) (by kernel_rfl) (by kernel_rfl) ?_
  intro cx hnt
  refine DW.start ?_
  refine DW.seq ?_
  refine DW.regE Tgood mixed hnt [.no, .no, .no, .no] [1, 2, 3, 6] [1024, 1048]
    [(1, .p (vi p1)), (2, .p (vi p2)), (3, .ref 1024 0 0), (6, .ref 1048 0 0)]
    [(1024, ⟨0, .box [.p (slOf 6 encNode (default : Node) p0.tree.nodes), .p (vi p0.tree.next), .p (slOf 4 encTask (default : Task) p0.tasks), .p (vi p0.next)]⟩), (1048, ⟨0, .box [.p (.sl .nil 0 0 (fun _ => [])), .p (vi 0), .p (.sl .nil 0 0 (fun _ => [])), .p (vi 0)]⟩)]
    [] (by kernel_rfl) trivial ?_
  refine DW.seq ?_
  refine DW.seq ?_
  obtain ⟨r1, hr1, hm⟩ := bind_open hm
  refine DW.join (ι := Bool) (fun (y1 : Bool) => mkSt [(1, .p (vi p1)), (2, .p (vi p2)), (3, .ref 1024 0 0), (6, .ref 1048 0 0), (19, .p (vb y1))] [(1024, ⟨0, .box [.p (slOf 6 encNode (default : Node) p0.tree.nodes), .p (vi p0.tree.next), .p (slOf 4 encTask (default : Task) p0.tasks), .p (vi p0.next)]⟩), (1048, ⟨0, .box [.p (.sl .nil 0 0 (fun _ => [])), .p (vi 0), .p (.sl .nil 0 0 (fun _ => [])), .p (vi 0)]⟩)]) (fun y1 => (member_Spawn_j1 p0 p1 p2) y1 = some RES) ?_ ?_
  · intro y1 hm
    unfold member_Spawn_j1 at hm
    refine DW.cond y1 rfl rfl ?_ ?_
    ·
      intro h4
      replace hm := if_t h4 hm
      refine DW.seq ?_
      refine DW.regE Tgood mixed hnt [.no, .no, .no, .no] [6, 7, 8] [1048]
        [(6, .ref 1048 0 0), (7, .p (vi 0)), (8, .p (vi 1))]
        [(1048, ⟨0, .box [.p (.sl .nil 0 0 (fun _ => [])), .p (vi 0), .p (.sl .nil 0 0 (fun _ => [])), .p (vi 0)]⟩)]
        [] (by kernel_rfl) trivial ?_
      refine DW.conv (τ := mkSt [(6, .ref 1048 0 0), (7, .p (vi 0)), (8, .p (vi 1))] [(1048, ⟨0, .box [.own 100000 0 0 0, .p (vi 0), .own 100001 0 0 0, .p (vi 0)]⟩), (100000, ⟨0, rowOf 6 encNode (default : Node) []⟩), (100001, ⟨0, rowOf 4 encTask (default : Task) []⟩)]) (Conv.trans (τ := mkSt [(6, .ref 1048 0 0), (7, .p (vi 0)), (8, .p (vi 1))] ((100000, ⟨0, .row 6 0 (elems encNode (default : Node) [])⟩) :: [(1048, ⟨0, .box [.own 100000 0 0 0, .p (vi 0), .p (.sl .nil 0 0 (fun _ => [])), .p (vi 0)]⟩)])) (Conv.adopt 100000 6 (elems encNode (default : Node) []) rfl rfl (.rfl _) (.box (.cons (.nil _ _) (.cons (.rfl _) (.cons (.rfl _) (.cons (.rfl _) (.rfl _))))) (.rfl _))) (Conv.trans (τ := mkSt [(6, .ref 1048 0 0), (7, .p (vi 0)), (8, .p (vi 1))] [(1048, ⟨0, .box [.own 100000 0 0 0, .p (vi 0), .p (.sl .nil 0 0 (fun _ => [])), .p (vi 0)]⟩), (100000, ⟨0, rowOf 6 encNode (default : Node) []⟩)]) (Conv.to [6, 7, 8] [1048, 100000] [(6, .ref 1048 0 0), (7, .p (vi 0)), (8, .p (vi 1))] [(6, .ref 1048 0 0), (7, .p (vi 0)), (8, .p (vi 1))] [(1048, ⟨0, .box [.own 100000 0 0 0, .p (vi 0), .p (.sl .nil 0 0 (fun _ => [])), .p (vi 0)]⟩), (100000, ⟨0, rowOf 6 encNode (default : Node) []⟩)] [(1048, ⟨0, .box [.own 100000 0 0 0, .p (vi 0), .p (.sl .nil 0 0 (fun _ => [])), .p (vi 0)]⟩), (100000, ⟨0, rowOf 6 encNode (default : Node) []⟩)] (by kernel_rfl) (by kernel_rfl) .rfl .rfl) (Conv.trans (τ := mkSt [(6, .ref 1048 0 0), (7, .p (vi 0)), (8, .p (vi 1))] ((100001, ⟨0, .row 4 0 (elems encTask (default : Task) [])⟩) :: [(1048, ⟨0, .box [.own 100000 0 0 0, .p (vi 0), .own 100001 0 0 0, .p (vi 0)]⟩), (100000, ⟨0, rowOf 6 encNode (default : Node) []⟩)])) (Conv.adopt 100001 4 (elems encTask (default : Task) []) rfl rfl (.rfl _) (.box (.cons (.rfl _) (.cons (.rfl _) (.cons (.nil _ _) (.cons (.rfl _) (.rfl _))))) (.keep (.rfl _)))) (Conv.trans (τ := mkSt [(6, .ref 1048 0 0), (7, .p (vi 0)), (8, .p (vi 1))] [(1048, ⟨0, .box [.own 100000 0 0 0, .p (vi 0), .own 100001 0 0 0, .p (vi 0)]⟩), (100000, ⟨0, rowOf 6 encNode (default : Node) []⟩), (100001, ⟨0, rowOf 4 encTask (default : Task) []⟩)]) (Conv.to [6, 7, 8] [1048, 100000, 100001] [(6, .ref 1048 0 0), (7, .p (vi 0)), (8, .p (vi 1))] [(6, .ref 1048 0 0), (7, .p (vi 0)), (8, .p (vi 1))] [(1048, ⟨0, .box [.own 100000 0 0 0, .p (vi 0), .own 100001 0 0 0, .p (vi 0)]⟩), (100000, ⟨0, rowOf 6 encNode (default : Node) []⟩), (100001, ⟨0, rowOf 4 encTask (default : Task) []⟩)] [(1048, ⟨0, .box [.own 100000 0 0 0, .p (vi 0), .own 100001 0 0 0, .p (vi 0)]⟩), (100000, ⟨0, rowOf 6 encNode (default : Node) []⟩), (100001, ⟨0, rowOf 4 encTask (default : Task) []⟩)] (by kernel_rfl) (by kernel_rfl) .rfl .rfl) .refl)))) ?_
      refine DW.ret ?_
      obtain rfl := Option.some.inj hm
      refine retOK (bs' := [rowOf 6 encNode (default : Node) [], rowOf 4 encTask (default : Task) []]) [100000, 100001] (.tup [.agg [.own 0 0 0 0, .p (vi 0), .own 1 0 0 0, .p (vi 0)], .p (vi 0), .p (vi 1)]) (by kernel_rfl) ?_ ?_
      · rfl
      · rfl
    ·
      intro h4
      replace hm := if_f h4 hm
      refine DW.skip ?_
      refine DW.seq ?_
      refine DW.seq ?_
      obtain ⟨r5, hr5, hm⟩ := bind_open hm
      refine DW.regE Tgood mixed hnt [.no, .no, .no, .call 22 [] true (.p (vi r5)) [] [], .no] [1, 2, 3, 6, 25] [1024, 1048]
        [(1, .p (vi p1)), (2, .p (vi p2)), (3, .ref 1024 0 0), (6, .ref 1048 0 0), (25, .p (vb (decide (r5 < 0))))]
        [(1024, ⟨0, .box [.p (slOf 6 encNode (default : Node) p0.tree.nodes), .p (vi p0.tree.next), .p (slOf 4 encTask (default : Task) p0.tasks), .p (vi p0.next)]⟩), (1048, ⟨0, .box [.p (.sl .nil 0 0 (fun _ => [])), .p (vi 0), .p (.sl .nil 0 0 (fun _ => [])), .p (vi 0)]⟩)]
        [(Spec Try.prog 22 [.p (.agg [slOf 6 encNode (default : Node) p0.tree.nodes, vi p0.tree.next]), .p (vi p1)] [] (.p (vi r5)) [] [])] (by kernel_rfl) ⟨(forest_At_spec p0.tree p1 r5 hr5), trivial⟩ ?_
      refine DW.cond (decide (r5 < 0)) rfl rfl ?_ ?_
      ·
        intro h6
        replace hm := if_t h6 hm
        refine DW.seq ?_
        refine DW.regE Tgood mixed hnt [.no, .no, .no, .no] [6, 7, 8] [1048]
          [(6, .ref 1048 0 0), (7, .p (vi 0)), (8, .p (vi 4))]
          [(1048, ⟨0, .box [.p (.sl .nil 0 0 (fun _ => [])), .p (vi 0), .p (.sl .nil 0 0 (fun _ => [])), .p (vi 0)]⟩)]
          [] (by kernel_rfl) trivial ?_
        refine DW.conv (τ := mkSt [(6, .ref 1048 0 0), (7, .p (vi 0)), (8, .p (vi 4))] [(1048, ⟨0, .box [.own 100000 0 0 0, .p (vi 0), .own 100001 0 0 0, .p (vi 0)]⟩), (100000, ⟨0, rowOf 6 encNode (default : Node) []⟩), (100001, ⟨0, rowOf 4 encTask (default : Task) []⟩)]) (Conv.trans (τ := mkSt [(6, .ref 1048 0 0), (7, .p (vi 0)), (8, .p (vi 4))] ((100000, ⟨0, .row 6 0 (elems encNode (default : Node) [])⟩) :: [(1048, ⟨0, .box [.own 100000 0 0 0, .p (vi 0), .p (.sl .nil 0 0 (fun _ => [])), .p (vi 0)]⟩)])) (Conv.adopt 100000 6 (elems encNode (default : Node) []) rfl rfl (.rfl _) (.box (.cons (.nil _ _) (.cons (.rfl _) (.cons (.rfl _) (.cons (.rfl _) (.rfl _))))) (.rfl _))) (Conv.trans (τ := mkSt [(6, .ref 1048 0 0), (7, .p (vi 0)), (8, .p (vi 4))] [(1048, ⟨0, .box [.own 100000 0 0 0, .p (vi 0), .p (.sl .nil 0 0 (fun _ => [])), .p (vi 0)]⟩), (100000, ⟨0, rowOf 6 encNode (default : Node) []⟩)]) (Conv.to [6, 7, 8] [1048, 100000] [(6, .ref 1048 0 0), (7, .p (vi 0)), (8, .p (vi 4))] [(6, .ref 1048 0 0), (7, .p (vi 0)), (8, .p (vi 4))] [(1048, ⟨0, .box [.own 100000 0 0 0, .p (vi 0), .p (.sl .nil 0 0 (fun _ => [])), .p (vi 0)]⟩), (100000, ⟨0, rowOf 6 encNode (default : Node) []⟩)] [(1048, ⟨0, .box [.own 100000 0 0 0, .p (vi 0), .p (.sl .nil 0 0 (fun _ => [])), .p (vi 0)]⟩), (100000, ⟨0, rowOf 6 encNode (default : Node) []⟩)] (by kernel_rfl) (by kernel_rfl) .rfl .rfl) (Conv.trans (τ := mkSt [(6, .ref 1048 0 0), (7, .p (vi 0)), (8, .p (vi 4))] ((100001, ⟨0, .row 4 0 (elems encTask (default : Task) [])⟩) :: [(1048, ⟨0, .box [.own 100000 0 0 0, .p (vi 0), .own 100001 0 0 0, .p (vi 0)]⟩), (100000, ⟨0, rowOf 6 encNode (default : Node) []⟩)])) (Conv.adopt 100001 4 (elems encTask (default : Task) []) rfl rfl (.rfl _) (.box (.cons (.rfl _) (.cons (.rfl _) (.cons (.nil _ _) (.cons (.rfl _) (.rfl _))))) (.keep (.rfl _)))) (Conv.trans (τ := mkSt [(6, .ref 1048 0 0), (7, .p (vi 0)), (8, .p (vi 4))] [(1048, ⟨0, .box [.own 100000 0 0 0, .p (vi 0), .own 100001 0 0 0, .p (vi 0)]⟩), (100000, ⟨0, rowOf 6 encNode (default : Node) []⟩), (100001, ⟨0, rowOf 4 encTask (default : Task) []⟩)]) (Conv.to [6, 7, 8] [1048, 100000, 100001] [(6, .ref 1048 0 0), (7, .p (vi 0)), (8, .p (vi 4))] [(6, .ref 1048 0 0), (7, .p (vi 0)), (8, .p (vi 4))] [(1048, ⟨0, .box [.own 100000 0 0 0, .p (vi 0), .own 100001 0 0 0, .p (vi 0)]⟩), (100000, ⟨0, rowOf 6 encNode (default : Node) []⟩), (100001, ⟨0, rowOf 4 encTask (default : Task) []⟩)] [(1048, ⟨0, .box [.own 100000 0 0 0, .p (vi 0), .own 100001 0 0 0, .p (vi 0)]⟩), (100000, ⟨0, rowOf 6 encNode (default : Node) []⟩), (100001, ⟨0, rowOf 4 encTask (default : Task) []⟩)] (by kernel_rfl) (by kernel_rfl) .rfl .rfl) .refl)))) ?_
        refine DW.ret ?_
        obtain rfl := Option.some.inj hm
        refine retOK (bs' := [rowOf 6 encNode (default : Node) [], rowOf 4 encTask (default : Task) []]) [100000, 100001] (.tup [.agg [.own 0 0 0 0, .p (vi 0), .own 1 0 0 0, .p (vi 0)], .p (vi 0), .p (vi 4)]) (by kernel_rfl) ?_ ?_
        · rfl
        · rfl
      ·
        intro h6
        replace hm := if_f h6 hm
        refine DW.skip ?_
        refine DW.seq ?_
        obtain ⟨r7, hr7, hm⟩ := bind_open hm
        refine DW.regE Tgood mixed hnt [.no, .no, .no, .no, .call 23 [] true (.tup [.agg [.own 0 0 0 r7.1.tree.nodes.length, .p (vi r7.1.tree.next), .own 1 0 0 r7.1.tasks.length, .p (vi r7.1.next)], .p (vi r7.2.1), .p (vi r7.2.2)]) [] [rowOf 6 encNode (default : Node) r7.1.tree.nodes, rowOf 4 encTask (default : Task) r7.1.tasks], .no, .no, .no, .no, .no, .no] [6, 7, 8] [1048, 1248, 1249]
          [(6, .ref 1048 0 0), (7, .p (vi r7.2.1)), (8, .p (vi r7.2.2))]
          [(1048, ⟨0, .box [.own 1248 0 0 r7.1.tree.nodes.length, .p (vi r7.1.tree.next), .own 1249 0 0 r7.1.tasks.length, .p (vi r7.1.next)]⟩), (1248, ⟨0, rowOf 6 encNode (default : Node) r7.1.tree.nodes⟩), (1249, ⟨0, rowOf 4 encTask (default : Task) r7.1.tasks⟩)]
          [(Spec Try.prog 23 [.p (.agg [slOf 6 encNode (default : Node) p0.tree.nodes, vi p0.tree.next, slOf 4 encTask (default : Task) p0.tasks, vi p0.next]), .p (.agg [vi ({ id := 0, process := 0, group := p1, user := p2 } : Task).id, vi ({ id := 0, process := 0, group := p1, user := p2 } : Task).process, vi ({ id := 0, process := 0, group := p1, user := p2 } : Task).group, vi ({ id := 0, process := 0, group := p1, user := p2 } : Task).user])] [] (.tup [.agg [.own 0 0 0 r7.1.tree.nodes.length, .p (vi r7.1.tree.next), .own 1 0 0 r7.1.tasks.length, .p (vi r7.1.next)], .p (vi r7.2.1), .p (vi r7.2.2)]) [] [rowOf 6 encNode (default : Node) r7.1.tree.nodes, rowOf 4 encTask (default : Task) r7.1.tasks])] (by kernel_rfl) ⟨(member_add_spec p0 ({ id := 0, process := 0, group := p1, user := p2 } : Task) r7 hr7), trivial⟩ ?_
        refine DW.ret ?_
        obtain rfl := Option.some.inj hm
        refine retOK (bs' := [rowOf 6 encNode (default : Node) r7.1.tree.nodes, rowOf 4 encTask (default : Task) r7.1.tasks]) [1248, 1249] (.tup [.agg [.own 0 0 0 r7.1.tree.nodes.length, .p (vi r7.1.tree.next), .own 1 0 0 r7.1.tasks.length, .p (vi r7.1.next)], .p (vi r7.2.1), .p (vi r7.2.2)]) (by kernel_rfl) ?_ ?_
        · rfl
        · rfl
  ·
    rcases Bool.eq_false_or_eq_true (!r1) with h2 | h2
    ·
      replace hm := if_t h2 hm
      refine DW.regE Tgood mixed hnt [.no, .call 21 [] true (.p (vb r1)) [] [], .no, .no, .skip, .skip, .pk true, .no, .skip, .skip, .pk true] [1, 2, 3, 6, 19] [1024, 1048]
        [(1, .p (vi p1)), (2, .p (vi p2)), (3, .ref 1024 0 0), (6, .ref 1048 0 0), (19, .p (vb true))]
        [(1024, ⟨0, .box [.p (slOf 6 encNode (default : Node) p0.tree.nodes), .p (vi p0.tree.next), .p (slOf 4 encTask (default : Task) p0.tasks), .p (vi p0.next)]⟩), (1048, ⟨0, .box [.p (.sl .nil 0 0 (fun _ => [])), .p (vi 0), .p (.sl .nil 0 0 (fun _ => [])), .p (vi 0)]⟩)]
        [(Spec Try.prog 21 [.p (.agg [slOf 6 encNode (default : Node) p0.tree.nodes, vi p0.tree.next, slOf 4 encTask (default : Task) p0.tasks, vi p0.next])] [] (.p (vb r1)) [] []), ((!r1) = true), ((!r1) = true), ((!r1) = true), (true = true), (true = true), (true = true)] (by kernel_rfl) ⟨(member_Check_spec p0 r1 hr1), h2, h2, h2, rfl, rfl, rfl, trivial⟩ ?_
      exact joinDone true hm .refl
    ·
      replace hm := if_f h2 hm
      rcases Bool.eq_false_or_eq_true (decide (p2 < 0)) with h3 | h3
      ·
        replace hm := if_t h3 hm
        refine DW.regE Tgood mixed hnt [.no, .call 21 [] true (.p (vb r1)) [] [], .no, .no, .no, .no, .pk false, .no, .skip, .skip, .pk true] [1, 2, 3, 6, 19] [1024, 1048]
          [(1, .p (vi p1)), (2, .p (vi p2)), (3, .ref 1024 0 0), (6, .ref 1048 0 0), (19, .p (vb true))]
          [(1024, ⟨0, .box [.p (slOf 6 encNode (default : Node) p0.tree.nodes), .p (vi p0.tree.next), .p (slOf 4 encTask (default : Task) p0.tasks), .p (vi p0.next)]⟩), (1048, ⟨0, .box [.p (.sl .nil 0 0 (fun _ => [])), .p (vi 0), .p (.sl .nil 0 0 (fun _ => [])), .p (vi 0)]⟩)]
          [(Spec Try.prog 21 [.p (.agg [slOf 6 encNode (default : Node) p0.tree.nodes, vi p0.tree.next, slOf 4 encTask (default : Task) p0.tasks, vi p0.next])] [] (.p (vb r1)) [] []), ((!r1) = false), ((!r1) = false), ((!r1) = false), ((decide (p2 < 0)) = true), ((decide (p2 < 0)) = true), ((decide (p2 < 0)) = true)] (by kernel_rfl) ⟨(member_Check_spec p0 r1 hr1), h2, h2, h2, h3, h3, h3, trivial⟩ ?_
        exact joinDone true hm .refl
      ·
        replace hm := if_f h3 hm
        refine DW.regE Tgood mixed hnt [.no, .call 21 [] true (.p (vb r1)) [] [], .no, .no, .no, .no, .pk false, .no, .no, .no, .pk false] [1, 2, 3, 6, 19] [1024, 1048]
          [(1, .p (vi p1)), (2, .p (vi p2)), (3, .ref 1024 0 0), (6, .ref 1048 0 0), (19, .p (vb (decide (p2 > 1048576))))]
          [(1024, ⟨0, .box [.p (slOf 6 encNode (default : Node) p0.tree.nodes), .p (vi p0.tree.next), .p (slOf 4 encTask (default : Task) p0.tasks), .p (vi p0.next)]⟩), (1048, ⟨0, .box [.p (.sl .nil 0 0 (fun _ => [])), .p (vi 0), .p (.sl .nil 0 0 (fun _ => [])), .p (vi 0)]⟩)]
          [(Spec Try.prog 21 [.p (.agg [slOf 6 encNode (default : Node) p0.tree.nodes, vi p0.tree.next, slOf 4 encTask (default : Task) p0.tasks, vi p0.next])] [] (.p (vb r1)) [] []), ((!r1) = false), ((!r1) = false), ((!r1) = false), ((decide (p2 < 0)) = false), ((decide (p2 < 0)) = false), ((decide (p2 < 0)) = false)] (by kernel_rfl) ⟨(member_Check_spec p0 r1 hr1), h2, h2, h2, h3, h3, h3, trivial⟩ ?_
        exact joinDone (decide (p2 > 1048576)) hm .refl
end Go.Dm
