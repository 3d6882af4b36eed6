/- Texts of the proof of MemberLimits: the data machine, the models of the Go functions, their contracts. -/
import Derived.Test.YtdckdjkjjmadeaaMemberLimitsA3
set_option linter.unusedVariables false
set_option linter.unusedSimpArgs false
/- Go functions compute their models, printed by a program. -/
namespace Go.Dm
open Go.Proofs
set_option linter.unusedVariables false
theorem ref6_Check_spec (p0 : Hierarchy) (RES : Bool) (hm : ref6_Check p0 = some RES) : Spec Try.prog 24 [.p (.agg [slOf 6 encNode (default : Node) p0.tree.nodes, vi p0.tree.next, slOf 4 encTask (default : Task) p0.tasks, vi p0.next])] [] (.p (vb RES)) [] [] := by
  unfold ref6_Check at hm
  refine spec_of Tgood (T := Tt) Try.func24 (by decide) (c := _) rfl rfl (sl := [(0, .p (.agg [slOf 6 encNode (default : Node) p0.tree.nodes, vi p0.tree.next, slOf 4 encTask (default : Task) p0.tasks, vi p0.next]))]) (ob := []) (Nat.le_of_ble_eq_true rfl) (Nat.le_of_ble_eq_true rfl) (by kernel_rfl) (by kernel_rfl) ?_
  intro cx hnt
  refine DW.start ?_
  refine DW.seq ?_
  refine DW.regE Tgood mixed hnt [.no, .no] [1] [1008]
    [(1, .ref 1008 0 0)]
    [(1008, ⟨0, .box [.p (slOf 6 encNode (default : Node) p0.tree.nodes), .p (vi p0.tree.next), .p (slOf 4 encTask (default : Task) p0.tasks), .p (vi p0.next)]⟩)]
    [] (by kernel_rfl) trivial ?_
  refine DW.seq ?_
  refine DW.regE Tgood mixed hnt [.no, .no, .no, .no] [1, 3] [1008]
    [(1, .ref 1008 0 0), (3, .p (vi ((p0.tasks.length : Nat) : Int)))]
    [(1008, ⟨0, .box [.p (slOf 6 encNode (default : Node) p0.tree.nodes), .p (vi p0.tree.next), .p (slOf 4 encTask (default : Task) p0.tasks), .p (vi p0.next)]⟩)]
    [] (by kernel_rfl) trivial ?_
  refine DW.seq ?_
  refine DW.seq ?_
  obtain ⟨r1, hr1, hm⟩ := bind_open hm
  refine DW.join (ι := Bool) (fun (y1 : Bool) => mkSt [(1, .ref 1008 0 0), (3, .p (vi ((p0.tasks.length : Nat) : Int))), (44, .p (vb y1))] [(1008, ⟨0, .box [.p (slOf 6 encNode (default : Node) p0.tree.nodes), .p (vi p0.tree.next), .p (slOf 4 encTask (default : Task) p0.tasks), .p (vi p0.next)]⟩)]) (fun y1 => (ref6_Check_j1 p0) y1 = some RES) ?_ ?_
  · intro y1 hm
    unfold ref6_Check_j1 at hm
    refine DW.cond y1 rfl rfl ?_ ?_
    ·
      intro h8
      replace hm := if_t h8 hm
      refine DW.seq ?_
      refine DW.regE Tgood mixed hnt [.no] [2] []
        [(2, .p (vb false))]
        []
        [] (by kernel_rfl) trivial ?_
      refine DW.ret ?_
      obtain rfl := Option.some.inj hm
      refine retOK (bs' := []) [] (.p (vb false)) (by kernel_rfl) ?_ ?_
      · rfl
      · rfl
    ·
      intro h8
      replace hm := if_f h8 hm
      refine DW.skip ?_
      refine DW.seq ?_
      refine DW.seq ?_
      refine DW.regE Tgood mixed hnt [.no] [1, 3, 4] [1008]
        [(1, .ref 1008 0 0), (3, .p (vi ((p0.tasks.length : Nat) : Int))), (4, .p (vi 0))]
        [(1008, ⟨0, .box [.p (slOf 6 encNode (default : Node) p0.tree.nodes), .p (vi p0.tree.next), .p (slOf 4 encTask (default : Task) p0.tasks), .p (vi p0.next)]⟩)]
        [] (by kernel_rfl) trivial ?_
      refine DW.block ?_
      obtain ⟨hc1, hm⟩ := guard_open hm
      refine DW.rangeO (fun (k1 : Nat) (s1 : Unit) => mkSt [(1, .ref 1008 0 0), (3, .p (vi ((p0.tasks.length : Nat) : Int))), (4, .p (vi ((k1 : Nat) : Int)))] [(1008, ⟨0, .box [.p (slOf 6 encNode (default : Node) p0.tree.nodes), .p (vi p0.tree.next), .p (slOf 4 encTask (default : Task) p0.tasks), .p (vi p0.next)]⟩)]) (default : Task) hm .refl ?_
      intro k1 s1 n1 hk1 hs1 he1
      refine DW.seq ?_
      refine DW.seq ?_
      refine DW.regE Tgood mixed hnt [.no, .no, .no] [1, 3, 4, 47] [1008]
        [(1, .ref 1008 0 0), (3, .p (vi ((p0.tasks.length : Nat) : Int))), (4, .p (vi ((k1 : Nat) : Int))), (47, .p (vb (decide (((k1 : Nat) : Int) < ((p0.tasks.length : Nat) : Int)))))]
        [(1008, ⟨0, .box [.p (slOf 6 encNode (default : Node) p0.tree.nodes), .p (vi p0.tree.next), .p (slOf 4 encTask (default : Task) p0.tasks), .p (vi p0.next)]⟩)]
        [] (by kernel_rfl) trivial ?_
      refine DW.cond (decide (((k1 : Nat) : Int) < ((p0.tasks.length : Nat) : Int))) rfl rfl ?_ ?_
      ·
        intro h45
        have hlt1 : k1 < p0.tasks.length := by have := of_decide_eq_true h45; omega
        have hm := hs1 hlt1
        unfold ref6_Check_l1 at hm
        refine DW.skip ?_
        refine DW.seq ?_
        refine DW.block ?_
        refine DW.seq ?_
        refine DW.regE Tgood mixed hnt [.no, .no, .no, .no, .no, .no, .no] [1, 3, 4, 5] [1008, 1040]
          [(1, .ref 1008 0 0), (3, .p (vi ((p0.tasks.length : Nat) : Int))), (4, .p (vi ((k1 : Nat) : Int))), (5, .ref 1040 0 0)]
          [(1008, ⟨0, .box [.p (slOf 6 encNode (default : Node) p0.tree.nodes), .p (vi p0.tree.next), .p (slOf 4 encTask (default : Task) p0.tasks), .p (vi p0.next)]⟩), (1040, ⟨0, .box [.p (vi (p0.tasks.getD k1 (default : Task)).id), .p (vi (p0.tasks.getD k1 (default : Task)).process), .p (vi (p0.tasks.getD k1 (default : Task)).group), .p (vi (p0.tasks.getD k1 (default : Task)).user)]⟩)]
          [((0 : Int) ≤ ((k1 : Nat) : Int)), (((k1 : Nat) : Int) < ((p0.tasks.length : Nat) : Int))] (by kernel_rfl) ⟨(by omega), (by omega), trivial⟩ ?_
        refine DW.seq ?_
        obtain ⟨r46, hr46, hm⟩ := bind_open hm
        refine DW.regE Tgood mixed hnt [.no, .no, .no, .no, .call 50 [] true (.p (.tup [.agg [vi r46.1.id, vi r46.1.process, vi r46.1.group, vi r46.1.user], vb r46.2])) [] [], .no, .no, .no, .no, .no, .no] [1, 3, 4, 5, 6, 7] [1008, 1040, 1048]
          [(1, .ref 1008 0 0), (3, .p (vi ((p0.tasks.length : Nat) : Int))), (4, .p (vi ((k1 : Nat) : Int))), (5, .ref 1040 0 0), (6, .ref 1048 0 0), (7, .p (vb r46.2))]
          [(1008, ⟨0, .box [.p (slOf 6 encNode (default : Node) p0.tree.nodes), .p (vi p0.tree.next), .p (slOf 4 encTask (default : Task) p0.tasks), .p (vi p0.next)]⟩), (1040, ⟨0, .box [.p (vi (p0.tasks.getD k1 (default : Task)).id), .p (vi (p0.tasks.getD k1 (default : Task)).process), .p (vi (p0.tasks.getD k1 (default : Task)).group), .p (vi (p0.tasks.getD k1 (default : Task)).user)]⟩), (1048, ⟨0, .box [.p (vi r46.1.id), .p (vi r46.1.process), .p (vi r46.1.group), .p (vi r46.1.user)]⟩)]
          [(Spec Try.prog 50 [.p (slOf 4 encTask (default : Task) p0.tasks), .p (vi (p0.tasks.getD k1 (default : Task)).process)] [] (.p (.tup [.agg [vi r46.1.id, vi r46.1.process, vi r46.1.group, vi r46.1.user], vb r46.2])) [] [])] (by kernel_rfl) ⟨(ref6_leader_spec p0.tasks (p0.tasks.getD k1 (default : Task)).process r46 hr46), trivial⟩ ?_
        refine DW.seq ?_
        refine DW.join (ι := Bool) (fun (y4 : Bool) => mkSt [(1, .ref 1008 0 0), (3, .p (vi ((p0.tasks.length : Nat) : Int))), (4, .p (vi ((k1 : Nat) : Int))), (110, .p (vb y4))] [(1008, ⟨0, .box [.p (slOf 6 encNode (default : Node) p0.tree.nodes), .p (vi p0.tree.next), .p (slOf 4 encTask (default : Task) p0.tasks), .p (vi p0.next)]⟩)]) (fun y4 => (ref6_Check_j4 n1) y4 = some RES) ?_ ?_
        · intro y4 hm
          unfold ref6_Check_j4 at hm
          refine DW.cond y4 rfl rfl ?_ ?_
          ·
            intro h61
            replace hm := if_t h61 hm
            refine DW.seq ?_
            refine DW.regE Tgood mixed hnt [.no] [2] []
              [(2, .p (vb false))]
              []
              [] (by kernel_rfl) trivial ?_
            refine DW.ret ?_
            obtain rfl := Option.some.inj hm
            refine retOK (bs' := []) [] (.p (vb false)) (by kernel_rfl) ?_ ?_
            · rfl
            · rfl
          ·
            intro h61
            replace hm := if_f h61 hm
            refine DW.skip ?_
            refine DW.done ?_
            show DW _ _ _ _ _
            refine DW.regE Tgood mixed hnt [.no, .no, .no] [1, 3, 4] [1008]
              [(1, .ref 1008 0 0), (3, .p (vi ((p0.tasks.length : Nat) : Int))), (4, .p (vi (w64 (((k1 : Nat) : Int) + 1))))]
              [(1008, ⟨0, .box [.p (slOf 6 encNode (default : Node) p0.tree.nodes), .p (vi p0.tree.next), .p (slOf 4 encTask (default : Task) p0.tasks), .p (vi p0.next)]⟩)]
              [] (by kernel_rfl) trivial ?_
            exact joinDone () ⟨hlt1, hm⟩ (Conv.to [1, 3, 4] [1008] [(1, .ref 1008 0 0), (3, .p (vi ((p0.tasks.length : Nat) : Int))), (4, .p (vi (w64 (((k1 : Nat) : Int) + 1))))] [(1, .ref 1008 0 0), (3, .p (vi ((p0.tasks.length : Nat) : Int))), (4, .p (vi (((k1 + 1) : Nat) : Int)))] [(1008, ⟨0, .box [.p (slOf 6 encNode (default : Node) p0.tree.nodes), .p (vi p0.tree.next), .p (slOf 4 encTask (default : Task) p0.tasks), .p (vi p0.next)]⟩)] [(1008, ⟨0, .box [.p (slOf 6 encNode (default : Node) p0.tree.nodes), .p (vi p0.tree.next), .p (slOf 4 encTask (default : Task) p0.tasks), .p (vi p0.next)]⟩)] (by kernel_rfl) (by kernel_rfl) (.cons .rfl (.cons .rfl (.cons (.of_eq (congrArg (fun n => MV.p (vi n)) (w64_succ hlt1 hc1))) .rfl))) .rfl)
        ·
          rcases Bool.eq_false_or_eq_true (decide ((p0.tasks.getD k1 (default : Task)).id < 1)) with h47 | h47
          ·
            replace hm := if_t h47 hm
            refine DW.regE Tgood mixed hnt [.no, .no, .no, .no, .skip, .skip, .skip, .skip, .skip, .skip, .skip, .skip, .skip, .skip, .skip, .skip, .skip, .skip, .pk true, .no, .skip, .skip, .skip, .skip, .skip, .skip, .pk true, .no, .skip, .skip, .skip, .pk true, .no, .skip, .skip, .skip, .pk true, .no, .skip, .skip, .pk true, .no, .skip, .skip, .skip, .skip, .skip, .pk true] [1, 3, 4, 110] [1008]
              [(1, .ref 1008 0 0), (3, .p (vi ((p0.tasks.length : Nat) : Int))), (4, .p (vi ((k1 : Nat) : Int))), (110, .p (vb true))]
              [(1008, ⟨0, .box [.p (slOf 6 encNode (default : Node) p0.tree.nodes), .p (vi p0.tree.next), .p (slOf 4 encTask (default : Task) p0.tasks), .p (vi p0.next)]⟩)]
              [((decide ((p0.tasks.getD k1 (default : Task)).id < 1)) = true), ((decide ((p0.tasks.getD k1 (default : Task)).id < 1)) = true), ((decide ((p0.tasks.getD k1 (default : Task)).id < 1)) = true), ((decide ((p0.tasks.getD k1 (default : Task)).id < 1)) = true), ((decide ((p0.tasks.getD k1 (default : Task)).id < 1)) = true), (true = true), (true = true), (true = true), (true = true), (true = true), (true = true), (true = true), (true = true), (true = true), (true = true), (true = true), (true = true), (true = true), (true = true), (true = true), (true = true), (true = true), (true = true), (true = true), (true = true), (true = true), (true = true), (true = true), (true = true)] (by kernel_rfl) ⟨h47, h47, h47, h47, h47, rfl, rfl, rfl, rfl, rfl, rfl, rfl, rfl, rfl, rfl, rfl, rfl, rfl, rfl, rfl, rfl, rfl, rfl, rfl, rfl, rfl, rfl, rfl, rfl, trivial⟩ ?_
            exact joinDone true hm .refl
          ·
            replace hm := if_f h47 hm
            rcases Bool.eq_false_or_eq_true (decide (((k1 : Nat) : Int) > 0)) with h48 | h48
            ·
              replace hm := if_t h48 hm
              obtain ⟨g49, hm⟩ := guard_open hm
              rcases Bool.eq_false_or_eq_true (decide ((p0.tasks.getD (Int.toNat (w64 (((k1 : Nat) : Int) - 1))) (default : Task)).id ≥ (p0.tasks.getD k1 (default : Task)).id)) with h50 | h50
              ·
                replace hm := if_t h50 hm
                refine DW.regE Tgood mixed hnt [.no, .no, .no, .no, .no, .no, .no, .no, .no, .no, .no, .no, .no, .no, .no, .no, .no, .pk true, .pk false, .no, .skip, .skip, .skip, .skip, .skip, .skip, .pk true, .no, .skip, .skip, .skip, .pk true, .no, .skip, .skip, .skip, .pk true, .no, .skip, .skip, .pk true, .no, .skip, .skip, .skip, .skip, .skip, .pk true] [1, 3, 4, 110] [1008]
                  [(1, .ref 1008 0 0), (3, .p (vi ((p0.tasks.length : Nat) : Int))), (4, .p (vi ((k1 : Nat) : Int))), (110, .p (vb true))]
                  [(1008, ⟨0, .box [.p (slOf 6 encNode (default : Node) p0.tree.nodes), .p (vi p0.tree.next), .p (slOf 4 encTask (default : Task) p0.tasks), .p (vi p0.next)]⟩)]
                  [((decide ((p0.tasks.getD k1 (default : Task)).id < 1)) = false), ((decide ((p0.tasks.getD k1 (default : Task)).id < 1)) = false), ((decide ((p0.tasks.getD k1 (default : Task)).id < 1)) = false), ((decide (((k1 : Nat) : Int) > 0)) = true), ((decide (((k1 : Nat) : Int) > 0)) = true), ((decide (((k1 : Nat) : Int) > 0)) = true), ((decide (((k1 : Nat) : Int) > 0)) = true), ((decide (((k1 : Nat) : Int) > 0)) = true), ((0 : Int) ≤ (w64 (((k1 : Nat) : Int) - 1))), ((w64 (((k1 : Nat) : Int) - 1)) < ((p0.tasks.length : Nat) : Int)), ((decide (((k1 : Nat) : Int) > 0)) = true), ((decide (((k1 : Nat) : Int) > 0)) = true), ((decide (((k1 : Nat) : Int) > 0)) = true), ((decide (((k1 : Nat) : Int) > 0)) = true), ((decide (((k1 : Nat) : Int) > 0)) = true), ((decide ((p0.tasks.getD k1 (default : Task)).id < 1)) = false), ((decide (((k1 : Nat) : Int) > 0)) = true), ((decide ((p0.tasks.getD k1 (default : Task)).id < 1)) = false), ((decide ((p0.tasks.getD (Int.toNat (w64 (((k1 : Nat) : Int) - 1))) (default : Task)).id ≥ (p0.tasks.getD k1 (default : Task)).id)) = true), ((decide ((p0.tasks.getD (Int.toNat (w64 (((k1 : Nat) : Int) - 1))) (default : Task)).id ≥ (p0.tasks.getD k1 (default : Task)).id)) = true), ((decide ((p0.tasks.getD (Int.toNat (w64 (((k1 : Nat) : Int) - 1))) (default : Task)).id ≥ (p0.tasks.getD k1 (default : Task)).id)) = true), ((decide ((p0.tasks.getD (Int.toNat (w64 (((k1 : Nat) : Int) - 1))) (default : Task)).id ≥ (p0.tasks.getD k1 (default : Task)).id)) = true), ((decide ((p0.tasks.getD (Int.toNat (w64 (((k1 : Nat) : Int) - 1))) (default : Task)).id ≥ (p0.tasks.getD k1 (default : Task)).id)) = true), ((decide ((p0.tasks.getD (Int.toNat (w64 (((k1 : Nat) : Int) - 1))) (default : Task)).id ≥ (p0.tasks.getD k1 (default : Task)).id)) = true), ((decide ((p0.tasks.getD (Int.toNat (w64 (((k1 : Nat) : Int) - 1))) (default : Task)).id ≥ (p0.tasks.getD k1 (default : Task)).id)) = true), (true = true), (true = true), (true = true), (true = true), (true = true), (true = true), (true = true), (true = true), (true = true), (true = true), (true = true), (true = true), (true = true), (true = true), (true = true), (true = true), (true = true)] (by kernel_rfl) ⟨h47, h47, h47, h48, h48, h48, h48, h48, g49.1, g49.2, h48, h48, h48, h48, h48, h47, h48, h47, h50, h50, h50, h50, h50, h50, h50, rfl, rfl, rfl, rfl, rfl, rfl, rfl, rfl, rfl, rfl, rfl, rfl, rfl, rfl, rfl, rfl, rfl, trivial⟩ ?_
                exact joinDone true hm .refl
              ·
                replace hm := if_f h50 hm
                obtain ⟨r51, hr51, hm⟩ := bind_open hm
                rcases Bool.eq_false_or_eq_true (!r51) with h52 | h52
                ·
                  replace hm := if_t h52 hm
                  refine DW.regE Tgood mixed hnt [.no, .no, .no, .no, .no, .no, .no, .no, .no, .no, .no, .no, .no, .no, .no, .no, .no, .pk true, .pk false, .no, .no, .no, .no, .no, .call 25 [] true (.p (vb r51)) [] [], .no, .pk false, .no, .skip, .skip, .skip, .pk true, .no, .skip, .skip, .skip, .pk true, .no, .skip, .skip, .pk true, .no, .skip, .skip, .skip, .skip, .skip, .pk true] [1, 3, 4, 110] [1008]
                    [(1, .ref 1008 0 0), (3, .p (vi ((p0.tasks.length : Nat) : Int))), (4, .p (vi ((k1 : Nat) : Int))), (110, .p (vb true))]
                    [(1008, ⟨0, .box [.p (slOf 6 encNode (default : Node) p0.tree.nodes), .p (vi p0.tree.next), .p (slOf 4 encTask (default : Task) p0.tasks), .p (vi p0.next)]⟩)]
                    [((decide ((p0.tasks.getD k1 (default : Task)).id < 1)) = false), ((decide ((p0.tasks.getD k1 (default : Task)).id < 1)) = false), ((decide ((p0.tasks.getD k1 (default : Task)).id < 1)) = false), ((decide (((k1 : Nat) : Int) > 0)) = true), ((decide (((k1 : Nat) : Int) > 0)) = true), ((decide (((k1 : Nat) : Int) > 0)) = true), ((decide (((k1 : Nat) : Int) > 0)) = true), ((decide (((k1 : Nat) : Int) > 0)) = true), ((0 : Int) ≤ (w64 (((k1 : Nat) : Int) - 1))), ((w64 (((k1 : Nat) : Int) - 1)) < ((p0.tasks.length : Nat) : Int)), ((decide (((k1 : Nat) : Int) > 0)) = true), ((decide (((k1 : Nat) : Int) > 0)) = true), ((decide (((k1 : Nat) : Int) > 0)) = true), ((decide (((k1 : Nat) : Int) > 0)) = true), ((decide (((k1 : Nat) : Int) > 0)) = true), ((decide ((p0.tasks.getD k1 (default : Task)).id < 1)) = false), ((decide (((k1 : Nat) : Int) > 0)) = true), ((decide ((p0.tasks.getD k1 (default : Task)).id < 1)) = false), ((decide ((p0.tasks.getD (Int.toNat (w64 (((k1 : Nat) : Int) - 1))) (default : Task)).id ≥ (p0.tasks.getD k1 (default : Task)).id)) = false), ((decide ((p0.tasks.getD (Int.toNat (w64 (((k1 : Nat) : Int) - 1))) (default : Task)).id ≥ (p0.tasks.getD k1 (default : Task)).id)) = false), ((decide ((p0.tasks.getD (Int.toNat (w64 (((k1 : Nat) : Int) - 1))) (default : Task)).id ≥ (p0.tasks.getD k1 (default : Task)).id)) = false), ((decide ((p0.tasks.getD (Int.toNat (w64 (((k1 : Nat) : Int) - 1))) (default : Task)).id ≥ (p0.tasks.getD k1 (default : Task)).id)) = false), ((decide ((p0.tasks.getD (Int.toNat (w64 (((k1 : Nat) : Int) - 1))) (default : Task)).id ≥ (p0.tasks.getD k1 (default : Task)).id)) = false), (Spec Try.prog 25 [.p (.agg [slOf 6 encNode (default : Node) p0.tree.nodes, vi p0.tree.next]), .p (vi (p0.tasks.getD k1 (default : Task)).group)] [] (.p (vb r51)) [] []), ((decide ((p0.tasks.getD (Int.toNat (w64 (((k1 : Nat) : Int) - 1))) (default : Task)).id ≥ (p0.tasks.getD k1 (default : Task)).id)) = false), ((decide ((p0.tasks.getD (Int.toNat (w64 (((k1 : Nat) : Int) - 1))) (default : Task)).id ≥ (p0.tasks.getD k1 (default : Task)).id)) = false), ((!r51) = true), ((!r51) = true), ((!r51) = true), ((!r51) = true), (true = true), (true = true), (true = true), (true = true), (true = true), (true = true), (true = true), (true = true), (true = true), (true = true), (true = true), (true = true), (true = true)] (by kernel_rfl) ⟨h47, h47, h47, h48, h48, h48, h48, h48, g49.1, g49.2, h48, h48, h48, h48, h48, h47, h48, h47, h50, h50, h50, h50, h50, (ref5_Has_spec p0.tree (p0.tasks.getD k1 (default : Task)).group r51 hr51), h50, h50, h52, h52, h52, h52, rfl, rfl, rfl, rfl, rfl, rfl, rfl, rfl, rfl, rfl, rfl, rfl, rfl, trivial⟩ ?_
                  exact joinDone true hm .refl
                ·
                  replace hm := if_f h52 hm
                  rcases Bool.eq_false_or_eq_true (decide ((p0.tasks.getD k1 (default : Task)).user < 0)) with h53 | h53
                  ·
                    replace hm := if_t h53 hm
                    refine DW.regE Tgood mixed hnt [.no, .no, .no, .no, .no, .no, .no, .no, .no, .no, .no, .no, .no, .no, .no, .no, .no, .pk true, .pk false, .no, .no, .no, .no, .no, .call 25 [] true (.p (vb r51)) [] [], .no, .pk false, .no, .no, .no, .no, .pk false, .no, .skip, .skip, .skip, .pk true, .no, .skip, .skip, .pk true, .no, .skip, .skip, .skip, .skip, .skip, .pk true] [1, 3, 4, 110] [1008]
                      [(1, .ref 1008 0 0), (3, .p (vi ((p0.tasks.length : Nat) : Int))), (4, .p (vi ((k1 : Nat) : Int))), (110, .p (vb true))]
                      [(1008, ⟨0, .box [.p (slOf 6 encNode (default : Node) p0.tree.nodes), .p (vi p0.tree.next), .p (slOf 4 encTask (default : Task) p0.tasks), .p (vi p0.next)]⟩)]
                      [((decide ((p0.tasks.getD k1 (default : Task)).id < 1)) = false), ((decide ((p0.tasks.getD k1 (default : Task)).id < 1)) = false), ((decide ((p0.tasks.getD k1 (default : Task)).id < 1)) = false), ((decide (((k1 : Nat) : Int) > 0)) = true), ((decide (((k1 : Nat) : Int) > 0)) = true), ((decide (((k1 : Nat) : Int) > 0)) = true), ((decide (((k1 : Nat) : Int) > 0)) = true), ((decide (((k1 : Nat) : Int) > 0)) = true), ((0 : Int) ≤ (w64 (((k1 : Nat) : Int) - 1))), ((w64 (((k1 : Nat) : Int) - 1)) < ((p0.tasks.length : Nat) : Int)), ((decide (((k1 : Nat) : Int) > 0)) = true), ((decide (((k1 : Nat) : Int) > 0)) = true), ((decide (((k1 : Nat) : Int) > 0)) = true), ((decide (((k1 : Nat) : Int) > 0)) = true), ((decide (((k1 : Nat) : Int) > 0)) = true), ((decide ((p0.tasks.getD k1 (default : Task)).id < 1)) = false), ((decide (((k1 : Nat) : Int) > 0)) = true), ((decide ((p0.tasks.getD k1 (default : Task)).id < 1)) = false), ((decide ((p0.tasks.getD (Int.toNat (w64 (((k1 : Nat) : Int) - 1))) (default : Task)).id ≥ (p0.tasks.getD k1 (default : Task)).id)) = false), ((decide ((p0.tasks.getD (Int.toNat (w64 (((k1 : Nat) : Int) - 1))) (default : Task)).id ≥ (p0.tasks.getD k1 (default : Task)).id)) = false), ((decide ((p0.tasks.getD (Int.toNat (w64 (((k1 : Nat) : Int) - 1))) (default : Task)).id ≥ (p0.tasks.getD k1 (default : Task)).id)) = false), ((decide ((p0.tasks.getD (Int.toNat (w64 (((k1 : Nat) : Int) - 1))) (default : Task)).id ≥ (p0.tasks.getD k1 (default : Task)).id)) = false), ((decide ((p0.tasks.getD (Int.toNat (w64 (((k1 : Nat) : Int) - 1))) (default : Task)).id ≥ (p0.tasks.getD k1 (default : Task)).id)) = false), (Spec Try.prog 25 [.p (.agg [slOf 6 encNode (default : Node) p0.tree.nodes, vi p0.tree.next]), .p (vi (p0.tasks.getD k1 (default : Task)).group)] [] (.p (vb r51)) [] []), ((decide ((p0.tasks.getD (Int.toNat (w64 (((k1 : Nat) : Int) - 1))) (default : Task)).id ≥ (p0.tasks.getD k1 (default : Task)).id)) = false), ((decide ((p0.tasks.getD (Int.toNat (w64 (((k1 : Nat) : Int) - 1))) (default : Task)).id ≥ (p0.tasks.getD k1 (default : Task)).id)) = false), ((!r51) = false), ((!r51) = false), ((!r51) = false), ((!r51) = false), ((decide ((p0.tasks.getD k1 (default : Task)).user < 0)) = true), ((decide ((p0.tasks.getD k1 (default : Task)).user < 0)) = true), ((decide ((p0.tasks.getD k1 (default : Task)).user < 0)) = true), ((decide ((p0.tasks.getD k1 (default : Task)).user < 0)) = true), (true = true), (true = true), (true = true), (true = true), (true = true), (true = true), (true = true), (true = true), (true = true)] (by kernel_rfl) ⟨h47, h47, h47, h48, h48, h48, h48, h48, g49.1, g49.2, h48, h48, h48, h48, h48, h47, h48, h47, h50, h50, h50, h50, h50, (ref5_Has_spec p0.tree (p0.tasks.getD k1 (default : Task)).group r51 hr51), h50, h50, h52, h52, h52, h52, h53, h53, h53, h53, rfl, rfl, rfl, rfl, rfl, rfl, rfl, rfl, rfl, trivial⟩ ?_
                    exact joinDone true hm .refl
                  ·
                    replace hm := if_f h53 hm
                    rcases Bool.eq_false_or_eq_true (decide ((p0.tasks.getD k1 (default : Task)).user > 1048576)) with h54 | h54
                    ·
                      replace hm := if_t h54 hm
                      refine DW.regE Tgood mixed hnt [.no, .no, .no, .no, .no, .no, .no, .no, .no, .no, .no, .no, .no, .no, .no, .no, .no, .pk true, .pk false, .no, .no, .no, .no, .no, .call 25 [] true (.p (vb r51)) [] [], .no, .pk false, .no, .no, .no, .no, .pk false, .no, .no, .no, .no, .pk false, .no, .skip, .skip, .pk true, .no, .skip, .skip, .skip, .skip, .skip, .pk true] [1, 3, 4, 110] [1008]
                        [(1, .ref 1008 0 0), (3, .p (vi ((p0.tasks.length : Nat) : Int))), (4, .p (vi ((k1 : Nat) : Int))), (110, .p (vb true))]
                        [(1008, ⟨0, .box [.p (slOf 6 encNode (default : Node) p0.tree.nodes), .p (vi p0.tree.next), .p (slOf 4 encTask (default : Task) p0.tasks), .p (vi p0.next)]⟩)]
                        [((decide ((p0.tasks.getD k1 (default : Task)).id < 1)) = false), ((decide ((p0.tasks.getD k1 (default : Task)).id < 1)) = false), ((decide ((p0.tasks.getD k1 (default : Task)).id < 1)) = false), ((decide (((k1 : Nat) : Int) > 0)) = true), ((decide (((k1 : Nat) : Int) > 0)) = true), ((decide (((k1 : Nat) : Int) > 0)) = true), ((decide (((k1 : Nat) : Int) > 0)) = true), ((decide (((k1 : Nat) : Int) > 0)) = true), ((0 : Int) ≤ (w64 (((k1 : Nat) : Int) - 1))), ((w64 (((k1 : Nat) : Int) - 1)) < ((p0.tasks.length : Nat) : Int)), ((decide (((k1 : Nat) : Int) > 0)) = true), ((decide (((k1 : Nat) : Int) > 0)) = true), ((decide (((k1 : Nat) : Int) > 0)) = true), ((decide (((k1 : Nat) : Int) > 0)) = true), ((decide (((k1 : Nat) : Int) > 0)) = true), ((decide ((p0.tasks.getD k1 (default : Task)).id < 1)) = false), ((decide (((k1 : Nat) : Int) > 0)) = true), ((decide ((p0.tasks.getD k1 (default : Task)).id < 1)) = false), ((decide ((p0.tasks.getD (Int.toNat (w64 (((k1 : Nat) : Int) - 1))) (default : Task)).id ≥ (p0.tasks.getD k1 (default : Task)).id)) = false), ((decide ((p0.tasks.getD (Int.toNat (w64 (((k1 : Nat) : Int) - 1))) (default : Task)).id ≥ (p0.tasks.getD k1 (default : Task)).id)) = false), ((decide ((p0.tasks.getD (Int.toNat (w64 (((k1 : Nat) : Int) - 1))) (default : Task)).id ≥ (p0.tasks.getD k1 (default : Task)).id)) = false), ((decide ((p0.tasks.getD (Int.toNat (w64 (((k1 : Nat) : Int) - 1))) (default : Task)).id ≥ (p0.tasks.getD k1 (default : Task)).id)) = false), ((decide ((p0.tasks.getD (Int.toNat (w64 (((k1 : Nat) : Int) - 1))) (default : Task)).id ≥ (p0.tasks.getD k1 (default : Task)).id)) = false), (Spec Try.prog 25 [.p (.agg [slOf 6 encNode (default : Node) p0.tree.nodes, vi p0.tree.next]), .p (vi (p0.tasks.getD k1 (default : Task)).group)] [] (.p (vb r51)) [] []), ((decide ((p0.tasks.getD (Int.toNat (w64 (((k1 : Nat) : Int) - 1))) (default : Task)).id ≥ (p0.tasks.getD k1 (default : Task)).id)) = false), ((decide ((p0.tasks.getD (Int.toNat (w64 (((k1 : Nat) : Int) - 1))) (default : Task)).id ≥ (p0.tasks.getD k1 (default : Task)).id)) = false), ((!r51) = false), ((!r51) = false), ((!r51) = false), ((!r51) = false), ((decide ((p0.tasks.getD k1 (default : Task)).user < 0)) = false), ((decide ((p0.tasks.getD k1 (default : Task)).user < 0)) = false), ((decide ((p0.tasks.getD k1 (default : Task)).user < 0)) = false), ((decide ((p0.tasks.getD k1 (default : Task)).user < 0)) = false), ((decide ((p0.tasks.getD k1 (default : Task)).user > 1048576)) = true), ((decide ((p0.tasks.getD k1 (default : Task)).user > 1048576)) = true), ((decide ((p0.tasks.getD k1 (default : Task)).user > 1048576)) = true), (true = true), (true = true), (true = true), (true = true), (true = true), (true = true)] (by kernel_rfl) ⟨h47, h47, h47, h48, h48, h48, h48, h48, g49.1, g49.2, h48, h48, h48, h48, h48, h47, h48, h47, h50, h50, h50, h50, h50, (ref5_Has_spec p0.tree (p0.tasks.getD k1 (default : Task)).group r51 hr51), h50, h50, h52, h52, h52, h52, h53, h53, h53, h53, h54, h54, h54, rfl, rfl, rfl, rfl, rfl, rfl, trivial⟩ ?_
                      exact joinDone true hm .refl
                    ·
                      replace hm := if_f h54 hm
                      rcases Bool.eq_false_or_eq_true (!r46.2) with h55 | h55
                      ·
                        replace hm := if_t h55 hm
                        refine DW.regE Tgood mixed hnt [.no, .no, .no, .no, .no, .no, .no, .no, .no, .no, .no, .no, .no, .no, .no, .no, .no, .pk true, .pk false, .no, .no, .no, .no, .no, .call 25 [] true (.p (vb r51)) [] [], .no, .pk false, .no, .no, .no, .no, .pk false, .no, .no, .no, .no, .pk false, .no, .no, .no, .pk false, .no, .skip, .skip, .skip, .skip, .skip, .pk true] [1, 3, 4, 110] [1008]
                          [(1, .ref 1008 0 0), (3, .p (vi ((p0.tasks.length : Nat) : Int))), (4, .p (vi ((k1 : Nat) : Int))), (110, .p (vb true))]
                          [(1008, ⟨0, .box [.p (slOf 6 encNode (default : Node) p0.tree.nodes), .p (vi p0.tree.next), .p (slOf 4 encTask (default : Task) p0.tasks), .p (vi p0.next)]⟩)]
                          [((decide ((p0.tasks.getD k1 (default : Task)).id < 1)) = false), ((decide ((p0.tasks.getD k1 (default : Task)).id < 1)) = false), ((decide ((p0.tasks.getD k1 (default : Task)).id < 1)) = false), ((decide (((k1 : Nat) : Int) > 0)) = true), ((decide (((k1 : Nat) : Int) > 0)) = true), ((decide (((k1 : Nat) : Int) > 0)) = true), ((decide (((k1 : Nat) : Int) > 0)) = true), ((decide (((k1 : Nat) : Int) > 0)) = true), ((0 : Int) ≤ (w64 (((k1 : Nat) : Int) - 1))), ((w64 (((k1 : Nat) : Int) - 1)) < ((p0.tasks.length : Nat) : Int)), ((decide (((k1 : Nat) : Int) > 0)) = true), ((decide (((k1 : Nat) : Int) > 0)) = true), ((decide (((k1 : Nat) : Int) > 0)) = true), ((decide (((k1 : Nat) : Int) > 0)) = true), ((decide (((k1 : Nat) : Int) > 0)) = true), ((decide ((p0.tasks.getD k1 (default : Task)).id < 1)) = false), ((decide (((k1 : Nat) : Int) > 0)) = true), ((decide ((p0.tasks.getD k1 (default : Task)).id < 1)) = false), ((decide ((p0.tasks.getD (Int.toNat (w64 (((k1 : Nat) : Int) - 1))) (default : Task)).id ≥ (p0.tasks.getD k1 (default : Task)).id)) = false), ((decide ((p0.tasks.getD (Int.toNat (w64 (((k1 : Nat) : Int) - 1))) (default : Task)).id ≥ (p0.tasks.getD k1 (default : Task)).id)) = false), ((decide ((p0.tasks.getD (Int.toNat (w64 (((k1 : Nat) : Int) - 1))) (default : Task)).id ≥ (p0.tasks.getD k1 (default : Task)).id)) = false), ((decide ((p0.tasks.getD (Int.toNat (w64 (((k1 : Nat) : Int) - 1))) (default : Task)).id ≥ (p0.tasks.getD k1 (default : Task)).id)) = false), ((decide ((p0.tasks.getD (Int.toNat (w64 (((k1 : Nat) : Int) - 1))) (default : Task)).id ≥ (p0.tasks.getD k1 (default : Task)).id)) = false), (Spec Try.prog 25 [.p (.agg [slOf 6 encNode (default : Node) p0.tree.nodes, vi p0.tree.next]), .p (vi (p0.tasks.getD k1 (default : Task)).group)] [] (.p (vb r51)) [] []), ((decide ((p0.tasks.getD (Int.toNat (w64 (((k1 : Nat) : Int) - 1))) (default : Task)).id ≥ (p0.tasks.getD k1 (default : Task)).id)) = false), ((decide ((p0.tasks.getD (Int.toNat (w64 (((k1 : Nat) : Int) - 1))) (default : Task)).id ≥ (p0.tasks.getD k1 (default : Task)).id)) = false), ((!r51) = false), ((!r51) = false), ((!r51) = false), ((!r51) = false), ((decide ((p0.tasks.getD k1 (default : Task)).user < 0)) = false), ((decide ((p0.tasks.getD k1 (default : Task)).user < 0)) = false), ((decide ((p0.tasks.getD k1 (default : Task)).user < 0)) = false), ((decide ((p0.tasks.getD k1 (default : Task)).user < 0)) = false), ((decide ((p0.tasks.getD k1 (default : Task)).user > 1048576)) = false), ((decide ((p0.tasks.getD k1 (default : Task)).user > 1048576)) = false), ((decide ((p0.tasks.getD k1 (default : Task)).user > 1048576)) = false), ((!r46.2) = true), ((!r46.2) = true), ((!r46.2) = true), ((!r46.2) = true), ((!r46.2) = true), ((!r46.2) = true)] (by kernel_rfl) ⟨h47, h47, h47, h48, h48, h48, h48, h48, g49.1, g49.2, h48, h48, h48, h48, h48, h47, h48, h47, h50, h50, h50, h50, h50, (ref5_Has_spec p0.tree (p0.tasks.getD k1 (default : Task)).group r51 hr51), h50, h50, h52, h52, h52, h52, h53, h53, h53, h53, h54, h54, h54, h55, h55, h55, h55, h55, h55, trivial⟩ ?_
                        exact joinDone true hm .refl
                      ·
                        replace hm := if_f h55 hm
                        refine DW.regE Tgood mixed hnt [.no, .no, .no, .no, .no, .no, .no, .no, .no, .no, .no, .no, .no, .no, .no, .no, .no, .pk true, .pk false, .no, .no, .no, .no, .no, .call 25 [] true (.p (vb r51)) [] [], .no, .pk false, .no, .no, .no, .no, .pk false, .no, .no, .no, .no, .pk false, .no, .no, .no, .pk false, .no, .no, .no, .no, .no, .no, .pk false] [1, 3, 4, 110] [1008]
                          [(1, .ref 1008 0 0), (3, .p (vi ((p0.tasks.length : Nat) : Int))), (4, .p (vi ((k1 : Nat) : Int))), (110, .p (vb (r46.1.user != (p0.tasks.getD k1 (default : Task)).user)))]
                          [(1008, ⟨0, .box [.p (slOf 6 encNode (default : Node) p0.tree.nodes), .p (vi p0.tree.next), .p (slOf 4 encTask (default : Task) p0.tasks), .p (vi p0.next)]⟩)]
                          [((decide ((p0.tasks.getD k1 (default : Task)).id < 1)) = false), ((decide ((p0.tasks.getD k1 (default : Task)).id < 1)) = false), ((decide ((p0.tasks.getD k1 (default : Task)).id < 1)) = false), ((decide (((k1 : Nat) : Int) > 0)) = true), ((decide (((k1 : Nat) : Int) > 0)) = true), ((decide (((k1 : Nat) : Int) > 0)) = true), ((decide (((k1 : Nat) : Int) > 0)) = true), ((decide (((k1 : Nat) : Int) > 0)) = true), ((0 : Int) ≤ (w64 (((k1 : Nat) : Int) - 1))), ((w64 (((k1 : Nat) : Int) - 1)) < ((p0.tasks.length : Nat) : Int)), ((decide (((k1 : Nat) : Int) > 0)) = true), ((decide (((k1 : Nat) : Int) > 0)) = true), ((decide (((k1 : Nat) : Int) > 0)) = true), ((decide (((k1 : Nat) : Int) > 0)) = true), ((decide (((k1 : Nat) : Int) > 0)) = true), ((decide ((p0.tasks.getD k1 (default : Task)).id < 1)) = false), ((decide (((k1 : Nat) : Int) > 0)) = true), ((decide ((p0.tasks.getD k1 (default : Task)).id < 1)) = false), ((decide ((p0.tasks.getD (Int.toNat (w64 (((k1 : Nat) : Int) - 1))) (default : Task)).id ≥ (p0.tasks.getD k1 (default : Task)).id)) = false), ((decide ((p0.tasks.getD (Int.toNat (w64 (((k1 : Nat) : Int) - 1))) (default : Task)).id ≥ (p0.tasks.getD k1 (default : Task)).id)) = false), ((decide ((p0.tasks.getD (Int.toNat (w64 (((k1 : Nat) : Int) - 1))) (default : Task)).id ≥ (p0.tasks.getD k1 (default : Task)).id)) = false), ((decide ((p0.tasks.getD (Int.toNat (w64 (((k1 : Nat) : Int) - 1))) (default : Task)).id ≥ (p0.tasks.getD k1 (default : Task)).id)) = false), ((decide ((p0.tasks.getD (Int.toNat (w64 (((k1 : Nat) : Int) - 1))) (default : Task)).id ≥ (p0.tasks.getD k1 (default : Task)).id)) = false), (Spec Try.prog 25 [.p (.agg [slOf 6 encNode (default : Node) p0.tree.nodes, vi p0.tree.next]), .p (vi (p0.tasks.getD k1 (default : Task)).group)] [] (.p (vb r51)) [] []), ((decide ((p0.tasks.getD (Int.toNat (w64 (((k1 : Nat) : Int) - 1))) (default : Task)).id ≥ (p0.tasks.getD k1 (default : Task)).id)) = false), ((decide ((p0.tasks.getD (Int.toNat (w64 (((k1 : Nat) : Int) - 1))) (default : Task)).id ≥ (p0.tasks.getD k1 (default : Task)).id)) = false), ((!r51) = false), ((!r51) = false), ((!r51) = false), ((!r51) = false), ((decide ((p0.tasks.getD k1 (default : Task)).user < 0)) = false), ((decide ((p0.tasks.getD k1 (default : Task)).user < 0)) = false), ((decide ((p0.tasks.getD k1 (default : Task)).user < 0)) = false), ((decide ((p0.tasks.getD k1 (default : Task)).user < 0)) = false), ((decide ((p0.tasks.getD k1 (default : Task)).user > 1048576)) = false), ((decide ((p0.tasks.getD k1 (default : Task)).user > 1048576)) = false), ((decide ((p0.tasks.getD k1 (default : Task)).user > 1048576)) = false), ((!r46.2) = false), ((!r46.2) = false), ((!r46.2) = false), ((!r46.2) = false), ((!r46.2) = false), ((!r46.2) = false)] (by kernel_rfl) ⟨h47, h47, h47, h48, h48, h48, h48, h48, g49.1, g49.2, h48, h48, h48, h48, h48, h47, h48, h47, h50, h50, h50, h50, h50, (ref5_Has_spec p0.tree (p0.tasks.getD k1 (default : Task)).group r51 hr51), h50, h50, h52, h52, h52, h52, h53, h53, h53, h53, h54, h54, h54, h55, h55, h55, h55, h55, h55, trivial⟩ ?_
                        exact joinDone (r46.1.user != (p0.tasks.getD k1 (default : Task)).user) hm .refl
            ·
              replace hm := if_f h48 hm
              obtain ⟨r56, hr56, hm⟩ := bind_open hm
              rcases Bool.eq_false_or_eq_true (!r56) with h57 | h57
              ·
                replace hm := if_t h57 hm
                refine DW.regE Tgood mixed hnt [.no, .no, .no, .no, .no, .no, .no, .skip, .skip, .skip, .skip, .skip, .skip, .skip, .skip, .skip, .skip, .pk false, .pk false, .no, .no, .no, .no, .no, .call 25 [] true (.p (vb r56)) [] [], .no, .pk false, .no, .skip, .skip, .skip, .pk true, .no, .skip, .skip, .skip, .pk true, .no, .skip, .skip, .pk true, .no, .skip, .skip, .skip, .skip, .skip, .pk true] [1, 3, 4, 110] [1008]
                  [(1, .ref 1008 0 0), (3, .p (vi ((p0.tasks.length : Nat) : Int))), (4, .p (vi ((k1 : Nat) : Int))), (110, .p (vb true))]
                  [(1008, ⟨0, .box [.p (slOf 6 encNode (default : Node) p0.tree.nodes), .p (vi p0.tree.next), .p (slOf 4 encTask (default : Task) p0.tasks), .p (vi p0.next)]⟩)]
                  [((decide ((p0.tasks.getD k1 (default : Task)).id < 1)) = false), ((decide ((p0.tasks.getD k1 (default : Task)).id < 1)) = false), ((decide ((p0.tasks.getD k1 (default : Task)).id < 1)) = false), ((decide (((k1 : Nat) : Int) > 0)) = false), ((decide (((k1 : Nat) : Int) > 0)) = false), ((decide (((k1 : Nat) : Int) > 0)) = false), ((decide (((k1 : Nat) : Int) > 0)) = false), ((decide (((k1 : Nat) : Int) > 0)) = false), ((decide (((k1 : Nat) : Int) > 0)) = false), ((decide (((k1 : Nat) : Int) > 0)) = false), ((decide (((k1 : Nat) : Int) > 0)) = false), ((decide (((k1 : Nat) : Int) > 0)) = false), ((decide (((k1 : Nat) : Int) > 0)) = false), ((decide ((p0.tasks.getD k1 (default : Task)).id < 1)) = false), ((decide (((k1 : Nat) : Int) > 0)) = false), ((decide ((p0.tasks.getD k1 (default : Task)).id < 1)) = false), (false = false), (false = false), (false = false), (false = false), (false = false), (Spec Try.prog 25 [.p (.agg [slOf 6 encNode (default : Node) p0.tree.nodes, vi p0.tree.next]), .p (vi (p0.tasks.getD k1 (default : Task)).group)] [] (.p (vb r56)) [] []), (false = false), (false = false), ((!r56) = true), ((!r56) = true), ((!r56) = true), ((!r56) = true), (true = true), (true = true), (true = true), (true = true), (true = true), (true = true), (true = true), (true = true), (true = true), (true = true), (true = true), (true = true), (true = true)] (by kernel_rfl) ⟨h47, h47, h47, h48, h48, h48, h48, h48, h48, h48, h48, h48, h48, h47, h48, h47, rfl, rfl, rfl, rfl, rfl, (ref5_Has_spec p0.tree (p0.tasks.getD k1 (default : Task)).group r56 hr56), rfl, rfl, h57, h57, h57, h57, rfl, rfl, rfl, rfl, rfl, rfl, rfl, rfl, rfl, rfl, rfl, rfl, rfl, trivial⟩ ?_
                exact joinDone true hm .refl
              ·
                replace hm := if_f h57 hm
                rcases Bool.eq_false_or_eq_true (decide ((p0.tasks.getD k1 (default : Task)).user < 0)) with h58 | h58
                ·
                  replace hm := if_t h58 hm
                  refine DW.regE Tgood mixed hnt [.no, .no, .no, .no, .no, .no, .no, .skip, .skip, .skip, .skip, .skip, .skip, .skip, .skip, .skip, .skip, .pk false, .pk false, .no, .no, .no, .no, .no, .call 25 [] true (.p (vb r56)) [] [], .no, .pk false, .no, .no, .no, .no, .pk false, .no, .skip, .skip, .skip, .pk true, .no, .skip, .skip, .pk true, .no, .skip, .skip, .skip, .skip, .skip, .pk true] [1, 3, 4, 110] [1008]
                    [(1, .ref 1008 0 0), (3, .p (vi ((p0.tasks.length : Nat) : Int))), (4, .p (vi ((k1 : Nat) : Int))), (110, .p (vb true))]
                    [(1008, ⟨0, .box [.p (slOf 6 encNode (default : Node) p0.tree.nodes), .p (vi p0.tree.next), .p (slOf 4 encTask (default : Task) p0.tasks), .p (vi p0.next)]⟩)]
                    [((decide ((p0.tasks.getD k1 (default : Task)).id < 1)) = false), ((decide ((p0.tasks.getD k1 (default : Task)).id < 1)) = false), ((decide ((p0.tasks.getD k1 (default : Task)).id < 1)) = false), ((decide (((k1 : Nat) : Int) > 0)) = false), ((decide (((k1 : Nat) : Int) > 0)) = false), ((decide (((k1 : Nat) : Int) > 0)) = false), ((decide (((k1 : Nat) : Int) > 0)) = false), ((decide (((k1 : Nat) : Int) > 0)) = false), ((decide (((k1 : Nat) : Int) > 0)) = false), ((decide (((k1 : Nat) : Int) > 0)) = false), ((decide (((k1 : Nat) : Int) > 0)) = false), ((decide (((k1 : Nat) : Int) > 0)) = false), ((decide (((k1 : Nat) : Int) > 0)) = false), ((decide ((p0.tasks.getD k1 (default : Task)).id < 1)) = false), ((decide (((k1 : Nat) : Int) > 0)) = false), ((decide ((p0.tasks.getD k1 (default : Task)).id < 1)) = false), (false = false), (false = false), (false = false), (false = false), (false = false), (Spec Try.prog 25 [.p (.agg [slOf 6 encNode (default : Node) p0.tree.nodes, vi p0.tree.next]), .p (vi (p0.tasks.getD k1 (default : Task)).group)] [] (.p (vb r56)) [] []), (false = false), (false = false), ((!r56) = false), ((!r56) = false), ((!r56) = false), ((!r56) = false), ((decide ((p0.tasks.getD k1 (default : Task)).user < 0)) = true), ((decide ((p0.tasks.getD k1 (default : Task)).user < 0)) = true), ((decide ((p0.tasks.getD k1 (default : Task)).user < 0)) = true), ((decide ((p0.tasks.getD k1 (default : Task)).user < 0)) = true), (true = true), (true = true), (true = true), (true = true), (true = true), (true = true), (true = true), (true = true), (true = true)] (by kernel_rfl) ⟨h47, h47, h47, h48, h48, h48, h48, h48, h48, h48, h48, h48, h48, h47, h48, h47, rfl, rfl, rfl, rfl, rfl, (ref5_Has_spec p0.tree (p0.tasks.getD k1 (default : Task)).group r56 hr56), rfl, rfl, h57, h57, h57, h57, h58, h58, h58, h58, rfl, rfl, rfl, rfl, rfl, rfl, rfl, rfl, rfl, trivial⟩ ?_
                  exact joinDone true hm .refl
                ·
                  replace hm := if_f h58 hm
                  rcases Bool.eq_false_or_eq_true (decide ((p0.tasks.getD k1 (default : Task)).user > 1048576)) with h59 | h59
                  ·
                    replace hm := if_t h59 hm
                    refine DW.regE Tgood mixed hnt [.no, .no, .no, .no, .no, .no, .no, .skip, .skip, .skip, .skip, .skip, .skip, .skip, .skip, .skip, .skip, .pk false, .pk false, .no, .no, .no, .no, .no, .call 25 [] true (.p (vb r56)) [] [], .no, .pk false, .no, .no, .no, .no, .pk false, .no, .no, .no, .no, .pk false, .no, .skip, .skip, .pk true, .no, .skip, .skip, .skip, .skip, .skip, .pk true] [1, 3, 4, 110] [1008]
                      [(1, .ref 1008 0 0), (3, .p (vi ((p0.tasks.length : Nat) : Int))), (4, .p (vi ((k1 : Nat) : Int))), (110, .p (vb true))]
                      [(1008, ⟨0, .box [.p (slOf 6 encNode (default : Node) p0.tree.nodes), .p (vi p0.tree.next), .p (slOf 4 encTask (default : Task) p0.tasks), .p (vi p0.next)]⟩)]
                      [((decide ((p0.tasks.getD k1 (default : Task)).id < 1)) = false), ((decide ((p0.tasks.getD k1 (default : Task)).id < 1)) = false), ((decide ((p0.tasks.getD k1 (default : Task)).id < 1)) = false), ((decide (((k1 : Nat) : Int) > 0)) = false), ((decide (((k1 : Nat) : Int) > 0)) = false), ((decide (((k1 : Nat) : Int) > 0)) = false), ((decide (((k1 : Nat) : Int) > 0)) = false), ((decide (((k1 : Nat) : Int) > 0)) = false), ((decide (((k1 : Nat) : Int) > 0)) = false), ((decide (((k1 : Nat) : Int) > 0)) = false), ((decide (((k1 : Nat) : Int) > 0)) = false), ((decide (((k1 : Nat) : Int) > 0)) = false), ((decide (((k1 : Nat) : Int) > 0)) = false), ((decide ((p0.tasks.getD k1 (default : Task)).id < 1)) = false), ((decide (((k1 : Nat) : Int) > 0)) = false), ((decide ((p0.tasks.getD k1 (default : Task)).id < 1)) = false), (false = false), (false = false), (false = false), (false = false), (false = false), (Spec Try.prog 25 [.p (.agg [slOf 6 encNode (default : Node) p0.tree.nodes, vi p0.tree.next]), .p (vi (p0.tasks.getD k1 (default : Task)).group)] [] (.p (vb r56)) [] []), (false = false), (false = false), ((!r56) = false), ((!r56) = false), ((!r56) = false), ((!r56) = false), ((decide ((p0.tasks.getD k1 (default : Task)).user < 0)) = false), ((decide ((p0.tasks.getD k1 (default : Task)).user < 0)) = false), ((decide ((p0.tasks.getD k1 (default : Task)).user < 0)) = false), ((decide ((p0.tasks.getD k1 (default : Task)).user < 0)) = false), ((decide ((p0.tasks.getD k1 (default : Task)).user > 1048576)) = true), ((decide ((p0.tasks.getD k1 (default : Task)).user > 1048576)) = true), ((decide ((p0.tasks.getD k1 (default : Task)).user > 1048576)) = true), (true = true), (true = true), (true = true), (true = true), (true = true), (true = true)] (by kernel_rfl) ⟨h47, h47, h47, h48, h48, h48, h48, h48, h48, h48, h48, h48, h48, h47, h48, h47, rfl, rfl, rfl, rfl, rfl, (ref5_Has_spec p0.tree (p0.tasks.getD k1 (default : Task)).group r56 hr56), rfl, rfl, h57, h57, h57, h57, h58, h58, h58, h58, h59, h59, h59, rfl, rfl, rfl, rfl, rfl, rfl, trivial⟩ ?_
                    exact joinDone true hm .refl
                  ·
                    replace hm := if_f h59 hm
                    rcases Bool.eq_false_or_eq_true (!r46.2) with h60 | h60
                    ·
                      replace hm := if_t h60 hm
                      refine DW.regE Tgood mixed hnt [.no, .no, .no, .no, .no, .no, .no, .skip, .skip, .skip, .skip, .skip, .skip, .skip, .skip, .skip, .skip, .pk false, .pk false, .no, .no, .no, .no, .no, .call 25 [] true (.p (vb r56)) [] [], .no, .pk false, .no, .no, .no, .no, .pk false, .no, .no, .no, .no, .pk false, .no, .no, .no, .pk false, .no, .skip, .skip, .skip, .skip, .skip, .pk true] [1, 3, 4, 110] [1008]
                        [(1, .ref 1008 0 0), (3, .p (vi ((p0.tasks.length : Nat) : Int))), (4, .p (vi ((k1 : Nat) : Int))), (110, .p (vb true))]
                        [(1008, ⟨0, .box [.p (slOf 6 encNode (default : Node) p0.tree.nodes), .p (vi p0.tree.next), .p (slOf 4 encTask (default : Task) p0.tasks), .p (vi p0.next)]⟩)]
                        [((decide ((p0.tasks.getD k1 (default : Task)).id < 1)) = false), ((decide ((p0.tasks.getD k1 (default : Task)).id < 1)) = false), ((decide ((p0.tasks.getD k1 (default : Task)).id < 1)) = false), ((decide (((k1 : Nat) : Int) > 0)) = false), ((decide (((k1 : Nat) : Int) > 0)) = false), ((decide (((k1 : Nat) : Int) > 0)) = false), ((decide (((k1 : Nat) : Int) > 0)) = false), ((decide (((k1 : Nat) : Int) > 0)) = false), ((decide (((k1 : Nat) : Int) > 0)) = false), ((decide (((k1 : Nat) : Int) > 0)) = false), ((decide (((k1 : Nat) : Int) > 0)) = false), ((decide (((k1 : Nat) : Int) > 0)) = false), ((decide (((k1 : Nat) : Int) > 0)) = false), ((decide ((p0.tasks.getD k1 (default : Task)).id < 1)) = false), ((decide (((k1 : Nat) : Int) > 0)) = false), ((decide ((p0.tasks.getD k1 (default : Task)).id < 1)) = false), (false = false), (false = false), (false = false), (false = false), (false = false), (Spec Try.prog 25 [.p (.agg [slOf 6 encNode (default : Node) p0.tree.nodes, vi p0.tree.next]), .p (vi (p0.tasks.getD k1 (default : Task)).group)] [] (.p (vb r56)) [] []), (false = false), (false = false), ((!r56) = false), ((!r56) = false), ((!r56) = false), ((!r56) = false), ((decide ((p0.tasks.getD k1 (default : Task)).user < 0)) = false), ((decide ((p0.tasks.getD k1 (default : Task)).user < 0)) = false), ((decide ((p0.tasks.getD k1 (default : Task)).user < 0)) = false), ((decide ((p0.tasks.getD k1 (default : Task)).user < 0)) = false), ((decide ((p0.tasks.getD k1 (default : Task)).user > 1048576)) = false), ((decide ((p0.tasks.getD k1 (default : Task)).user > 1048576)) = false), ((decide ((p0.tasks.getD k1 (default : Task)).user > 1048576)) = false), ((!r46.2) = true), ((!r46.2) = true), ((!r46.2) = true), ((!r46.2) = true), ((!r46.2) = true), ((!r46.2) = true)] (by kernel_rfl) ⟨h47, h47, h47, h48, h48, h48, h48, h48, h48, h48, h48, h48, h48, h47, h48, h47, rfl, rfl, rfl, rfl, rfl, (ref5_Has_spec p0.tree (p0.tasks.getD k1 (default : Task)).group r56 hr56), rfl, rfl, h57, h57, h57, h57, h58, h58, h58, h58, h59, h59, h59, h60, h60, h60, h60, h60, h60, trivial⟩ ?_
                      exact joinDone true hm .refl
                    ·
                      replace hm := if_f h60 hm
                      refine DW.regE Tgood mixed hnt [.no, .no, .no, .no, .no, .no, .no, .skip, .skip, .skip, .skip, .skip, .skip, .skip, .skip, .skip, .skip, .pk false, .pk false, .no, .no, .no, .no, .no, .call 25 [] true (.p (vb r56)) [] [], .no, .pk false, .no, .no, .no, .no, .pk false, .no, .no, .no, .no, .pk false, .no, .no, .no, .pk false, .no, .no, .no, .no, .no, .no, .pk false] [1, 3, 4, 110] [1008]
                        [(1, .ref 1008 0 0), (3, .p (vi ((p0.tasks.length : Nat) : Int))), (4, .p (vi ((k1 : Nat) : Int))), (110, .p (vb (r46.1.user != (p0.tasks.getD k1 (default : Task)).user)))]
                        [(1008, ⟨0, .box [.p (slOf 6 encNode (default : Node) p0.tree.nodes), .p (vi p0.tree.next), .p (slOf 4 encTask (default : Task) p0.tasks), .p (vi p0.next)]⟩)]
                        [((decide ((p0.tasks.getD k1 (default : Task)).id < 1)) = false), ((decide ((p0.tasks.getD k1 (default : Task)).id < 1)) = false), ((decide ((p0.tasks.getD k1 (default : Task)).id < 1)) = false), ((decide (((k1 : Nat) : Int) > 0)) = false), ((decide (((k1 : Nat) : Int) > 0)) = false), ((decide (((k1 : Nat) : Int) > 0)) = false), ((decide (((k1 : Nat) : Int) > 0)) = false), ((decide (((k1 : Nat) : Int) > 0)) = false), ((decide (((k1 : Nat) : Int) > 0)) = false), ((decide (((k1 : Nat) : Int) > 0)) = false), ((decide (((k1 : Nat) : Int) > 0)) = false), ((decide (((k1 : Nat) : Int) > 0)) = false), ((decide (((k1 : Nat) : Int) > 0)) = false), ((decide ((p0.tasks.getD k1 (default : Task)).id < 1)) = false), ((decide (((k1 : Nat) : Int) > 0)) = false), ((decide ((p0.tasks.getD k1 (default : Task)).id < 1)) = false), (false = false), (false = false), (false = false), (false = false), (false = false), (Spec Try.prog 25 [.p (.agg [slOf 6 encNode (default : Node) p0.tree.nodes, vi p0.tree.next]), .p (vi (p0.tasks.getD k1 (default : Task)).group)] [] (.p (vb r56)) [] []), (false = false), (false = false), ((!r56) = false), ((!r56) = false), ((!r56) = false), ((!r56) = false), ((decide ((p0.tasks.getD k1 (default : Task)).user < 0)) = false), ((decide ((p0.tasks.getD k1 (default : Task)).user < 0)) = false), ((decide ((p0.tasks.getD k1 (default : Task)).user < 0)) = false), ((decide ((p0.tasks.getD k1 (default : Task)).user < 0)) = false), ((decide ((p0.tasks.getD k1 (default : Task)).user > 1048576)) = false), ((decide ((p0.tasks.getD k1 (default : Task)).user > 1048576)) = false), ((decide ((p0.tasks.getD k1 (default : Task)).user > 1048576)) = false), ((!r46.2) = false), ((!r46.2) = false), ((!r46.2) = false), ((!r46.2) = false), ((!r46.2) = false), ((!r46.2) = false)] (by kernel_rfl) ⟨h47, h47, h47, h48, h48, h48, h48, h48, h48, h48, h48, h48, h48, h47, h48, h47, rfl, rfl, rfl, rfl, rfl, (ref5_Has_spec p0.tree (p0.tasks.getD k1 (default : Task)).group r56 hr56), rfl, rfl, h57, h57, h57, h57, h58, h58, h58, h58, h59, h59, h59, h60, h60, h60, h60, h60, h60, trivial⟩ ?_
                      exact joinDone (r46.1.user != (p0.tasks.getD k1 (default : Task)).user) hm .refl
      ·
        intro h45
        have hge1 : ¬ k1 < p0.tasks.length := by have := of_decide_eq_false h45; omega
        have hm := he1 hge1
        unfold ref6_Check_d1 at hm
        refine DW.exit ?_
        refine joinQ_exit ?_
        refine KQ_exit ?_
        refine blockQ_exit ?_
        show DW _ _ _ _ _
        refine DW.seq ?_
        refine DW.regE Tgood mixed hnt [.no] [2] []
          [(2, .p (vb true))]
          []
          [] (by kernel_rfl) trivial ?_
        refine DW.ret ?_
        obtain rfl := Option.some.inj hm
        refine retOK (bs' := []) [] (.p (vb true)) (by kernel_rfl) ?_ ?_
        · rfl
        · rfl
  ·
    rcases Bool.eq_false_or_eq_true (!r1) with h2 | h2
    ·
      replace hm := if_t h2 hm
      refine DW.regE Tgood mixed hnt [.no, .no, .call 49 [] true (.p (vb r1)) [] [], .no, .no, .skip, .skip, .pk true, .no, .skip, .skip, .skip, .pk true, .no, .skip, .skip, .skip, .pk true, .no, .skip, .skip, .skip, .skip, .skip, .skip, .skip, .skip, .skip, .skip, .skip, .skip, .skip, .skip, .pk true] [1, 3, 44] [1008]
        [(1, .ref 1008 0 0), (3, .p (vi ((p0.tasks.length : Nat) : Int))), (44, .p (vb true))]
        [(1008, ⟨0, .box [.p (slOf 6 encNode (default : Node) p0.tree.nodes), .p (vi p0.tree.next), .p (slOf 4 encTask (default : Task) p0.tasks), .p (vi p0.next)]⟩)]
        [(Spec Try.prog 49 [.p (.agg [slOf 6 encNode (default : Node) p0.tree.nodes, vi p0.tree.next])] [] (.p (vb r1)) [] []), ((!r1) = true), ((!r1) = true), ((!r1) = true), (true = true), (true = true), (true = true), (true = true), (true = true), (true = true), (true = true), (true = true), (true = true), (true = true), (true = true), (true = true), (true = true)] (by kernel_rfl) ⟨(ref5_Check_spec p0.tree r1 hr1), h2, h2, h2, rfl, rfl, rfl, rfl, rfl, rfl, rfl, rfl, rfl, rfl, rfl, rfl, rfl, trivial⟩ ?_
      exact joinDone true hm .refl
    ·
      replace hm := if_f h2 hm
      rcases Bool.eq_false_or_eq_true (decide (((p0.tasks.length : Nat) : Int) > 128)) with h3 | h3
      ·
        replace hm := if_t h3 hm
        refine DW.regE Tgood mixed hnt [.no, .no, .call 49 [] true (.p (vb r1)) [] [], .no, .no, .no, .no, .pk false, .no, .skip, .skip, .skip, .pk true, .no, .skip, .skip, .skip, .pk true, .no, .skip, .skip, .skip, .skip, .skip, .skip, .skip, .skip, .skip, .skip, .skip, .skip, .skip, .skip, .pk true] [1, 3, 44] [1008]
          [(1, .ref 1008 0 0), (3, .p (vi ((p0.tasks.length : Nat) : Int))), (44, .p (vb true))]
          [(1008, ⟨0, .box [.p (slOf 6 encNode (default : Node) p0.tree.nodes), .p (vi p0.tree.next), .p (slOf 4 encTask (default : Task) p0.tasks), .p (vi p0.next)]⟩)]
          [(Spec Try.prog 49 [.p (.agg [slOf 6 encNode (default : Node) p0.tree.nodes, vi p0.tree.next])] [] (.p (vb r1)) [] []), ((!r1) = false), ((!r1) = false), ((!r1) = false), ((decide (((p0.tasks.length : Nat) : Int) > 128)) = true), ((decide (((p0.tasks.length : Nat) : Int) > 128)) = true), ((decide (((p0.tasks.length : Nat) : Int) > 128)) = true), ((decide (((p0.tasks.length : Nat) : Int) > 128)) = true), (true = true), (true = true), (true = true), (true = true), (true = true), (true = true), (true = true), (true = true), (true = true)] (by kernel_rfl) ⟨(ref5_Check_spec p0.tree r1 hr1), h2, h2, h2, h3, h3, h3, h3, rfl, rfl, rfl, rfl, rfl, rfl, rfl, rfl, rfl, trivial⟩ ?_
        exact joinDone true hm .refl
      ·
        replace hm := if_f h3 hm
        rcases Bool.eq_false_or_eq_true (decide (p0.next < 1)) with h4 | h4
        ·
          replace hm := if_t h4 hm
          refine DW.regE Tgood mixed hnt [.no, .no, .call 49 [] true (.p (vb r1)) [] [], .no, .no, .no, .no, .pk false, .no, .no, .no, .no, .pk false, .no, .skip, .skip, .skip, .pk true, .no, .skip, .skip, .skip, .skip, .skip, .skip, .skip, .skip, .skip, .skip, .skip, .skip, .skip, .skip, .pk true] [1, 3, 44] [1008]
            [(1, .ref 1008 0 0), (3, .p (vi ((p0.tasks.length : Nat) : Int))), (44, .p (vb true))]
            [(1008, ⟨0, .box [.p (slOf 6 encNode (default : Node) p0.tree.nodes), .p (vi p0.tree.next), .p (slOf 4 encTask (default : Task) p0.tasks), .p (vi p0.next)]⟩)]
            [(Spec Try.prog 49 [.p (.agg [slOf 6 encNode (default : Node) p0.tree.nodes, vi p0.tree.next])] [] (.p (vb r1)) [] []), ((!r1) = false), ((!r1) = false), ((!r1) = false), ((decide (((p0.tasks.length : Nat) : Int) > 128)) = false), ((decide (((p0.tasks.length : Nat) : Int) > 128)) = false), ((decide (((p0.tasks.length : Nat) : Int) > 128)) = false), ((decide (((p0.tasks.length : Nat) : Int) > 128)) = false), ((decide (p0.next < 1)) = true), ((decide (p0.next < 1)) = true), ((decide (p0.next < 1)) = true), ((decide (p0.next < 1)) = true), (true = true), (true = true), (true = true), (true = true), (true = true)] (by kernel_rfl) ⟨(ref5_Check_spec p0.tree r1 hr1), h2, h2, h2, h3, h3, h3, h3, h4, h4, h4, h4, rfl, rfl, rfl, rfl, rfl, trivial⟩ ?_
          exact joinDone true hm .refl
        ·
          replace hm := if_f h4 hm
          rcases Bool.eq_false_or_eq_true (decide (p0.next > 2147483648)) with h5 | h5
          ·
            replace hm := if_t h5 hm
            refine DW.regE Tgood mixed hnt [.no, .no, .call 49 [] true (.p (vb r1)) [] [], .no, .no, .no, .no, .pk false, .no, .no, .no, .no, .pk false, .no, .no, .no, .no, .pk false, .no, .skip, .skip, .skip, .skip, .skip, .skip, .skip, .skip, .skip, .skip, .skip, .skip, .skip, .skip, .pk true] [1, 3, 44] [1008]
              [(1, .ref 1008 0 0), (3, .p (vi ((p0.tasks.length : Nat) : Int))), (44, .p (vb true))]
              [(1008, ⟨0, .box [.p (slOf 6 encNode (default : Node) p0.tree.nodes), .p (vi p0.tree.next), .p (slOf 4 encTask (default : Task) p0.tasks), .p (vi p0.next)]⟩)]
              [(Spec Try.prog 49 [.p (.agg [slOf 6 encNode (default : Node) p0.tree.nodes, vi p0.tree.next])] [] (.p (vb r1)) [] []), ((!r1) = false), ((!r1) = false), ((!r1) = false), ((decide (((p0.tasks.length : Nat) : Int) > 128)) = false), ((decide (((p0.tasks.length : Nat) : Int) > 128)) = false), ((decide (((p0.tasks.length : Nat) : Int) > 128)) = false), ((decide (((p0.tasks.length : Nat) : Int) > 128)) = false), ((decide (p0.next < 1)) = false), ((decide (p0.next < 1)) = false), ((decide (p0.next < 1)) = false), ((decide (p0.next < 1)) = false), ((decide (p0.next > 2147483648)) = true), ((decide (p0.next > 2147483648)) = true), ((decide (p0.next > 2147483648)) = true), ((decide (p0.next > 2147483648)) = true), ((decide (p0.next > 2147483648)) = true)] (by kernel_rfl) ⟨(ref5_Check_spec p0.tree r1 hr1), h2, h2, h2, h3, h3, h3, h3, h4, h4, h4, h4, h5, h5, h5, h5, h5, trivial⟩ ?_
            exact joinDone true hm .refl
          ·
            replace hm := if_f h5 hm
            rcases Bool.eq_false_or_eq_true (decide (((p0.tasks.length : Nat) : Int) > 0)) with h6 | h6
            ·
              replace hm := if_t h6 hm
              obtain ⟨g7, hm⟩ := guard_open hm
              refine DW.regE Tgood mixed hnt [.no, .no, .call 49 [] true (.p (vb r1)) [] [], .no, .no, .no, .no, .pk false, .no, .no, .no, .no, .pk false, .no, .no, .no, .no, .pk false, .no, .no, .no, .no, .no, .no, .no, .no, .no, .no, .no, .no, .no, .no, .pk true, .pk false] [1, 3, 44] [1008]
                [(1, .ref 1008 0 0), (3, .p (vi ((p0.tasks.length : Nat) : Int))), (44, .p (vb (decide (p0.next ≤ (p0.tasks.getD (Int.toNat (w64 (((p0.tasks.length : Nat) : Int) - 1))) (default : Task)).id))))]
                [(1008, ⟨0, .box [.p (slOf 6 encNode (default : Node) p0.tree.nodes), .p (vi p0.tree.next), .p (slOf 4 encTask (default : Task) p0.tasks), .p (vi p0.next)]⟩)]
                [(Spec Try.prog 49 [.p (.agg [slOf 6 encNode (default : Node) p0.tree.nodes, vi p0.tree.next])] [] (.p (vb r1)) [] []), ((!r1) = false), ((!r1) = false), ((!r1) = false), ((decide (((p0.tasks.length : Nat) : Int) > 128)) = false), ((decide (((p0.tasks.length : Nat) : Int) > 128)) = false), ((decide (((p0.tasks.length : Nat) : Int) > 128)) = false), ((decide (((p0.tasks.length : Nat) : Int) > 128)) = false), ((decide (p0.next < 1)) = false), ((decide (p0.next < 1)) = false), ((decide (p0.next < 1)) = false), ((decide (p0.next < 1)) = false), ((decide (p0.next > 2147483648)) = false), ((decide (p0.next > 2147483648)) = false), ((decide (p0.next > 2147483648)) = false), ((decide (((p0.tasks.length : Nat) : Int) > 0)) = true), ((decide (((p0.tasks.length : Nat) : Int) > 0)) = true), ((decide (((p0.tasks.length : Nat) : Int) > 0)) = true), ((decide (((p0.tasks.length : Nat) : Int) > 0)) = true), ((decide (((p0.tasks.length : Nat) : Int) > 0)) = true), ((decide (((p0.tasks.length : Nat) : Int) > 0)) = true), ((decide (((p0.tasks.length : Nat) : Int) > 0)) = true), ((0 : Int) ≤ (w64 (((p0.tasks.length : Nat) : Int) - 1))), ((w64 (((p0.tasks.length : Nat) : Int) - 1)) < ((p0.tasks.length : Nat) : Int)), ((decide (((p0.tasks.length : Nat) : Int) > 0)) = true), ((decide (((p0.tasks.length : Nat) : Int) > 0)) = true), ((decide (((p0.tasks.length : Nat) : Int) > 0)) = true), ((decide (p0.next > 2147483648)) = false), ((decide (((p0.tasks.length : Nat) : Int) > 0)) = true), ((decide (p0.next > 2147483648)) = false)] (by kernel_rfl) ⟨(ref5_Check_spec p0.tree r1 hr1), h2, h2, h2, h3, h3, h3, h3, h4, h4, h4, h4, h5, h5, h5, h6, h6, h6, h6, h6, h6, h6, g7.1, g7.2, h6, h6, h6, h5, h6, h5, trivial⟩ ?_
              exact joinDone (decide (p0.next ≤ (p0.tasks.getD (Int.toNat (w64 (((p0.tasks.length : Nat) : Int) - 1))) (default : Task)).id)) hm .refl
            ·
              replace hm := if_f h6 hm
              refine DW.regE Tgood mixed hnt [.no, .no, .call 49 [] true (.p (vb r1)) [] [], .no, .no, .no, .no, .pk false, .no, .no, .no, .no, .pk false, .no, .no, .no, .no, .pk false, .no, .no, .no, .no, .skip, .skip, .skip, .skip, .skip, .skip, .skip, .skip, .skip, .skip, .pk false, .pk false] [1, 3, 44] [1008]
                [(1, .ref 1008 0 0), (3, .p (vi ((p0.tasks.length : Nat) : Int))), (44, .p (vb false))]
                [(1008, ⟨0, .box [.p (slOf 6 encNode (default : Node) p0.tree.nodes), .p (vi p0.tree.next), .p (slOf 4 encTask (default : Task) p0.tasks), .p (vi p0.next)]⟩)]
                [(Spec Try.prog 49 [.p (.agg [slOf 6 encNode (default : Node) p0.tree.nodes, vi p0.tree.next])] [] (.p (vb r1)) [] []), ((!r1) = false), ((!r1) = false), ((!r1) = false), ((decide (((p0.tasks.length : Nat) : Int) > 128)) = false), ((decide (((p0.tasks.length : Nat) : Int) > 128)) = false), ((decide (((p0.tasks.length : Nat) : Int) > 128)) = false), ((decide (((p0.tasks.length : Nat) : Int) > 128)) = false), ((decide (p0.next < 1)) = false), ((decide (p0.next < 1)) = false), ((decide (p0.next < 1)) = false), ((decide (p0.next < 1)) = false), ((decide (p0.next > 2147483648)) = false), ((decide (p0.next > 2147483648)) = false), ((decide (p0.next > 2147483648)) = false), ((decide (((p0.tasks.length : Nat) : Int) > 0)) = false), ((decide (((p0.tasks.length : Nat) : Int) > 0)) = false), ((decide (((p0.tasks.length : Nat) : Int) > 0)) = false), ((decide (((p0.tasks.length : Nat) : Int) > 0)) = false), ((decide (((p0.tasks.length : Nat) : Int) > 0)) = false), ((decide (((p0.tasks.length : Nat) : Int) > 0)) = false), ((decide (((p0.tasks.length : Nat) : Int) > 0)) = false), ((decide (((p0.tasks.length : Nat) : Int) > 0)) = false), ((decide (((p0.tasks.length : Nat) : Int) > 0)) = false), ((decide (((p0.tasks.length : Nat) : Int) > 0)) = false), ((decide (p0.next > 2147483648)) = false), ((decide (((p0.tasks.length : Nat) : Int) > 0)) = false), ((decide (p0.next > 2147483648)) = false)] (by kernel_rfl) ⟨(ref5_Check_spec p0.tree r1 hr1), h2, h2, h2, h3, h3, h3, h3, h4, h4, h4, h4, h5, h5, h5, h6, h6, h6, h6, h6, h6, h6, h6, h6, h6, h5, h6, h5, trivial⟩ ?_
              exact joinDone false hm .refl

theorem ref5_Copy_spec (p0 : Tree) (RES : Tree) (hm : ref5_Copy p0 = some RES) : Spec Try.prog 67 [.p (.agg [slOf 6 encNode (default : Node) p0.nodes, vi p0.next])] [] (.agg [.own 0 0 0 RES.nodes.length, .p (vi RES.next)]) [] [rowOf 6 encNode (default : Node) RES.nodes] := by
  unfold ref5_Copy at hm
  refine spec_of Tgood (T := Tt) Try.func67 (by decide) (c := _) rfl rfl (sl := [(0, .p (.agg [slOf 6 encNode (default : Node) p0.nodes, vi p0.next]))]) (ob := []) (Nat.le_of_ble_eq_true rfl) (Nat.le_of_ble_eq_true rfl) (by kernel_rfl) (by kernel_rfl) ?_
  intro cx hnt
  refine DW.start ?_
  refine DW.seq ?_
  refine DW.regE Tgood mixed hnt [.no, .no] [1, 2] [1008, 1016]
    [(1, .ref 1008 0 0), (2, .ref 1016 0 0)]
    [(1008, ⟨0, .box [.p (slOf 6 encNode (default : Node) p0.nodes), .p (vi p0.next)]⟩), (1016, ⟨0, .box [.p (.sl .nil 0 0 (fun _ => [])), .p (vi 0)]⟩)]
    [] (by kernel_rfl) trivial ?_
  refine DW.seq ?_
  obtain ⟨g1, hm⟩ := guard_open hm
  refine DW.reg Tgood mixed hnt [.no, .no, .no, .no, .no, .no, .no] [2] [1016, 1040]
    [(2, .ref 1016 0 0)]
    [(2, .ref 1016 0 0)]
    [(1016, ⟨0, .box [.own 1040 0 0 p0.nodes.length, .p (vi p0.next)]⟩), (1040, ⟨0, .row 6 p0.nodes.length (elems encNode (default : Node) p0.nodes)⟩)]
    [(1016, ⟨0, .box [.own 1040 0 0 p0.nodes.length, .p (vi p0.next)]⟩), (1040, ⟨0, rowOf 6 encNode (default : Node) p0.nodes⟩)]
    [(p0.nodes.length * 56 ≤ 140737488355328)] (by kernel_rfl) ⟨(by omega), trivial⟩ .rfl (.cons .rfl (.cons (BLe.typed RowIs.elems) .rfl)) ?_
  refine DW.ret ?_
  obtain rfl := Option.some.inj hm
  refine retOK (bs' := [rowOf 6 encNode (default : Node) p0.nodes]) [1040] (.agg [.own 0 0 0 p0.nodes.length, .p (vi p0.next)]) (by kernel_rfl) ?_ ?_
  · rfl
  · rfl

theorem ref6_Copy_spec (p0 : Hierarchy) (RES : Hierarchy) (hm : ref6_Copy p0 = some RES) : Spec Try.prog 52 [.p (.agg [slOf 6 encNode (default : Node) p0.tree.nodes, vi p0.tree.next, slOf 4 encTask (default : Task) p0.tasks, vi p0.next])] [] (.agg [.own 0 0 0 RES.tree.nodes.length, .p (vi RES.tree.next), .own 1 0 0 RES.tasks.length, .p (vi RES.next)]) [] [rowOf 6 encNode (default : Node) RES.tree.nodes, rowOf 4 encTask (default : Task) RES.tasks] := by
  unfold ref6_Copy at hm
  refine spec_of Tgood (T := Tt) Try.func52 (by decide) (c := _) rfl rfl (sl := [(0, .p (.agg [slOf 6 encNode (default : Node) p0.tree.nodes, vi p0.tree.next, slOf 4 encTask (default : Task) p0.tasks, vi p0.next]))]) (ob := []) (Nat.le_of_ble_eq_true rfl) (Nat.le_of_ble_eq_true rfl) (by kernel_rfl) (by kernel_rfl) ?_
  intro cx hnt
  refine DW.start ?_
  refine DW.seq ?_
  refine DW.regE Tgood mixed hnt [.no, .no] [1, 2] [1008, 1016]
    [(1, .ref 1008 0 0), (2, .ref 1016 0 0)]
    [(1008, ⟨0, .box [.p (slOf 6 encNode (default : Node) p0.tree.nodes), .p (vi p0.tree.next), .p (slOf 4 encTask (default : Task) p0.tasks), .p (vi p0.next)]⟩), (1016, ⟨0, .box [.p (.sl .nil 0 0 (fun _ => [])), .p (vi 0), .p (.sl .nil 0 0 (fun _ => [])), .p (vi 0)]⟩)]
    [] (by kernel_rfl) trivial ?_
  refine DW.seq ?_
  obtain ⟨r1, hr1, hm⟩ := bind_open hm
  obtain ⟨g2, hm⟩ := guard_open hm
  refine DW.reg Tgood mixed hnt [.no, .no, .call 67 [] true (.agg [.own 0 0 0 r1.nodes.length, .p (vi r1.next)]) [] [rowOf 6 encNode (default : Node) r1.nodes], .no, .no, .no, .no, .no, .no, .no] [2] [1016, 1040, 1064]
    [(2, .ref 1016 0 0)]
    [(2, .ref 1016 0 0)]
    [(1016, ⟨0, .box [.own 1040 0 0 r1.nodes.length, .p (vi r1.next), .own 1064 0 0 p0.tasks.length, .p (vi p0.next)]⟩), (1040, ⟨0, rowOf 6 encNode (default : Node) r1.nodes⟩), (1064, ⟨0, .row 4 p0.tasks.length (elems encTask (default : Task) p0.tasks)⟩)]
    [(1016, ⟨0, .box [.own 1040 0 0 r1.nodes.length, .p (vi r1.next), .own 1064 0 0 p0.tasks.length, .p (vi p0.next)]⟩), (1040, ⟨0, rowOf 6 encNode (default : Node) r1.nodes⟩), (1064, ⟨0, rowOf 4 encTask (default : Task) p0.tasks⟩)]
    [(Spec Try.prog 67 [.p (.agg [slOf 6 encNode (default : Node) p0.tree.nodes, vi p0.tree.next])] [] (.agg [.own 0 0 0 r1.nodes.length, .p (vi r1.next)]) [] [rowOf 6 encNode (default : Node) r1.nodes]), (p0.tasks.length * 32 ≤ 140737488355328)] (by kernel_rfl) ⟨(ref5_Copy_spec p0.tree r1 hr1), (by omega), trivial⟩ .rfl (.cons .rfl (.cons .rfl (.cons (BLe.typed RowIs.elems) .rfl))) ?_
  refine DW.ret ?_
  obtain rfl := Option.some.inj hm
  refine retOK (bs' := [rowOf 6 encNode (default : Node) r1.nodes, rowOf 4 encTask (default : Task) p0.tasks]) [1040, 1064] (.agg [.own 0 0 0 r1.nodes.length, .p (vi r1.next), .own 1 0 0 p0.tasks.length, .p (vi p0.next)]) (by kernel_rfl) ?_ ?_
  · rfl
  · rfl

theorem ref6_add_spec (p0 : Hierarchy) (p1 : Task) (RES : Hierarchy × Int × Int) (hm : ref6_add p0 p1 = some RES) : Spec Try.prog 26 [.p (.agg [slOf 6 encNode (default : Node) p0.tree.nodes, vi p0.tree.next, slOf 4 encTask (default : Task) p0.tasks, vi p0.next]), .p (.agg [vi p1.id, vi p1.process, vi p1.group, vi p1.user])] [] (.tup [.agg [.own 0 0 0 RES.1.tree.nodes.length, .p (vi RES.1.tree.next), .own 1 0 0 RES.1.tasks.length, .p (vi RES.1.next)], .p (vi RES.2.1), .p (vi RES.2.2)]) [] [rowOf 6 encNode (default : Node) RES.1.tree.nodes, rowOf 4 encTask (default : Task) RES.1.tasks] := by
  unfold ref6_add at hm
  refine spec_of Tgood (T := Tt) Try.func26 (by decide) (c := _) rfl rfl (sl := [(0, .p (.agg [slOf 6 encNode (default : Node) p0.tree.nodes, vi p0.tree.next, slOf 4 encTask (default : Task) p0.tasks, vi p0.next])), (1, .p (.agg [vi p1.id, vi p1.process, vi p1.group, vi p1.user]))]) (ob := []) (Nat.le_of_ble_eq_true rfl) (Nat.le_of_ble_eq_true rfl) (by kernel_rfl) (by kernel_rfl) ?_
  intro cx hnt
  refine DW.start ?_
  refine DW.seq ?_
  refine DW.regE Tgood mixed hnt [.no, .no, .no, .no, .no] [2, 3, 4] [1016, 1024, 1032]
    [(2, .ref 1016 0 0), (3, .ref 1024 0 0), (4, .ref 1032 0 0)]
    [(1016, ⟨0, .box [.p (slOf 6 encNode (default : Node) p0.tree.nodes), .p (vi p0.tree.next), .p (slOf 4 encTask (default : Task) p0.tasks), .p (vi p0.next)]⟩), (1024, ⟨0, .box [.p (vi p1.id), .p (vi p1.process), .p (vi p1.group), .p (vi p1.user)]⟩), (1032, ⟨0, .box [.p (.sl .nil 0 0 (fun _ => [])), .p (vi 0), .p (.sl .nil 0 0 (fun _ => [])), .p (vi 0)]⟩)]
    [] (by kernel_rfl) trivial ?_
  refine DW.seq ?_
  refine DW.seq ?_
  refine DW.regJ (sl2 := [(2, .ref 1016 0 0), (3, .ref 1024 0 0), (4, .ref 1032 0 0), (16, .p (vb ((decide (((p0.tasks.length : Nat) : Int) ≥ 128)) || (decide (p0.next > 2147483647)))))]) (ob2 := [(1016, ⟨0, .box [.p (slOf 6 encNode (default : Node) p0.tree.nodes), .p (vi p0.tree.next), .p (slOf 4 encTask (default : Task) p0.tasks), .p (vi p0.next)]⟩), (1024, ⟨0, .box [.p (vi p1.id), .p (vi p1.process), .p (vi p1.group), .p (vi p1.user)]⟩), (1032, ⟨0, .box [.p (.sl .nil 0 0 (fun _ => [])), .p (vi 0), .p (.sl .nil 0 0 (fun _ => [])), .p (vi 0)]⟩)]) ?_ ?_
  ·
    rcases Bool.eq_false_or_eq_true (decide (((p0.tasks.length : Nat) : Int) ≥ 128)) with h1 | h1
    ·
      exact RegTo.mk Tgood mixed hnt [.no, .no, .no, .no, .no, .skip, .skip, .skip, .pk true] [2, 3, 4, 16] [1016, 1024, 1032]
        [(2, .ref 1016 0 0), (3, .ref 1024 0 0), (4, .ref 1032 0 0), (16, .p (vb true))]
        [(2, .ref 1016 0 0), (3, .ref 1024 0 0), (4, .ref 1032 0 0), (16, .p (vb ((decide (((p0.tasks.length : Nat) : Int) ≥ 128)) || (decide (p0.next > 2147483647)))))]
        [(1016, ⟨0, .box [.p (slOf 6 encNode (default : Node) p0.tree.nodes), .p (vi p0.tree.next), .p (slOf 4 encTask (default : Task) p0.tasks), .p (vi p0.next)]⟩), (1024, ⟨0, .box [.p (vi p1.id), .p (vi p1.process), .p (vi p1.group), .p (vi p1.user)]⟩), (1032, ⟨0, .box [.p (.sl .nil 0 0 (fun _ => [])), .p (vi 0), .p (.sl .nil 0 0 (fun _ => [])), .p (vi 0)]⟩)]
        [(1016, ⟨0, .box [.p (slOf 6 encNode (default : Node) p0.tree.nodes), .p (vi p0.tree.next), .p (slOf 4 encTask (default : Task) p0.tasks), .p (vi p0.next)]⟩), (1024, ⟨0, .box [.p (vi p1.id), .p (vi p1.process), .p (vi p1.group), .p (vi p1.user)]⟩), (1032, ⟨0, .box [.p (.sl .nil 0 0 (fun _ => [])), .p (vi 0), .p (.sl .nil 0 0 (fun _ => [])), .p (vi 0)]⟩)]
        [((decide (((p0.tasks.length : Nat) : Int) ≥ 128)) = true), ((decide (((p0.tasks.length : Nat) : Int) ≥ 128)) = true), ((decide (((p0.tasks.length : Nat) : Int) ≥ 128)) = true), ((decide (((p0.tasks.length : Nat) : Int) ≥ 128)) = true)] (by kernel_rfl) ⟨h1, h1, h1, h1, trivial⟩ (.cons .rfl (.cons .rfl (.cons .rfl (.cons (.of_eq (by first | (rw [h1]; done) | (rw [h1]; rfl) | simp [h1])) .rfl)))) .rfl
    ·
      exact RegTo.mk Tgood mixed hnt [.no, .no, .no, .no, .no, .no, .no, .no, .pk false] [2, 3, 4, 16] [1016, 1024, 1032]
        [(2, .ref 1016 0 0), (3, .ref 1024 0 0), (4, .ref 1032 0 0), (16, .p (vb (decide (p0.next > 2147483647))))]
        [(2, .ref 1016 0 0), (3, .ref 1024 0 0), (4, .ref 1032 0 0), (16, .p (vb ((decide (((p0.tasks.length : Nat) : Int) ≥ 128)) || (decide (p0.next > 2147483647)))))]
        [(1016, ⟨0, .box [.p (slOf 6 encNode (default : Node) p0.tree.nodes), .p (vi p0.tree.next), .p (slOf 4 encTask (default : Task) p0.tasks), .p (vi p0.next)]⟩), (1024, ⟨0, .box [.p (vi p1.id), .p (vi p1.process), .p (vi p1.group), .p (vi p1.user)]⟩), (1032, ⟨0, .box [.p (.sl .nil 0 0 (fun _ => [])), .p (vi 0), .p (.sl .nil 0 0 (fun _ => [])), .p (vi 0)]⟩)]
        [(1016, ⟨0, .box [.p (slOf 6 encNode (default : Node) p0.tree.nodes), .p (vi p0.tree.next), .p (slOf 4 encTask (default : Task) p0.tasks), .p (vi p0.next)]⟩), (1024, ⟨0, .box [.p (vi p1.id), .p (vi p1.process), .p (vi p1.group), .p (vi p1.user)]⟩), (1032, ⟨0, .box [.p (.sl .nil 0 0 (fun _ => [])), .p (vi 0), .p (.sl .nil 0 0 (fun _ => [])), .p (vi 0)]⟩)]
        [((decide (((p0.tasks.length : Nat) : Int) ≥ 128)) = false), ((decide (((p0.tasks.length : Nat) : Int) ≥ 128)) = false), ((decide (((p0.tasks.length : Nat) : Int) ≥ 128)) = false), ((decide (((p0.tasks.length : Nat) : Int) ≥ 128)) = false)] (by kernel_rfl) ⟨h1, h1, h1, h1, trivial⟩ (.cons .rfl (.cons .rfl (.cons .rfl (.cons (.of_eq (by first | (rw [h1]; done) | (rw [h1]; rfl) | simp [h1])) .rfl)))) .rfl
  ·
    refine DW.cond ((decide (((p0.tasks.length : Nat) : Int) ≥ 128)) || (decide (p0.next > 2147483647))) rfl rfl ?_ ?_
    ·
      intro h2
      replace hm := if_t h2 hm
      refine DW.seq ?_
      refine DW.regE Tgood mixed hnt [.no, .no, .no, .no] [4, 5, 6] [1032]
        [(4, .ref 1032 0 0), (5, .p (vi 0)), (6, .p (vi 7))]
        [(1032, ⟨0, .box [.p (.sl .nil 0 0 (fun _ => [])), .p (vi 0), .p (.sl .nil 0 0 (fun _ => [])), .p (vi 0)]⟩)]
        [] (by kernel_rfl) trivial ?_
      refine DW.conv (τ := mkSt [(4, .ref 1032 0 0), (5, .p (vi 0)), (6, .p (vi 7))] [(1032, ⟨0, .box [.own 100000 0 0 0, .p (vi 0), .own 100001 0 0 0, .p (vi 0)]⟩), (100000, ⟨0, rowOf 6 encNode (default : Node) []⟩), (100001, ⟨0, rowOf 4 encTask (default : Task) []⟩)]) (Conv.trans (τ := mkSt [(4, .ref 1032 0 0), (5, .p (vi 0)), (6, .p (vi 7))] ((100000, ⟨0, .row 6 0 (elems encNode (default : Node) [])⟩) :: [(1032, ⟨0, .box [.own 100000 0 0 0, .p (vi 0), .p (.sl .nil 0 0 (fun _ => [])), .p (vi 0)]⟩)])) (Conv.adopt 100000 6 (elems encNode (default : Node) []) rfl rfl (.rfl _) (.box (.cons (.nil _ _) (.cons (.rfl _) (.cons (.rfl _) (.cons (.rfl _) (.rfl _))))) (.rfl _))) (Conv.trans (τ := mkSt [(4, .ref 1032 0 0), (5, .p (vi 0)), (6, .p (vi 7))] [(1032, ⟨0, .box [.own 100000 0 0 0, .p (vi 0), .p (.sl .nil 0 0 (fun _ => [])), .p (vi 0)]⟩), (100000, ⟨0, rowOf 6 encNode (default : Node) []⟩)]) (Conv.to [4, 5, 6] [1032, 100000] [(4, .ref 1032 0 0), (5, .p (vi 0)), (6, .p (vi 7))] [(4, .ref 1032 0 0), (5, .p (vi 0)), (6, .p (vi 7))] [(1032, ⟨0, .box [.own 100000 0 0 0, .p (vi 0), .p (.sl .nil 0 0 (fun _ => [])), .p (vi 0)]⟩), (100000, ⟨0, rowOf 6 encNode (default : Node) []⟩)] [(1032, ⟨0, .box [.own 100000 0 0 0, .p (vi 0), .p (.sl .nil 0 0 (fun _ => [])), .p (vi 0)]⟩), (100000, ⟨0, rowOf 6 encNode (default : Node) []⟩)] (by kernel_rfl) (by kernel_rfl) .rfl .rfl) (Conv.trans (τ := mkSt [(4, .ref 1032 0 0), (5, .p (vi 0)), (6, .p (vi 7))] ((100001, ⟨0, .row 4 0 (elems encTask (default : Task) [])⟩) :: [(1032, ⟨0, .box [.own 100000 0 0 0, .p (vi 0), .own 100001 0 0 0, .p (vi 0)]⟩), (100000, ⟨0, rowOf 6 encNode (default : Node) []⟩)])) (Conv.adopt 100001 4 (elems encTask (default : Task) []) rfl rfl (.rfl _) (.box (.cons (.rfl _) (.cons (.rfl _) (.cons (.nil _ _) (.cons (.rfl _) (.rfl _))))) (.keep (.rfl _)))) (Conv.trans (τ := mkSt [(4, .ref 1032 0 0), (5, .p (vi 0)), (6, .p (vi 7))] [(1032, ⟨0, .box [.own 100000 0 0 0, .p (vi 0), .own 100001 0 0 0, .p (vi 0)]⟩), (100000, ⟨0, rowOf 6 encNode (default : Node) []⟩), (100001, ⟨0, rowOf 4 encTask (default : Task) []⟩)]) (Conv.to [4, 5, 6] [1032, 100000, 100001] [(4, .ref 1032 0 0), (5, .p (vi 0)), (6, .p (vi 7))] [(4, .ref 1032 0 0), (5, .p (vi 0)), (6, .p (vi 7))] [(1032, ⟨0, .box [.own 100000 0 0 0, .p (vi 0), .own 100001 0 0 0, .p (vi 0)]⟩), (100000, ⟨0, rowOf 6 encNode (default : Node) []⟩), (100001, ⟨0, rowOf 4 encTask (default : Task) []⟩)] [(1032, ⟨0, .box [.own 100000 0 0 0, .p (vi 0), .own 100001 0 0 0, .p (vi 0)]⟩), (100000, ⟨0, rowOf 6 encNode (default : Node) []⟩), (100001, ⟨0, rowOf 4 encTask (default : Task) []⟩)] (by kernel_rfl) (by kernel_rfl) .rfl .rfl) .refl)))) ?_
      refine DW.ret ?_
      obtain rfl := Option.some.inj hm
      refine retOK (bs' := [rowOf 6 encNode (default : Node) [], rowOf 4 encTask (default : Task) []]) [100000, 100001] (.tup [.agg [.own 0 0 0 0, .p (vi 0), .own 1 0 0 0, .p (vi 0)], .p (vi 0), .p (vi 7)]) (by kernel_rfl) ?_ ?_
      · rfl
      · rfl
    ·
      intro h2
      replace hm := if_f h2 hm
      refine DW.skip ?_
      refine DW.seq ?_
      obtain ⟨r3, hr3, hm⟩ := bind_open hm
      refine DW.regE Tgood mixed hnt [.no, .call 52 [] true (.agg [.own 0 0 0 r3.tree.nodes.length, .p (vi r3.tree.next), .own 1 0 0 r3.tasks.length, .p (vi r3.next)]) [] [rowOf 6 encNode (default : Node) r3.tree.nodes, rowOf 4 encTask (default : Task) r3.tasks], .no, .no] [2, 3, 4, 7] [1016, 1024, 1032, 1056, 1152, 1153]
        [(2, .ref 1016 0 0), (3, .ref 1024 0 0), (4, .ref 1032 0 0), (7, .ref 1056 0 0)]
        [(1016, ⟨0, .box [.p (slOf 6 encNode (default : Node) p0.tree.nodes), .p (vi p0.tree.next), .p (slOf 4 encTask (default : Task) p0.tasks), .p (vi p0.next)]⟩), (1024, ⟨0, .box [.p (vi p1.id), .p (vi p1.process), .p (vi p1.group), .p (vi p1.user)]⟩), (1032, ⟨0, .box [.p (.sl .nil 0 0 (fun _ => [])), .p (vi 0), .p (.sl .nil 0 0 (fun _ => [])), .p (vi 0)]⟩), (1056, ⟨0, .box [.own 1152 0 0 r3.tree.nodes.length, .p (vi r3.tree.next), .own 1153 0 0 r3.tasks.length, .p (vi r3.next)]⟩), (1152, ⟨0, rowOf 6 encNode (default : Node) r3.tree.nodes⟩), (1153, ⟨0, rowOf 4 encTask (default : Task) r3.tasks⟩)]
        [(Spec Try.prog 52 [.p (.agg [slOf 6 encNode (default : Node) p0.tree.nodes, vi p0.tree.next, slOf 4 encTask (default : Task) p0.tasks, vi p0.next])] [] (.agg [.own 0 0 0 r3.tree.nodes.length, .p (vi r3.tree.next), .own 1 0 0 r3.tasks.length, .p (vi r3.next)]) [] [rowOf 6 encNode (default : Node) r3.tree.nodes, rowOf 4 encTask (default : Task) r3.tasks])] (by kernel_rfl) ⟨(ref6_Copy_spec p0 r3 hr3), trivial⟩ ?_
      refine DW.seq ?_
      refine DW.regE Tgood mixed hnt [.no, .no, .no, .no] [3, 4, 7] [1024, 1032, 1056, 1152, 1153]
        [(3, .ref 1024 0 0), (4, .ref 1032 0 0), (7, .ref 1056 0 0)]
        [(1024, ⟨0, .box [.p (vi p0.next), .p (vi p1.process), .p (vi p1.group), .p (vi p1.user)]⟩), (1032, ⟨0, .box [.p (.sl .nil 0 0 (fun _ => [])), .p (vi 0), .p (.sl .nil 0 0 (fun _ => [])), .p (vi 0)]⟩), (1056, ⟨0, .box [.own 1152 0 0 r3.tree.nodes.length, .p (vi r3.tree.next), .own 1153 0 0 r3.tasks.length, .p (vi r3.next)]⟩), (1152, ⟨0, rowOf 6 encNode (default : Node) r3.tree.nodes⟩), (1153, ⟨0, rowOf 4 encTask (default : Task) r3.tasks⟩)]
        [] (by kernel_rfl) trivial ?_
      refine DW.seq ?_
      refine DW.seq ?_
      refine DW.regE Tgood mixed hnt [.no, .no, .no] [3, 4, 7, 25] [1024, 1032, 1056, 1152, 1153]
        [(3, .ref 1024 0 0), (4, .ref 1032 0 0), (7, .ref 1056 0 0), (25, .p (vb (p1.process == 0)))]
        [(1024, ⟨0, .box [.p (vi p0.next), .p (vi p1.process), .p (vi p1.group), .p (vi p1.user)]⟩), (1032, ⟨0, .box [.p (.sl .nil 0 0 (fun _ => [])), .p (vi 0), .p (.sl .nil 0 0 (fun _ => [])), .p (vi 0)]⟩), (1056, ⟨0, .box [.own 1152 0 0 r3.tree.nodes.length, .p (vi r3.tree.next), .own 1153 0 0 r3.tasks.length, .p (vi r3.next)]⟩), (1152, ⟨0, rowOf 6 encNode (default : Node) r3.tree.nodes⟩), (1153, ⟨0, rowOf 4 encTask (default : Task) r3.tasks⟩)]
        [] (by kernel_rfl) trivial ?_
      refine DW.join (ι := Task) (fun (y1 : Task) => mkSt [(3, .ref 1024 0 0), (4, .ref 1032 0 0), (7, .ref 1056 0 0)] [(1024, ⟨0, .box [.p (vi y1.id), .p (vi y1.process), .p (vi y1.group), .p (vi y1.user)]⟩), (1032, ⟨0, .box [.p (.sl .nil 0 0 (fun _ => [])), .p (vi 0), .p (.sl .nil 0 0 (fun _ => [])), .p (vi 0)]⟩), (1056, ⟨0, .box [.own 1152 0 0 r3.tree.nodes.length, .p (vi r3.tree.next), .own 1153 0 0 r3.tasks.length, .p (vi r3.next)]⟩), (1152, ⟨0, rowOf 6 encNode (default : Node) r3.tree.nodes⟩), (1153, ⟨0, rowOf 4 encTask (default : Task) r3.tasks⟩)]) (fun y1 => (ref6_add_j1 r3) y1 = some RES) ?_ ?_
      · intro y1 hm
        unfold ref6_add_j1 at hm
        refine DW.seq ?_
        obtain ⟨g5, hm⟩ := guard_open hm
        refine DW.reg Tgood mixed hnt [.no, .no, .no, .no, .no, .no, .no] [3, 4, 7] [1024, 1032, 1056, 1152, 1153]
          [(3, .ref 1024 0 0), (4, .ref 1032 0 0), (7, .ref 1056 0 0)]
          [(3, .ref 1024 0 0), (4, .ref 1032 0 0), (7, .ref 1056 0 0)]
          [(1024, ⟨0, .box [.p (vi y1.id), .p (vi y1.process), .p (vi y1.group), .p (vi y1.user)]⟩), (1032, ⟨0, .box [.p (.sl .nil 0 0 (fun _ => [])), .p (vi 0), .p (.sl .nil 0 0 (fun _ => [])), .p (vi 0)]⟩), (1056, ⟨0, .box [.own 1152 0 0 r3.tree.nodes.length, .p (vi r3.tree.next), .own 1153 0 0 (r3.tasks.length + 1), .p (vi r3.next)]⟩), (1152, ⟨0, rowOf 6 encNode (default : Node) r3.tree.nodes⟩), (1153, ⟨0, .row 4 (r3.tasks.length + 1) (catF r3.tasks.length (elems encTask (default : Task) r3.tasks) (cut 4 [vi y1.id, vi y1.process, vi y1.group, vi y1.user]))⟩)]
          [(1024, ⟨0, .box [.p (vi y1.id), .p (vi y1.process), .p (vi y1.group), .p (vi y1.user)]⟩), (1032, ⟨0, .box [.p (.sl .nil 0 0 (fun _ => [])), .p (vi 0), .p (.sl .nil 0 0 (fun _ => [])), .p (vi 0)]⟩), (1056, ⟨0, .box [.own 1152 0 0 r3.tree.nodes.length, .p (vi r3.tree.next), .own 1153 0 0 (r3.tasks ++ [y1]).length, .p (vi r3.next)]⟩), (1152, ⟨0, rowOf 6 encNode (default : Node) r3.tree.nodes⟩), (1153, ⟨0, rowOf 4 encTask (default : Task) (r3.tasks ++ [y1])⟩)]
          [((r3.tasks.length + 1) * 32 ≤ 140737488355328)] (by kernel_rfl) ⟨(by omega), trivial⟩ .rfl (.cons .rfl (.cons .rfl (.cons (.box (.cons .rfl (.cons .rfl (.cons (MLe.ownLen (enc := encTask) (d := (default : Task)) (f := (catF r3.tasks.length (elems encTask (default : Task) r3.tasks) (cut 4 [vi y1.id, vi y1.process, vi y1.group, vi y1.user]))) (RowIs.cat RowIs.elems (RowIs.lit (enc := encTask) (d := (default : Task)) (n := 1) (f := (cut 4 [vi y1.id, vi y1.process, vi y1.group, vi y1.user])) [y1] rfl (fun | 0, _ => rfl | n + 1, h => absurd h (by omega))))) (.cons .rfl .nil))))) (.cons .rfl (.cons (BLe.typed (RowIs.cat RowIs.elems (RowIs.lit (enc := encTask) (d := (default : Task)) (n := 1) (f := (cut 4 [vi y1.id, vi y1.process, vi y1.group, vi y1.user])) [y1] rfl (fun | 0, _ => rfl | n + 1, h => absurd h (by omega))))) .rfl))))) ?_
        refine DW.seq ?_
        refine DW.regE Tgood mixed hnt [.no, .no, .no, .no, .no] [3, 4, 7] [1024, 1032, 1056, 1152, 1153]
          [(3, .ref 1024 0 0), (4, .ref 1032 0 0), (7, .ref 1056 0 0)]
          [(1024, ⟨0, .box [.p (vi y1.id), .p (vi y1.process), .p (vi y1.group), .p (vi y1.user)]⟩), (1032, ⟨0, .box [.p (.sl .nil 0 0 (fun _ => [])), .p (vi 0), .p (.sl .nil 0 0 (fun _ => [])), .p (vi 0)]⟩), (1056, ⟨0, .box [.own 1152 0 0 r3.tree.nodes.length, .p (vi r3.tree.next), .own 1153 0 0 (r3.tasks ++ [y1]).length, .p (vi (w64 (r3.next + 1)))]⟩), (1152, ⟨0, rowOf 6 encNode (default : Node) r3.tree.nodes⟩), (1153, ⟨0, rowOf 4 encTask (default : Task) (r3.tasks ++ [y1])⟩)]
          [] (by kernel_rfl) trivial ?_
        refine DW.seq ?_
        refine DW.regE Tgood mixed hnt [.no, .no, .no, .no, .no, .no] [4, 5, 6] [1032, 1152, 1153]
          [(4, .ref 1032 0 0), (5, .p (vi y1.id)), (6, .p (vi 0))]
          [(1032, ⟨0, .box [.own 1152 0 0 r3.tree.nodes.length, .p (vi r3.tree.next), .own 1153 0 0 (r3.tasks ++ [y1]).length, .p (vi (w64 (r3.next + 1)))]⟩), (1152, ⟨0, rowOf 6 encNode (default : Node) r3.tree.nodes⟩), (1153, ⟨0, rowOf 4 encTask (default : Task) (r3.tasks ++ [y1])⟩)]
          [] (by kernel_rfl) trivial ?_
        refine DW.ret ?_
        obtain rfl := Option.some.inj hm
        refine retOK (bs' := [rowOf 6 encNode (default : Node) r3.tree.nodes, rowOf 4 encTask (default : Task) (r3.tasks ++ [y1])]) [1152, 1153] (.tup [.agg [.own 0 0 0 r3.tree.nodes.length, .p (vi r3.tree.next), .own 1 0 0 (r3.tasks ++ [y1]).length, .p (vi (w64 (r3.next + 1)))], .p (vi y1.id), .p (vi 0)]) (by kernel_rfl) ?_ ?_
        · rfl
        · rfl
      ·
        refine DW.cond (p1.process == 0) rfl rfl ?_ ?_
        ·
          intro h4
          replace hm := if_t h4 hm
          refine DW.regE Tgood mixed hnt [.no, .no, .no, .no] [3, 4, 7] [1024, 1032, 1056, 1152, 1153]
            [(3, .ref 1024 0 0), (4, .ref 1032 0 0), (7, .ref 1056 0 0)]
            [(1024, ⟨0, .box [.p (vi p0.next), .p (vi p0.next), .p (vi p1.group), .p (vi p1.user)]⟩), (1032, ⟨0, .box [.p (.sl .nil 0 0 (fun _ => [])), .p (vi 0), .p (.sl .nil 0 0 (fun _ => [])), .p (vi 0)]⟩), (1056, ⟨0, .box [.own 1152 0 0 r3.tree.nodes.length, .p (vi r3.tree.next), .own 1153 0 0 r3.tasks.length, .p (vi r3.next)]⟩), (1152, ⟨0, rowOf 6 encNode (default : Node) r3.tree.nodes⟩), (1153, ⟨0, rowOf 4 encTask (default : Task) r3.tasks⟩)]
            [] (by kernel_rfl) trivial ?_
          exact joinDone ({ id := p0.next, process := p0.next, group := p1.group, user := p1.user } : Task) hm .refl
        ·
          intro h4
          replace hm := if_f h4 hm
          refine DW.skip ?_
          exact joinDone ({ id := p0.next, process := p1.process, group := p1.group, user := p1.user } : Task) hm (Conv.to [3, 4, 7] [1024, 1032, 1056, 1152, 1153] [(3, .ref 1024 0 0), (4, .ref 1032 0 0), (7, .ref 1056 0 0)] [(3, .ref 1024 0 0), (4, .ref 1032 0 0), (7, .ref 1056 0 0)] [(1024, ⟨0, .box [.p (vi p0.next), .p (vi p1.process), .p (vi p1.group), .p (vi p1.user)]⟩), (1032, ⟨0, .box [.p (.sl .nil 0 0 (fun _ => [])), .p (vi 0), .p (.sl .nil 0 0 (fun _ => [])), .p (vi 0)]⟩), (1056, ⟨0, .box [.own 1152 0 0 r3.tree.nodes.length, .p (vi r3.tree.next), .own 1153 0 0 r3.tasks.length, .p (vi r3.next)]⟩), (1152, ⟨0, rowOf 6 encNode (default : Node) r3.tree.nodes⟩), (1153, ⟨0, rowOf 4 encTask (default : Task) r3.tasks⟩)] [(1024, ⟨0, .box [.p (vi ({ id := p0.next, process := p1.process, group := p1.group, user := p1.user } : Task).id), .p (vi ({ id := p0.next, process := p1.process, group := p1.group, user := p1.user } : Task).process), .p (vi ({ id := p0.next, process := p1.process, group := p1.group, user := p1.user } : Task).group), .p (vi ({ id := p0.next, process := p1.process, group := p1.group, user := p1.user } : Task).user)]⟩), (1032, ⟨0, .box [.p (.sl .nil 0 0 (fun _ => [])), .p (vi 0), .p (.sl .nil 0 0 (fun _ => [])), .p (vi 0)]⟩), (1056, ⟨0, .box [.own 1152 0 0 r3.tree.nodes.length, .p (vi r3.tree.next), .own 1153 0 0 r3.tasks.length, .p (vi r3.next)]⟩), (1152, ⟨0, rowOf 6 encNode (default : Node) r3.tree.nodes⟩), (1153, ⟨0, rowOf 4 encTask (default : Task) r3.tasks⟩)] (by kernel_rfl) (by kernel_rfl) .rfl .rfl)

theorem ref6_Spawn_spec (p0 : Hierarchy) (p1 : Int) (p2 : Int) (RES : Hierarchy × Int × Int) (hm : ref6_Spawn p0 p1 p2 = some RES) : Spec Try.prog 7 [.p (.agg [slOf 6 encNode (default : Node) p0.tree.nodes, vi p0.tree.next, slOf 4 encTask (default : Task) p0.tasks, vi p0.next]), .p (vi p1), .p (vi p2)] [] (.tup [.agg [.own 0 0 0 RES.1.tree.nodes.length, .p (vi RES.1.tree.next), .own 1 0 0 RES.1.tasks.length, .p (vi RES.1.next)], .p (vi RES.2.1), .p (vi RES.2.2)]) [] [rowOf 6 encNode (default : Node) RES.1.tree.nodes, rowOf 4 encTask (default : Task) RES.1.tasks] := by
  unfold ref6_Spawn at hm
  refine spec_of Tgood (T := Tt) Try.func7 (by decide) (c := _) rfl rfl (sl := [(0, .p (.agg [slOf 6 encNode (default : Node) p0.tree.nodes, vi p0.tree.next, slOf 4 encTask (default : Task) p0.tasks, vi p0.next])), (1, .p (vi p1)), (2, .p (vi p2))]) (ob := []) (Nat.le_of_ble_eq_true rfl) (Nat.le_of_ble_eq_true rfl) (by kernel_rfl) (by kernel_rfl) ?_
  intro cx hnt
  refine DW.start ?_
  refine DW.seq ?_
  refine DW.regE Tgood mixed hnt [.no, .no, .no, .no] [1, 2, 3, 6] [1024, 1048]
    [(1, .p (vi p1)), (2, .p (vi p2)), (3, .ref 1024 0 0), (6, .ref 1048 0 0)]
    [(1024, ⟨0, .box [.p (slOf 6 encNode (default : Node) p0.tree.nodes), .p (vi p0.tree.next), .p (slOf 4 encTask (default : Task) p0.tasks), .p (vi p0.next)]⟩), (1048, ⟨0, .box [.p (.sl .nil 0 0 (fun _ => [])), .p (vi 0), .p (.sl .nil 0 0 (fun _ => [])), .p (vi 0)]⟩)]
    [] (by kernel_rfl) trivial ?_
  refine DW.seq ?_
  refine DW.seq ?_
  obtain ⟨r1, hr1, hm⟩ := bind_open hm
  refine DW.join (ι := Bool) (fun (y1 : Bool) => mkSt [(1, .p (vi p1)), (2, .p (vi p2)), (3, .ref 1024 0 0), (6, .ref 1048 0 0), (19, .p (vb y1))] [(1024, ⟨0, .box [.p (slOf 6 encNode (default : Node) p0.tree.nodes), .p (vi p0.tree.next), .p (slOf 4 encTask (default : Task) p0.tasks), .p (vi p0.next)]⟩), (1048, ⟨0, .box [.p (.sl .nil 0 0 (fun _ => [])), .p (vi 0), .p (.sl .nil 0 0 (fun _ => [])), .p (vi 0)]⟩)]) (fun y1 => (ref6_Spawn_j1 p0 p1 p2) y1 = some RES) ?_ ?_
  · intro y1 hm
    unfold ref6_Spawn_j1 at hm
    refine DW.cond y1 rfl rfl ?_ ?_
    ·
      intro h4
      replace hm := if_t h4 hm
      refine DW.seq ?_
      refine DW.regE Tgood mixed hnt [.no, .no, .no, .no] [6, 7, 8] [1048]
        [(6, .ref 1048 0 0), (7, .p (vi 0)), (8, .p (vi 1))]
        [(1048, ⟨0, .box [.p (.sl .nil 0 0 (fun _ => [])), .p (vi 0), .p (.sl .nil 0 0 (fun _ => [])), .p (vi 0)]⟩)]
        [] (by kernel_rfl) trivial ?_
      refine DW.conv (τ := mkSt [(6, .ref 1048 0 0), (7, .p (vi 0)), (8, .p (vi 1))] [(1048, ⟨0, .box [.own 100000 0 0 0, .p (vi 0), .own 100001 0 0 0, .p (vi 0)]⟩), (100000, ⟨0, rowOf 6 encNode (default : Node) []⟩), (100001, ⟨0, rowOf 4 encTask (default : Task) []⟩)]) (Conv.trans (τ := mkSt [(6, .ref 1048 0 0), (7, .p (vi 0)), (8, .p (vi 1))] ((100000, ⟨0, .row 6 0 (elems encNode (default : Node) [])⟩) :: [(1048, ⟨0, .box [.own 100000 0 0 0, .p (vi 0), .p (.sl .nil 0 0 (fun _ => [])), .p (vi 0)]⟩)])) (Conv.adopt 100000 6 (elems encNode (default : Node) []) rfl rfl (.rfl _) (.box (.cons (.nil _ _) (.cons (.rfl _) (.cons (.rfl _) (.cons (.rfl _) (.rfl _))))) (.rfl _))) (Conv.trans (τ := mkSt [(6, .ref 1048 0 0), (7, .p (vi 0)), (8, .p (vi 1))] [(1048, ⟨0, .box [.own 100000 0 0 0, .p (vi 0), .p (.sl .nil 0 0 (fun _ => [])), .p (vi 0)]⟩), (100000, ⟨0, rowOf 6 encNode (default : Node) []⟩)]) (Conv.to [6, 7, 8] [1048, 100000] [(6, .ref 1048 0 0), (7, .p (vi 0)), (8, .p (vi 1))] [(6, .ref 1048 0 0), (7, .p (vi 0)), (8, .p (vi 1))] [(1048, ⟨0, .box [.own 100000 0 0 0, .p (vi 0), .p (.sl .nil 0 0 (fun _ => [])), .p (vi 0)]⟩), (100000, ⟨0, rowOf 6 encNode (default : Node) []⟩)] [(1048, ⟨0, .box [.own 100000 0 0 0, .p (vi 0), .p (.sl .nil 0 0 (fun _ => [])), .p (vi 0)]⟩), (100000, ⟨0, rowOf 6 encNode (default : Node) []⟩)] (by kernel_rfl) (by kernel_rfl) .rfl .rfl) (Conv.trans (τ := mkSt [(6, .ref 1048 0 0), (7, .p (vi 0)), (8, .p (vi 1))] ((100001, ⟨0, .row 4 0 (elems encTask (default : Task) [])⟩) :: [(1048, ⟨0, .box [.own 100000 0 0 0, .p (vi 0), .own 100001 0 0 0, .p (vi 0)]⟩), (100000, ⟨0, rowOf 6 encNode (default : Node) []⟩)])) (Conv.adopt 100001 4 (elems encTask (default : Task) []) rfl rfl (.rfl _) (.box (.cons (.rfl _) (.cons (.rfl _) (.cons (.nil _ _) (.cons (.rfl _) (.rfl _))))) (.keep (.rfl _)))) (Conv.trans (τ := mkSt [(6, .ref 1048 0 0), (7, .p (vi 0)), (8, .p (vi 1))] [(1048, ⟨0, .box [.own 100000 0 0 0, .p (vi 0), .own 100001 0 0 0, .p (vi 0)]⟩), (100000, ⟨0, rowOf 6 encNode (default : Node) []⟩), (100001, ⟨0, rowOf 4 encTask (default : Task) []⟩)]) (Conv.to [6, 7, 8] [1048, 100000, 100001] [(6, .ref 1048 0 0), (7, .p (vi 0)), (8, .p (vi 1))] [(6, .ref 1048 0 0), (7, .p (vi 0)), (8, .p (vi 1))] [(1048, ⟨0, .box [.own 100000 0 0 0, .p (vi 0), .own 100001 0 0 0, .p (vi 0)]⟩), (100000, ⟨0, rowOf 6 encNode (default : Node) []⟩), (100001, ⟨0, rowOf 4 encTask (default : Task) []⟩)] [(1048, ⟨0, .box [.own 100000 0 0 0, .p (vi 0), .own 100001 0 0 0, .p (vi 0)]⟩), (100000, ⟨0, rowOf 6 encNode (default : Node) []⟩), (100001, ⟨0, rowOf 4 encTask (default : Task) []⟩)] (by kernel_rfl) (by kernel_rfl) .rfl .rfl) .refl)))) ?_
      refine DW.ret ?_
      obtain rfl := Option.some.inj hm
      refine retOK (bs' := [rowOf 6 encNode (default : Node) [], rowOf 4 encTask (default : Task) []]) [100000, 100001] (.tup [.agg [.own 0 0 0 0, .p (vi 0), .own 1 0 0 0, .p (vi 0)], .p (vi 0), .p (vi 1)]) (by kernel_rfl) ?_ ?_
      · rfl
      · rfl
    ·
      intro h4
      replace hm := if_f h4 hm
      refine DW.skip ?_
      refine DW.seq ?_
      refine DW.seq ?_
      obtain ⟨r5, hr5, hm⟩ := bind_open hm
      refine DW.regE Tgood mixed hnt [.no, .no, .no, .call 25 [] true (.p (vb r5)) [] [], .no] [1, 2, 3, 6, 25] [1024, 1048]
        [(1, .p (vi p1)), (2, .p (vi p2)), (3, .ref 1024 0 0), (6, .ref 1048 0 0), (25, .p (vb (!r5)))]
        [(1024, ⟨0, .box [.p (slOf 6 encNode (default : Node) p0.tree.nodes), .p (vi p0.tree.next), .p (slOf 4 encTask (default : Task) p0.tasks), .p (vi p0.next)]⟩), (1048, ⟨0, .box [.p (.sl .nil 0 0 (fun _ => [])), .p (vi 0), .p (.sl .nil 0 0 (fun _ => [])), .p (vi 0)]⟩)]
        [(Spec Try.prog 25 [.p (.agg [slOf 6 encNode (default : Node) p0.tree.nodes, vi p0.tree.next]), .p (vi p1)] [] (.p (vb r5)) [] [])] (by kernel_rfl) ⟨(ref5_Has_spec p0.tree p1 r5 hr5), trivial⟩ ?_
      refine DW.cond (!r5) rfl rfl ?_ ?_
      ·
        intro h6
        replace hm := if_t h6 hm
        refine DW.seq ?_
        refine DW.regE Tgood mixed hnt [.no, .no, .no, .no] [6, 7, 8] [1048]
          [(6, .ref 1048 0 0), (7, .p (vi 0)), (8, .p (vi 4))]
          [(1048, ⟨0, .box [.p (.sl .nil 0 0 (fun _ => [])), .p (vi 0), .p (.sl .nil 0 0 (fun _ => [])), .p (vi 0)]⟩)]
          [] (by kernel_rfl) trivial ?_
        refine DW.conv (τ := mkSt [(6, .ref 1048 0 0), (7, .p (vi 0)), (8, .p (vi 4))] [(1048, ⟨0, .box [.own 100000 0 0 0, .p (vi 0), .own 100001 0 0 0, .p (vi 0)]⟩), (100000, ⟨0, rowOf 6 encNode (default : Node) []⟩), (100001, ⟨0, rowOf 4 encTask (default : Task) []⟩)]) (Conv.trans (τ := mkSt [(6, .ref 1048 0 0), (7, .p (vi 0)), (8, .p (vi 4))] ((100000, ⟨0, .row 6 0 (elems encNode (default : Node) [])⟩) :: [(1048, ⟨0, .box [.own 100000 0 0 0, .p (vi 0), .p (.sl .nil 0 0 (fun _ => [])), .p (vi 0)]⟩)])) (Conv.adopt 100000 6 (elems encNode (default : Node) []) rfl rfl (.rfl _) (.box (.cons (.nil _ _) (.cons (.rfl _) (.cons (.rfl _) (.cons (.rfl _) (.rfl _))))) (.rfl _))) (Conv.trans (τ := mkSt [(6, .ref 1048 0 0), (7, .p (vi 0)), (8, .p (vi 4))] [(1048, ⟨0, .box [.own 100000 0 0 0, .p (vi 0), .p (.sl .nil 0 0 (fun _ => [])), .p (vi 0)]⟩), (100000, ⟨0, rowOf 6 encNode (default : Node) []⟩)]) (Conv.to [6, 7, 8] [1048, 100000] [(6, .ref 1048 0 0), (7, .p (vi 0)), (8, .p (vi 4))] [(6, .ref 1048 0 0), (7, .p (vi 0)), (8, .p (vi 4))] [(1048, ⟨0, .box [.own 100000 0 0 0, .p (vi 0), .p (.sl .nil 0 0 (fun _ => [])), .p (vi 0)]⟩), (100000, ⟨0, rowOf 6 encNode (default : Node) []⟩)] [(1048, ⟨0, .box [.own 100000 0 0 0, .p (vi 0), .p (.sl .nil 0 0 (fun _ => [])), .p (vi 0)]⟩), (100000, ⟨0, rowOf 6 encNode (default : Node) []⟩)] (by kernel_rfl) (by kernel_rfl) .rfl .rfl) (Conv.trans (τ := mkSt [(6, .ref 1048 0 0), (7, .p (vi 0)), (8, .p (vi 4))] ((100001, ⟨0, .row 4 0 (elems encTask (default : Task) [])⟩) :: [(1048, ⟨0, .box [.own 100000 0 0 0, .p (vi 0), .own 100001 0 0 0, .p (vi 0)]⟩), (100000, ⟨0, rowOf 6 encNode (default : Node) []⟩)])) (Conv.adopt 100001 4 (elems encTask (default : Task) []) rfl rfl (.rfl _) (.box (.cons (.rfl _) (.cons (.rfl _) (.cons (.nil _ _) (.cons (.rfl _) (.rfl _))))) (.keep (.rfl _)))) (Conv.trans (τ := mkSt [(6, .ref 1048 0 0), (7, .p (vi 0)), (8, .p (vi 4))] [(1048, ⟨0, .box [.own 100000 0 0 0, .p (vi 0), .own 100001 0 0 0, .p (vi 0)]⟩), (100000, ⟨0, rowOf 6 encNode (default : Node) []⟩), (100001, ⟨0, rowOf 4 encTask (default : Task) []⟩)]) (Conv.to [6, 7, 8] [1048, 100000, 100001] [(6, .ref 1048 0 0), (7, .p (vi 0)), (8, .p (vi 4))] [(6, .ref 1048 0 0), (7, .p (vi 0)), (8, .p (vi 4))] [(1048, ⟨0, .box [.own 100000 0 0 0, .p (vi 0), .own 100001 0 0 0, .p (vi 0)]⟩), (100000, ⟨0, rowOf 6 encNode (default : Node) []⟩), (100001, ⟨0, rowOf 4 encTask (default : Task) []⟩)] [(1048, ⟨0, .box [.own 100000 0 0 0, .p (vi 0), .own 100001 0 0 0, .p (vi 0)]⟩), (100000, ⟨0, rowOf 6 encNode (default : Node) []⟩), (100001, ⟨0, rowOf 4 encTask (default : Task) []⟩)] (by kernel_rfl) (by kernel_rfl) .rfl .rfl) .refl)))) ?_
        refine DW.ret ?_
        obtain rfl := Option.some.inj hm
        refine retOK (bs' := [rowOf 6 encNode (default : Node) [], rowOf 4 encTask (default : Task) []]) [100000, 100001] (.tup [.agg [.own 0 0 0 0, .p (vi 0), .own 1 0 0 0, .p (vi 0)], .p (vi 0), .p (vi 4)]) (by kernel_rfl) ?_ ?_
        · rfl
        · rfl
      ·
        intro h6
        replace hm := if_f h6 hm
        refine DW.skip ?_
        refine DW.seq ?_
        obtain ⟨r7, hr7, hm⟩ := bind_open hm
        refine DW.regE Tgood mixed hnt [.no, .no, .no, .no, .call 26 [] true (.tup [.agg [.own 0 0 0 r7.1.tree.nodes.length, .p (vi r7.1.tree.next), .own 1 0 0 r7.1.tasks.length, .p (vi r7.1.next)], .p (vi r7.2.1), .p (vi r7.2.2)]) [] [rowOf 6 encNode (default : Node) r7.1.tree.nodes, rowOf 4 encTask (default : Task) r7.1.tasks], .no, .no, .no, .no, .no, .no] [6, 7, 8] [1048, 1248, 1249]
          [(6, .ref 1048 0 0), (7, .p (vi r7.2.1)), (8, .p (vi r7.2.2))]
          [(1048, ⟨0, .box [.own 1248 0 0 r7.1.tree.nodes.length, .p (vi r7.1.tree.next), .own 1249 0 0 r7.1.tasks.length, .p (vi r7.1.next)]⟩), (1248, ⟨0, rowOf 6 encNode (default : Node) r7.1.tree.nodes⟩), (1249, ⟨0, rowOf 4 encTask (default : Task) r7.1.tasks⟩)]
          [(Spec Try.prog 26 [.p (.agg [slOf 6 encNode (default : Node) p0.tree.nodes, vi p0.tree.next, slOf 4 encTask (default : Task) p0.tasks, vi p0.next]), .p (.agg [vi ({ id := 0, process := 0, group := p1, user := p2 } : Task).id, vi ({ id := 0, process := 0, group := p1, user := p2 } : Task).process, vi ({ id := 0, process := 0, group := p1, user := p2 } : Task).group, vi ({ id := 0, process := 0, group := p1, user := p2 } : Task).user])] [] (.tup [.agg [.own 0 0 0 r7.1.tree.nodes.length, .p (vi r7.1.tree.next), .own 1 0 0 r7.1.tasks.length, .p (vi r7.1.next)], .p (vi r7.2.1), .p (vi r7.2.2)]) [] [rowOf 6 encNode (default : Node) r7.1.tree.nodes, rowOf 4 encTask (default : Task) r7.1.tasks])] (by kernel_rfl) ⟨(ref6_add_spec p0 ({ id := 0, process := 0, group := p1, user := p2 } : Task) r7 hr7), trivial⟩ ?_
        refine DW.ret ?_
        obtain rfl := Option.some.inj hm
        refine retOK (bs' := [rowOf 6 encNode (default : Node) r7.1.tree.nodes, rowOf 4 encTask (default : Task) r7.1.tasks]) [1248, 1249] (.tup [.agg [.own 0 0 0 r7.1.tree.nodes.length, .p (vi r7.1.tree.next), .own 1 0 0 r7.1.tasks.length, .p (vi r7.1.next)], .p (vi r7.2.1), .p (vi r7.2.2)]) (by kernel_rfl) ?_ ?_
        · rfl
        · rfl
  ·
    rcases Bool.eq_false_or_eq_true (!r1) with h2 | h2
    ·
      replace hm := if_t h2 hm
      refine DW.regE Tgood mixed hnt [.no, .call 24 [] true (.p (vb r1)) [] [], .no, .no, .skip, .skip, .pk true, .no, .skip, .skip, .pk true] [1, 2, 3, 6, 19] [1024, 1048]
        [(1, .p (vi p1)), (2, .p (vi p2)), (3, .ref 1024 0 0), (6, .ref 1048 0 0), (19, .p (vb true))]
        [(1024, ⟨0, .box [.p (slOf 6 encNode (default : Node) p0.tree.nodes), .p (vi p0.tree.next), .p (slOf 4 encTask (default : Task) p0.tasks), .p (vi p0.next)]⟩), (1048, ⟨0, .box [.p (.sl .nil 0 0 (fun _ => [])), .p (vi 0), .p (.sl .nil 0 0 (fun _ => [])), .p (vi 0)]⟩)]
        [(Spec Try.prog 24 [.p (.agg [slOf 6 encNode (default : Node) p0.tree.nodes, vi p0.tree.next, slOf 4 encTask (default : Task) p0.tasks, vi p0.next])] [] (.p (vb r1)) [] []), ((!r1) = true), ((!r1) = true), ((!r1) = true), (true = true), (true = true), (true = true)] (by kernel_rfl) ⟨(ref6_Check_spec p0 r1 hr1), h2, h2, h2, rfl, rfl, rfl, trivial⟩ ?_
      exact joinDone true hm .refl
    ·
      replace hm := if_f h2 hm
      rcases Bool.eq_false_or_eq_true (decide (p2 < 0)) with h3 | h3
      ·
        replace hm := if_t h3 hm
        refine DW.regE Tgood mixed hnt [.no, .call 24 [] true (.p (vb r1)) [] [], .no, .no, .no, .no, .pk false, .no, .skip, .skip, .pk true] [1, 2, 3, 6, 19] [1024, 1048]
          [(1, .p (vi p1)), (2, .p (vi p2)), (3, .ref 1024 0 0), (6, .ref 1048 0 0), (19, .p (vb true))]
          [(1024, ⟨0, .box [.p (slOf 6 encNode (default : Node) p0.tree.nodes), .p (vi p0.tree.next), .p (slOf 4 encTask (default : Task) p0.tasks), .p (vi p0.next)]⟩), (1048, ⟨0, .box [.p (.sl .nil 0 0 (fun _ => [])), .p (vi 0), .p (.sl .nil 0 0 (fun _ => [])), .p (vi 0)]⟩)]
          [(Spec Try.prog 24 [.p (.agg [slOf 6 encNode (default : Node) p0.tree.nodes, vi p0.tree.next, slOf 4 encTask (default : Task) p0.tasks, vi p0.next])] [] (.p (vb r1)) [] []), ((!r1) = false), ((!r1) = false), ((!r1) = false), ((decide (p2 < 0)) = true), ((decide (p2 < 0)) = true), ((decide (p2 < 0)) = true)] (by kernel_rfl) ⟨(ref6_Check_spec p0 r1 hr1), h2, h2, h2, h3, h3, h3, trivial⟩ ?_
        exact joinDone true hm .refl
      ·
        replace hm := if_f h3 hm
        refine DW.regE Tgood mixed hnt [.no, .call 24 [] true (.p (vb r1)) [] [], .no, .no, .no, .no, .pk false, .no, .no, .no, .pk false] [1, 2, 3, 6, 19] [1024, 1048]
          [(1, .p (vi p1)), (2, .p (vi p2)), (3, .ref 1024 0 0), (6, .ref 1048 0 0), (19, .p (vb (decide (p2 > 1048576))))]
          [(1024, ⟨0, .box [.p (slOf 6 encNode (default : Node) p0.tree.nodes), .p (vi p0.tree.next), .p (slOf 4 encTask (default : Task) p0.tasks), .p (vi p0.next)]⟩), (1048, ⟨0, .box [.p (.sl .nil 0 0 (fun _ => [])), .p (vi 0), .p (.sl .nil 0 0 (fun _ => [])), .p (vi 0)]⟩)]
          [(Spec Try.prog 24 [.p (.agg [slOf 6 encNode (default : Node) p0.tree.nodes, vi p0.tree.next, slOf 4 encTask (default : Task) p0.tasks, vi p0.next])] [] (.p (vb r1)) [] []), ((!r1) = false), ((!r1) = false), ((!r1) = false), ((decide (p2 < 0)) = false), ((decide (p2 < 0)) = false), ((decide (p2 < 0)) = false)] (by kernel_rfl) ⟨(ref6_Check_spec p0 r1 hr1), h2, h2, h2, h3, h3, h3, trivial⟩ ?_
        exact joinDone (decide (p2 > 1048576)) hm .refl

theorem member_Clone_spec (p0 : Hierarchy) (p1 : Int) (RES : Hierarchy × Int × Int) (hm : member_Clone p0 p1 = some RES) : Spec Try.prog 8 [.p (.agg [slOf 6 encNode (default : Node) p0.tree.nodes, vi p0.tree.next, slOf 4 encTask (default : Task) p0.tasks, vi p0.next]), .p (vi p1)] [] (.tup [.agg [.own 0 0 0 RES.1.tree.nodes.length, .p (vi RES.1.tree.next), .own 1 0 0 RES.1.tasks.length, .p (vi RES.1.next)], .p (vi RES.2.1), .p (vi RES.2.2)]) [] [rowOf 6 encNode (default : Node) RES.1.tree.nodes, rowOf 4 encTask (default : Task) RES.1.tasks] := by
  unfold member_Clone at hm
  refine spec_of Tgood (T := Tt) Try.func8 (by decide) (c := _) rfl rfl (sl := [(0, .p (.agg [slOf 6 encNode (default : Node) p0.tree.nodes, vi p0.tree.next, slOf 4 encTask (default : Task) p0.tasks, vi p0.next])), (1, .p (vi p1))]) (ob := []) (Nat.le_of_ble_eq_true rfl) (Nat.le_of_ble_eq_true rfl) (by kernel_rfl) (by kernel_rfl) ?_
  intro cx hnt
  refine DW.start ?_
  refine DW.seq ?_
  refine DW.regE Tgood mixed hnt [.no, .no, .no, .no] [1, 2, 4] [1016, 1032]
    [(1, .p (vi p1)), (2, .ref 1016 0 0), (4, .ref 1032 0 0)]
    [(1016, ⟨0, .box [.p (slOf 6 encNode (default : Node) p0.tree.nodes), .p (vi p0.tree.next), .p (slOf 4 encTask (default : Task) p0.tasks), .p (vi p0.next)]⟩), (1032, ⟨0, .box [.p (.sl .nil 0 0 (fun _ => [])), .p (vi 0), .p (.sl .nil 0 0 (fun _ => [])), .p (vi 0)]⟩)]
    [] (by kernel_rfl) trivial ?_
  refine DW.seq ?_
  refine DW.seq ?_
  obtain ⟨r1, hr1, hm⟩ := bind_open hm
  refine DW.regE Tgood mixed hnt [.no, .call 21 [] true (.p (vb r1)) [] [], .no] [1, 2, 4, 11] [1016, 1032]
    [(1, .p (vi p1)), (2, .ref 1016 0 0), (4, .ref 1032 0 0), (11, .p (vb (!r1)))]
    [(1016, ⟨0, .box [.p (slOf 6 encNode (default : Node) p0.tree.nodes), .p (vi p0.tree.next), .p (slOf 4 encTask (default : Task) p0.tasks), .p (vi p0.next)]⟩), (1032, ⟨0, .box [.p (.sl .nil 0 0 (fun _ => [])), .p (vi 0), .p (.sl .nil 0 0 (fun _ => [])), .p (vi 0)]⟩)]
    [(Spec Try.prog 21 [.p (.agg [slOf 6 encNode (default : Node) p0.tree.nodes, vi p0.tree.next, slOf 4 encTask (default : Task) p0.tasks, vi p0.next])] [] (.p (vb r1)) [] [])] (by kernel_rfl) ⟨(member_Check_spec p0 r1 hr1), trivial⟩ ?_
  refine DW.cond (!r1) rfl rfl ?_ ?_
  ·
    intro h2
    replace hm := if_t h2 hm
    refine DW.seq ?_
    refine DW.regE Tgood mixed hnt [.no, .no, .no, .no] [4, 5, 6] [1032]
      [(4, .ref 1032 0 0), (5, .p (vi 0)), (6, .p (vi 1))]
      [(1032, ⟨0, .box [.p (.sl .nil 0 0 (fun _ => [])), .p (vi 0), .p (.sl .nil 0 0 (fun _ => [])), .p (vi 0)]⟩)]
      [] (by kernel_rfl) trivial ?_
    refine DW.conv (τ := mkSt [(4, .ref 1032 0 0), (5, .p (vi 0)), (6, .p (vi 1))] [(1032, ⟨0, .box [.own 100000 0 0 0, .p (vi 0), .own 100001 0 0 0, .p (vi 0)]⟩), (100000, ⟨0, rowOf 6 encNode (default : Node) []⟩), (100001, ⟨0, rowOf 4 encTask (default : Task) []⟩)]) (Conv.trans (τ := mkSt [(4, .ref 1032 0 0), (5, .p (vi 0)), (6, .p (vi 1))] ((100000, ⟨0, .row 6 0 (elems encNode (default : Node) [])⟩) :: [(1032, ⟨0, .box [.own 100000 0 0 0, .p (vi 0), .p (.sl .nil 0 0 (fun _ => [])), .p (vi 0)]⟩)])) (Conv.adopt 100000 6 (elems encNode (default : Node) []) rfl rfl (.rfl _) (.box (.cons (.nil _ _) (.cons (.rfl _) (.cons (.rfl _) (.cons (.rfl _) (.rfl _))))) (.rfl _))) (Conv.trans (τ := mkSt [(4, .ref 1032 0 0), (5, .p (vi 0)), (6, .p (vi 1))] [(1032, ⟨0, .box [.own 100000 0 0 0, .p (vi 0), .p (.sl .nil 0 0 (fun _ => [])), .p (vi 0)]⟩), (100000, ⟨0, rowOf 6 encNode (default : Node) []⟩)]) (Conv.to [4, 5, 6] [1032, 100000] [(4, .ref 1032 0 0), (5, .p (vi 0)), (6, .p (vi 1))] [(4, .ref 1032 0 0), (5, .p (vi 0)), (6, .p (vi 1))] [(1032, ⟨0, .box [.own 100000 0 0 0, .p (vi 0), .p (.sl .nil 0 0 (fun _ => [])), .p (vi 0)]⟩), (100000, ⟨0, rowOf 6 encNode (default : Node) []⟩)] [(1032, ⟨0, .box [.own 100000 0 0 0, .p (vi 0), .p (.sl .nil 0 0 (fun _ => [])), .p (vi 0)]⟩), (100000, ⟨0, rowOf 6 encNode (default : Node) []⟩)] (by kernel_rfl) (by kernel_rfl) .rfl .rfl) (Conv.trans (τ := mkSt [(4, .ref 1032 0 0), (5, .p (vi 0)), (6, .p (vi 1))] ((100001, ⟨0, .row 4 0 (elems encTask (default : Task) [])⟩) :: [(1032, ⟨0, .box [.own 100000 0 0 0, .p (vi 0), .own 100001 0 0 0, .p (vi 0)]⟩), (100000, ⟨0, rowOf 6 encNode (default : Node) []⟩)])) (Conv.adopt 100001 4 (elems encTask (default : Task) []) rfl rfl (.rfl _) (.box (.cons (.rfl _) (.cons (.rfl _) (.cons (.nil _ _) (.cons (.rfl _) (.rfl _))))) (.keep (.rfl _)))) (Conv.trans (τ := mkSt [(4, .ref 1032 0 0), (5, .p (vi 0)), (6, .p (vi 1))] [(1032, ⟨0, .box [.own 100000 0 0 0, .p (vi 0), .own 100001 0 0 0, .p (vi 0)]⟩), (100000, ⟨0, rowOf 6 encNode (default : Node) []⟩), (100001, ⟨0, rowOf 4 encTask (default : Task) []⟩)]) (Conv.to [4, 5, 6] [1032, 100000, 100001] [(4, .ref 1032 0 0), (5, .p (vi 0)), (6, .p (vi 1))] [(4, .ref 1032 0 0), (5, .p (vi 0)), (6, .p (vi 1))] [(1032, ⟨0, .box [.own 100000 0 0 0, .p (vi 0), .own 100001 0 0 0, .p (vi 0)]⟩), (100000, ⟨0, rowOf 6 encNode (default : Node) []⟩), (100001, ⟨0, rowOf 4 encTask (default : Task) []⟩)] [(1032, ⟨0, .box [.own 100000 0 0 0, .p (vi 0), .own 100001 0 0 0, .p (vi 0)]⟩), (100000, ⟨0, rowOf 6 encNode (default : Node) []⟩), (100001, ⟨0, rowOf 4 encTask (default : Task) []⟩)] (by kernel_rfl) (by kernel_rfl) .rfl .rfl) .refl)))) ?_
    refine DW.ret ?_
    obtain rfl := Option.some.inj hm
    refine retOK (bs' := [rowOf 6 encNode (default : Node) [], rowOf 4 encTask (default : Task) []]) [100000, 100001] (.tup [.agg [.own 0 0 0 0, .p (vi 0), .own 1 0 0 0, .p (vi 0)], .p (vi 0), .p (vi 1)]) (by kernel_rfl) ?_ ?_
    · rfl
    · rfl
  ·
    intro h2
    replace hm := if_f h2 hm
    refine DW.skip ?_
    refine DW.seq ?_
    obtain ⟨r3, hr3, hm⟩ := bind_open hm
    refine DW.regE Tgood mixed hnt [.no, .no, .call 27 [] true (.p (.tup [.agg [vi r3.1.id, vi r3.1.process, vi r3.1.group, vi r3.1.user], vb r3.2])) [] [], .no, .no, .no, .no, .no, .no] [2, 4, 7, 8] [1016, 1032, 1056]
      [(2, .ref 1016 0 0), (4, .ref 1032 0 0), (7, .ref 1056 0 0), (8, .p (vb r3.2))]
      [(1016, ⟨0, .box [.p (slOf 6 encNode (default : Node) p0.tree.nodes), .p (vi p0.tree.next), .p (slOf 4 encTask (default : Task) p0.tasks), .p (vi p0.next)]⟩), (1032, ⟨0, .box [.p (.sl .nil 0 0 (fun _ => [])), .p (vi 0), .p (.sl .nil 0 0 (fun _ => [])), .p (vi 0)]⟩), (1056, ⟨0, .box [.p (vi r3.1.id), .p (vi r3.1.process), .p (vi r3.1.group), .p (vi r3.1.user)]⟩)]
      [(Spec Try.prog 27 [.p (.agg [slOf 6 encNode (default : Node) p0.tree.nodes, vi p0.tree.next, slOf 4 encTask (default : Task) p0.tasks, vi p0.next]), .p (vi p1)] [] (.p (.tup [.agg [vi r3.1.id, vi r3.1.process, vi r3.1.group, vi r3.1.user], vb r3.2])) [] [])] (by kernel_rfl) ⟨(crew_Find_spec p0 p1 r3 hr3), trivial⟩ ?_
    refine DW.seq ?_
    refine DW.seq ?_
    refine DW.regE Tgood mixed hnt [.no, .no] [2, 4, 7, 20] [1016, 1032, 1056]
      [(2, .ref 1016 0 0), (4, .ref 1032 0 0), (7, .ref 1056 0 0), (20, .p (vb (!r3.2)))]
      [(1016, ⟨0, .box [.p (slOf 6 encNode (default : Node) p0.tree.nodes), .p (vi p0.tree.next), .p (slOf 4 encTask (default : Task) p0.tasks), .p (vi p0.next)]⟩), (1032, ⟨0, .box [.p (.sl .nil 0 0 (fun _ => [])), .p (vi 0), .p (.sl .nil 0 0 (fun _ => [])), .p (vi 0)]⟩), (1056, ⟨0, .box [.p (vi r3.1.id), .p (vi r3.1.process), .p (vi r3.1.group), .p (vi r3.1.user)]⟩)]
      [] (by kernel_rfl) trivial ?_
    refine DW.cond (!r3.2) rfl rfl ?_ ?_
    ·
      intro h4
      replace hm := if_t h4 hm
      refine DW.seq ?_
      refine DW.regE Tgood mixed hnt [.no, .no, .no, .no] [4, 5, 6] [1032]
        [(4, .ref 1032 0 0), (5, .p (vi 0)), (6, .p (vi 4))]
        [(1032, ⟨0, .box [.p (.sl .nil 0 0 (fun _ => [])), .p (vi 0), .p (.sl .nil 0 0 (fun _ => [])), .p (vi 0)]⟩)]
        [] (by kernel_rfl) trivial ?_
      refine DW.conv (τ := mkSt [(4, .ref 1032 0 0), (5, .p (vi 0)), (6, .p (vi 4))] [(1032, ⟨0, .box [.own 100000 0 0 0, .p (vi 0), .own 100001 0 0 0, .p (vi 0)]⟩), (100000, ⟨0, rowOf 6 encNode (default : Node) []⟩), (100001, ⟨0, rowOf 4 encTask (default : Task) []⟩)]) (Conv.trans (τ := mkSt [(4, .ref 1032 0 0), (5, .p (vi 0)), (6, .p (vi 4))] ((100000, ⟨0, .row 6 0 (elems encNode (default : Node) [])⟩) :: [(1032, ⟨0, .box [.own 100000 0 0 0, .p (vi 0), .p (.sl .nil 0 0 (fun _ => [])), .p (vi 0)]⟩)])) (Conv.adopt 100000 6 (elems encNode (default : Node) []) rfl rfl (.rfl _) (.box (.cons (.nil _ _) (.cons (.rfl _) (.cons (.rfl _) (.cons (.rfl _) (.rfl _))))) (.rfl _))) (Conv.trans (τ := mkSt [(4, .ref 1032 0 0), (5, .p (vi 0)), (6, .p (vi 4))] [(1032, ⟨0, .box [.own 100000 0 0 0, .p (vi 0), .p (.sl .nil 0 0 (fun _ => [])), .p (vi 0)]⟩), (100000, ⟨0, rowOf 6 encNode (default : Node) []⟩)]) (Conv.to [4, 5, 6] [1032, 100000] [(4, .ref 1032 0 0), (5, .p (vi 0)), (6, .p (vi 4))] [(4, .ref 1032 0 0), (5, .p (vi 0)), (6, .p (vi 4))] [(1032, ⟨0, .box [.own 100000 0 0 0, .p (vi 0), .p (.sl .nil 0 0 (fun _ => [])), .p (vi 0)]⟩), (100000, ⟨0, rowOf 6 encNode (default : Node) []⟩)] [(1032, ⟨0, .box [.own 100000 0 0 0, .p (vi 0), .p (.sl .nil 0 0 (fun _ => [])), .p (vi 0)]⟩), (100000, ⟨0, rowOf 6 encNode (default : Node) []⟩)] (by kernel_rfl) (by kernel_rfl) .rfl .rfl) (Conv.trans (τ := mkSt [(4, .ref 1032 0 0), (5, .p (vi 0)), (6, .p (vi 4))] ((100001, ⟨0, .row 4 0 (elems encTask (default : Task) [])⟩) :: [(1032, ⟨0, .box [.own 100000 0 0 0, .p (vi 0), .own 100001 0 0 0, .p (vi 0)]⟩), (100000, ⟨0, rowOf 6 encNode (default : Node) []⟩)])) (Conv.adopt 100001 4 (elems encTask (default : Task) []) rfl rfl (.rfl _) (.box (.cons (.rfl _) (.cons (.rfl _) (.cons (.nil _ _) (.cons (.rfl _) (.rfl _))))) (.keep (.rfl _)))) (Conv.trans (τ := mkSt [(4, .ref 1032 0 0), (5, .p (vi 0)), (6, .p (vi 4))] [(1032, ⟨0, .box [.own 100000 0 0 0, .p (vi 0), .own 100001 0 0 0, .p (vi 0)]⟩), (100000, ⟨0, rowOf 6 encNode (default : Node) []⟩), (100001, ⟨0, rowOf 4 encTask (default : Task) []⟩)]) (Conv.to [4, 5, 6] [1032, 100000, 100001] [(4, .ref 1032 0 0), (5, .p (vi 0)), (6, .p (vi 4))] [(4, .ref 1032 0 0), (5, .p (vi 0)), (6, .p (vi 4))] [(1032, ⟨0, .box [.own 100000 0 0 0, .p (vi 0), .own 100001 0 0 0, .p (vi 0)]⟩), (100000, ⟨0, rowOf 6 encNode (default : Node) []⟩), (100001, ⟨0, rowOf 4 encTask (default : Task) []⟩)] [(1032, ⟨0, .box [.own 100000 0 0 0, .p (vi 0), .own 100001 0 0 0, .p (vi 0)]⟩), (100000, ⟨0, rowOf 6 encNode (default : Node) []⟩), (100001, ⟨0, rowOf 4 encTask (default : Task) []⟩)] (by kernel_rfl) (by kernel_rfl) .rfl .rfl) .refl)))) ?_
      refine DW.ret ?_
      obtain rfl := Option.some.inj hm
      refine retOK (bs' := [rowOf 6 encNode (default : Node) [], rowOf 4 encTask (default : Task) []]) [100000, 100001] (.tup [.agg [.own 0 0 0 0, .p (vi 0), .own 1 0 0 0, .p (vi 0)], .p (vi 0), .p (vi 4)]) (by kernel_rfl) ?_ ?_
      · rfl
      · rfl
    ·
      intro h4
      replace hm := if_f h4 hm
      refine DW.skip ?_
      refine DW.seq ?_
      obtain ⟨r5, hr5, hm⟩ := bind_open hm
      refine DW.regE Tgood mixed hnt [.no, .no, .call 23 [] true (.tup [.agg [.own 0 0 0 r5.1.tree.nodes.length, .p (vi r5.1.tree.next), .own 1 0 0 r5.1.tasks.length, .p (vi r5.1.next)], .p (vi r5.2.1), .p (vi r5.2.2)]) [] [rowOf 6 encNode (default : Node) r5.1.tree.nodes, rowOf 4 encTask (default : Task) r5.1.tasks], .no, .no, .no, .no, .no, .no] [4, 5, 6] [1032, 1192, 1193]
        [(4, .ref 1032 0 0), (5, .p (vi r5.2.1)), (6, .p (vi r5.2.2))]
        [(1032, ⟨0, .box [.own 1192 0 0 r5.1.tree.nodes.length, .p (vi r5.1.tree.next), .own 1193 0 0 r5.1.tasks.length, .p (vi r5.1.next)]⟩), (1192, ⟨0, rowOf 6 encNode (default : Node) r5.1.tree.nodes⟩), (1193, ⟨0, rowOf 4 encTask (default : Task) r5.1.tasks⟩)]
        [(Spec Try.prog 23 [.p (.agg [slOf 6 encNode (default : Node) p0.tree.nodes, vi p0.tree.next, slOf 4 encTask (default : Task) p0.tasks, vi p0.next]), .p (.agg [vi r3.1.id, vi r3.1.process, vi r3.1.group, vi r3.1.user])] [] (.tup [.agg [.own 0 0 0 r5.1.tree.nodes.length, .p (vi r5.1.tree.next), .own 1 0 0 r5.1.tasks.length, .p (vi r5.1.next)], .p (vi r5.2.1), .p (vi r5.2.2)]) [] [rowOf 6 encNode (default : Node) r5.1.tree.nodes, rowOf 4 encTask (default : Task) r5.1.tasks])] (by kernel_rfl) ⟨(member_add_spec p0 r3.1 r5 hr5), trivial⟩ ?_
      refine DW.ret ?_
      obtain rfl := Option.some.inj hm
      refine retOK (bs' := [rowOf 6 encNode (default : Node) r5.1.tree.nodes, rowOf 4 encTask (default : Task) r5.1.tasks]) [1192, 1193] (.tup [.agg [.own 0 0 0 r5.1.tree.nodes.length, .p (vi r5.1.tree.next), .own 1 0 0 r5.1.tasks.length, .p (vi r5.1.next)], .p (vi r5.2.1), .p (vi r5.2.2)]) (by kernel_rfl) ?_ ?_
      · rfl
      · rfl
end Go.Dm

/- Go functions compute their models, printed by a program. -/
namespace Go.Dm
open Go.Proofs
set_option linter.unusedVariables false
theorem ref6_Find_spec (p0 : Hierarchy) (p1 : Int) (RES : Task × Bool) (hm : ref6_Find p0 p1 = some RES) : Spec Try.prog 28 [.p (.agg [slOf 6 encNode (default : Node) p0.tree.nodes, vi p0.tree.next, slOf 4 encTask (default : Task) p0.tasks, vi p0.next]), .p (vi p1)] [] (.p (.tup [.agg [vi RES.1.id, vi RES.1.process, vi RES.1.group, vi RES.1.user], vb RES.2])) [] [] := by
  unfold ref6_Find at hm
  refine spec_of Tgood (T := Tt) Try.func28 (by decide) (c := _) rfl rfl (sl := [(0, .p (.agg [slOf 6 encNode (default : Node) p0.tree.nodes, vi p0.tree.next, slOf 4 encTask (default : Task) p0.tasks, vi p0.next])), (1, .p (vi p1))]) (ob := []) (Nat.le_of_ble_eq_true rfl) (Nat.le_of_ble_eq_true rfl) (by kernel_rfl) (by kernel_rfl) ?_
  intro cx hnt
  refine DW.start ?_
  refine DW.seq ?_
  refine DW.regE Tgood mixed hnt [.no, .no, .no] [1, 2, 4] [1016, 1032]
    [(1, .p (vi p1)), (2, .ref 1016 0 0), (4, .ref 1032 0 0)]
    [(1016, ⟨0, .box [.p (slOf 6 encNode (default : Node) p0.tree.nodes), .p (vi p0.tree.next), .p (slOf 4 encTask (default : Task) p0.tasks), .p (vi p0.next)]⟩), (1032, ⟨0, .box [.p (vi 0), .p (vi 0), .p (vi 0), .p (vi 0)]⟩)]
    [] (by kernel_rfl) trivial ?_
  refine DW.seq ?_
  refine DW.seq ?_
  obtain ⟨r1, hr1, hm⟩ := bind_open hm
  refine DW.regE Tgood mixed hnt [.no, .call 24 [] true (.p (vb r1)) [] [], .no] [1, 2, 4, 9] [1016, 1032]
    [(1, .p (vi p1)), (2, .ref 1016 0 0), (4, .ref 1032 0 0), (9, .p (vb (!r1)))]
    [(1016, ⟨0, .box [.p (slOf 6 encNode (default : Node) p0.tree.nodes), .p (vi p0.tree.next), .p (slOf 4 encTask (default : Task) p0.tasks), .p (vi p0.next)]⟩), (1032, ⟨0, .box [.p (vi 0), .p (vi 0), .p (vi 0), .p (vi 0)]⟩)]
    [(Spec Try.prog 24 [.p (.agg [slOf 6 encNode (default : Node) p0.tree.nodes, vi p0.tree.next, slOf 4 encTask (default : Task) p0.tasks, vi p0.next])] [] (.p (vb r1)) [] [])] (by kernel_rfl) ⟨(ref6_Check_spec p0 r1 hr1), trivial⟩ ?_
  refine DW.cond (!r1) rfl rfl ?_ ?_
  ·
    intro h2
    replace hm := if_t h2 hm
    refine DW.seq ?_
    refine DW.regE Tgood mixed hnt [.no, .no, .no] [4, 5] [1032]
      [(4, .ref 1032 0 0), (5, .p (vb false))]
      [(1032, ⟨0, .box [.p (vi 0), .p (vi 0), .p (vi 0), .p (vi 0)]⟩)]
      [] (by kernel_rfl) trivial ?_
    refine DW.ret ?_
    obtain rfl := Option.some.inj hm
    refine retOK (bs' := []) [] (.p (.tup [.agg [vi 0, vi 0, vi 0, vi 0], vb false])) (by kernel_rfl) ?_ ?_
    · rfl
    · rfl
  ·
    intro h2
    replace hm := if_f h2 hm
    refine DW.skip ?_
    refine DW.seq ?_
    refine DW.seq ?_
    refine DW.regE Tgood mixed hnt [.no] [1, 2, 4, 6] [1016, 1032]
      [(1, .p (vi p1)), (2, .ref 1016 0 0), (4, .ref 1032 0 0), (6, .p (vi 0))]
      [(1016, ⟨0, .box [.p (slOf 6 encNode (default : Node) p0.tree.nodes), .p (vi p0.tree.next), .p (slOf 4 encTask (default : Task) p0.tasks), .p (vi p0.next)]⟩), (1032, ⟨0, .box [.p (vi 0), .p (vi 0), .p (vi 0), .p (vi 0)]⟩)]
      [] (by kernel_rfl) trivial ?_
    refine DW.block ?_
    obtain ⟨hc1, hm⟩ := guard_open hm
    refine DW.rangeO (fun (k1 : Nat) (s1 : Unit) => mkSt [(1, .p (vi p1)), (2, .ref 1016 0 0), (4, .ref 1032 0 0), (6, .p (vi ((k1 : Nat) : Int)))] [(1016, ⟨0, .box [.p (slOf 6 encNode (default : Node) p0.tree.nodes), .p (vi p0.tree.next), .p (slOf 4 encTask (default : Task) p0.tasks), .p (vi p0.next)]⟩), (1032, ⟨0, .box [.p (vi 0), .p (vi 0), .p (vi 0), .p (vi 0)]⟩)]) (default : Task) hm .refl ?_
    intro k1 s1 n1 hk1 hs1 he1
    refine DW.seq ?_
    refine DW.seq ?_
    refine DW.regE Tgood mixed hnt [.no, .no, .no, .no, .no] [1, 2, 4, 6, 15] [1016, 1032]
      [(1, .p (vi p1)), (2, .ref 1016 0 0), (4, .ref 1032 0 0), (6, .p (vi ((k1 : Nat) : Int))), (15, .p (vb (decide (((k1 : Nat) : Int) < ((p0.tasks.length : Nat) : Int)))))]
      [(1016, ⟨0, .box [.p (slOf 6 encNode (default : Node) p0.tree.nodes), .p (vi p0.tree.next), .p (slOf 4 encTask (default : Task) p0.tasks), .p (vi p0.next)]⟩), (1032, ⟨0, .box [.p (vi 0), .p (vi 0), .p (vi 0), .p (vi 0)]⟩)]
      [] (by kernel_rfl) trivial ?_
    refine DW.cond (decide (((k1 : Nat) : Int) < ((p0.tasks.length : Nat) : Int))) rfl rfl ?_ ?_
    ·
      intro h11
      have hlt1 : k1 < p0.tasks.length := by have := of_decide_eq_true h11; omega
      have hm := hs1 hlt1
      unfold ref6_Find_l1 at hm
      refine DW.skip ?_
      refine DW.seq ?_
      refine DW.block ?_
      refine DW.seq ?_
      refine DW.regE Tgood mixed hnt [.no, .no, .no, .no, .no, .no, .no, .no] [1, 2, 4, 6, 25] [1016, 1032]
        [(1, .p (vi p1)), (2, .ref 1016 0 0), (4, .ref 1032 0 0), (6, .p (vi ((k1 : Nat) : Int))), (25, .p (vb ((p0.tasks.getD k1 (default : Task)).id == p1)))]
        [(1016, ⟨0, .box [.p (slOf 6 encNode (default : Node) p0.tree.nodes), .p (vi p0.tree.next), .p (slOf 4 encTask (default : Task) p0.tasks), .p (vi p0.next)]⟩), (1032, ⟨0, .box [.p (vi 0), .p (vi 0), .p (vi 0), .p (vi 0)]⟩)]
        [((0 : Int) ≤ ((k1 : Nat) : Int)), (((k1 : Nat) : Int) < ((p0.tasks.length : Nat) : Int))] (by kernel_rfl) ⟨(by omega), (by omega), trivial⟩ ?_
      refine DW.cond ((p0.tasks.getD k1 (default : Task)).id == p1) rfl rfl ?_ ?_
      ·
        intro h12
        replace hm := if_t h12 hm
        refine DW.seq ?_
        refine DW.regE Tgood mixed hnt [.no, .no, .no, .no, .no, .no, .no] [4, 5] [1032]
          [(4, .ref 1032 0 0), (5, .p (vb true))]
          [(1032, ⟨0, .box [.p (vi (p0.tasks.getD k1 (default : Task)).id), .p (vi (p0.tasks.getD k1 (default : Task)).process), .p (vi (p0.tasks.getD k1 (default : Task)).group), .p (vi (p0.tasks.getD k1 (default : Task)).user)]⟩)]
          [((0 : Int) ≤ ((k1 : Nat) : Int)), (((k1 : Nat) : Int) < ((p0.tasks.length : Nat) : Int))] (by kernel_rfl) ⟨(by omega), (by omega), trivial⟩ ?_
        refine DW.ret ?_
        obtain rfl := Option.some.inj hm
        refine retOK (bs' := []) [] (.p (.tup [.agg [vi (p0.tasks.getD k1 (default : Task)).id, vi (p0.tasks.getD k1 (default : Task)).process, vi (p0.tasks.getD k1 (default : Task)).group, vi (p0.tasks.getD k1 (default : Task)).user], vb true])) (by kernel_rfl) ?_ ?_
        · rfl
        · rfl
      ·
        intro h12
        replace hm := if_f h12 hm
        refine DW.skip ?_
        refine DW.done ?_
        show DW _ _ _ _ _
        refine DW.regE Tgood mixed hnt [.no, .no, .no] [1, 2, 4, 6] [1016, 1032]
          [(1, .p (vi p1)), (2, .ref 1016 0 0), (4, .ref 1032 0 0), (6, .p (vi (w64 (((k1 : Nat) : Int) + 1))))]
          [(1016, ⟨0, .box [.p (slOf 6 encNode (default : Node) p0.tree.nodes), .p (vi p0.tree.next), .p (slOf 4 encTask (default : Task) p0.tasks), .p (vi p0.next)]⟩), (1032, ⟨0, .box [.p (vi 0), .p (vi 0), .p (vi 0), .p (vi 0)]⟩)]
          [] (by kernel_rfl) trivial ?_
        exact joinDone () ⟨hlt1, hm⟩ (Conv.to [1, 2, 4, 6] [1016, 1032] [(1, .p (vi p1)), (2, .ref 1016 0 0), (4, .ref 1032 0 0), (6, .p (vi (w64 (((k1 : Nat) : Int) + 1))))] [(1, .p (vi p1)), (2, .ref 1016 0 0), (4, .ref 1032 0 0), (6, .p (vi (((k1 + 1) : Nat) : Int)))] [(1016, ⟨0, .box [.p (slOf 6 encNode (default : Node) p0.tree.nodes), .p (vi p0.tree.next), .p (slOf 4 encTask (default : Task) p0.tasks), .p (vi p0.next)]⟩), (1032, ⟨0, .box [.p (vi 0), .p (vi 0), .p (vi 0), .p (vi 0)]⟩)] [(1016, ⟨0, .box [.p (slOf 6 encNode (default : Node) p0.tree.nodes), .p (vi p0.tree.next), .p (slOf 4 encTask (default : Task) p0.tasks), .p (vi p0.next)]⟩), (1032, ⟨0, .box [.p (vi 0), .p (vi 0), .p (vi 0), .p (vi 0)]⟩)] (by kernel_rfl) (by kernel_rfl) (.cons .rfl (.cons .rfl (.cons .rfl (.cons (.of_eq (congrArg (fun n => MV.p (vi n)) (w64_succ hlt1 hc1))) .rfl)))) .rfl)
    ·
      intro h11
      have hge1 : ¬ k1 < p0.tasks.length := by have := of_decide_eq_false h11; omega
      have hm := he1 hge1
      unfold ref6_Find_d1 at hm
      refine DW.exit ?_
      refine joinQ_exit ?_
      refine KQ_exit ?_
      refine blockQ_exit ?_
      show DW _ _ _ _ _
      refine DW.seq ?_
      refine DW.regE Tgood mixed hnt [.no, .no, .no] [4, 5] [1032]
        [(4, .ref 1032 0 0), (5, .p (vb false))]
        [(1032, ⟨0, .box [.p (vi 0), .p (vi 0), .p (vi 0), .p (vi 0)]⟩)]
        [] (by kernel_rfl) trivial ?_
      refine DW.ret ?_
      obtain rfl := Option.some.inj hm
      refine retOK (bs' := []) [] (.p (.tup [.agg [vi 0, vi 0, vi 0, vi 0], vb false])) (by kernel_rfl) ?_ ?_
      · rfl
      · rfl

theorem ref6_Clone_spec (p0 : Hierarchy) (p1 : Int) (RES : Hierarchy × Int × Int) (hm : ref6_Clone p0 p1 = some RES) : Spec Try.prog 9 [.p (.agg [slOf 6 encNode (default : Node) p0.tree.nodes, vi p0.tree.next, slOf 4 encTask (default : Task) p0.tasks, vi p0.next]), .p (vi p1)] [] (.tup [.agg [.own 0 0 0 RES.1.tree.nodes.length, .p (vi RES.1.tree.next), .own 1 0 0 RES.1.tasks.length, .p (vi RES.1.next)], .p (vi RES.2.1), .p (vi RES.2.2)]) [] [rowOf 6 encNode (default : Node) RES.1.tree.nodes, rowOf 4 encTask (default : Task) RES.1.tasks] := by
  unfold ref6_Clone at hm
  refine spec_of Tgood (T := Tt) Try.func9 (by decide) (c := _) rfl rfl (sl := [(0, .p (.agg [slOf 6 encNode (default : Node) p0.tree.nodes, vi p0.tree.next, slOf 4 encTask (default : Task) p0.tasks, vi p0.next])), (1, .p (vi p1))]) (ob := []) (Nat.le_of_ble_eq_true rfl) (Nat.le_of_ble_eq_true rfl) (by kernel_rfl) (by kernel_rfl) ?_
  intro cx hnt
  refine DW.start ?_
  refine DW.seq ?_
  refine DW.regE Tgood mixed hnt [.no, .no, .no, .no] [1, 2, 4] [1016, 1032]
    [(1, .p (vi p1)), (2, .ref 1016 0 0), (4, .ref 1032 0 0)]
    [(1016, ⟨0, .box [.p (slOf 6 encNode (default : Node) p0.tree.nodes), .p (vi p0.tree.next), .p (slOf 4 encTask (default : Task) p0.tasks), .p (vi p0.next)]⟩), (1032, ⟨0, .box [.p (.sl .nil 0 0 (fun _ => [])), .p (vi 0), .p (.sl .nil 0 0 (fun _ => [])), .p (vi 0)]⟩)]
    [] (by kernel_rfl) trivial ?_
  refine DW.seq ?_
  refine DW.seq ?_
  obtain ⟨r1, hr1, hm⟩ := bind_open hm
  refine DW.regE Tgood mixed hnt [.no, .call 24 [] true (.p (vb r1)) [] [], .no] [1, 2, 4, 11] [1016, 1032]
    [(1, .p (vi p1)), (2, .ref 1016 0 0), (4, .ref 1032 0 0), (11, .p (vb (!r1)))]
    [(1016, ⟨0, .box [.p (slOf 6 encNode (default : Node) p0.tree.nodes), .p (vi p0.tree.next), .p (slOf 4 encTask (default : Task) p0.tasks), .p (vi p0.next)]⟩), (1032, ⟨0, .box [.p (.sl .nil 0 0 (fun _ => [])), .p (vi 0), .p (.sl .nil 0 0 (fun _ => [])), .p (vi 0)]⟩)]
    [(Spec Try.prog 24 [.p (.agg [slOf 6 encNode (default : Node) p0.tree.nodes, vi p0.tree.next, slOf 4 encTask (default : Task) p0.tasks, vi p0.next])] [] (.p (vb r1)) [] [])] (by kernel_rfl) ⟨(ref6_Check_spec p0 r1 hr1), trivial⟩ ?_
  refine DW.cond (!r1) rfl rfl ?_ ?_
  ·
    intro h2
    replace hm := if_t h2 hm
    refine DW.seq ?_
    refine DW.regE Tgood mixed hnt [.no, .no, .no, .no] [4, 5, 6] [1032]
      [(4, .ref 1032 0 0), (5, .p (vi 0)), (6, .p (vi 1))]
      [(1032, ⟨0, .box [.p (.sl .nil 0 0 (fun _ => [])), .p (vi 0), .p (.sl .nil 0 0 (fun _ => [])), .p (vi 0)]⟩)]
      [] (by kernel_rfl) trivial ?_
    refine DW.conv (τ := mkSt [(4, .ref 1032 0 0), (5, .p (vi 0)), (6, .p (vi 1))] [(1032, ⟨0, .box [.own 100000 0 0 0, .p (vi 0), .own 100001 0 0 0, .p (vi 0)]⟩), (100000, ⟨0, rowOf 6 encNode (default : Node) []⟩), (100001, ⟨0, rowOf 4 encTask (default : Task) []⟩)]) (Conv.trans (τ := mkSt [(4, .ref 1032 0 0), (5, .p (vi 0)), (6, .p (vi 1))] ((100000, ⟨0, .row 6 0 (elems encNode (default : Node) [])⟩) :: [(1032, ⟨0, .box [.own 100000 0 0 0, .p (vi 0), .p (.sl .nil 0 0 (fun _ => [])), .p (vi 0)]⟩)])) (Conv.adopt 100000 6 (elems encNode (default : Node) []) rfl rfl (.rfl _) (.box (.cons (.nil _ _) (.cons (.rfl _) (.cons (.rfl _) (.cons (.rfl _) (.rfl _))))) (.rfl _))) (Conv.trans (τ := mkSt [(4, .ref 1032 0 0), (5, .p (vi 0)), (6, .p (vi 1))] [(1032, ⟨0, .box [.own 100000 0 0 0, .p (vi 0), .p (.sl .nil 0 0 (fun _ => [])), .p (vi 0)]⟩), (100000, ⟨0, rowOf 6 encNode (default : Node) []⟩)]) (Conv.to [4, 5, 6] [1032, 100000] [(4, .ref 1032 0 0), (5, .p (vi 0)), (6, .p (vi 1))] [(4, .ref 1032 0 0), (5, .p (vi 0)), (6, .p (vi 1))] [(1032, ⟨0, .box [.own 100000 0 0 0, .p (vi 0), .p (.sl .nil 0 0 (fun _ => [])), .p (vi 0)]⟩), (100000, ⟨0, rowOf 6 encNode (default : Node) []⟩)] [(1032, ⟨0, .box [.own 100000 0 0 0, .p (vi 0), .p (.sl .nil 0 0 (fun _ => [])), .p (vi 0)]⟩), (100000, ⟨0, rowOf 6 encNode (default : Node) []⟩)] (by kernel_rfl) (by kernel_rfl) .rfl .rfl) (Conv.trans (τ := mkSt [(4, .ref 1032 0 0), (5, .p (vi 0)), (6, .p (vi 1))] ((100001, ⟨0, .row 4 0 (elems encTask (default : Task) [])⟩) :: [(1032, ⟨0, .box [.own 100000 0 0 0, .p (vi 0), .own 100001 0 0 0, .p (vi 0)]⟩), (100000, ⟨0, rowOf 6 encNode (default : Node) []⟩)])) (Conv.adopt 100001 4 (elems encTask (default : Task) []) rfl rfl (.rfl _) (.box (.cons (.rfl _) (.cons (.rfl _) (.cons (.nil _ _) (.cons (.rfl _) (.rfl _))))) (.keep (.rfl _)))) (Conv.trans (τ := mkSt [(4, .ref 1032 0 0), (5, .p (vi 0)), (6, .p (vi 1))] [(1032, ⟨0, .box [.own 100000 0 0 0, .p (vi 0), .own 100001 0 0 0, .p (vi 0)]⟩), (100000, ⟨0, rowOf 6 encNode (default : Node) []⟩), (100001, ⟨0, rowOf 4 encTask (default : Task) []⟩)]) (Conv.to [4, 5, 6] [1032, 100000, 100001] [(4, .ref 1032 0 0), (5, .p (vi 0)), (6, .p (vi 1))] [(4, .ref 1032 0 0), (5, .p (vi 0)), (6, .p (vi 1))] [(1032, ⟨0, .box [.own 100000 0 0 0, .p (vi 0), .own 100001 0 0 0, .p (vi 0)]⟩), (100000, ⟨0, rowOf 6 encNode (default : Node) []⟩), (100001, ⟨0, rowOf 4 encTask (default : Task) []⟩)] [(1032, ⟨0, .box [.own 100000 0 0 0, .p (vi 0), .own 100001 0 0 0, .p (vi 0)]⟩), (100000, ⟨0, rowOf 6 encNode (default : Node) []⟩), (100001, ⟨0, rowOf 4 encTask (default : Task) []⟩)] (by kernel_rfl) (by kernel_rfl) .rfl .rfl) .refl)))) ?_
    refine DW.ret ?_
    obtain rfl := Option.some.inj hm
    refine retOK (bs' := [rowOf 6 encNode (default : Node) [], rowOf 4 encTask (default : Task) []]) [100000, 100001] (.tup [.agg [.own 0 0 0 0, .p (vi 0), .own 1 0 0 0, .p (vi 0)], .p (vi 0), .p (vi 1)]) (by kernel_rfl) ?_ ?_
    · rfl
    · rfl
  ·
    intro h2
    replace hm := if_f h2 hm
    refine DW.skip ?_
    refine DW.seq ?_
    obtain ⟨r3, hr3, hm⟩ := bind_open hm
    refine DW.regE Tgood mixed hnt [.no, .no, .call 28 [] true (.p (.tup [.agg [vi r3.1.id, vi r3.1.process, vi r3.1.group, vi r3.1.user], vb r3.2])) [] [], .no, .no, .no, .no, .no, .no] [2, 4, 7, 8] [1016, 1032, 1056]
      [(2, .ref 1016 0 0), (4, .ref 1032 0 0), (7, .ref 1056 0 0), (8, .p (vb r3.2))]
      [(1016, ⟨0, .box [.p (slOf 6 encNode (default : Node) p0.tree.nodes), .p (vi p0.tree.next), .p (slOf 4 encTask (default : Task) p0.tasks), .p (vi p0.next)]⟩), (1032, ⟨0, .box [.p (.sl .nil 0 0 (fun _ => [])), .p (vi 0), .p (.sl .nil 0 0 (fun _ => [])), .p (vi 0)]⟩), (1056, ⟨0, .box [.p (vi r3.1.id), .p (vi r3.1.process), .p (vi r3.1.group), .p (vi r3.1.user)]⟩)]
      [(Spec Try.prog 28 [.p (.agg [slOf 6 encNode (default : Node) p0.tree.nodes, vi p0.tree.next, slOf 4 encTask (default : Task) p0.tasks, vi p0.next]), .p (vi p1)] [] (.p (.tup [.agg [vi r3.1.id, vi r3.1.process, vi r3.1.group, vi r3.1.user], vb r3.2])) [] [])] (by kernel_rfl) ⟨(ref6_Find_spec p0 p1 r3 hr3), trivial⟩ ?_
    refine DW.seq ?_
    refine DW.seq ?_
    refine DW.regE Tgood mixed hnt [.no, .no] [2, 4, 7, 20] [1016, 1032, 1056]
      [(2, .ref 1016 0 0), (4, .ref 1032 0 0), (7, .ref 1056 0 0), (20, .p (vb (!r3.2)))]
      [(1016, ⟨0, .box [.p (slOf 6 encNode (default : Node) p0.tree.nodes), .p (vi p0.tree.next), .p (slOf 4 encTask (default : Task) p0.tasks), .p (vi p0.next)]⟩), (1032, ⟨0, .box [.p (.sl .nil 0 0 (fun _ => [])), .p (vi 0), .p (.sl .nil 0 0 (fun _ => [])), .p (vi 0)]⟩), (1056, ⟨0, .box [.p (vi r3.1.id), .p (vi r3.1.process), .p (vi r3.1.group), .p (vi r3.1.user)]⟩)]
      [] (by kernel_rfl) trivial ?_
    refine DW.cond (!r3.2) rfl rfl ?_ ?_
    ·
      intro h4
      replace hm := if_t h4 hm
      refine DW.seq ?_
      refine DW.regE Tgood mixed hnt [.no, .no, .no, .no] [4, 5, 6] [1032]
        [(4, .ref 1032 0 0), (5, .p (vi 0)), (6, .p (vi 4))]
        [(1032, ⟨0, .box [.p (.sl .nil 0 0 (fun _ => [])), .p (vi 0), .p (.sl .nil 0 0 (fun _ => [])), .p (vi 0)]⟩)]
        [] (by kernel_rfl) trivial ?_
      refine DW.conv (τ := mkSt [(4, .ref 1032 0 0), (5, .p (vi 0)), (6, .p (vi 4))] [(1032, ⟨0, .box [.own 100000 0 0 0, .p (vi 0), .own 100001 0 0 0, .p (vi 0)]⟩), (100000, ⟨0, rowOf 6 encNode (default : Node) []⟩), (100001, ⟨0, rowOf 4 encTask (default : Task) []⟩)]) (Conv.trans (τ := mkSt [(4, .ref 1032 0 0), (5, .p (vi 0)), (6, .p (vi 4))] ((100000, ⟨0, .row 6 0 (elems encNode (default : Node) [])⟩) :: [(1032, ⟨0, .box [.own 100000 0 0 0, .p (vi 0), .p (.sl .nil 0 0 (fun _ => [])), .p (vi 0)]⟩)])) (Conv.adopt 100000 6 (elems encNode (default : Node) []) rfl rfl (.rfl _) (.box (.cons (.nil _ _) (.cons (.rfl _) (.cons (.rfl _) (.cons (.rfl _) (.rfl _))))) (.rfl _))) (Conv.trans (τ := mkSt [(4, .ref 1032 0 0), (5, .p (vi 0)), (6, .p (vi 4))] [(1032, ⟨0, .box [.own 100000 0 0 0, .p (vi 0), .p (.sl .nil 0 0 (fun _ => [])), .p (vi 0)]⟩), (100000, ⟨0, rowOf 6 encNode (default : Node) []⟩)]) (Conv.to [4, 5, 6] [1032, 100000] [(4, .ref 1032 0 0), (5, .p (vi 0)), (6, .p (vi 4))] [(4, .ref 1032 0 0), (5, .p (vi 0)), (6, .p (vi 4))] [(1032, ⟨0, .box [.own 100000 0 0 0, .p (vi 0), .p (.sl .nil 0 0 (fun _ => [])), .p (vi 0)]⟩), (100000, ⟨0, rowOf 6 encNode (default : Node) []⟩)] [(1032, ⟨0, .box [.own 100000 0 0 0, .p (vi 0), .p (.sl .nil 0 0 (fun _ => [])), .p (vi 0)]⟩), (100000, ⟨0, rowOf 6 encNode (default : Node) []⟩)] (by kernel_rfl) (by kernel_rfl) .rfl .rfl) (Conv.trans (τ := mkSt [(4, .ref 1032 0 0), (5, .p (vi 0)), (6, .p (vi 4))] ((100001, ⟨0, .row 4 0 (elems encTask (default : Task) [])⟩) :: [(1032, ⟨0, .box [.own 100000 0 0 0, .p (vi 0), .own 100001 0 0 0, .p (vi 0)]⟩), (100000, ⟨0, rowOf 6 encNode (default : Node) []⟩)])) (Conv.adopt 100001 4 (elems encTask (default : Task) []) rfl rfl (.rfl _) (.box (.cons (.rfl _) (.cons (.rfl _) (.cons (.nil _ _) (.cons (.rfl _) (.rfl _))))) (.keep (.rfl _)))) (Conv.trans (τ := mkSt [(4, .ref 1032 0 0), (5, .p (vi 0)), (6, .p (vi 4))] [(1032, ⟨0, .box [.own 100000 0 0 0, .p (vi 0), .own 100001 0 0 0, .p (vi 0)]⟩), (100000, ⟨0, rowOf 6 encNode (default : Node) []⟩), (100001, ⟨0, rowOf 4 encTask (default : Task) []⟩)]) (Conv.to [4, 5, 6] [1032, 100000, 100001] [(4, .ref 1032 0 0), (5, .p (vi 0)), (6, .p (vi 4))] [(4, .ref 1032 0 0), (5, .p (vi 0)), (6, .p (vi 4))] [(1032, ⟨0, .box [.own 100000 0 0 0, .p (vi 0), .own 100001 0 0 0, .p (vi 0)]⟩), (100000, ⟨0, rowOf 6 encNode (default : Node) []⟩), (100001, ⟨0, rowOf 4 encTask (default : Task) []⟩)] [(1032, ⟨0, .box [.own 100000 0 0 0, .p (vi 0), .own 100001 0 0 0, .p (vi 0)]⟩), (100000, ⟨0, rowOf 6 encNode (default : Node) []⟩), (100001, ⟨0, rowOf 4 encTask (default : Task) []⟩)] (by kernel_rfl) (by kernel_rfl) .rfl .rfl) .refl)))) ?_
      refine DW.ret ?_
      obtain rfl := Option.some.inj hm
      refine retOK (bs' := [rowOf 6 encNode (default : Node) [], rowOf 4 encTask (default : Task) []]) [100000, 100001] (.tup [.agg [.own 0 0 0 0, .p (vi 0), .own 1 0 0 0, .p (vi 0)], .p (vi 0), .p (vi 4)]) (by kernel_rfl) ?_ ?_
      · rfl
      · rfl
    ·
      intro h4
      replace hm := if_f h4 hm
      refine DW.skip ?_
      refine DW.seq ?_
      obtain ⟨r5, hr5, hm⟩ := bind_open hm
      refine DW.regE Tgood mixed hnt [.no, .no, .call 26 [] true (.tup [.agg [.own 0 0 0 r5.1.tree.nodes.length, .p (vi r5.1.tree.next), .own 1 0 0 r5.1.tasks.length, .p (vi r5.1.next)], .p (vi r5.2.1), .p (vi r5.2.2)]) [] [rowOf 6 encNode (default : Node) r5.1.tree.nodes, rowOf 4 encTask (default : Task) r5.1.tasks], .no, .no, .no, .no, .no, .no] [4, 5, 6] [1032, 1192, 1193]
        [(4, .ref 1032 0 0), (5, .p (vi r5.2.1)), (6, .p (vi r5.2.2))]
        [(1032, ⟨0, .box [.own 1192 0 0 r5.1.tree.nodes.length, .p (vi r5.1.tree.next), .own 1193 0 0 r5.1.tasks.length, .p (vi r5.1.next)]⟩), (1192, ⟨0, rowOf 6 encNode (default : Node) r5.1.tree.nodes⟩), (1193, ⟨0, rowOf 4 encTask (default : Task) r5.1.tasks⟩)]
        [(Spec Try.prog 26 [.p (.agg [slOf 6 encNode (default : Node) p0.tree.nodes, vi p0.tree.next, slOf 4 encTask (default : Task) p0.tasks, vi p0.next]), .p (.agg [vi r3.1.id, vi r3.1.process, vi r3.1.group, vi r3.1.user])] [] (.tup [.agg [.own 0 0 0 r5.1.tree.nodes.length, .p (vi r5.1.tree.next), .own 1 0 0 r5.1.tasks.length, .p (vi r5.1.next)], .p (vi r5.2.1), .p (vi r5.2.2)]) [] [rowOf 6 encNode (default : Node) r5.1.tree.nodes, rowOf 4 encTask (default : Task) r5.1.tasks])] (by kernel_rfl) ⟨(ref6_add_spec p0 r3.1 r5 hr5), trivial⟩ ?_
      refine DW.ret ?_
      obtain rfl := Option.some.inj hm
      refine retOK (bs' := [rowOf 6 encNode (default : Node) r5.1.tree.nodes, rowOf 4 encTask (default : Task) r5.1.tasks]) [1192, 1193] (.tup [.agg [.own 0 0 0 r5.1.tree.nodes.length, .p (vi r5.1.tree.next), .own 1 0 0 r5.1.tasks.length, .p (vi r5.1.next)], .p (vi r5.2.1), .p (vi r5.2.2)]) (by kernel_rfl) ?_ ?_
      · rfl
      · rfl

theorem ref5_Same_spec (p0 : Tree) (p1 : Tree) (RES : Bool) (hm : ref5_Same p0 p1 = some RES) : Spec Try.prog 29 [.p (.agg [slOf 6 encNode (default : Node) p0.nodes, vi p0.next]), .p (.agg [slOf 6 encNode (default : Node) p1.nodes, vi p1.next])] [] (.p (vb RES)) [] [] := by
  unfold ref5_Same at hm
  refine spec_of Tgood (T := Tt) Try.func29 (by decide) (c := _) rfl rfl (sl := [(0, .p (.agg [slOf 6 encNode (default : Node) p0.nodes, vi p0.next])), (1, .p (.agg [slOf 6 encNode (default : Node) p1.nodes, vi p1.next]))]) (ob := []) (Nat.le_of_ble_eq_true rfl) (Nat.le_of_ble_eq_true rfl) (by kernel_rfl) (by kernel_rfl) ?_
  intro cx hnt
  refine DW.start ?_
  refine DW.seq ?_
  refine DW.regE Tgood mixed hnt [.no, .no, .no] [2, 3] [1016, 1024]
    [(2, .ref 1016 0 0), (3, .ref 1024 0 0)]
    [(1016, ⟨0, .box [.p (slOf 6 encNode (default : Node) p0.nodes), .p (vi p0.next)]⟩), (1024, ⟨0, .box [.p (slOf 6 encNode (default : Node) p1.nodes), .p (vi p1.next)]⟩)]
    [] (by kernel_rfl) trivial ?_
  refine DW.seq ?_
  refine DW.seq ?_
  refine DW.regJ (sl2 := [(2, .ref 1016 0 0), (3, .ref 1024 0 0), (19, .p (vb ((((p0.nodes.length : Nat) : Int) != ((p1.nodes.length : Nat) : Int)) || (p0.next != p1.next))))]) (ob2 := [(1016, ⟨0, .box [.p (slOf 6 encNode (default : Node) p0.nodes), .p (vi p0.next)]⟩), (1024, ⟨0, .box [.p (slOf 6 encNode (default : Node) p1.nodes), .p (vi p1.next)]⟩)]) ?_ ?_
  ·
    rcases Bool.eq_false_or_eq_true (((p0.nodes.length : Nat) : Int) != ((p1.nodes.length : Nat) : Int)) with h1 | h1
    ·
      exact RegTo.mk Tgood mixed hnt [.no, .no, .no, .no, .no, .no, .no, .no, .skip, .skip, .skip, .skip, .skip, .pk true] [2, 3, 19] [1016, 1024]
        [(2, .ref 1016 0 0), (3, .ref 1024 0 0), (19, .p (vb true))]
        [(2, .ref 1016 0 0), (3, .ref 1024 0 0), (19, .p (vb ((((p0.nodes.length : Nat) : Int) != ((p1.nodes.length : Nat) : Int)) || (p0.next != p1.next))))]
        [(1016, ⟨0, .box [.p (slOf 6 encNode (default : Node) p0.nodes), .p (vi p0.next)]⟩), (1024, ⟨0, .box [.p (slOf 6 encNode (default : Node) p1.nodes), .p (vi p1.next)]⟩)]
        [(1016, ⟨0, .box [.p (slOf 6 encNode (default : Node) p0.nodes), .p (vi p0.next)]⟩), (1024, ⟨0, .box [.p (slOf 6 encNode (default : Node) p1.nodes), .p (vi p1.next)]⟩)]
        [((((p0.nodes.length : Nat) : Int) != ((p1.nodes.length : Nat) : Int)) = true), ((((p0.nodes.length : Nat) : Int) != ((p1.nodes.length : Nat) : Int)) = true), ((((p0.nodes.length : Nat) : Int) != ((p1.nodes.length : Nat) : Int)) = true), ((((p0.nodes.length : Nat) : Int) != ((p1.nodes.length : Nat) : Int)) = true), ((((p0.nodes.length : Nat) : Int) != ((p1.nodes.length : Nat) : Int)) = true), ((((p0.nodes.length : Nat) : Int) != ((p1.nodes.length : Nat) : Int)) = true)] (by kernel_rfl) ⟨h1, h1, h1, h1, h1, h1, trivial⟩ (.cons .rfl (.cons .rfl (.cons (.of_eq (by first | (rw [h1]; done) | (rw [h1]; rfl) | simp [h1])) .rfl))) .rfl
    ·
      exact RegTo.mk Tgood mixed hnt [.no, .no, .no, .no, .no, .no, .no, .no, .no, .no, .no, .no, .no, .pk false] [2, 3, 19] [1016, 1024]
        [(2, .ref 1016 0 0), (3, .ref 1024 0 0), (19, .p (vb (p0.next != p1.next)))]
        [(2, .ref 1016 0 0), (3, .ref 1024 0 0), (19, .p (vb ((((p0.nodes.length : Nat) : Int) != ((p1.nodes.length : Nat) : Int)) || (p0.next != p1.next))))]
        [(1016, ⟨0, .box [.p (slOf 6 encNode (default : Node) p0.nodes), .p (vi p0.next)]⟩), (1024, ⟨0, .box [.p (slOf 6 encNode (default : Node) p1.nodes), .p (vi p1.next)]⟩)]
        [(1016, ⟨0, .box [.p (slOf 6 encNode (default : Node) p0.nodes), .p (vi p0.next)]⟩), (1024, ⟨0, .box [.p (slOf 6 encNode (default : Node) p1.nodes), .p (vi p1.next)]⟩)]
        [((((p0.nodes.length : Nat) : Int) != ((p1.nodes.length : Nat) : Int)) = false), ((((p0.nodes.length : Nat) : Int) != ((p1.nodes.length : Nat) : Int)) = false), ((((p0.nodes.length : Nat) : Int) != ((p1.nodes.length : Nat) : Int)) = false), ((((p0.nodes.length : Nat) : Int) != ((p1.nodes.length : Nat) : Int)) = false), ((((p0.nodes.length : Nat) : Int) != ((p1.nodes.length : Nat) : Int)) = false), ((((p0.nodes.length : Nat) : Int) != ((p1.nodes.length : Nat) : Int)) = false)] (by kernel_rfl) ⟨h1, h1, h1, h1, h1, h1, trivial⟩ (.cons .rfl (.cons .rfl (.cons (.of_eq (by first | (rw [h1]; done) | (rw [h1]; rfl) | simp [h1])) .rfl))) .rfl
  ·
    refine DW.cond ((((p0.nodes.length : Nat) : Int) != ((p1.nodes.length : Nat) : Int)) || (p0.next != p1.next)) rfl rfl ?_ ?_
    ·
      intro h2
      replace hm := if_t h2 hm
      refine DW.seq ?_
      refine DW.regE Tgood mixed hnt [.no] [4] []
        [(4, .p (vb false))]
        []
        [] (by kernel_rfl) trivial ?_
      refine DW.ret ?_
      obtain rfl := Option.some.inj hm
      refine retOK (bs' := []) [] (.p (vb false)) (by kernel_rfl) ?_ ?_
      · rfl
      · rfl
    ·
      intro h2
      replace hm := if_f h2 hm
      refine DW.skip ?_
      refine DW.seq ?_
      refine DW.seq ?_
      refine DW.regE Tgood mixed hnt [.no] [2, 3, 5] [1016, 1024]
        [(2, .ref 1016 0 0), (3, .ref 1024 0 0), (5, .p (vi 0))]
        [(1016, ⟨0, .box [.p (slOf 6 encNode (default : Node) p0.nodes), .p (vi p0.next)]⟩), (1024, ⟨0, .box [.p (slOf 6 encNode (default : Node) p1.nodes), .p (vi p1.next)]⟩)]
        [] (by kernel_rfl) trivial ?_
      refine DW.block ?_
      obtain ⟨hc1, hm⟩ := guard_open hm
      refine DW.rangeO (fun (k1 : Nat) (s1 : Unit) => mkSt [(2, .ref 1016 0 0), (3, .ref 1024 0 0), (5, .p (vi ((k1 : Nat) : Int)))] [(1016, ⟨0, .box [.p (slOf 6 encNode (default : Node) p0.nodes), .p (vi p0.next)]⟩), (1024, ⟨0, .box [.p (slOf 6 encNode (default : Node) p1.nodes), .p (vi p1.next)]⟩)]) (default : Node) hm .refl ?_
      intro k1 s1 n1 hk1 hs1 he1
      refine DW.seq ?_
      refine DW.seq ?_
      refine DW.regE Tgood mixed hnt [.no, .no, .no, .no, .no] [2, 3, 5, 24] [1016, 1024]
        [(2, .ref 1016 0 0), (3, .ref 1024 0 0), (5, .p (vi ((k1 : Nat) : Int))), (24, .p (vb (decide (((k1 : Nat) : Int) < ((p0.nodes.length : Nat) : Int)))))]
        [(1016, ⟨0, .box [.p (slOf 6 encNode (default : Node) p0.nodes), .p (vi p0.next)]⟩), (1024, ⟨0, .box [.p (slOf 6 encNode (default : Node) p1.nodes), .p (vi p1.next)]⟩)]
        [] (by kernel_rfl) trivial ?_
      refine DW.cond (decide (((k1 : Nat) : Int) < ((p0.nodes.length : Nat) : Int))) rfl rfl ?_ ?_
      ·
        intro h11
        have hlt1 : k1 < p0.nodes.length := by have := of_decide_eq_true h11; omega
        have hm := hs1 hlt1
        unfold ref5_Same_l1 at hm
        refine DW.skip ?_
        refine DW.seq ?_
        refine DW.block ?_
        refine DW.seq ?_
        obtain ⟨g12, hm⟩ := guard_open hm
        refine DW.regE Tgood mixed hnt [.no, .no, .no, .no, .no, .no, .no, .no, .no, .no, .no] [2, 3, 5, 37] [1016, 1024]
          [(2, .ref 1016 0 0), (3, .ref 1024 0 0), (5, .p (vi ((k1 : Nat) : Int))), (37, .p (vb (!(eqNode (p0.nodes.getD k1 (default : Node)) (p1.nodes.getD k1 (default : Node))))))]
          [(1016, ⟨0, .box [.p (slOf 6 encNode (default : Node) p0.nodes), .p (vi p0.next)]⟩), (1024, ⟨0, .box [.p (slOf 6 encNode (default : Node) p1.nodes), .p (vi p1.next)]⟩)]
          [((0 : Int) ≤ ((k1 : Nat) : Int)), (((k1 : Nat) : Int) < ((p0.nodes.length : Nat) : Int)), ((0 : Int) ≤ ((k1 : Nat) : Int)), (((k1 : Nat) : Int) < ((p1.nodes.length : Nat) : Int))] (by kernel_rfl) ⟨(by omega), (by omega), (by omega), (by omega), trivial⟩ ?_
        refine DW.cond (!(eqNode (p0.nodes.getD k1 (default : Node)) (p1.nodes.getD k1 (default : Node)))) rfl rfl ?_ ?_
        ·
          intro h13
          replace hm := if_t h13 hm
          refine DW.seq ?_
          refine DW.regE Tgood mixed hnt [.no] [4] []
            [(4, .p (vb false))]
            []
            [] (by kernel_rfl) trivial ?_
          refine DW.ret ?_
          obtain rfl := Option.some.inj hm
          refine retOK (bs' := []) [] (.p (vb false)) (by kernel_rfl) ?_ ?_
          · rfl
          · rfl
        ·
          intro h13
          replace hm := if_f h13 hm
          refine DW.skip ?_
          refine DW.done ?_
          show DW _ _ _ _ _
          refine DW.regE Tgood mixed hnt [.no, .no, .no] [2, 3, 5] [1016, 1024]
            [(2, .ref 1016 0 0), (3, .ref 1024 0 0), (5, .p (vi (w64 (((k1 : Nat) : Int) + 1))))]
            [(1016, ⟨0, .box [.p (slOf 6 encNode (default : Node) p0.nodes), .p (vi p0.next)]⟩), (1024, ⟨0, .box [.p (slOf 6 encNode (default : Node) p1.nodes), .p (vi p1.next)]⟩)]
            [] (by kernel_rfl) trivial ?_
          exact joinDone () ⟨hlt1, hm⟩ (Conv.to [2, 3, 5] [1016, 1024] [(2, .ref 1016 0 0), (3, .ref 1024 0 0), (5, .p (vi (w64 (((k1 : Nat) : Int) + 1))))] [(2, .ref 1016 0 0), (3, .ref 1024 0 0), (5, .p (vi (((k1 + 1) : Nat) : Int)))] [(1016, ⟨0, .box [.p (slOf 6 encNode (default : Node) p0.nodes), .p (vi p0.next)]⟩), (1024, ⟨0, .box [.p (slOf 6 encNode (default : Node) p1.nodes), .p (vi p1.next)]⟩)] [(1016, ⟨0, .box [.p (slOf 6 encNode (default : Node) p0.nodes), .p (vi p0.next)]⟩), (1024, ⟨0, .box [.p (slOf 6 encNode (default : Node) p1.nodes), .p (vi p1.next)]⟩)] (by kernel_rfl) (by kernel_rfl) (.cons .rfl (.cons .rfl (.cons (.of_eq (congrArg (fun n => MV.p (vi n)) (w64_succ hlt1 hc1))) .rfl))) .rfl)
      ·
        intro h11
        have hge1 : ¬ k1 < p0.nodes.length := by have := of_decide_eq_false h11; omega
        have hm := he1 hge1
        unfold ref5_Same_d1 at hm
        refine DW.exit ?_
        refine joinQ_exit ?_
        refine KQ_exit ?_
        refine blockQ_exit ?_
        show DW _ _ _ _ _
        refine DW.seq ?_
        refine DW.regE Tgood mixed hnt [.no] [4] []
          [(4, .p (vb true))]
          []
          [] (by kernel_rfl) trivial ?_
        refine DW.ret ?_
        obtain rfl := Option.some.inj hm
        refine retOK (bs' := []) [] (.p (vb true)) (by kernel_rfl) ?_ ?_
        · rfl
        · rfl

theorem ref6_Same_spec (p0 : Hierarchy) (p1 : Hierarchy) (RES : Bool) (hm : ref6_Same p0 p1 = some RES) : Spec Try.prog 10 [.p (.agg [slOf 6 encNode (default : Node) p0.tree.nodes, vi p0.tree.next, slOf 4 encTask (default : Task) p0.tasks, vi p0.next]), .p (.agg [slOf 6 encNode (default : Node) p1.tree.nodes, vi p1.tree.next, slOf 4 encTask (default : Task) p1.tasks, vi p1.next])] [] (.p (vb RES)) [] [] := by
  unfold ref6_Same at hm
  refine spec_of Tgood (T := Tt) Try.func10 (by decide) (c := _) rfl rfl (sl := [(0, .p (.agg [slOf 6 encNode (default : Node) p0.tree.nodes, vi p0.tree.next, slOf 4 encTask (default : Task) p0.tasks, vi p0.next])), (1, .p (.agg [slOf 6 encNode (default : Node) p1.tree.nodes, vi p1.tree.next, slOf 4 encTask (default : Task) p1.tasks, vi p1.next]))]) (ob := []) (Nat.le_of_ble_eq_true rfl) (Nat.le_of_ble_eq_true rfl) (by kernel_rfl) (by kernel_rfl) ?_
  intro cx hnt
  refine DW.start ?_
  refine DW.seq ?_
  refine DW.regE Tgood mixed hnt [.no, .no, .no] [2, 3] [1016, 1024]
    [(2, .ref 1016 0 0), (3, .ref 1024 0 0)]
    [(1016, ⟨0, .box [.p (slOf 6 encNode (default : Node) p0.tree.nodes), .p (vi p0.tree.next), .p (slOf 4 encTask (default : Task) p0.tasks), .p (vi p0.next)]⟩), (1024, ⟨0, .box [.p (slOf 6 encNode (default : Node) p1.tree.nodes), .p (vi p1.tree.next), .p (slOf 4 encTask (default : Task) p1.tasks), .p (vi p1.next)]⟩)]
    [] (by kernel_rfl) trivial ?_
  refine DW.seq ?_
  refine DW.seq ?_
  obtain ⟨r1, hr1, hm⟩ := bind_open hm
  refine DW.join (ι := Bool) (fun (y1 : Bool) => mkSt [(2, .ref 1016 0 0), (3, .ref 1024 0 0), (27, .p (vb y1))] [(1016, ⟨0, .box [.p (slOf 6 encNode (default : Node) p0.tree.nodes), .p (vi p0.tree.next), .p (slOf 4 encTask (default : Task) p0.tasks), .p (vi p0.next)]⟩), (1024, ⟨0, .box [.p (slOf 6 encNode (default : Node) p1.tree.nodes), .p (vi p1.tree.next), .p (slOf 4 encTask (default : Task) p1.tasks), .p (vi p1.next)]⟩)]) (fun y1 => (ref6_Same_j1 p0 p1) y1 = some RES) ?_ ?_
  · intro y1 hm
    unfold ref6_Same_j1 at hm
    refine DW.cond y1 rfl rfl ?_ ?_
    ·
      intro h4
      replace hm := if_t h4 hm
      refine DW.seq ?_
      refine DW.regE Tgood mixed hnt [.no] [4] []
        [(4, .p (vb false))]
        []
        [] (by kernel_rfl) trivial ?_
      refine DW.ret ?_
      obtain rfl := Option.some.inj hm
      refine retOK (bs' := []) [] (.p (vb false)) (by kernel_rfl) ?_ ?_
      · rfl
      · rfl
    ·
      intro h4
      replace hm := if_f h4 hm
      refine DW.skip ?_
      refine DW.seq ?_
      refine DW.seq ?_
      refine DW.regE Tgood mixed hnt [.no] [2, 3, 5] [1016, 1024]
        [(2, .ref 1016 0 0), (3, .ref 1024 0 0), (5, .p (vi 0))]
        [(1016, ⟨0, .box [.p (slOf 6 encNode (default : Node) p0.tree.nodes), .p (vi p0.tree.next), .p (slOf 4 encTask (default : Task) p0.tasks), .p (vi p0.next)]⟩), (1024, ⟨0, .box [.p (slOf 6 encNode (default : Node) p1.tree.nodes), .p (vi p1.tree.next), .p (slOf 4 encTask (default : Task) p1.tasks), .p (vi p1.next)]⟩)]
        [] (by kernel_rfl) trivial ?_
      refine DW.block ?_
      obtain ⟨hc1, hm⟩ := guard_open hm
      refine DW.rangeO (fun (k1 : Nat) (s1 : Unit) => mkSt [(2, .ref 1016 0 0), (3, .ref 1024 0 0), (5, .p (vi ((k1 : Nat) : Int)))] [(1016, ⟨0, .box [.p (slOf 6 encNode (default : Node) p0.tree.nodes), .p (vi p0.tree.next), .p (slOf 4 encTask (default : Task) p0.tasks), .p (vi p0.next)]⟩), (1024, ⟨0, .box [.p (slOf 6 encNode (default : Node) p1.tree.nodes), .p (vi p1.tree.next), .p (slOf 4 encTask (default : Task) p1.tasks), .p (vi p1.next)]⟩)]) (default : Task) hm .refl ?_
      intro k1 s1 n1 hk1 hs1 he1
      refine DW.seq ?_
      refine DW.seq ?_
      refine DW.regE Tgood mixed hnt [.no, .no, .no, .no, .no] [2, 3, 5, 32] [1016, 1024]
        [(2, .ref 1016 0 0), (3, .ref 1024 0 0), (5, .p (vi ((k1 : Nat) : Int))), (32, .p (vb (decide (((k1 : Nat) : Int) < ((p0.tasks.length : Nat) : Int)))))]
        [(1016, ⟨0, .box [.p (slOf 6 encNode (default : Node) p0.tree.nodes), .p (vi p0.tree.next), .p (slOf 4 encTask (default : Task) p0.tasks), .p (vi p0.next)]⟩), (1024, ⟨0, .box [.p (slOf 6 encNode (default : Node) p1.tree.nodes), .p (vi p1.tree.next), .p (slOf 4 encTask (default : Task) p1.tasks), .p (vi p1.next)]⟩)]
        [] (by kernel_rfl) trivial ?_
      refine DW.cond (decide (((k1 : Nat) : Int) < ((p0.tasks.length : Nat) : Int))) rfl rfl ?_ ?_
      ·
        intro h13
        have hlt1 : k1 < p0.tasks.length := by have := of_decide_eq_true h13; omega
        have hm := hs1 hlt1
        unfold ref6_Same_l1 at hm
        refine DW.skip ?_
        refine DW.seq ?_
        refine DW.block ?_
        refine DW.seq ?_
        obtain ⟨g14, hm⟩ := guard_open hm
        refine DW.regE Tgood mixed hnt [.no, .no, .no, .no, .no, .no, .no, .no, .no, .no, .no] [2, 3, 5, 45] [1016, 1024]
          [(2, .ref 1016 0 0), (3, .ref 1024 0 0), (5, .p (vi ((k1 : Nat) : Int))), (45, .p (vb (!(eqTask (p0.tasks.getD k1 (default : Task)) (p1.tasks.getD k1 (default : Task))))))]
          [(1016, ⟨0, .box [.p (slOf 6 encNode (default : Node) p0.tree.nodes), .p (vi p0.tree.next), .p (slOf 4 encTask (default : Task) p0.tasks), .p (vi p0.next)]⟩), (1024, ⟨0, .box [.p (slOf 6 encNode (default : Node) p1.tree.nodes), .p (vi p1.tree.next), .p (slOf 4 encTask (default : Task) p1.tasks), .p (vi p1.next)]⟩)]
          [((0 : Int) ≤ ((k1 : Nat) : Int)), (((k1 : Nat) : Int) < ((p0.tasks.length : Nat) : Int)), ((0 : Int) ≤ ((k1 : Nat) : Int)), (((k1 : Nat) : Int) < ((p1.tasks.length : Nat) : Int))] (by kernel_rfl) ⟨(by omega), (by omega), (by omega), (by omega), trivial⟩ ?_
        refine DW.cond (!(eqTask (p0.tasks.getD k1 (default : Task)) (p1.tasks.getD k1 (default : Task)))) rfl rfl ?_ ?_
        ·
          intro h15
          replace hm := if_t h15 hm
          refine DW.seq ?_
          refine DW.regE Tgood mixed hnt [.no] [4] []
            [(4, .p (vb false))]
            []
            [] (by kernel_rfl) trivial ?_
          refine DW.ret ?_
          obtain rfl := Option.some.inj hm
          refine retOK (bs' := []) [] (.p (vb false)) (by kernel_rfl) ?_ ?_
          · rfl
          · rfl
        ·
          intro h15
          replace hm := if_f h15 hm
          refine DW.skip ?_
          refine DW.done ?_
          show DW _ _ _ _ _
          refine DW.regE Tgood mixed hnt [.no, .no, .no] [2, 3, 5] [1016, 1024]
            [(2, .ref 1016 0 0), (3, .ref 1024 0 0), (5, .p (vi (w64 (((k1 : Nat) : Int) + 1))))]
            [(1016, ⟨0, .box [.p (slOf 6 encNode (default : Node) p0.tree.nodes), .p (vi p0.tree.next), .p (slOf 4 encTask (default : Task) p0.tasks), .p (vi p0.next)]⟩), (1024, ⟨0, .box [.p (slOf 6 encNode (default : Node) p1.tree.nodes), .p (vi p1.tree.next), .p (slOf 4 encTask (default : Task) p1.tasks), .p (vi p1.next)]⟩)]
            [] (by kernel_rfl) trivial ?_
          exact joinDone () ⟨hlt1, hm⟩ (Conv.to [2, 3, 5] [1016, 1024] [(2, .ref 1016 0 0), (3, .ref 1024 0 0), (5, .p (vi (w64 (((k1 : Nat) : Int) + 1))))] [(2, .ref 1016 0 0), (3, .ref 1024 0 0), (5, .p (vi (((k1 + 1) : Nat) : Int)))] [(1016, ⟨0, .box [.p (slOf 6 encNode (default : Node) p0.tree.nodes), .p (vi p0.tree.next), .p (slOf 4 encTask (default : Task) p0.tasks), .p (vi p0.next)]⟩), (1024, ⟨0, .box [.p (slOf 6 encNode (default : Node) p1.tree.nodes), .p (vi p1.tree.next), .p (slOf 4 encTask (default : Task) p1.tasks), .p (vi p1.next)]⟩)] [(1016, ⟨0, .box [.p (slOf 6 encNode (default : Node) p0.tree.nodes), .p (vi p0.tree.next), .p (slOf 4 encTask (default : Task) p0.tasks), .p (vi p0.next)]⟩), (1024, ⟨0, .box [.p (slOf 6 encNode (default : Node) p1.tree.nodes), .p (vi p1.tree.next), .p (slOf 4 encTask (default : Task) p1.tasks), .p (vi p1.next)]⟩)] (by kernel_rfl) (by kernel_rfl) (.cons .rfl (.cons .rfl (.cons (.of_eq (congrArg (fun n => MV.p (vi n)) (w64_succ hlt1 hc1))) .rfl))) .rfl)
      ·
        intro h13
        have hge1 : ¬ k1 < p0.tasks.length := by have := of_decide_eq_false h13; omega
        have hm := he1 hge1
        unfold ref6_Same_d1 at hm
        refine DW.exit ?_
        refine joinQ_exit ?_
        refine KQ_exit ?_
        refine blockQ_exit ?_
        show DW _ _ _ _ _
        refine DW.seq ?_
        refine DW.regE Tgood mixed hnt [.no] [4] []
          [(4, .p (vb true))]
          []
          [] (by kernel_rfl) trivial ?_
        refine DW.ret ?_
        obtain rfl := Option.some.inj hm
        refine retOK (bs' := []) [] (.p (vb true)) (by kernel_rfl) ?_ ?_
        · rfl
        · rfl
  ·
    rcases Bool.eq_false_or_eq_true (!r1) with h2 | h2
    ·
      replace hm := if_t h2 hm
      refine DW.regE Tgood mixed hnt [.no, .no, .no, .no, .call 29 [] true (.p (vb r1)) [] [], .no, .no, .skip, .skip, .skip, .skip, .skip, .skip, .skip, .pk true, .no, .skip, .skip, .skip, .skip, .skip, .pk true] [2, 3, 27] [1016, 1024]
        [(2, .ref 1016 0 0), (3, .ref 1024 0 0), (27, .p (vb true))]
        [(1016, ⟨0, .box [.p (slOf 6 encNode (default : Node) p0.tree.nodes), .p (vi p0.tree.next), .p (slOf 4 encTask (default : Task) p0.tasks), .p (vi p0.next)]⟩), (1024, ⟨0, .box [.p (slOf 6 encNode (default : Node) p1.tree.nodes), .p (vi p1.tree.next), .p (slOf 4 encTask (default : Task) p1.tasks), .p (vi p1.next)]⟩)]
        [(Spec Try.prog 29 [.p (.agg [slOf 6 encNode (default : Node) p0.tree.nodes, vi p0.tree.next]), .p (.agg [slOf 6 encNode (default : Node) p1.tree.nodes, vi p1.tree.next])] [] (.p (vb r1)) [] []), ((!r1) = true), ((!r1) = true), ((!r1) = true), ((!r1) = true), ((!r1) = true), ((!r1) = true), ((!r1) = true), ((!r1) = true), (true = true), (true = true), (true = true), (true = true), (true = true), (true = true)] (by kernel_rfl) ⟨(ref5_Same_spec p0.tree p1.tree r1 hr1), h2, h2, h2, h2, h2, h2, h2, h2, rfl, rfl, rfl, rfl, rfl, rfl, trivial⟩ ?_
      exact joinDone true hm .refl
    ·
      replace hm := if_f h2 hm
      rcases Bool.eq_false_or_eq_true (((p0.tasks.length : Nat) : Int) != ((p1.tasks.length : Nat) : Int)) with h3 | h3
      ·
        replace hm := if_t h3 hm
        refine DW.regE Tgood mixed hnt [.no, .no, .no, .no, .call 29 [] true (.p (vb r1)) [] [], .no, .no, .no, .no, .no, .no, .no, .no, .no, .pk false, .no, .skip, .skip, .skip, .skip, .skip, .pk true] [2, 3, 27] [1016, 1024]
          [(2, .ref 1016 0 0), (3, .ref 1024 0 0), (27, .p (vb true))]
          [(1016, ⟨0, .box [.p (slOf 6 encNode (default : Node) p0.tree.nodes), .p (vi p0.tree.next), .p (slOf 4 encTask (default : Task) p0.tasks), .p (vi p0.next)]⟩), (1024, ⟨0, .box [.p (slOf 6 encNode (default : Node) p1.tree.nodes), .p (vi p1.tree.next), .p (slOf 4 encTask (default : Task) p1.tasks), .p (vi p1.next)]⟩)]
          [(Spec Try.prog 29 [.p (.agg [slOf 6 encNode (default : Node) p0.tree.nodes, vi p0.tree.next]), .p (.agg [slOf 6 encNode (default : Node) p1.tree.nodes, vi p1.tree.next])] [] (.p (vb r1)) [] []), ((!r1) = false), ((!r1) = false), ((!r1) = false), ((!r1) = false), ((!r1) = false), ((!r1) = false), ((!r1) = false), ((!r1) = false), ((((p0.tasks.length : Nat) : Int) != ((p1.tasks.length : Nat) : Int)) = true), ((((p0.tasks.length : Nat) : Int) != ((p1.tasks.length : Nat) : Int)) = true), ((((p0.tasks.length : Nat) : Int) != ((p1.tasks.length : Nat) : Int)) = true), ((((p0.tasks.length : Nat) : Int) != ((p1.tasks.length : Nat) : Int)) = true), ((((p0.tasks.length : Nat) : Int) != ((p1.tasks.length : Nat) : Int)) = true), ((((p0.tasks.length : Nat) : Int) != ((p1.tasks.length : Nat) : Int)) = true)] (by kernel_rfl) ⟨(ref5_Same_spec p0.tree p1.tree r1 hr1), h2, h2, h2, h2, h2, h2, h2, h2, h3, h3, h3, h3, h3, h3, trivial⟩ ?_
        exact joinDone true hm .refl
      ·
        replace hm := if_f h3 hm
        refine DW.regE Tgood mixed hnt [.no, .no, .no, .no, .call 29 [] true (.p (vb r1)) [] [], .no, .no, .no, .no, .no, .no, .no, .no, .no, .pk false, .no, .no, .no, .no, .no, .no, .pk false] [2, 3, 27] [1016, 1024]
          [(2, .ref 1016 0 0), (3, .ref 1024 0 0), (27, .p (vb (p0.next != p1.next)))]
          [(1016, ⟨0, .box [.p (slOf 6 encNode (default : Node) p0.tree.nodes), .p (vi p0.tree.next), .p (slOf 4 encTask (default : Task) p0.tasks), .p (vi p0.next)]⟩), (1024, ⟨0, .box [.p (slOf 6 encNode (default : Node) p1.tree.nodes), .p (vi p1.tree.next), .p (slOf 4 encTask (default : Task) p1.tasks), .p (vi p1.next)]⟩)]
          [(Spec Try.prog 29 [.p (.agg [slOf 6 encNode (default : Node) p0.tree.nodes, vi p0.tree.next]), .p (.agg [slOf 6 encNode (default : Node) p1.tree.nodes, vi p1.tree.next])] [] (.p (vb r1)) [] []), ((!r1) = false), ((!r1) = false), ((!r1) = false), ((!r1) = false), ((!r1) = false), ((!r1) = false), ((!r1) = false), ((!r1) = false), ((((p0.tasks.length : Nat) : Int) != ((p1.tasks.length : Nat) : Int)) = false), ((((p0.tasks.length : Nat) : Int) != ((p1.tasks.length : Nat) : Int)) = false), ((((p0.tasks.length : Nat) : Int) != ((p1.tasks.length : Nat) : Int)) = false), ((((p0.tasks.length : Nat) : Int) != ((p1.tasks.length : Nat) : Int)) = false), ((((p0.tasks.length : Nat) : Int) != ((p1.tasks.length : Nat) : Int)) = false), ((((p0.tasks.length : Nat) : Int) != ((p1.tasks.length : Nat) : Int)) = false)] (by kernel_rfl) ⟨(ref5_Same_spec p0.tree p1.tree r1 hr1), h2, h2, h2, h2, h2, h2, h2, h2, h3, h3, h3, h3, h3, h3, trivial⟩ ?_
        exact joinDone (p0.next != p1.next) hm .refl

theorem tree_New_spec (RES : Tree) (hm : tree_New = some RES) : Spec Try.prog 53 [] [] (.agg [.own 0 0 0 RES.nodes.length, .p (vi RES.next)]) [] [rowOf 6 encNode (default : Node) RES.nodes] := by
  unfold tree_New at hm
  refine spec_of Tgood (T := Tt) Try.func53 (by decide) (c := _) rfl rfl (sl := []) (ob := []) (Nat.le_of_ble_eq_true rfl) (Nat.le_of_ble_eq_true rfl) (by kernel_rfl) (by kernel_rfl) ?_
  intro cx hnt
  refine DW.start ?_
  refine DW.seq ?_
  refine DW.regE Tgood mixed hnt [.no] [0] [1000]
    [(0, .ref 1000 0 0)]
    [(1000, ⟨0, .box [.p (.sl .nil 0 0 (fun _ => [])), .p (vi 0)]⟩)]
    [] (by kernel_rfl) trivial ?_
  refine DW.seq ?_
  refine DW.reg Tgood mixed hnt [.no, .no, .no, .no] [0] [1000, 1016]
    [(0, .ref 1000 0 0)]
    [(0, .ref 1000 0 0)]
    [(1000, ⟨0, .box [.own 1016 0 0 1, .p (vi 2)]⟩), (1016, ⟨0, .row 6 1 (cut 6 [vi 1, vi 0, vs ByteArray.empty, vi 0, vi 0, vi 0])⟩)]
    [(1000, ⟨0, .box [.own 1016 0 0 [({ id := 1, parent := 0, name := ByteArray.empty, control := 0, kind := 0, owner := 0 } : Node)].length, .p (vi 2)]⟩), (1016, ⟨0, rowOf 6 encNode (default : Node) [({ id := 1, parent := 0, name := ByteArray.empty, control := 0, kind := 0, owner := 0 } : Node)]⟩)]
    [] (by kernel_rfl) trivial .rfl (.cons (.box (.cons (MLe.ownLen (enc := encNode) (d := (default : Node)) (f := (cut 6 [vi 1, vi 0, vs ByteArray.empty, vi 0, vi 0, vi 0])) (RowIs.lit (enc := encNode) (d := (default : Node)) (n := 1) (f := (cut 6 [vi 1, vi 0, vs ByteArray.empty, vi 0, vi 0, vi 0])) [({ id := 1, parent := 0, name := ByteArray.empty, control := 0, kind := 0, owner := 0 } : Node)] rfl (fun | 0, _ => rfl | n + 1, h => absurd h (by omega)))) (.cons .rfl .nil))) (.cons (BLe.typed (RowIs.lit (enc := encNode) (d := (default : Node)) (n := 1) (f := (cut 6 [vi 1, vi 0, vs ByteArray.empty, vi 0, vi 0, vi 0])) [({ id := 1, parent := 0, name := ByteArray.empty, control := 0, kind := 0, owner := 0 } : Node)] rfl (fun | 0, _ => rfl | n + 1, h => absurd h (by omega)))) .rfl)) ?_
  refine DW.ret ?_
  obtain rfl := Option.some.inj hm
  refine retOK (bs' := [rowOf 6 encNode (default : Node) [({ id := 1, parent := 0, name := ByteArray.empty, control := 0, kind := 0, owner := 0 } : Node)]]) [1016] (.agg [.own 0 0 0 [({ id := 1, parent := 0, name := ByteArray.empty, control := 0, kind := 0, owner := 0 } : Node)].length, .p (vi 2)]) (by kernel_rfl) ?_ ?_
  · rfl
  · rfl

theorem member_New_spec (RES : Hierarchy) (hm : member_New = some RES) : Spec Try.prog 30 [] [] (.agg [.own 0 0 0 RES.tree.nodes.length, .p (vi RES.tree.next), .own 1 0 0 RES.tasks.length, .p (vi RES.next)]) [] [rowOf 6 encNode (default : Node) RES.tree.nodes, rowOf 4 encTask (default : Task) RES.tasks] := by
  unfold member_New at hm
  refine spec_of Tgood (T := Tt) Try.func30 (by decide) (c := _) rfl rfl (sl := []) (ob := []) (Nat.le_of_ble_eq_true rfl) (Nat.le_of_ble_eq_true rfl) (by kernel_rfl) (by kernel_rfl) ?_
  intro cx hnt
  refine DW.start ?_
  refine DW.seq ?_
  refine DW.regE Tgood mixed hnt [.no] [0] [1000]
    [(0, .ref 1000 0 0)]
    [(1000, ⟨0, .box [.p (.sl .nil 0 0 (fun _ => [])), .p (vi 0), .p (.sl .nil 0 0 (fun _ => [])), .p (vi 0)]⟩)]
    [] (by kernel_rfl) trivial ?_
  refine DW.seq ?_
  obtain ⟨r1, hr1, hm⟩ := bind_open hm
  refine DW.regE Tgood mixed hnt [.call 53 [] true (.agg [.own 0 0 0 r1.nodes.length, .p (vi r1.next)]) [] [rowOf 6 encNode (default : Node) r1.nodes], .no, .no] [0] [1000, 1008]
    [(0, .ref 1000 0 0)]
    [(1000, ⟨0, .box [.own 1008 0 0 r1.nodes.length, .p (vi r1.next), .p (.sl .nil 0 0 (fun _ => [])), .p (vi 1)]⟩), (1008, ⟨0, rowOf 6 encNode (default : Node) r1.nodes⟩)]
    [(Spec Try.prog 53 [] [] (.agg [.own 0 0 0 r1.nodes.length, .p (vi r1.next)]) [] [rowOf 6 encNode (default : Node) r1.nodes])] (by kernel_rfl) ⟨(tree_New_spec r1 hr1), trivial⟩ ?_
  refine DW.conv (τ := mkSt [(0, .ref 1000 0 0)] [(1000, ⟨0, .box [.own 1008 0 0 r1.nodes.length, .p (vi r1.next), .own 100000 0 0 0, .p (vi 1)]⟩), (1008, ⟨0, rowOf 6 encNode (default : Node) r1.nodes⟩), (100000, ⟨0, rowOf 4 encTask (default : Task) []⟩)]) (Conv.trans (τ := mkSt [(0, .ref 1000 0 0)] ((100000, ⟨0, .row 4 0 (elems encTask (default : Task) [])⟩) :: [(1000, ⟨0, .box [.own 1008 0 0 r1.nodes.length, .p (vi r1.next), .own 100000 0 0 0, .p (vi 1)]⟩), (1008, ⟨0, rowOf 6 encNode (default : Node) r1.nodes⟩)])) (Conv.adopt 100000 4 (elems encTask (default : Task) []) rfl rfl (.rfl _) (.box (.cons (.rfl _) (.cons (.rfl _) (.cons (.nil _ _) (.cons (.rfl _) (.rfl _))))) (.keep (.rfl _)))) (Conv.trans (τ := mkSt [(0, .ref 1000 0 0)] [(1000, ⟨0, .box [.own 1008 0 0 r1.nodes.length, .p (vi r1.next), .own 100000 0 0 0, .p (vi 1)]⟩), (1008, ⟨0, rowOf 6 encNode (default : Node) r1.nodes⟩), (100000, ⟨0, rowOf 4 encTask (default : Task) []⟩)]) (Conv.to [0] [1000, 1008, 100000] [(0, .ref 1000 0 0)] [(0, .ref 1000 0 0)] [(1000, ⟨0, .box [.own 1008 0 0 r1.nodes.length, .p (vi r1.next), .own 100000 0 0 0, .p (vi 1)]⟩), (1008, ⟨0, rowOf 6 encNode (default : Node) r1.nodes⟩), (100000, ⟨0, rowOf 4 encTask (default : Task) []⟩)] [(1000, ⟨0, .box [.own 1008 0 0 r1.nodes.length, .p (vi r1.next), .own 100000 0 0 0, .p (vi 1)]⟩), (1008, ⟨0, rowOf 6 encNode (default : Node) r1.nodes⟩), (100000, ⟨0, rowOf 4 encTask (default : Task) []⟩)] (by kernel_rfl) (by kernel_rfl) .rfl .rfl) .refl)) ?_
  refine DW.ret ?_
  obtain rfl := Option.some.inj hm
  refine retOK (bs' := [rowOf 6 encNode (default : Node) r1.nodes, rowOf 4 encTask (default : Task) []]) [1008, 100000] (.agg [.own 0 0 0 r1.nodes.length, .p (vi r1.next), .own 1 0 0 0, .p (vi 1)]) (by kernel_rfl) ?_ ?_
  · rfl
  · rfl

theorem member_Exit_1_spec (p0 : Task) (p1 : Int) (RES : Bool) (hm : member_Exit_1 p0 p1 = some RES) : Spec Try.prog 55 [.p (.agg [vi p0.id, vi p0.process, vi p0.group, vi p0.user]), .ref 0 0 0] [.box [.p (vi p1)]] (.p (vb RES)) [.box [.p (vi p1)]] [] := by
  unfold member_Exit_1 at hm
  refine spec_of Tgood (T := Tt) Try.func55 (by decide) (c := _) rfl rfl (sl := [(0, .p (.agg [vi p0.id, vi p0.process, vi p0.group, vi p0.user])), (1, .ref 0 0 0)]) (ob := [(0, ⟨0, .box [.p (vi p1)]⟩)]) (Nat.le_of_ble_eq_true rfl) (Nat.le_of_ble_eq_true rfl) (by kernel_rfl) (by kernel_rfl) ?_
  intro cx hnt
  refine DW.start ?_
  refine DW.seq ?_
  refine DW.regE Tgood mixed hnt [.no, .no] [1, 2] [0, 1016]
    [(1, .ref 0 0 0), (2, .ref 1016 0 0)]
    [(0, ⟨0, .box [.p (vi p1)]⟩), (1016, ⟨0, .box [.p (vi p0.id), .p (vi p0.process), .p (vi p0.group), .p (vi p0.user)]⟩)]
    [] (by kernel_rfl) trivial ?_
  refine DW.seq ?_
  refine DW.regJ (sl2 := [(3, .p (vb ((p0.id == p1) || (p0.process == p1))))]) (ob2 := [(0, ⟨0, .box [.p (vi p1)]⟩)]) ?_ ?_
  ·
    rcases Bool.eq_false_or_eq_true (p0.id == p1) with h1 | h1
    ·
      exact RegTo.mk Tgood mixed hnt [.no, .no, .no, .no, .no, .skip, .skip, .skip, .skip, .pk true, .no] [3] [0]
        [(3, .p (vb true))]
        [(3, .p (vb ((p0.id == p1) || (p0.process == p1))))]
        [(0, ⟨0, .box [.p (vi p1)]⟩)]
        [(0, ⟨0, .box [.p (vi p1)]⟩)]
        [((p0.id == p1) = true), ((p0.id == p1) = true), ((p0.id == p1) = true), ((p0.id == p1) = true), ((p0.id == p1) = true)] (by kernel_rfl) ⟨h1, h1, h1, h1, h1, trivial⟩ (.cons (.of_eq (by first | (rw [h1]; done) | (rw [h1]; rfl) | simp [h1])) .rfl) .rfl
    ·
      exact RegTo.mk Tgood mixed hnt [.no, .no, .no, .no, .no, .no, .no, .no, .no, .pk false, .no] [3] [0]
        [(3, .p (vb (p0.process == p1)))]
        [(3, .p (vb ((p0.id == p1) || (p0.process == p1))))]
        [(0, ⟨0, .box [.p (vi p1)]⟩)]
        [(0, ⟨0, .box [.p (vi p1)]⟩)]
        [((p0.id == p1) = false), ((p0.id == p1) = false), ((p0.id == p1) = false), ((p0.id == p1) = false), ((p0.id == p1) = false)] (by kernel_rfl) ⟨h1, h1, h1, h1, h1, trivial⟩ (.cons (.of_eq (by first | (rw [h1]; done) | (rw [h1]; rfl) | simp [h1])) .rfl) .rfl
  ·
    refine DW.ret ?_
    obtain rfl := Option.some.inj hm
    refine retOK (bs' := [.box [.p (vi p1)]]) [] (.p (vb ((p0.id == p1) || (p0.process == p1)))) (by kernel_rfl) ?_ ?_
    · rfl
    · rfl

theorem slices_IndexFunc_Task_member_Exit_1_spec (p0 : List Task) (p1_0 : Int) (RES : Int) (hm : slices_IndexFunc_Task_member_Exit_1 p0 p1_0 = some RES) : Spec Try.prog 68 [.p (slOf 4 encTask (default : Task) p0), .fn 55 [.ref 0 0 0]] [.box [.p (vi p1_0)]] (.p (vi RES)) [.box [.p (vi p1_0)]] [] := by
  unfold slices_IndexFunc_Task_member_Exit_1 at hm
  refine spec_of Tgood (T := Tt) Try.func68 (by decide) (c := _) rfl rfl (sl := [(0, .p (slOf 4 encTask (default : Task) p0)), (1, .fn 55 [.ref 0 0 0])]) (ob := [(0, ⟨0, .box [.p (vi p1_0)]⟩)]) (Nat.le_of_ble_eq_true rfl) (Nat.le_of_ble_eq_true rfl) (by kernel_rfl) (by kernel_rfl) ?_
  intro cx hnt
  refine DW.start ?_
  refine DW.seq ?_
  refine DW.regE Tgood mixed hnt [.no] [0, 1] [0]
    [(0, .p (slOf 4 encTask (default : Task) p0)), (1, .fn 55 [.ref 0 0 0])]
    [(0, ⟨0, .box [.p (vi p1_0)]⟩)]
    [] (by kernel_rfl) trivial ?_
  refine DW.seq ?_
  refine DW.seq ?_
  refine DW.regE Tgood mixed hnt [.no, .no, .no] [0, 1, 7, 8] [0]
    [(0, .p (slOf 4 encTask (default : Task) p0)), (1, .fn 55 [.ref 0 0 0]), (7, .p (vi ((p0.length : Nat) : Int))), (8, .p (vi 0))]
    [(0, ⟨0, .box [.p (vi p1_0)]⟩)]
    [] (by kernel_rfl) trivial ?_
  refine DW.block ?_
  obtain ⟨hc1, hm⟩ := guard_open hm
  refine DW.rangeO (fun (k1 : Nat) (s1 : Unit) => mkSt [(0, .p (slOf 4 encTask (default : Task) p0)), (1, .fn 55 [.ref 0 0 0]), (7, .p (vi ((p0.length : Nat) : Int))), (8, .p (vi ((k1 : Nat) : Int)))] [(0, ⟨0, .box [.p (vi p1_0)]⟩)]) (default : Task) hm .refl ?_
  intro k1 s1 n1 hk1 hs1 he1
  refine DW.seq ?_
  refine DW.regE Tgood mixed hnt [.no] [0, 1, 7, 8, 9] [0]
    [(0, .p (slOf 4 encTask (default : Task) p0)), (1, .fn 55 [.ref 0 0 0]), (7, .p (vi ((p0.length : Nat) : Int))), (8, .p (vi ((k1 : Nat) : Int))), (9, .p (vb (decide (((k1 : Nat) : Int) < ((p0.length : Nat) : Int)))))]
    [(0, ⟨0, .box [.p (vi p1_0)]⟩)]
    [] (by kernel_rfl) trivial ?_
  refine DW.seq ?_
  refine DW.cond (decide (((k1 : Nat) : Int) < ((p0.length : Nat) : Int))) rfl rfl ?_ ?_
  ·
    intro h9
    have hlt1 : k1 < p0.length := by have := of_decide_eq_true h9; omega
    have hm := hs1 hlt1
    unfold slices_IndexFunc_Task_member_Exit_1_l1 at hm
    refine DW.skip ?_
    refine DW.seq ?_
    refine DW.block ?_
    refine DW.seq ?_
    refine DW.regE Tgood mixed hnt [.no, .no] [0, 1, 5, 7, 8] [0]
      [(0, .p (slOf 4 encTask (default : Task) p0)), (1, .fn 55 [.ref 0 0 0]), (5, .p (vi ((k1 : Nat) : Int))), (7, .p (vi ((p0.length : Nat) : Int))), (8, .p (vi ((k1 : Nat) : Int)))]
      [(0, ⟨0, .box [.p (vi p1_0)]⟩)]
      [] (by kernel_rfl) trivial ?_
    refine DW.seq ?_
    obtain ⟨r10, hr10, hm⟩ := bind_open hm
    refine DW.regE Tgood mixed hnt [.no, .no, .no, .no, .no, .call 55 [0] true (.p (vb r10)) [.box [.p (vi p1_0)]] []] [0, 1, 5, 7, 8, 16] [0]
      [(0, .p (slOf 4 encTask (default : Task) p0)), (1, .fn 55 [.ref 0 0 0]), (5, .p (vi ((k1 : Nat) : Int))), (7, .p (vi ((p0.length : Nat) : Int))), (8, .p (vi ((k1 : Nat) : Int))), (16, .p (vb r10))]
      [(0, ⟨0, .box [.p (vi p1_0)]⟩)]
      [((0 : Int) ≤ ((k1 : Nat) : Int)), (((k1 : Nat) : Int) < ((p0.length : Nat) : Int)), (Spec Try.prog 55 [.p (.agg [vi (p0.getD k1 (default : Task)).id, vi (p0.getD k1 (default : Task)).process, vi (p0.getD k1 (default : Task)).group, vi (p0.getD k1 (default : Task)).user]), .ref 0 0 0] [.box [.p (vi p1_0)]] (.p (vb r10)) [.box [.p (vi p1_0)]] []), (True)] (by kernel_rfl) ⟨(by omega), (by omega), (member_Exit_1_spec (p0.getD k1 (default : Task)) p1_0 r10 hr10), trivial, trivial⟩ ?_
    refine DW.cond r10 rfl rfl ?_ ?_
    ·
      intro h11
      replace hm := if_t h11 hm
      refine DW.seq ?_
      refine DW.regE Tgood mixed hnt [.no, .no] [4] [0]
        [(4, .p (vi ((k1 : Nat) : Int)))]
        [(0, ⟨0, .box [.p (vi p1_0)]⟩)]
        [] (by kernel_rfl) trivial ?_
      refine DW.ret ?_
      obtain rfl := Option.some.inj hm
      refine retOK (bs' := [.box [.p (vi p1_0)]]) [] (.p (vi ((k1 : Nat) : Int))) (by kernel_rfl) ?_ ?_
      · rfl
      · rfl
    ·
      intro h11
      replace hm := if_f h11 hm
      refine DW.skip ?_
      refine DW.done ?_
      show DW _ _ _ _ _
      refine DW.regE Tgood mixed hnt [.no, .no] [0, 1, 7, 8] [0]
        [(0, .p (slOf 4 encTask (default : Task) p0)), (1, .fn 55 [.ref 0 0 0]), (7, .p (vi ((p0.length : Nat) : Int))), (8, .p (vi (w64 (((k1 : Nat) : Int) + 1))))]
        [(0, ⟨0, .box [.p (vi p1_0)]⟩)]
        [] (by kernel_rfl) trivial ?_
      exact joinDone () ⟨hlt1, hm⟩ (Conv.to [0, 1, 7, 8] [0] [(0, .p (slOf 4 encTask (default : Task) p0)), (1, .fn 55 [.ref 0 0 0]), (7, .p (vi ((p0.length : Nat) : Int))), (8, .p (vi (w64 (((k1 : Nat) : Int) + 1))))] [(0, .p (slOf 4 encTask (default : Task) p0)), (1, .fn 55 [.ref 0 0 0]), (7, .p (vi ((p0.length : Nat) : Int))), (8, .p (vi (((k1 + 1) : Nat) : Int)))] [(0, ⟨0, .box [.p (vi p1_0)]⟩)] [(0, ⟨0, .box [.p (vi p1_0)]⟩)] (by kernel_rfl) (by kernel_rfl) (.cons .rfl (.cons .rfl (.cons .rfl (.cons (.of_eq (congrArg (fun n => MV.p (vi n)) (w64_succ hlt1 hc1))) .rfl)))) .rfl)
  ·
    intro h9
    have hge1 : ¬ k1 < p0.length := by have := of_decide_eq_false h9; omega
    have hm := he1 hge1
    unfold slices_IndexFunc_Task_member_Exit_1_d1 at hm
    refine DW.exit ?_
    refine joinQ_exit ?_
    refine KQ_exit ?_
    refine blockQ_exit ?_
    show DW _ _ _ _ _
    refine DW.seq ?_
    refine DW.regE Tgood mixed hnt [.no] [4] [0]
      [(4, .p (vi (-1)))]
      [(0, ⟨0, .box [.p (vi p1_0)]⟩)]
      [] (by kernel_rfl) trivial ?_
    refine DW.ret ?_
    obtain rfl := Option.some.inj hm
    refine retOK (bs' := [.box [.p (vi p1_0)]]) [] (.p (vi (-1))) (by kernel_rfl) ?_ ?_
    · rfl
    · rfl

theorem slices_DeleteFunc_Task_member_Exit_1_spec (p0 : List Task) (p1_0 : Int) (RES : Nat × (List Task) × Int) (hm : slices_DeleteFunc_Task_member_Exit_1 p0 p1_0 = some RES) : Spec Try.prog 54 [.own 0 0 0 p0.length, .fn 55 [.ref 1 0 0]] [rowOf 4 encTask (default : Task) p0, .box [.p (vi p1_0)]] (.own 0 0 0 RES.1) [rowOf 4 encTask (default : Task) RES.2.1, .box [.p (vi RES.2.2)]] [] := by
  unfold slices_DeleteFunc_Task_member_Exit_1 at hm
  refine spec_of Tgood (T := Tt) Try.func54 (by decide) (c := _) rfl rfl (sl := [(0, .own 0 0 0 p0.length), (1, .fn 55 [.ref 1 0 0])]) (ob := [(0, ⟨0, rowOf 4 encTask (default : Task) p0⟩), (1, ⟨0, .box [.p (vi p1_0)]⟩)]) (Nat.le_of_ble_eq_true rfl) (Nat.le_of_ble_eq_true rfl) (by kernel_rfl) (by kernel_rfl) ?_
  intro cx hnt
  refine DW.start ?_
  refine DW.seq ?_
  refine DW.regE Tgood mixed hnt [.no] [0, 1] [0, 1]
    [(0, .own 0 0 0 p0.length), (1, .fn 55 [.ref 1 0 0])]
    [(0, ⟨0, rowOf 4 encTask (default : Task) p0⟩), (1, ⟨0, .box [.p (vi p1_0)]⟩)]
    [] (by kernel_rfl) trivial ?_
  refine DW.seq ?_
  obtain ⟨r1, hr1, hm⟩ := bind_open hm
  refine DW.regE Tgood mixed hnt [.no, .no, .call 68 [1] true (.p (vi r1)) [.box [.p (vi p1_0)]] [], .no] [0, 1, 5] [0, 1]
    [(0, .own 0 0 0 p0.length), (1, .fn 55 [.ref 1 0 0]), (5, .p (vi r1))]
    [(0, ⟨0, rowOf 4 encTask (default : Task) p0⟩), (1, ⟨0, .box [.p (vi p1_0)]⟩)]
    [(Spec Try.prog 68 [.p (slOf 4 encTask (default : Task) p0), .fn 55 [.ref 0 0 0]] [.box [.p (vi p1_0)]] (.p (vi r1)) [.box [.p (vi p1_0)]] []), (True)] (by kernel_rfl) ⟨(slices_IndexFunc_Task_member_Exit_1_spec p0 p1_0 r1 hr1), trivial, trivial⟩ ?_
  refine DW.seq ?_
  refine DW.seq ?_
  refine DW.regE Tgood mixed hnt [.no, .no] [0, 1, 5, 12] [0, 1]
    [(0, .own 0 0 0 p0.length), (1, .fn 55 [.ref 1 0 0]), (5, .p (vi r1)), (12, .p (vb (r1 == (-1))))]
    [(0, ⟨0, rowOf 4 encTask (default : Task) p0⟩), (1, ⟨0, .box [.p (vi p1_0)]⟩)]
    [] (by kernel_rfl) trivial ?_
  refine DW.cond (r1 == (-1)) rfl rfl ?_ ?_
  ·
    intro h2
    replace hm := if_t h2 hm
    refine DW.seq ?_
    refine DW.regE Tgood mixed hnt [.no, .no] [4] [0, 1]
      [(4, .own 0 0 0 p0.length)]
      [(0, ⟨0, rowOf 4 encTask (default : Task) p0⟩), (1, ⟨0, .box [.p (vi p1_0)]⟩)]
      [] (by kernel_rfl) trivial ?_
    refine DW.ret ?_
    obtain rfl := Option.some.inj hm
    refine retOK (bs' := [rowOf 4 encTask (default : Task) p0, .box [.p (vi p1_0)]]) [] (.own 0 0 0 p0.length) (by kernel_rfl) ?_ ?_
    · rfl
    · rfl
  ·
    intro h2
    replace hm := if_f h2 hm
    refine DW.skip ?_
    refine DW.seq ?_
    refine DW.seq ?_
    refine DW.regE Tgood mixed hnt [.no, .no, .no] [0, 1, 5, 6] [0, 1]
      [(0, .own 0 0 0 p0.length), (1, .fn 55 [.ref 1 0 0]), (5, .p (vi r1)), (6, .p (vi (w64 (r1 + 1))))]
      [(0, ⟨0, rowOf 4 encTask (default : Task) p0⟩), (1, ⟨0, .box [.p (vi p1_0)]⟩)]
      [] (by kernel_rfl) trivial ?_
    refine DW.block ?_
    refine DW.whileO (fun (s1 : (List Task) × Int × Int) => mkSt [(0, .own 0 0 0 s1.1.length), (1, .fn 55 [.ref 1 0 0]), (5, .p (vi s1.2.1)), (6, .p (vi s1.2.2))] [(0, ⟨0, rowOf 4 encTask (default : Task) s1.1⟩), (1, ⟨0, .box [.p (vi p1_0)]⟩)]) hm .refl ?_
    intro s1 n1 hm
    unfold slices_DeleteFunc_Task_member_Exit_1_l1 at hm
    refine DW.seq ?_
    refine DW.seq ?_
    refine DW.regE Tgood mixed hnt [.no, .no, .no, .no] [0, 1, 5, 6, 19] [0, 1]
      [(0, .own 0 0 0 s1.1.length), (1, .fn 55 [.ref 1 0 0]), (5, .p (vi s1.2.1)), (6, .p (vi s1.2.2)), (19, .p (vb (decide (s1.2.2 < ((s1.1.length : Nat) : Int)))))]
      [(0, ⟨0, rowOf 4 encTask (default : Task) s1.1⟩), (1, ⟨0, .box [.p (vi p1_0)]⟩)]
      [] (by kernel_rfl) trivial ?_
    refine DW.cond (decide (s1.2.2 < ((s1.1.length : Nat) : Int))) rfl rfl ?_ ?_
    ·
      intro h13
      replace hm := if_t h13 hm
      refine DW.skip ?_
      refine DW.seq ?_
      refine DW.join (ι := (List Task) × Int) (fun (y2 : (List Task) × Int) => mkSt [(0, .own 0 0 0 y2.1.length), (1, .fn 55 [.ref 1 0 0]), (5, .p (vi y2.2)), (6, .p (vi s1.2.2))] [(0, ⟨0, rowOf 4 encTask (default : Task) y2.1⟩), (1, ⟨0, .box [.p (vi p1_0)]⟩)]) (fun y2 => (slices_DeleteFunc_Task_member_Exit_1_j2 s1 n1) y2 = some RES) ?_ ?_
      · intro y2 hm
        unfold slices_DeleteFunc_Task_member_Exit_1_j2 at hm
        refine DW.regE Tgood mixed hnt [.no, .no, .no] [0, 1, 5, 6] [0, 1]
          [(0, .own 0 0 0 y2.1.length), (1, .fn 55 [.ref 1 0 0]), (5, .p (vi y2.2)), (6, .p (vi (w64 (s1.2.2 + 1))))]
          [(0, ⟨0, rowOf 4 encTask (default : Task) y2.1⟩), (1, ⟨0, .box [.p (vi p1_0)]⟩)]
          [] (by kernel_rfl) trivial ?_
        exact joinDone (y2.1, y2.2, (w64 (s1.2.2 + 1))) hm .refl
      ·
        refine DW.block ?_
        refine DW.seq ?_
        obtain ⟨g14, hm⟩ := guard_open hm
        obtain ⟨g15, hm⟩ := guard_open hm
        refine DW.regE Tgood mixed hnt [.no, .no, .no, .no, .no, .no] [0, 1, 5, 6, 7] [0, 1, 1056]
          [(0, .own 0 0 0 s1.1.length), (1, .fn 55 [.ref 1 0 0]), (5, .p (vi s1.2.1)), (6, .p (vi s1.2.2)), (7, .ref 1056 0 0)]
          [(0, ⟨0, rowOf 4 encTask (default : Task) s1.1⟩), (1, ⟨0, .box [.p (vi p1_0)]⟩), (1056, ⟨0, .box [.p (vi (s1.1.getD (Int.toNat s1.2.2) (default : Task)).id), .p (vi (s1.1.getD (Int.toNat s1.2.2) (default : Task)).process), .p (vi (s1.1.getD (Int.toNat s1.2.2) (default : Task)).group), .p (vi (s1.1.getD (Int.toNat s1.2.2) (default : Task)).user)]⟩)]
          [((0 : Int) ≤ s1.2.2), (s1.2.2 < ((s1.1.length : Nat) : Int)), ((Int.toNat s1.2.2) < s1.1.length)] (by kernel_rfl) ⟨g14.1, g14.2, g15, trivial⟩ ?_
        refine DW.seq ?_
        obtain ⟨r16, hr16, hm⟩ := bind_open hm
        refine DW.regE Tgood mixed hnt [.no, .no, .call 55 [1] true (.p (vb r16)) [.box [.p (vi p1_0)]] [], .no] [0, 1, 5, 6, 7, 29] [0, 1, 1056]
          [(0, .own 0 0 0 s1.1.length), (1, .fn 55 [.ref 1 0 0]), (5, .p (vi s1.2.1)), (6, .p (vi s1.2.2)), (7, .ref 1056 0 0), (29, .p (vb (!r16)))]
          [(0, ⟨0, rowOf 4 encTask (default : Task) s1.1⟩), (1, ⟨0, .box [.p (vi p1_0)]⟩), (1056, ⟨0, .box [.p (vi (s1.1.getD (Int.toNat s1.2.2) (default : Task)).id), .p (vi (s1.1.getD (Int.toNat s1.2.2) (default : Task)).process), .p (vi (s1.1.getD (Int.toNat s1.2.2) (default : Task)).group), .p (vi (s1.1.getD (Int.toNat s1.2.2) (default : Task)).user)]⟩)]
          [(Spec Try.prog 55 [.p (.agg [vi (s1.1.getD (Int.toNat s1.2.2) (default : Task)).id, vi (s1.1.getD (Int.toNat s1.2.2) (default : Task)).process, vi (s1.1.getD (Int.toNat s1.2.2) (default : Task)).group, vi (s1.1.getD (Int.toNat s1.2.2) (default : Task)).user]), .ref 0 0 0] [.box [.p (vi p1_0)]] (.p (vb r16)) [.box [.p (vi p1_0)]] []), (True)] (by kernel_rfl) ⟨(member_Exit_1_spec (s1.1.getD (Int.toNat s1.2.2) (default : Task)) p1_0 r16 hr16), trivial, trivial⟩ ?_
        refine DW.cond (!r16) rfl rfl ?_ ?_
        ·
          intro h17
          replace hm := if_t h17 hm
          refine DW.seq ?_
          obtain ⟨g18, hm⟩ := guard_open hm
          obtain ⟨g19, hm⟩ := guard_open hm
          refine DW.reg Tgood mixed hnt [.no, .no, .no, .no, .no] [0, 1, 5, 6] [0, 1]
            [(0, .own 0 0 0 s1.1.length), (1, .fn 55 [.ref 1 0 0]), (5, .p (vi s1.2.1)), (6, .p (vi s1.2.2))]
            [(0, .own 0 0 0 (s1.1.set (Int.toNat s1.2.1) (s1.1.getD (Int.toNat s1.2.2) (default : Task))).length), (1, .fn 55 [.ref 1 0 0]), (5, .p (vi s1.2.1)), (6, .p (vi s1.2.2))]
            [(0, ⟨0, .row 4 s1.1.length (updF (elems encTask (default : Task) s1.1) (Int.toNat s1.2.1) [vi (s1.1.getD (Int.toNat s1.2.2) (default : Task)).id, vi (s1.1.getD (Int.toNat s1.2.2) (default : Task)).process, vi (s1.1.getD (Int.toNat s1.2.2) (default : Task)).group, vi (s1.1.getD (Int.toNat s1.2.2) (default : Task)).user])⟩), (1, ⟨0, .box [.p (vi p1_0)]⟩)]
            [(0, ⟨0, rowOf 4 encTask (default : Task) (s1.1.set (Int.toNat s1.2.1) (s1.1.getD (Int.toNat s1.2.2) (default : Task)))⟩), (1, ⟨0, .box [.p (vi p1_0)]⟩)]
            [((0 : Int) ≤ s1.2.1), (s1.2.1 < ((s1.1.length : Nat) : Int)), ((Int.toNat s1.2.1) < s1.1.length)] (by kernel_rfl) ⟨g18.1, g18.2, g19, trivial⟩ (.cons (MLe.ownLen (enc := encTask) (d := (default : Task)) (f := (updF (elems encTask (default : Task) s1.1) (Int.toNat s1.2.1) [vi (s1.1.getD (Int.toNat s1.2.2) (default : Task)).id, vi (s1.1.getD (Int.toNat s1.2.2) (default : Task)).process, vi (s1.1.getD (Int.toNat s1.2.2) (default : Task)).group, vi (s1.1.getD (Int.toNat s1.2.2) (default : Task)).user])) (RowIs.upd RowIs.elems (s1.1.getD (Int.toNat s1.2.2) (default : Task)) rfl)) .rfl) (.cons (BLe.typed (RowIs.upd RowIs.elems (s1.1.getD (Int.toNat s1.2.2) (default : Task)) rfl)) .rfl) ?_
          refine DW.regE Tgood mixed hnt [.no, .no, .no] [0, 1, 5, 6] [0, 1]
            [(0, .own 0 0 0 (s1.1.set (Int.toNat s1.2.1) (s1.1.getD (Int.toNat s1.2.2) (default : Task))).length), (1, .fn 55 [.ref 1 0 0]), (5, .p (vi (w64 (s1.2.1 + 1)))), (6, .p (vi s1.2.2))]
            [(0, ⟨0, rowOf 4 encTask (default : Task) (s1.1.set (Int.toNat s1.2.1) (s1.1.getD (Int.toNat s1.2.2) (default : Task)))⟩), (1, ⟨0, .box [.p (vi p1_0)]⟩)]
            [] (by kernel_rfl) trivial ?_
          exact blockDone ((s1.1.set (Int.toNat s1.2.1) (s1.1.getD (Int.toNat s1.2.2) (default : Task))), (w64 (s1.2.1 + 1))) hm .refl
        ·
          intro h17
          replace hm := if_f h17 hm
          refine DW.skip ?_
          exact blockDone (s1.1, s1.2.1) hm (Conv.to [0, 1, 5, 6] [0, 1] [(0, .own 0 0 0 s1.1.length), (1, .fn 55 [.ref 1 0 0]), (5, .p (vi s1.2.1)), (6, .p (vi s1.2.2))] [(0, .own 0 0 0 s1.1.length), (1, .fn 55 [.ref 1 0 0]), (5, .p (vi s1.2.1)), (6, .p (vi s1.2.2))] [(0, ⟨0, rowOf 4 encTask (default : Task) s1.1⟩), (1, ⟨0, .box [.p (vi p1_0)]⟩)] [(0, ⟨0, rowOf 4 encTask (default : Task) s1.1⟩), (1, ⟨0, .box [.p (vi p1_0)]⟩)] (by kernel_rfl) (by kernel_rfl) .rfl .rfl)
    ·
      intro h13
      replace hm := if_f h13 hm
      refine DW.exit ?_
      refine joinQ_exit ?_
      refine KQ_exit ?_
      refine blockQ_exit ?_
      show DW _ _ _ _ _
      refine DW.seq ?_
      obtain ⟨g20, hm⟩ := guard_open hm
      obtain ⟨g21, hm⟩ := guard_open hm
      refine DW.reg Tgood mixed hnt [.no, .no, .no, .no] [0, 5] [0, 1]
        [(0, .own 0 0 0 s1.1.length), (5, .p (vi s1.2.1))]
        [(0, .own 0 0 0 (fillL s1.1 (Int.toNat s1.2.1) (subN s1.1.length (Int.toNat s1.2.1)) ({ id := 0, process := 0, group := 0, user := 0 } : Task)).length), (5, .p (vi s1.2.1))]
        [(0, ⟨0, .row 4 s1.1.length (overF (elems encTask (default : Task) s1.1) (Int.toNat s1.2.1) (subN s1.1.length (Int.toNat s1.2.1)) (fun _ => [vi 0, vi 0, vi 0, vi 0]))⟩), (1, ⟨0, .box [.p (vi p1_0)]⟩)]
        [(0, ⟨0, rowOf 4 encTask (default : Task) (fillL s1.1 (Int.toNat s1.2.1) (subN s1.1.length (Int.toNat s1.2.1)) ({ id := 0, process := 0, group := 0, user := 0 } : Task))⟩), (1, ⟨0, .box [.p (vi p1_0)]⟩)]
        [((0 : Int) ≤ s1.2.1), (s1.2.1 ≤ ((s1.1.length : Nat) : Int)), (((s1.1.length : Nat) : Int) ≤ ((s1.1.length : Nat) : Int)), ((Int.toNat s1.2.1) + (subN s1.1.length (Int.toNat s1.2.1)) ≤ s1.1.length)] (by kernel_rfl) ⟨(by omega), (by omega), (by omega), g21, trivial⟩ (.cons (MLe.ownLen (enc := encTask) (d := (default : Task)) (f := (overF (elems encTask (default : Task) s1.1) (Int.toNat s1.2.1) (subN s1.1.length (Int.toNat s1.2.1)) (fun _ => [vi 0, vi 0, vi 0, vi 0]))) (RowIs.fill RowIs.elems ({ id := 0, process := 0, group := 0, user := 0 } : Task) rfl (by first | exact g21 | omega))) .rfl) (.cons (BLe.typed (RowIs.fill RowIs.elems ({ id := 0, process := 0, group := 0, user := 0 } : Task) rfl (by first | exact g21 | omega))) .rfl) ?_
      refine DW.seq ?_
      obtain ⟨g22, hm⟩ := guard_open hm
      refine DW.regE Tgood mixed hnt [.no, .no, .no, .no] [4] [0, 1]
        [(4, .own 0 0 0 (Int.toNat s1.2.1))]
        [(0, ⟨0, rowOf 4 encTask (default : Task) (fillL s1.1 (Int.toNat s1.2.1) (subN s1.1.length (Int.toNat s1.2.1)) ({ id := 0, process := 0, group := 0, user := 0 } : Task))⟩), (1, ⟨0, .box [.p (vi p1_0)]⟩)]
        [((0 : Int) ≤ 0), ((0 : Int) ≤ s1.2.1), (s1.2.1 ≤ (((fillL s1.1 (Int.toNat s1.2.1) (subN s1.1.length (Int.toNat s1.2.1)) ({ id := 0, process := 0, group := 0, user := 0 } : Task)).length : Nat) : Int))] (by kernel_rfl) ⟨(by omega), (by omega), (by omega), trivial⟩ ?_
      refine DW.ret ?_
      obtain rfl := Option.some.inj hm
      refine retOK (bs' := [rowOf 4 encTask (default : Task) (fillL s1.1 (Int.toNat s1.2.1) (subN s1.1.length (Int.toNat s1.2.1)) ({ id := 0, process := 0, group := 0, user := 0 } : Task)), .box [.p (vi p1_0)]]) [] (.own 0 0 0 (Int.toNat s1.2.1)) (by kernel_rfl) ?_ ?_
      · rfl
      · rfl

theorem member_Exit_spec (p0 : Hierarchy) (p1 : Int) (RES : Hierarchy × Int) (hm : member_Exit p0 p1 = some RES) : Spec Try.prog 31 [.p (.agg [slOf 6 encNode (default : Node) p0.tree.nodes, vi p0.tree.next, slOf 4 encTask (default : Task) p0.tasks, vi p0.next]), .p (vi p1)] [] (.tup [.agg [.own 0 0 0 RES.1.tree.nodes.length, .p (vi RES.1.tree.next), .p (slOf 4 encTask (default : Task) RES.1.tasks), .p (vi RES.1.next)], .p (vi RES.2)]) [] [rowOf 6 encNode (default : Node) RES.1.tree.nodes] := by
  unfold member_Exit at hm
  refine spec_of Tgood (T := Tt) Try.func31 (by decide) (c := _) rfl rfl (sl := [(0, .p (.agg [slOf 6 encNode (default : Node) p0.tree.nodes, vi p0.tree.next, slOf 4 encTask (default : Task) p0.tasks, vi p0.next])), (1, .p (vi p1))]) (ob := []) (Nat.le_of_ble_eq_true rfl) (Nat.le_of_ble_eq_true rfl) (by kernel_rfl) (by kernel_rfl) ?_
  intro cx hnt
  refine DW.start ?_
  refine DW.seq ?_
  refine DW.regE Tgood mixed hnt [.no, .no, .no, .no] [2, 3, 4] [1016, 1024, 1032]
    [(2, .ref 1016 0 0), (3, .ref 1024 0 0), (4, .ref 1032 0 0)]
    [(1016, ⟨0, .box [.p (slOf 6 encNode (default : Node) p0.tree.nodes), .p (vi p0.tree.next), .p (slOf 4 encTask (default : Task) p0.tasks), .p (vi p0.next)]⟩), (1024, ⟨0, .box [.p (vi p1)]⟩), (1032, ⟨0, .box [.p (.sl .nil 0 0 (fun _ => [])), .p (vi 0), .p (.sl .nil 0 0 (fun _ => [])), .p (vi 0)]⟩)]
    [] (by kernel_rfl) trivial ?_
  refine DW.seq ?_
  refine DW.seq ?_
  obtain ⟨r1, hr1, hm⟩ := bind_open hm
  refine DW.regE Tgood mixed hnt [.no, .call 21 [] true (.p (vb r1)) [] [], .no] [2, 3, 4, 9] [1016, 1024, 1032]
    [(2, .ref 1016 0 0), (3, .ref 1024 0 0), (4, .ref 1032 0 0), (9, .p (vb (!r1)))]
    [(1016, ⟨0, .box [.p (slOf 6 encNode (default : Node) p0.tree.nodes), .p (vi p0.tree.next), .p (slOf 4 encTask (default : Task) p0.tasks), .p (vi p0.next)]⟩), (1024, ⟨0, .box [.p (vi p1)]⟩), (1032, ⟨0, .box [.p (.sl .nil 0 0 (fun _ => [])), .p (vi 0), .p (.sl .nil 0 0 (fun _ => [])), .p (vi 0)]⟩)]
    [(Spec Try.prog 21 [.p (.agg [slOf 6 encNode (default : Node) p0.tree.nodes, vi p0.tree.next, slOf 4 encTask (default : Task) p0.tasks, vi p0.next])] [] (.p (vb r1)) [] [])] (by kernel_rfl) ⟨(member_Check_spec p0 r1 hr1), trivial⟩ ?_
  refine DW.cond (!r1) rfl rfl ?_ ?_
  ·
    intro h2
    replace hm := if_t h2 hm
    refine DW.seq ?_
    refine DW.regE Tgood mixed hnt [.no, .no, .no] [4, 5] [1032]
      [(4, .ref 1032 0 0), (5, .p (vi 1))]
      [(1032, ⟨0, .box [.p (.sl .nil 0 0 (fun _ => [])), .p (vi 0), .p (.sl .nil 0 0 (fun _ => [])), .p (vi 0)]⟩)]
      [] (by kernel_rfl) trivial ?_
    refine DW.conv (τ := mkSt [(4, .ref 1032 0 0), (5, .p (vi 1))] [(1032, ⟨0, .box [.own 100000 0 0 0, .p (vi 0), .p (slOf 4 encTask (default : Task) []), .p (vi 0)]⟩), (100000, ⟨0, rowOf 6 encNode (default : Node) []⟩)]) (Conv.trans (τ := mkSt [(4, .ref 1032 0 0), (5, .p (vi 1))] ((100000, ⟨0, .row 6 0 (elems encNode (default : Node) [])⟩) :: [(1032, ⟨0, .box [.own 100000 0 0 0, .p (vi 0), .p (.sl .nil 0 0 (fun _ => [])), .p (vi 0)]⟩)])) (Conv.adopt 100000 6 (elems encNode (default : Node) []) rfl rfl (.rfl _) (.box (.cons (.nil _ _) (.cons (.rfl _) (.cons (.rfl _) (.cons (.rfl _) (.rfl _))))) (.rfl _))) (Conv.trans (τ := mkSt [(4, .ref 1032 0 0), (5, .p (vi 1))] [(1032, ⟨0, .box [.own 100000 0 0 0, .p (vi 0), .p (.sl .nil 0 0 (fun _ => [])), .p (vi 0)]⟩), (100000, ⟨0, rowOf 6 encNode (default : Node) []⟩)]) (Conv.to [4, 5] [1032, 100000] [(4, .ref 1032 0 0), (5, .p (vi 1))] [(4, .ref 1032 0 0), (5, .p (vi 1))] [(1032, ⟨0, .box [.own 100000 0 0 0, .p (vi 0), .p (.sl .nil 0 0 (fun _ => [])), .p (vi 0)]⟩), (100000, ⟨0, rowOf 6 encNode (default : Node) []⟩)] [(1032, ⟨0, .box [.own 100000 0 0 0, .p (vi 0), .p (.sl .nil 0 0 (fun _ => [])), .p (vi 0)]⟩), (100000, ⟨0, rowOf 6 encNode (default : Node) []⟩)] (by kernel_rfl) (by kernel_rfl) .rfl .rfl) (Conv.to [4, 5] [1032, 100000] [(4, .ref 1032 0 0), (5, .p (vi 1))] [(4, .ref 1032 0 0), (5, .p (vi 1))] [(1032, ⟨0, .box [.own 100000 0 0 0, .p (vi 0), .p (.sl .nil 0 0 (fun _ => [])), .p (vi 0)]⟩), (100000, ⟨0, rowOf 6 encNode (default : Node) []⟩)] [(1032, ⟨0, .box [.own 100000 0 0 0, .p (vi 0), .p (slOf 4 encTask (default : Task) []), .p (vi 0)]⟩), (100000, ⟨0, rowOf 6 encNode (default : Node) []⟩)] (by kernel_rfl) (by kernel_rfl) .rfl (.cons (.box (.cons .rfl (.cons .rfl (.cons MLe.nilL (.cons .rfl .nil))))) .rfl)))) ?_
    refine DW.ret ?_
    obtain rfl := Option.some.inj hm
    refine retOK (bs' := [rowOf 6 encNode (default : Node) []]) [100000] (.tup [.agg [.own 0 0 0 0, .p (vi 0), .p (slOf 4 encTask (default : Task) []), .p (vi 0)], .p (vi 1)]) (by kernel_rfl) ?_ ?_
    · rfl
    · rfl
  ·
    intro h2
    replace hm := if_f h2 hm
    refine DW.skip ?_
    refine DW.seq ?_
    refine DW.seq ?_
    obtain ⟨r3, hr3, hm⟩ := bind_open hm
    refine DW.regE Tgood mixed hnt [.no, .no, .call 40 [] true (.p (vi r3)) [] [], .no] [2, 3, 4, 14] [1016, 1024, 1032]
      [(2, .ref 1016 0 0), (3, .ref 1024 0 0), (4, .ref 1032 0 0), (14, .p (vb (decide (r3 < 0))))]
      [(1016, ⟨0, .box [.p (slOf 6 encNode (default : Node) p0.tree.nodes), .p (vi p0.tree.next), .p (slOf 4 encTask (default : Task) p0.tasks), .p (vi p0.next)]⟩), (1024, ⟨0, .box [.p (vi p1)]⟩), (1032, ⟨0, .box [.p (.sl .nil 0 0 (fun _ => [])), .p (vi 0), .p (.sl .nil 0 0 (fun _ => [])), .p (vi 0)]⟩)]
      [(Spec Try.prog 40 [.p (.agg [slOf 6 encNode (default : Node) p0.tree.nodes, vi p0.tree.next, slOf 4 encTask (default : Task) p0.tasks, vi p0.next]), .p (vi p1)] [] (.p (vi r3)) [] [])] (by kernel_rfl) ⟨(crew_At_spec p0 p1 r3 hr3), trivial⟩ ?_
    refine DW.cond (decide (r3 < 0)) rfl rfl ?_ ?_
    ·
      intro h4
      replace hm := if_t h4 hm
      refine DW.seq ?_
      refine DW.regE Tgood mixed hnt [.no, .no, .no] [4, 5] [1032]
        [(4, .ref 1032 0 0), (5, .p (vi 4))]
        [(1032, ⟨0, .box [.p (.sl .nil 0 0 (fun _ => [])), .p (vi 0), .p (.sl .nil 0 0 (fun _ => [])), .p (vi 0)]⟩)]
        [] (by kernel_rfl) trivial ?_
      refine DW.conv (τ := mkSt [(4, .ref 1032 0 0), (5, .p (vi 4))] [(1032, ⟨0, .box [.own 100000 0 0 0, .p (vi 0), .p (slOf 4 encTask (default : Task) []), .p (vi 0)]⟩), (100000, ⟨0, rowOf 6 encNode (default : Node) []⟩)]) (Conv.trans (τ := mkSt [(4, .ref 1032 0 0), (5, .p (vi 4))] ((100000, ⟨0, .row 6 0 (elems encNode (default : Node) [])⟩) :: [(1032, ⟨0, .box [.own 100000 0 0 0, .p (vi 0), .p (.sl .nil 0 0 (fun _ => [])), .p (vi 0)]⟩)])) (Conv.adopt 100000 6 (elems encNode (default : Node) []) rfl rfl (.rfl _) (.box (.cons (.nil _ _) (.cons (.rfl _) (.cons (.rfl _) (.cons (.rfl _) (.rfl _))))) (.rfl _))) (Conv.trans (τ := mkSt [(4, .ref 1032 0 0), (5, .p (vi 4))] [(1032, ⟨0, .box [.own 100000 0 0 0, .p (vi 0), .p (.sl .nil 0 0 (fun _ => [])), .p (vi 0)]⟩), (100000, ⟨0, rowOf 6 encNode (default : Node) []⟩)]) (Conv.to [4, 5] [1032, 100000] [(4, .ref 1032 0 0), (5, .p (vi 4))] [(4, .ref 1032 0 0), (5, .p (vi 4))] [(1032, ⟨0, .box [.own 100000 0 0 0, .p (vi 0), .p (.sl .nil 0 0 (fun _ => [])), .p (vi 0)]⟩), (100000, ⟨0, rowOf 6 encNode (default : Node) []⟩)] [(1032, ⟨0, .box [.own 100000 0 0 0, .p (vi 0), .p (.sl .nil 0 0 (fun _ => [])), .p (vi 0)]⟩), (100000, ⟨0, rowOf 6 encNode (default : Node) []⟩)] (by kernel_rfl) (by kernel_rfl) .rfl .rfl) (Conv.to [4, 5] [1032, 100000] [(4, .ref 1032 0 0), (5, .p (vi 4))] [(4, .ref 1032 0 0), (5, .p (vi 4))] [(1032, ⟨0, .box [.own 100000 0 0 0, .p (vi 0), .p (.sl .nil 0 0 (fun _ => [])), .p (vi 0)]⟩), (100000, ⟨0, rowOf 6 encNode (default : Node) []⟩)] [(1032, ⟨0, .box [.own 100000 0 0 0, .p (vi 0), .p (slOf 4 encTask (default : Task) []), .p (vi 0)]⟩), (100000, ⟨0, rowOf 6 encNode (default : Node) []⟩)] (by kernel_rfl) (by kernel_rfl) .rfl (.cons (.box (.cons .rfl (.cons .rfl (.cons MLe.nilL (.cons .rfl .nil))))) .rfl)))) ?_
      refine DW.ret ?_
      obtain rfl := Option.some.inj hm
      refine retOK (bs' := [rowOf 6 encNode (default : Node) []]) [100000] (.tup [.agg [.own 0 0 0 0, .p (vi 0), .p (slOf 4 encTask (default : Task) []), .p (vi 0)], .p (vi 4)]) (by kernel_rfl) ?_ ?_
      · rfl
      · rfl
    ·
      intro h4
      replace hm := if_f h4 hm
      refine DW.skip ?_
      refine DW.seq ?_
      obtain ⟨r5, hr5, hm⟩ := bind_open hm
      refine DW.regE Tgood mixed hnt [.no, .call 41 [] true (.agg [.own 0 0 0 r5.tree.nodes.length, .p (vi r5.tree.next), .own 1 0 0 r5.tasks.length, .p (vi r5.next)]) [] [rowOf 6 encNode (default : Node) r5.tree.nodes, rowOf 4 encTask (default : Task) r5.tasks], .no, .no] [3, 4, 6] [1024, 1032, 1048, 1136, 1137]
        [(3, .ref 1024 0 0), (4, .ref 1032 0 0), (6, .ref 1048 0 0)]
        [(1024, ⟨0, .box [.p (vi p1)]⟩), (1032, ⟨0, .box [.p (.sl .nil 0 0 (fun _ => [])), .p (vi 0), .p (.sl .nil 0 0 (fun _ => [])), .p (vi 0)]⟩), (1048, ⟨0, .box [.own 1136 0 0 r5.tree.nodes.length, .p (vi r5.tree.next), .own 1137 0 0 r5.tasks.length, .p (vi r5.next)]⟩), (1136, ⟨0, rowOf 6 encNode (default : Node) r5.tree.nodes⟩), (1137, ⟨0, rowOf 4 encTask (default : Task) r5.tasks⟩)]
        [(Spec Try.prog 41 [.p (.agg [slOf 6 encNode (default : Node) p0.tree.nodes, vi p0.tree.next, slOf 4 encTask (default : Task) p0.tasks, vi p0.next])] [] (.agg [.own 0 0 0 r5.tree.nodes.length, .p (vi r5.tree.next), .own 1 0 0 r5.tasks.length, .p (vi r5.next)]) [] [rowOf 6 encNode (default : Node) r5.tree.nodes, rowOf 4 encTask (default : Task) r5.tasks])] (by kernel_rfl) ⟨(crew_Copy_spec p0 r5 hr5), trivial⟩ ?_
      refine DW.seq ?_
      obtain ⟨r6, hr6, hm⟩ := bind_open hm
      obtain ⟨g7, hm⟩ := guard_open hm
      obtain ⟨g8, hm⟩ := guard_open hm
      refine DW.regE Tgood mixed hnt [.no, .no, .no, .call 54 [1137, 1024] true (.own 0 0 0 r6.1) [rowOf 4 encTask (default : Task) r6.2.1, .box [.p (vi r6.2.2)]] [], .no, .no] [4, 6] [1032, 1048, 1136, 1137]
        [(4, .ref 1032 0 0), (6, .ref 1048 0 0)]
        [(1032, ⟨0, .box [.p (.sl .nil 0 0 (fun _ => [])), .p (vi 0), .p (.sl .nil 0 0 (fun _ => [])), .p (vi 0)]⟩), (1048, ⟨0, .box [.own 1136 0 0 r5.tree.nodes.length, .p (vi r5.tree.next), .own 1137 0 0 r6.1, .p (vi r5.next)]⟩), (1136, ⟨0, rowOf 6 encNode (default : Node) r5.tree.nodes⟩), (1137, ⟨0, rowOf 4 encTask (default : Task) r6.2.1⟩)]
        [(Spec Try.prog 54 [.own 0 0 0 r5.tasks.length, .fn 55 [.ref 1 0 0]] [rowOf 4 encTask (default : Task) r5.tasks, .box [.p (vi p1)]] (.own 0 0 0 r6.1) [rowOf 4 encTask (default : Task) r6.2.1, .box [.p (vi r6.2.2)]] []), (Body.same (rowOf 4 encTask (default : Task) r5.tasks) (rowOf 4 encTask (default : Task) r6.2.1)), (True)] (by kernel_rfl) ⟨(slices_DeleteFunc_Task_member_Exit_1_spec r5.tasks p1 r6 hr6), ⟨rfl, g7⟩, trivial, trivial⟩ ?_
      refine DW.seq ?_
      refine DW.regE Tgood mixed hnt [.no, .no, .no] [4, 5] [1032, 1136, 1137]
        [(4, .ref 1032 0 0), (5, .p (vi 0))]
        [(1032, ⟨0, .box [.own 1136 0 0 r5.tree.nodes.length, .p (vi r5.tree.next), .own 1137 0 0 r6.1, .p (vi r5.next)]⟩), (1136, ⟨0, rowOf 6 encNode (default : Node) r5.tree.nodes⟩), (1137, ⟨0, rowOf 4 encTask (default : Task) r6.2.1⟩)]
        [] (by kernel_rfl) trivial ?_
      refine DW.conv (τ := mkSt [(4, .ref 1032 0 0), (5, .p (vi 0))] [(1032, ⟨0, .box [.own 1136 0 0 r5.tree.nodes.length, .p (vi r5.tree.next), .p (slOf 4 encTask (default : Task) (r6.2.1.take r6.1)), .p (vi r5.next)]⟩), (1136, ⟨0, rowOf 6 encNode (default : Node) r5.tree.nodes⟩)]) (Conv.trans (τ := mkSt [(4, .ref 1032 0 0), (5, .p (vi 0))] [(1032, ⟨0, .box [.own 1136 0 0 r5.tree.nodes.length, .p (vi r5.tree.next), .p (.sl .unk 4 r6.1 (elems encTask (default : Task) r6.2.1)), .p (vi r5.next)]⟩), (1136, ⟨0, rowOf 6 encNode (default : Node) r5.tree.nodes⟩)]) (Conv.freezes [1137] (by kernel_rfl)) (Conv.to [4, 5] [1032, 1136] [(4, .ref 1032 0 0), (5, .p (vi 0))] [(4, .ref 1032 0 0), (5, .p (vi 0))] [(1032, ⟨0, .box [.own 1136 0 0 r5.tree.nodes.length, .p (vi r5.tree.next), .p (.sl .unk 4 r6.1 (elems encTask (default : Task) r6.2.1)), .p (vi r5.next)]⟩), (1136, ⟨0, rowOf 6 encNode (default : Node) r5.tree.nodes⟩)] [(1032, ⟨0, .box [.own 1136 0 0 r5.tree.nodes.length, .p (vi r5.tree.next), .p (slOf 4 encTask (default : Task) (r6.2.1.take r6.1)), .p (vi r5.next)]⟩), (1136, ⟨0, rowOf 6 encNode (default : Node) r5.tree.nodes⟩)] (by kernel_rfl) (by kernel_rfl) .rfl (.cons (.box (.cons .rfl (.cons .rfl (.cons (MLe.typed (RowIs.take RowIs.elems (by first | omega | (simp only [subN_eq, addN_eq] at *; omega)))) (.cons .rfl .nil))))) .rfl))) ?_
      refine DW.ret ?_
      obtain rfl := Option.some.inj hm
      refine retOK (bs' := [rowOf 6 encNode (default : Node) r5.tree.nodes]) [1136] (.tup [.agg [.own 0 0 0 r5.tree.nodes.length, .p (vi r5.tree.next), .p (slOf 4 encTask (default : Task) (r6.2.1.take r6.1)), .p (vi r5.next)], .p (vi 0)]) (by kernel_rfl) ?_ ?_
      · rfl
      · rfl

theorem law6_sane_spec (RES : Bool) (hm : law6_sane = some RES) : Spec Try.prog 11 [] [] (.p (vb RES)) [] [] := by
  unfold law6_sane at hm
  refine spec_of Tgood (T := Tt) Try.func11 (by decide) (c := _) rfl rfl (sl := []) (ob := []) (Nat.le_of_ble_eq_true rfl) (Nat.le_of_ble_eq_true rfl) (by kernel_rfl) (by kernel_rfl) ?_
  intro cx hnt
  refine DW.start ?_
  refine DW.seq ?_
  refine DW.regE Tgood mixed hnt [.no] [] []
    []
    []
    [] (by kernel_rfl) trivial ?_
  refine DW.seq ?_
  obtain ⟨r1, hr1, hm⟩ := bind_open hm
  obtain ⟨r2, hr2, hm⟩ := bind_open hm
  refine DW.regE Tgood mixed hnt [.call 30 [] true (.agg [.own 0 0 0 r1.tree.nodes.length, .p (vi r1.tree.next), .own 1 0 0 r1.tasks.length, .p (vi r1.next)]) [] [rowOf 6 encNode (default : Node) r1.tree.nodes, rowOf 4 encTask (default : Task) r1.tasks], .call 6 [] false (.tup [.agg [.own 0 0 0 r2.1.tree.nodes.length, .p (vi r2.1.tree.next), .own 1 0 0 r2.1.tasks.length, .p (vi r2.1.next)], .p (vi r2.2.1), .p (vi r2.2.2)]) [] [rowOf 6 encNode (default : Node) r2.1.tree.nodes, rowOf 4 encTask (default : Task) r2.1.tasks], .no, .no, .no, .no, .no, .no, .no, .no] [1, 2, 3] [1008, 1080, 1081]
    [(1, .ref 1008 0 0), (2, .p (vi r2.2.1)), (3, .p (vi r2.2.2))]
    [(1008, ⟨0, .box [.own 1080 0 0 r2.1.tree.nodes.length, .p (vi r2.1.tree.next), .own 1081 0 0 r2.1.tasks.length, .p (vi r2.1.next)]⟩), (1080, ⟨0, rowOf 6 encNode (default : Node) r2.1.tree.nodes⟩), (1081, ⟨0, rowOf 4 encTask (default : Task) r2.1.tasks⟩)]
    [(Spec Try.prog 30 [] [] (.agg [.own 0 0 0 r1.tree.nodes.length, .p (vi r1.tree.next), .own 1 0 0 r1.tasks.length, .p (vi r1.next)]) [] [rowOf 6 encNode (default : Node) r1.tree.nodes, rowOf 4 encTask (default : Task) r1.tasks]), (Spec Try.prog 6 [.p (.agg [slOf 6 encNode (default : Node) r1.tree.nodes, vi r1.tree.next, slOf 4 encTask (default : Task) r1.tasks, vi r1.next]), .p (vi 1), .p (vi 0)] [] (.tup [.agg [.own 0 0 0 r2.1.tree.nodes.length, .p (vi r2.1.tree.next), .own 1 0 0 r2.1.tasks.length, .p (vi r2.1.next)], .p (vi r2.2.1), .p (vi r2.2.2)]) [] [rowOf 6 encNode (default : Node) r2.1.tree.nodes, rowOf 4 encTask (default : Task) r2.1.tasks])] (by kernel_rfl) ⟨(member_New_spec r1 hr1), (member_Spawn_spec r1 1 0 r2 hr2), trivial⟩ ?_
  refine DW.seq ?_
  refine DW.conv (τ := mkSt [(1, .ref 1008 0 0), (2, .p (vi r2.2.1)), (3, .p (vi r2.2.2))] [(1008, ⟨0, .box [.p (slOf 6 encNode (default : Node) r2.1.tree.nodes), .p (vi r2.1.tree.next), .own 1081 0 0 r2.1.tasks.length, .p (vi r2.1.next)]⟩), (1081, ⟨0, rowOf 4 encTask (default : Task) r2.1.tasks⟩)]) (Conv.trans (τ := mkSt [(1, .ref 1008 0 0), (2, .p (vi r2.2.1)), (3, .p (vi r2.2.2))] [(1008, ⟨0, .box [.p (slOf 6 encNode (default : Node) r2.1.tree.nodes), .p (vi r2.1.tree.next), .own 1081 0 0 r2.1.tasks.length, .p (vi r2.1.next)]⟩), (1081, ⟨0, rowOf 4 encTask (default : Task) r2.1.tasks⟩)]) (Conv.freezes [1080] (by kernel_rfl)) .refl) ?_
  refine DW.conv (τ := mkSt [(1, .ref 1008 0 0), (2, .p (vi r2.2.1)), (3, .p (vi r2.2.2))] [(1008, ⟨0, .box [.p (slOf 6 encNode (default : Node) r2.1.tree.nodes), .p (vi r2.1.tree.next), .p (slOf 4 encTask (default : Task) r2.1.tasks), .p (vi r2.1.next)]⟩)]) (Conv.trans (τ := mkSt [(1, .ref 1008 0 0), (2, .p (vi r2.2.1)), (3, .p (vi r2.2.2))] [(1008, ⟨0, .box [.p (slOf 6 encNode (default : Node) r2.1.tree.nodes), .p (vi r2.1.tree.next), .p (slOf 4 encTask (default : Task) r2.1.tasks), .p (vi r2.1.next)]⟩)]) (Conv.freezes [1081] (by kernel_rfl)) .refl) ?_
  obtain ⟨r5, hr5, hm⟩ := bind_open hm
  refine DW.regE Tgood mixed hnt [.no, .no, .call 8 [] true (.tup [.agg [.own 0 0 0 r5.1.tree.nodes.length, .p (vi r5.1.tree.next), .own 1 0 0 r5.1.tasks.length, .p (vi r5.1.next)], .p (vi r5.2.1), .p (vi r5.2.2)]) [] [rowOf 6 encNode (default : Node) r5.1.tree.nodes, rowOf 4 encTask (default : Task) r5.1.tasks], .no, .no, .no, .no, .no, .no, .no] [1, 2, 3, 4, 5] [1008, 1136, 1137]
    [(1, .ref 1008 0 0), (2, .p (vi r2.2.1)), (3, .p (vi r2.2.2)), (4, .p (vi r5.2.1)), (5, .p (vi r5.2.2))]
    [(1008, ⟨0, .box [.own 1136 0 0 r5.1.tree.nodes.length, .p (vi r5.1.tree.next), .own 1137 0 0 r5.1.tasks.length, .p (vi r5.1.next)]⟩), (1136, ⟨0, rowOf 6 encNode (default : Node) r5.1.tree.nodes⟩), (1137, ⟨0, rowOf 4 encTask (default : Task) r5.1.tasks⟩)]
    [(Spec Try.prog 8 [.p (.agg [slOf 6 encNode (default : Node) r2.1.tree.nodes, vi r2.1.tree.next, slOf 4 encTask (default : Task) r2.1.tasks, vi r2.1.next]), .p (vi r2.2.1)] [] (.tup [.agg [.own 0 0 0 r5.1.tree.nodes.length, .p (vi r5.1.tree.next), .own 1 0 0 r5.1.tasks.length, .p (vi r5.1.next)], .p (vi r5.2.1), .p (vi r5.2.2)]) [] [rowOf 6 encNode (default : Node) r5.1.tree.nodes, rowOf 4 encTask (default : Task) r5.1.tasks])] (by kernel_rfl) ⟨(member_Clone_spec r2.1 r2.2.1 r5 hr5), trivial⟩ ?_
  refine DW.seq ?_
  refine DW.conv (τ := mkSt [(1, .ref 1008 0 0), (2, .p (vi r2.2.1)), (3, .p (vi r2.2.2)), (4, .p (vi r5.2.1)), (5, .p (vi r5.2.2))] [(1008, ⟨0, .box [.p (slOf 6 encNode (default : Node) r5.1.tree.nodes), .p (vi r5.1.tree.next), .own 1137 0 0 r5.1.tasks.length, .p (vi r5.1.next)]⟩), (1137, ⟨0, rowOf 4 encTask (default : Task) r5.1.tasks⟩)]) (Conv.trans (τ := mkSt [(1, .ref 1008 0 0), (2, .p (vi r2.2.1)), (3, .p (vi r2.2.2)), (4, .p (vi r5.2.1)), (5, .p (vi r5.2.2))] [(1008, ⟨0, .box [.p (slOf 6 encNode (default : Node) r5.1.tree.nodes), .p (vi r5.1.tree.next), .own 1137 0 0 r5.1.tasks.length, .p (vi r5.1.next)]⟩), (1137, ⟨0, rowOf 4 encTask (default : Task) r5.1.tasks⟩)]) (Conv.freezes [1136] (by kernel_rfl)) .refl) ?_
  refine DW.conv (τ := mkSt [(1, .ref 1008 0 0), (2, .p (vi r2.2.1)), (3, .p (vi r2.2.2)), (4, .p (vi r5.2.1)), (5, .p (vi r5.2.2))] [(1008, ⟨0, .box [.p (slOf 6 encNode (default : Node) r5.1.tree.nodes), .p (vi r5.1.tree.next), .p (slOf 4 encTask (default : Task) r5.1.tasks), .p (vi r5.1.next)]⟩)]) (Conv.trans (τ := mkSt [(1, .ref 1008 0 0), (2, .p (vi r2.2.1)), (3, .p (vi r2.2.2)), (4, .p (vi r5.2.1)), (5, .p (vi r5.2.2))] [(1008, ⟨0, .box [.p (slOf 6 encNode (default : Node) r5.1.tree.nodes), .p (vi r5.1.tree.next), .p (slOf 4 encTask (default : Task) r5.1.tasks), .p (vi r5.1.next)]⟩)]) (Conv.freezes [1137] (by kernel_rfl)) .refl) ?_
  obtain ⟨r8, hr8, hm⟩ := bind_open hm
  refine DW.regE Tgood mixed hnt [.no, .no, .call 31 [] true (.tup [.agg [.own 0 0 0 r8.1.tree.nodes.length, .p (vi r8.1.tree.next), .p (slOf 4 encTask (default : Task) r8.1.tasks), .p (vi r8.1.next)], .p (vi r8.2)]) [] [rowOf 6 encNode (default : Node) r8.1.tree.nodes], .no, .no, .no, .no, .no, .no] [2, 3, 4, 5, 6, 7] [1048, 1192]
    [(2, .p (vi r2.2.1)), (3, .p (vi r2.2.2)), (4, .p (vi r5.2.1)), (5, .p (vi r5.2.2)), (6, .ref 1048 0 0), (7, .p (vi r8.2))]
    [(1048, ⟨0, .box [.own 1192 0 0 r8.1.tree.nodes.length, .p (vi r8.1.tree.next), .p (slOf 4 encTask (default : Task) r8.1.tasks), .p (vi r8.1.next)]⟩), (1192, ⟨0, rowOf 6 encNode (default : Node) r8.1.tree.nodes⟩)]
    [(Spec Try.prog 31 [.p (.agg [slOf 6 encNode (default : Node) r5.1.tree.nodes, vi r5.1.tree.next, slOf 4 encTask (default : Task) r5.1.tasks, vi r5.1.next]), .p (vi r2.2.1)] [] (.tup [.agg [.own 0 0 0 r8.1.tree.nodes.length, .p (vi r8.1.tree.next), .p (slOf 4 encTask (default : Task) r8.1.tasks), .p (vi r8.1.next)], .p (vi r8.2)]) [] [rowOf 6 encNode (default : Node) r8.1.tree.nodes])] (by kernel_rfl) ⟨(member_Exit_spec r5.1 r2.2.1 r8 hr8), trivial⟩ ?_
  refine DW.seq ?_
  refine DW.regJ (sl2 := [(0, .p (vb (((((((r2.2.2 == 0) && (r2.2.1 == 1)) && (r5.2.2 == 0)) && (r5.2.1 == 2)) && (r8.2 == 0)) && (((r8.1.tasks.length : Nat) : Int) == 0)) && (r8.1.next == 3))))]) (ob2 := []) ?_ ?_
  ·
    rcases Bool.eq_false_or_eq_true (r2.2.2 == 0) with h9 | h9
    ·
      rcases Bool.eq_false_or_eq_true (r2.2.1 == 1) with h10 | h10
      ·
        rcases Bool.eq_false_or_eq_true (r5.2.2 == 0) with h11 | h11
        ·
          rcases Bool.eq_false_or_eq_true (r5.2.1 == 2) with h12 | h12
          ·
            rcases Bool.eq_false_or_eq_true (r8.2 == 0) with h13 | h13
            ·
              rcases Bool.eq_false_or_eq_true (((r8.1.tasks.length : Nat) : Int) == 0) with h14 | h14
              ·
                exact RegTo.mk Tgood mixed hnt [.no, .no, .no, .no, .no, .pk true, .no, .no, .no, .pk true, .no, .no, .no, .pk true, .no, .no, .no, .pk true, .no, .no, .no, .no, .no, .pk true, .no, .no, .no, .no, .pk true, .no] [0] []
                  [(0, .p (vb (r8.1.next == 3)))]
                  [(0, .p (vb (((((((r2.2.2 == 0) && (r2.2.1 == 1)) && (r5.2.2 == 0)) && (r5.2.1 == 2)) && (r8.2 == 0)) && (((r8.1.tasks.length : Nat) : Int) == 0)) && (r8.1.next == 3))))]
                  []
                  []
                  [((r2.2.2 == 0) = true), ((r2.2.2 == 0) = true), ((r2.2.2 == 0) = true), ((r2.2.1 == 1) = true), ((r2.2.1 == 1) = true), ((r2.2.1 == 1) = true), ((r5.2.2 == 0) = true), ((r5.2.2 == 0) = true), ((r5.2.2 == 0) = true), ((r5.2.1 == 2) = true), ((r5.2.1 == 2) = true), ((r5.2.1 == 2) = true), ((r8.2 == 0) = true), ((r8.2 == 0) = true), ((r8.2 == 0) = true), ((r8.2 == 0) = true), ((r8.2 == 0) = true), ((((r8.1.tasks.length : Nat) : Int) == 0) = true), ((((r8.1.tasks.length : Nat) : Int) == 0) = true), ((((r8.1.tasks.length : Nat) : Int) == 0) = true), ((((r8.1.tasks.length : Nat) : Int) == 0) = true)] (by kernel_rfl) ⟨h9, h9, h9, h10, h10, h10, h11, h11, h11, h12, h12, h12, h13, h13, h13, h13, h13, h14, h14, h14, h14, trivial⟩ (.cons (.of_eq (by first | (rw [h9, h10, h11, h12, h13, h14]; done) | (rw [h9, h10, h11, h12, h13, h14]; rfl) | simp [h9, h10, h11, h12, h13, h14])) .rfl) .rfl
              ·
                exact RegTo.mk Tgood mixed hnt [.no, .no, .no, .no, .no, .pk true, .no, .no, .no, .pk true, .no, .no, .no, .pk true, .no, .no, .no, .pk true, .no, .no, .no, .no, .no, .pk true, .no, .skip, .skip, .skip, .pk false, .no] [0] []
                  [(0, .p (vb false))]
                  [(0, .p (vb (((((((r2.2.2 == 0) && (r2.2.1 == 1)) && (r5.2.2 == 0)) && (r5.2.1 == 2)) && (r8.2 == 0)) && (((r8.1.tasks.length : Nat) : Int) == 0)) && (r8.1.next == 3))))]
                  []
                  []
                  [((r2.2.2 == 0) = true), ((r2.2.2 == 0) = true), ((r2.2.2 == 0) = true), ((r2.2.1 == 1) = true), ((r2.2.1 == 1) = true), ((r2.2.1 == 1) = true), ((r5.2.2 == 0) = true), ((r5.2.2 == 0) = true), ((r5.2.2 == 0) = true), ((r5.2.1 == 2) = true), ((r5.2.1 == 2) = true), ((r5.2.1 == 2) = true), ((r8.2 == 0) = true), ((r8.2 == 0) = true), ((r8.2 == 0) = true), ((r8.2 == 0) = true), ((r8.2 == 0) = true), ((((r8.1.tasks.length : Nat) : Int) == 0) = false), ((((r8.1.tasks.length : Nat) : Int) == 0) = false), ((((r8.1.tasks.length : Nat) : Int) == 0) = false), ((((r8.1.tasks.length : Nat) : Int) == 0) = false)] (by kernel_rfl) ⟨h9, h9, h9, h10, h10, h10, h11, h11, h11, h12, h12, h12, h13, h13, h13, h13, h13, h14, h14, h14, h14, trivial⟩ (.cons (.of_eq (by first | (rw [h9, h10, h11, h12, h13, h14]; done) | (rw [h9, h10, h11, h12, h13, h14]; rfl) | simp [h9, h10, h11, h12, h13, h14])) .rfl) .rfl
            ·
              exact RegTo.mk Tgood mixed hnt [.no, .no, .no, .no, .no, .pk true, .no, .no, .no, .pk true, .no, .no, .no, .pk true, .no, .no, .no, .pk true, .no, .skip, .skip, .skip, .skip, .pk false, .no, .skip, .skip, .skip, .pk false, .no] [0] []
                [(0, .p (vb false))]
                [(0, .p (vb (((((((r2.2.2 == 0) && (r2.2.1 == 1)) && (r5.2.2 == 0)) && (r5.2.1 == 2)) && (r8.2 == 0)) && (((r8.1.tasks.length : Nat) : Int) == 0)) && (r8.1.next == 3))))]
                []
                []
                [((r2.2.2 == 0) = true), ((r2.2.2 == 0) = true), ((r2.2.2 == 0) = true), ((r2.2.1 == 1) = true), ((r2.2.1 == 1) = true), ((r2.2.1 == 1) = true), ((r5.2.2 == 0) = true), ((r5.2.2 == 0) = true), ((r5.2.2 == 0) = true), ((r5.2.1 == 2) = true), ((r5.2.1 == 2) = true), ((r5.2.1 == 2) = true), ((r8.2 == 0) = false), ((r8.2 == 0) = false), ((r8.2 == 0) = false), ((r8.2 == 0) = false), ((r8.2 == 0) = false), (false = false), (false = false), (false = false), (false = false)] (by kernel_rfl) ⟨h9, h9, h9, h10, h10, h10, h11, h11, h11, h12, h12, h12, h13, h13, h13, h13, h13, rfl, rfl, rfl, rfl, trivial⟩ (.cons (.of_eq (by first | (rw [h9, h10, h11, h12, h13]; done) | (rw [h9, h10, h11, h12, h13]; rfl) | simp [h9, h10, h11, h12, h13])) .rfl) .rfl
          ·
            exact RegTo.mk Tgood mixed hnt [.no, .no, .no, .no, .no, .pk true, .no, .no, .no, .pk true, .no, .no, .no, .pk true, .no, .skip, .skip, .pk false, .no, .skip, .skip, .skip, .skip, .pk false, .no, .skip, .skip, .skip, .pk false, .no] [0] []
              [(0, .p (vb false))]
              [(0, .p (vb (((((((r2.2.2 == 0) && (r2.2.1 == 1)) && (r5.2.2 == 0)) && (r5.2.1 == 2)) && (r8.2 == 0)) && (((r8.1.tasks.length : Nat) : Int) == 0)) && (r8.1.next == 3))))]
              []
              []
              [((r2.2.2 == 0) = true), ((r2.2.2 == 0) = true), ((r2.2.2 == 0) = true), ((r2.2.1 == 1) = true), ((r2.2.1 == 1) = true), ((r2.2.1 == 1) = true), ((r5.2.2 == 0) = true), ((r5.2.2 == 0) = true), ((r5.2.2 == 0) = true), ((r5.2.1 == 2) = false), ((r5.2.1 == 2) = false), ((r5.2.1 == 2) = false), (false = false), (false = false), (false = false), (false = false), (false = false), (false = false), (false = false), (false = false), (false = false)] (by kernel_rfl) ⟨h9, h9, h9, h10, h10, h10, h11, h11, h11, h12, h12, h12, rfl, rfl, rfl, rfl, rfl, rfl, rfl, rfl, rfl, trivial⟩ (.cons (.of_eq (by first | (rw [h9, h10, h11, h12]; done) | (rw [h9, h10, h11, h12]; rfl) | simp [h9, h10, h11, h12])) .rfl) .rfl
        ·
          exact RegTo.mk Tgood mixed hnt [.no, .no, .no, .no, .no, .pk true, .no, .no, .no, .pk true, .no, .skip, .skip, .pk false, .no, .skip, .skip, .pk false, .no, .skip, .skip, .skip, .skip, .pk false, .no, .skip, .skip, .skip, .pk false, .no] [0] []
            [(0, .p (vb false))]
            [(0, .p (vb (((((((r2.2.2 == 0) && (r2.2.1 == 1)) && (r5.2.2 == 0)) && (r5.2.1 == 2)) && (r8.2 == 0)) && (((r8.1.tasks.length : Nat) : Int) == 0)) && (r8.1.next == 3))))]
            []
            []
            [((r2.2.2 == 0) = true), ((r2.2.2 == 0) = true), ((r2.2.2 == 0) = true), ((r2.2.1 == 1) = true), ((r2.2.1 == 1) = true), ((r2.2.1 == 1) = true), ((r5.2.2 == 0) = false), ((r5.2.2 == 0) = false), ((r5.2.2 == 0) = false), (false = false), (false = false), (false = false), (false = false), (false = false), (false = false), (false = false), (false = false), (false = false), (false = false), (false = false), (false = false)] (by kernel_rfl) ⟨h9, h9, h9, h10, h10, h10, h11, h11, h11, rfl, rfl, rfl, rfl, rfl, rfl, rfl, rfl, rfl, rfl, rfl, rfl, trivial⟩ (.cons (.of_eq (by first | (rw [h9, h10, h11]; done) | (rw [h9, h10, h11]; rfl) | simp [h9, h10, h11])) .rfl) .rfl
      ·
        exact RegTo.mk Tgood mixed hnt [.no, .no, .no, .no, .no, .pk true, .no, .skip, .skip, .pk false, .no, .skip, .skip, .pk false, .no, .skip, .skip, .pk false, .no, .skip, .skip, .skip, .skip, .pk false, .no, .skip, .skip, .skip, .pk false, .no] [0] []
          [(0, .p (vb false))]
          [(0, .p (vb (((((((r2.2.2 == 0) && (r2.2.1 == 1)) && (r5.2.2 == 0)) && (r5.2.1 == 2)) && (r8.2 == 0)) && (((r8.1.tasks.length : Nat) : Int) == 0)) && (r8.1.next == 3))))]
          []
          []
          [((r2.2.2 == 0) = true), ((r2.2.2 == 0) = true), ((r2.2.2 == 0) = true), ((r2.2.1 == 1) = false), ((r2.2.1 == 1) = false), ((r2.2.1 == 1) = false), (false = false), (false = false), (false = false), (false = false), (false = false), (false = false), (false = false), (false = false), (false = false), (false = false), (false = false), (false = false), (false = false), (false = false), (false = false)] (by kernel_rfl) ⟨h9, h9, h9, h10, h10, h10, rfl, rfl, rfl, rfl, rfl, rfl, rfl, rfl, rfl, rfl, rfl, rfl, rfl, rfl, rfl, trivial⟩ (.cons (.of_eq (by first | (rw [h9, h10]; done) | (rw [h9, h10]; rfl) | simp [h9, h10])) .rfl) .rfl
    ·
      exact RegTo.mk Tgood mixed hnt [.no, .no, .no, .skip, .skip, .pk false, .no, .skip, .skip, .pk false, .no, .skip, .skip, .pk false, .no, .skip, .skip, .pk false, .no, .skip, .skip, .skip, .skip, .pk false, .no, .skip, .skip, .skip, .pk false, .no] [0] []
        [(0, .p (vb false))]
        [(0, .p (vb (((((((r2.2.2 == 0) && (r2.2.1 == 1)) && (r5.2.2 == 0)) && (r5.2.1 == 2)) && (r8.2 == 0)) && (((r8.1.tasks.length : Nat) : Int) == 0)) && (r8.1.next == 3))))]
        []
        []
        [((r2.2.2 == 0) = false), ((r2.2.2 == 0) = false), ((r2.2.2 == 0) = false), (false = false), (false = false), (false = false), (false = false), (false = false), (false = false), (false = false), (false = false), (false = false), (false = false), (false = false), (false = false), (false = false), (false = false), (false = false), (false = false), (false = false), (false = false)] (by kernel_rfl) ⟨h9, h9, h9, rfl, rfl, rfl, rfl, rfl, rfl, rfl, rfl, rfl, rfl, rfl, rfl, rfl, rfl, rfl, rfl, rfl, rfl, trivial⟩ (.cons (.of_eq (by first | (rw [h9]; done) | (rw [h9]; rfl) | simp [h9])) .rfl) .rfl
  ·
    refine DW.ret ?_
    obtain rfl := Option.some.inj hm
    refine retOK (bs' := []) [] (.p (vb (((((((r2.2.2 == 0) && (r2.2.1 == 1)) && (r5.2.2 == 0)) && (r5.2.1 == 2)) && (r8.2 == 0)) && (((r8.1.tasks.length : Nat) : Int) == 0)) && (r8.1.next == 3)))) (by kernel_rfl) ?_ ?_
    · rfl
    · rfl
end Go.Dm

/- Go functions compute their models, printed by a program. -/
namespace Go.Dm
open Go.Proofs
set_option linter.unusedVariables false
theorem law6_MemberLimits_spec (p0 : Int) (p1 : Int) (RES : Bool) (hm : law6_MemberLimits p0 p1 = some RES) : Spec Try.prog 3 [.p (vk .u8 p0), .p (vk .u8 p1)] [] (.p (vb RES)) [] [] := by
  unfold law6_MemberLimits at hm
  refine spec_of Tgood (T := Tt) Try.func3 (by decide) (c := _) rfl rfl (sl := [(0, .p (vk .u8 p0)), (1, .p (vk .u8 p1))]) (ob := []) (Nat.le_of_ble_eq_true rfl) (Nat.le_of_ble_eq_true rfl) (by kernel_rfl) (by kernel_rfl) ?_
  intro cx hnt
  refine DW.start ?_
  refine DW.seq ?_
  refine DW.regE Tgood mixed hnt [.no] [0, 1] []
    [(0, .p (vk .u8 p0)), (1, .p (vk .u8 p1))]
    []
    [] (by kernel_rfl) trivial ?_
  refine DW.seq ?_
  obtain ⟨r1, hr1, hm⟩ := bind_open hm
  refine DW.regE Tgood mixed hnt [.call 5 [] true (.agg [.own 0 0 0 r1.tree.nodes.length, .p (vi r1.tree.next), .own 1 0 0 r1.tasks.length, .p (vi r1.next)]) [] [rowOf 6 encNode (default : Node) r1.tree.nodes, rowOf 4 encTask (default : Task) r1.tasks], .no, .no] [0, 1, 5] [1040, 1176, 1177]
    [(0, .p (vk .u8 p0)), (1, .p (vk .u8 p1)), (5, .ref 1040 0 0)]
    [(1040, ⟨0, .box [.own 1176 0 0 r1.tree.nodes.length, .p (vi r1.tree.next), .own 1177 0 0 r1.tasks.length, .p (vi r1.next)]⟩), (1176, ⟨0, rowOf 6 encNode (default : Node) r1.tree.nodes⟩), (1177, ⟨0, rowOf 4 encTask (default : Task) r1.tasks⟩)]
    [(Spec Try.prog 5 [] [] (.agg [.own 0 0 0 r1.tree.nodes.length, .p (vi r1.tree.next), .own 1 0 0 r1.tasks.length, .p (vi r1.next)]) [] [rowOf 6 encNode (default : Node) r1.tree.nodes, rowOf 4 encTask (default : Task) r1.tasks])] (by kernel_rfl) ⟨(ref6_New_spec r1 hr1), trivial⟩ ?_
  refine DW.seq ?_
  refine DW.seq ?_
  refine DW.regE Tgood mixed hnt [.no] [0, 1, 5, 6] [1040, 1176, 1177]
    [(0, .p (vk .u8 p0)), (1, .p (vk .u8 p1)), (5, .ref 1040 0 0), (6, .p (vi 0))]
    [(1040, ⟨0, .box [.own 1176 0 0 r1.tree.nodes.length, .p (vi r1.tree.next), .own 1177 0 0 r1.tasks.length, .p (vi r1.next)]⟩), (1176, ⟨0, rowOf 6 encNode (default : Node) r1.tree.nodes⟩), (1177, ⟨0, rowOf 4 encTask (default : Task) r1.tasks⟩)]
    [] (by kernel_rfl) trivial ?_
  refine DW.block ?_
  obtain ⟨hc1, hm⟩ := guard_open hm
  refine DW.forO (fun (k1 : Int) (s1 : List Task) => mkSt [(0, .p (vk .u8 p0)), (1, .p (vk .u8 p1)), (5, .ref 1040 0 0), (6, .p (vi k1))] [(1040, ⟨0, .box [.own 1176 0 0 r1.tree.nodes.length, .p (vi r1.tree.next), .own 1177 0 0 s1.length, .p (vi r1.next)]⟩), (1176, ⟨0, rowOf 6 encNode (default : Node) r1.tree.nodes⟩), (1177, ⟨0, rowOf 4 encTask (default : Task) s1⟩)]) (lo := 0) (hi := (w64 (128 - (w64 (Int.tmod p0 2))))) hm .refl ?_
  intro k1 s1 n1 hk1 hs1 he1
  refine DW.seq ?_
  refine DW.seq ?_
  refine DW.regE Tgood mixed hnt [.no, .no, .no, .no, .no, .no] [0, 1, 5, 6, 28] [1040, 1176, 1177]
    [(0, .p (vk .u8 p0)), (1, .p (vk .u8 p1)), (5, .ref 1040 0 0), (6, .p (vi k1)), (28, .p (vb (decide (k1 < (w64 (128 - (w64 (Int.tmod p0 2))))))))]
    [(1040, ⟨0, .box [.own 1176 0 0 r1.tree.nodes.length, .p (vi r1.tree.next), .own 1177 0 0 s1.length, .p (vi r1.next)]⟩), (1176, ⟨0, rowOf 6 encNode (default : Node) r1.tree.nodes⟩), (1177, ⟨0, rowOf 4 encTask (default : Task) s1⟩)]
    [((2 : Int) ≠ 0)] (by kernel_rfl) ⟨(by decide), trivial⟩ ?_
  refine DW.cond (decide (k1 < (w64 (128 - (w64 (Int.tmod p0 2)))))) rfl rfl ?_ ?_
  ·
    intro h100
    have hlt1 : k1 < (w64 (128 - (w64 (Int.tmod p0 2)))) := by have := of_decide_eq_true h100; omega
    have hm := hs1 hlt1
    unfold law6_MemberLimits_l1 at hm
    refine DW.skip ?_
    refine DW.seq ?_
    refine DW.block ?_
    obtain ⟨g101, hm⟩ := guard_open hm
    refine DW.reg Tgood mixed hnt [.no, .no, .no, .no, .no, .no, .no, .no, .no, .no, .no] [0, 1, 5, 6] [1040, 1176, 1177]
      [(0, .p (vk .u8 p0)), (1, .p (vk .u8 p1)), (5, .ref 1040 0 0), (6, .p (vi k1))]
      [(0, .p (vk .u8 p0)), (1, .p (vk .u8 p1)), (5, .ref 1040 0 0), (6, .p (vi k1))]
      [(1040, ⟨0, .box [.own 1176 0 0 r1.tree.nodes.length, .p (vi r1.tree.next), .own 1177 0 0 (s1.length + 1), .p (vi r1.next)]⟩), (1176, ⟨0, rowOf 6 encNode (default : Node) r1.tree.nodes⟩), (1177, ⟨0, .row 4 (s1.length + 1) (catF s1.length (elems encTask (default : Task) s1) (cut 4 [vi (w64 (k1 + 1)), vi (w64 (k1 + 1)), vi 1, vi 0]))⟩)]
      [(1040, ⟨0, .box [.own 1176 0 0 r1.tree.nodes.length, .p (vi r1.tree.next), .own 1177 0 0 (s1 ++ [({ id := (w64 (k1 + 1)), process := (w64 (k1 + 1)), group := 1, user := 0 } : Task)]).length, .p (vi r1.next)]⟩), (1176, ⟨0, rowOf 6 encNode (default : Node) r1.tree.nodes⟩), (1177, ⟨0, rowOf 4 encTask (default : Task) (s1 ++ [({ id := (w64 (k1 + 1)), process := (w64 (k1 + 1)), group := 1, user := 0 } : Task)])⟩)]
      [((s1.length + 1) * 32 ≤ 140737488355328)] (by kernel_rfl) ⟨(by omega), trivial⟩ .rfl (.cons (.box (.cons .rfl (.cons .rfl (.cons (MLe.ownLen (enc := encTask) (d := (default : Task)) (f := (catF s1.length (elems encTask (default : Task) s1) (cut 4 [vi (w64 (k1 + 1)), vi (w64 (k1 + 1)), vi 1, vi 0]))) (RowIs.cat RowIs.elems (RowIs.lit (enc := encTask) (d := (default : Task)) (n := 1) (f := (cut 4 [vi (w64 (k1 + 1)), vi (w64 (k1 + 1)), vi 1, vi 0])) [({ id := (w64 (k1 + 1)), process := (w64 (k1 + 1)), group := 1, user := 0 } : Task)] rfl (fun | 0, _ => rfl | n + 1, h => absurd h (by omega))))) (.cons .rfl .nil))))) (.cons .rfl (.cons (BLe.typed (RowIs.cat RowIs.elems (RowIs.lit (enc := encTask) (d := (default : Task)) (n := 1) (f := (cut 4 [vi (w64 (k1 + 1)), vi (w64 (k1 + 1)), vi 1, vi 0])) [({ id := (w64 (k1 + 1)), process := (w64 (k1 + 1)), group := 1, user := 0 } : Task)] rfl (fun | 0, _ => rfl | n + 1, h => absurd h (by omega))))) .rfl))) ?_
    refine DW.done ?_
    show DW _ _ _ _ _
    refine DW.regE Tgood mixed hnt [.no, .no, .no] [0, 1, 5, 6] [1040, 1176, 1177]
      [(0, .p (vk .u8 p0)), (1, .p (vk .u8 p1)), (5, .ref 1040 0 0), (6, .p (vi (w64 (k1 + 1))))]
      [(1040, ⟨0, .box [.own 1176 0 0 r1.tree.nodes.length, .p (vi r1.tree.next), .own 1177 0 0 (s1 ++ [({ id := (w64 (k1 + 1)), process := (w64 (k1 + 1)), group := 1, user := 0 } : Task)]).length, .p (vi r1.next)]⟩), (1176, ⟨0, rowOf 6 encNode (default : Node) r1.tree.nodes⟩), (1177, ⟨0, rowOf 4 encTask (default : Task) (s1 ++ [({ id := (w64 (k1 + 1)), process := (w64 (k1 + 1)), group := 1, user := 0 } : Task)])⟩)]
      [] (by kernel_rfl) trivial ?_
    exact joinDone (s1 ++ [({ id := (w64 (k1 + 1)), process := (w64 (k1 + 1)), group := 1, user := 0 } : Task)]) ⟨hlt1, hm⟩ (Conv.to [0, 1, 5, 6] [1040, 1176, 1177] [(0, .p (vk .u8 p0)), (1, .p (vk .u8 p1)), (5, .ref 1040 0 0), (6, .p (vi (w64 (k1 + 1))))] [(0, .p (vk .u8 p0)), (1, .p (vk .u8 p1)), (5, .ref 1040 0 0), (6, .p (vi (k1 + 1)))] [(1040, ⟨0, .box [.own 1176 0 0 r1.tree.nodes.length, .p (vi r1.tree.next), .own 1177 0 0 (s1 ++ [({ id := (w64 (k1 + 1)), process := (w64 (k1 + 1)), group := 1, user := 0 } : Task)]).length, .p (vi r1.next)]⟩), (1176, ⟨0, rowOf 6 encNode (default : Node) r1.tree.nodes⟩), (1177, ⟨0, rowOf 4 encTask (default : Task) (s1 ++ [({ id := (w64 (k1 + 1)), process := (w64 (k1 + 1)), group := 1, user := 0 } : Task)])⟩)] [(1040, ⟨0, .box [.own 1176 0 0 r1.tree.nodes.length, .p (vi r1.tree.next), .own 1177 0 0 (s1 ++ [({ id := (w64 (k1 + 1)), process := (w64 (k1 + 1)), group := 1, user := 0 } : Task)]).length, .p (vi r1.next)]⟩), (1176, ⟨0, rowOf 6 encNode (default : Node) r1.tree.nodes⟩), (1177, ⟨0, rowOf 4 encTask (default : Task) (s1 ++ [({ id := (w64 (k1 + 1)), process := (w64 (k1 + 1)), group := 1, user := 0 } : Task)])⟩)] (by kernel_rfl) (by kernel_rfl) (.cons .rfl (.cons .rfl (.cons .rfl (.cons (.of_eq (congrArg (fun n => MV.p (vi n)) (w64_for (lo := 0) (hi := (w64 (128 - (w64 (Int.tmod p0 2))))) (by omega) hk1 hlt1 (by omega)))) .rfl)))) .rfl)
  ·
    intro h100
    have hge1 : ¬ k1 < (w64 (128 - (w64 (Int.tmod p0 2)))) := by have := of_decide_eq_false h100; omega
    have hm := he1 hge1
    unfold law6_MemberLimits_d1 at hm
    refine DW.exit ?_
    refine joinQ_exit ?_
    refine KQ_exit ?_
    refine blockQ_exit ?_
    show DW _ _ _ _ _
    refine DW.seq ?_
    refine DW.regE Tgood mixed hnt [.no, .no] [1, 5] [1040, 1176, 1177]
      [(1, .p (vk .u8 p1)), (5, .ref 1040 0 0)]
      [(1040, ⟨0, .box [.own 1176 0 0 r1.tree.nodes.length, .p (vi r1.tree.next), .own 1177 0 0 s1.length, .p (vi 129)]⟩), (1176, ⟨0, rowOf 6 encNode (default : Node) r1.tree.nodes⟩), (1177, ⟨0, rowOf 4 encTask (default : Task) s1⟩)]
      [] (by kernel_rfl) trivial ?_
    refine DW.seq ?_
    obtain ⟨r102, hr102, hm⟩ := bind_open hm
    refine DW.regE Tgood mixed hnt [.call 5 [] true (.agg [.own 0 0 0 r102.tree.nodes.length, .p (vi r102.tree.next), .own 1 0 0 r102.tasks.length, .p (vi r102.next)]) [] [rowOf 6 encNode (default : Node) r102.tree.nodes, rowOf 4 encTask (default : Task) r102.tasks], .no, .no] [1, 5, 7] [1040, 1056, 1176, 1177, 1336, 1337]
      [(1, .p (vk .u8 p1)), (5, .ref 1040 0 0), (7, .ref 1056 0 0)]
      [(1040, ⟨0, .box [.own 1176 0 0 r1.tree.nodes.length, .p (vi r1.tree.next), .own 1177 0 0 s1.length, .p (vi 129)]⟩), (1056, ⟨0, .box [.own 1336 0 0 r102.tree.nodes.length, .p (vi r102.tree.next), .own 1337 0 0 r102.tasks.length, .p (vi r102.next)]⟩), (1176, ⟨0, rowOf 6 encNode (default : Node) r1.tree.nodes⟩), (1177, ⟨0, rowOf 4 encTask (default : Task) s1⟩), (1336, ⟨0, rowOf 6 encNode (default : Node) r102.tree.nodes⟩), (1337, ⟨0, rowOf 4 encTask (default : Task) r102.tasks⟩)]
      [(Spec Try.prog 5 [] [] (.agg [.own 0 0 0 r102.tree.nodes.length, .p (vi r102.tree.next), .own 1 0 0 r102.tasks.length, .p (vi r102.next)]) [] [rowOf 6 encNode (default : Node) r102.tree.nodes, rowOf 4 encTask (default : Task) r102.tasks])] (by kernel_rfl) ⟨(ref6_New_spec r102 hr102), trivial⟩ ?_
    refine DW.seq ?_
    refine DW.regE Tgood mixed hnt [.no, .no, .no, .no, .no, .no] [5, 7] [1040, 1056, 1176, 1177, 1336, 1337]
      [(5, .ref 1040 0 0), (7, .ref 1056 0 0)]
      [(1040, ⟨0, .box [.own 1176 0 0 r1.tree.nodes.length, .p (vi r1.tree.next), .own 1177 0 0 s1.length, .p (vi 129)]⟩), (1056, ⟨0, .box [.own 1336 0 0 r102.tree.nodes.length, .p (vi r102.tree.next), .own 1337 0 0 r102.tasks.length, .p (vi (w64 (2147483648 - (w64 (Int.tmod p1 3)))))]⟩), (1176, ⟨0, rowOf 6 encNode (default : Node) r1.tree.nodes⟩), (1177, ⟨0, rowOf 4 encTask (default : Task) s1⟩), (1336, ⟨0, rowOf 6 encNode (default : Node) r102.tree.nodes⟩), (1337, ⟨0, rowOf 4 encTask (default : Task) r102.tasks⟩)]
      [((3 : Int) ≠ 0)] (by kernel_rfl) ⟨(by decide), trivial⟩ ?_
    refine DW.seq ?_
    refine DW.seq ?_
    refine DW.conv (τ := mkSt [(5, .ref 1040 0 0), (7, .ref 1056 0 0)] [(1040, ⟨0, .box [.p (slOf 6 encNode (default : Node) r1.tree.nodes), .p (vi r1.tree.next), .own 1177 0 0 s1.length, .p (vi 129)]⟩), (1056, ⟨0, .box [.own 1336 0 0 r102.tree.nodes.length, .p (vi r102.tree.next), .own 1337 0 0 r102.tasks.length, .p (vi (w64 (2147483648 - (w64 (Int.tmod p1 3)))))]⟩), (1177, ⟨0, rowOf 4 encTask (default : Task) s1⟩), (1336, ⟨0, rowOf 6 encNode (default : Node) r102.tree.nodes⟩), (1337, ⟨0, rowOf 4 encTask (default : Task) r102.tasks⟩)]) (Conv.trans (τ := mkSt [(5, .ref 1040 0 0), (7, .ref 1056 0 0)] [(1040, ⟨0, .box [.p (slOf 6 encNode (default : Node) r1.tree.nodes), .p (vi r1.tree.next), .own 1177 0 0 s1.length, .p (vi 129)]⟩), (1056, ⟨0, .box [.own 1336 0 0 r102.tree.nodes.length, .p (vi r102.tree.next), .own 1337 0 0 r102.tasks.length, .p (vi (w64 (2147483648 - (w64 (Int.tmod p1 3)))))]⟩), (1177, ⟨0, rowOf 4 encTask (default : Task) s1⟩), (1336, ⟨0, rowOf 6 encNode (default : Node) r102.tree.nodes⟩), (1337, ⟨0, rowOf 4 encTask (default : Task) r102.tasks⟩)]) (Conv.freezes [1176] (by kernel_rfl)) .refl) ?_
    refine DW.conv (τ := mkSt [(5, .ref 1040 0 0), (7, .ref 1056 0 0)] [(1040, ⟨0, .box [.p (slOf 6 encNode (default : Node) r1.tree.nodes), .p (vi r1.tree.next), .p (slOf 4 encTask (default : Task) s1), .p (vi 129)]⟩), (1056, ⟨0, .box [.own 1336 0 0 r102.tree.nodes.length, .p (vi r102.tree.next), .own 1337 0 0 r102.tasks.length, .p (vi (w64 (2147483648 - (w64 (Int.tmod p1 3)))))]⟩), (1336, ⟨0, rowOf 6 encNode (default : Node) r102.tree.nodes⟩), (1337, ⟨0, rowOf 4 encTask (default : Task) r102.tasks⟩)]) (Conv.trans (τ := mkSt [(5, .ref 1040 0 0), (7, .ref 1056 0 0)] [(1040, ⟨0, .box [.p (slOf 6 encNode (default : Node) r1.tree.nodes), .p (vi r1.tree.next), .p (slOf 4 encTask (default : Task) s1), .p (vi 129)]⟩), (1056, ⟨0, .box [.own 1336 0 0 r102.tree.nodes.length, .p (vi r102.tree.next), .own 1337 0 0 r102.tasks.length, .p (vi (w64 (2147483648 - (w64 (Int.tmod p1 3)))))]⟩), (1336, ⟨0, rowOf 6 encNode (default : Node) r102.tree.nodes⟩), (1337, ⟨0, rowOf 4 encTask (default : Task) r102.tasks⟩)]) (Conv.freezes [1177] (by kernel_rfl)) .refl) ?_
    refine DW.conv (τ := mkSt [(5, .ref 1040 0 0), (7, .ref 1056 0 0)] [(1040, ⟨0, .box [.p (slOf 6 encNode (default : Node) r1.tree.nodes), .p (vi r1.tree.next), .p (slOf 4 encTask (default : Task) s1), .p (vi 129)]⟩), (1056, ⟨0, .box [.p (slOf 6 encNode (default : Node) r102.tree.nodes), .p (vi r102.tree.next), .own 1337 0 0 r102.tasks.length, .p (vi (w64 (2147483648 - (w64 (Int.tmod p1 3)))))]⟩), (1337, ⟨0, rowOf 4 encTask (default : Task) r102.tasks⟩)]) (Conv.trans (τ := mkSt [(5, .ref 1040 0 0), (7, .ref 1056 0 0)] [(1040, ⟨0, .box [.p (slOf 6 encNode (default : Node) r1.tree.nodes), .p (vi r1.tree.next), .p (slOf 4 encTask (default : Task) s1), .p (vi 129)]⟩), (1056, ⟨0, .box [.p (slOf 6 encNode (default : Node) r102.tree.nodes), .p (vi r102.tree.next), .own 1337 0 0 r102.tasks.length, .p (vi (w64 (2147483648 - (w64 (Int.tmod p1 3)))))]⟩), (1337, ⟨0, rowOf 4 encTask (default : Task) r102.tasks⟩)]) (Conv.freezes [1336] (by kernel_rfl)) .refl) ?_
    refine DW.conv (τ := mkSt [(5, .ref 1040 0 0), (7, .ref 1056 0 0)] [(1040, ⟨0, .box [.p (slOf 6 encNode (default : Node) r1.tree.nodes), .p (vi r1.tree.next), .p (slOf 4 encTask (default : Task) s1), .p (vi 129)]⟩), (1056, ⟨0, .box [.p (slOf 6 encNode (default : Node) r102.tree.nodes), .p (vi r102.tree.next), .p (slOf 4 encTask (default : Task) r102.tasks), .p (vi (w64 (2147483648 - (w64 (Int.tmod p1 3)))))]⟩)]) (Conv.trans (τ := mkSt [(5, .ref 1040 0 0), (7, .ref 1056 0 0)] [(1040, ⟨0, .box [.p (slOf 6 encNode (default : Node) r1.tree.nodes), .p (vi r1.tree.next), .p (slOf 4 encTask (default : Task) s1), .p (vi 129)]⟩), (1056, ⟨0, .box [.p (slOf 6 encNode (default : Node) r102.tree.nodes), .p (vi r102.tree.next), .p (slOf 4 encTask (default : Task) r102.tasks), .p (vi (w64 (2147483648 - (w64 (Int.tmod p1 3)))))]⟩)]) (Conv.freezes [1337] (by kernel_rfl)) .refl) ?_
    refine DW.reg Tgood mixed hnt [.no, .no, .no, .no, .no] [50, 51, 52] [1400]
      [(50, .own 1400 0 0 2), (51, .p (vi 2)), (52, .p (vi 0))]
      [(50, .own 1400 0 0 [({ tree := r1.tree, tasks := s1, next := 129 } : Hierarchy), ({ tree := r102.tree, tasks := r102.tasks, next := (w64 (2147483648 - (w64 (Int.tmod p1 3)))) } : Hierarchy)].length), (51, .p (vi 2)), (52, .p (vi 0))]
      [(1400, ⟨0, .row 4 2 (cut 4 [slOf 6 encNode (default : Node) r1.tree.nodes, vi r1.tree.next, slOf 4 encTask (default : Task) s1, vi 129, slOf 6 encNode (default : Node) r102.tree.nodes, vi r102.tree.next, slOf 4 encTask (default : Task) r102.tasks, vi (w64 (2147483648 - (w64 (Int.tmod p1 3))))])⟩)]
      [(1400, ⟨0, rowOf 4 encHierarchy (default : Hierarchy) [({ tree := r1.tree, tasks := s1, next := 129 } : Hierarchy), ({ tree := r102.tree, tasks := r102.tasks, next := (w64 (2147483648 - (w64 (Int.tmod p1 3)))) } : Hierarchy)]⟩)]
      [] (by kernel_rfl) trivial (.cons (MLe.ownLen (enc := encHierarchy) (d := (default : Hierarchy)) (f := (cut 4 [slOf 6 encNode (default : Node) r1.tree.nodes, vi r1.tree.next, slOf 4 encTask (default : Task) s1, vi 129, slOf 6 encNode (default : Node) r102.tree.nodes, vi r102.tree.next, slOf 4 encTask (default : Task) r102.tasks, vi (w64 (2147483648 - (w64 (Int.tmod p1 3))))])) (RowIs.lit (enc := encHierarchy) (d := (default : Hierarchy)) (n := 2) (f := (cut 4 [slOf 6 encNode (default : Node) r1.tree.nodes, vi r1.tree.next, slOf 4 encTask (default : Task) s1, vi 129, slOf 6 encNode (default : Node) r102.tree.nodes, vi r102.tree.next, slOf 4 encTask (default : Task) r102.tasks, vi (w64 (2147483648 - (w64 (Int.tmod p1 3))))])) [({ tree := r1.tree, tasks := s1, next := 129 } : Hierarchy), ({ tree := r102.tree, tasks := r102.tasks, next := (w64 (2147483648 - (w64 (Int.tmod p1 3)))) } : Hierarchy)] rfl (fun | 0, _ => rfl | 1, _ => rfl | n + 2, h => absurd h (by omega)))) .rfl) (.cons (BLe.typed (RowIs.lit (enc := encHierarchy) (d := (default : Hierarchy)) (n := 2) (f := (cut 4 [slOf 6 encNode (default : Node) r1.tree.nodes, vi r1.tree.next, slOf 4 encTask (default : Task) s1, vi 129, slOf 6 encNode (default : Node) r102.tree.nodes, vi r102.tree.next, slOf 4 encTask (default : Task) r102.tasks, vi (w64 (2147483648 - (w64 (Int.tmod p1 3))))])) [({ tree := r1.tree, tasks := s1, next := 129 } : Hierarchy), ({ tree := r102.tree, tasks := r102.tasks, next := (w64 (2147483648 - (w64 (Int.tmod p1 3)))) } : Hierarchy)] rfl (fun | 0, _ => rfl | 1, _ => rfl | n + 2, h => absurd h (by omega)))) .rfl) ?_
    refine DW.block ?_
    obtain ⟨hc4, hm⟩ := guard_open hm
    refine DW.rangeO (fun (k4 : Nat) (s4 : Unit) => mkSt [(50, .own 1400 0 0 [({ tree := r1.tree, tasks := s1, next := 129 } : Hierarchy), ({ tree := r102.tree, tasks := r102.tasks, next := (w64 (2147483648 - (w64 (Int.tmod p1 3)))) } : Hierarchy)].length), (51, .p (vi 2)), (52, .p (vi ((k4 : Nat) : Int)))] [(1400, ⟨0, rowOf 4 encHierarchy (default : Hierarchy) [({ tree := r1.tree, tasks := s1, next := 129 } : Hierarchy), ({ tree := r102.tree, tasks := r102.tasks, next := (w64 (2147483648 - (w64 (Int.tmod p1 3)))) } : Hierarchy)]⟩)]) (default : Hierarchy) hm .refl ?_
    intro k4 s4 n4 hk4 hs4 he4
    refine DW.seq ?_
    refine DW.regE Tgood mixed hnt [.no] [50, 51, 52, 53] [1400]
      [(50, .own 1400 0 0 [({ tree := r1.tree, tasks := s1, next := 129 } : Hierarchy), ({ tree := r102.tree, tasks := r102.tasks, next := (w64 (2147483648 - (w64 (Int.tmod p1 3)))) } : Hierarchy)].length), (51, .p (vi 2)), (52, .p (vi ((k4 : Nat) : Int))), (53, .p (vb (decide (((k4 : Nat) : Int) < 2))))]
      [(1400, ⟨0, rowOf 4 encHierarchy (default : Hierarchy) [({ tree := r1.tree, tasks := s1, next := 129 } : Hierarchy), ({ tree := r102.tree, tasks := r102.tasks, next := (w64 (2147483648 - (w64 (Int.tmod p1 3)))) } : Hierarchy)]⟩)]
      [] (by kernel_rfl) trivial ?_
    refine DW.seq ?_
    refine DW.cond (decide (((k4 : Nat) : Int) < 2)) rfl rfl ?_ ?_
    ·
      intro h135
      have hlt4 : k4 < [({ tree := r1.tree, tasks := s1, next := 129 } : Hierarchy), ({ tree := r102.tree, tasks := r102.tasks, next := (w64 (2147483648 - (w64 (Int.tmod p1 3)))) } : Hierarchy)].length := by have := of_decide_eq_true h135; have hL : [({ tree := r1.tree, tasks := s1, next := 129 } : Hierarchy), ({ tree := r102.tree, tasks := r102.tasks, next := (w64 (2147483648 - (w64 (Int.tmod p1 3)))) } : Hierarchy)].length = 2 := rfl; omega
      have hm := hs4 hlt4
      unfold law6_MemberLimits_l4 at hm
      refine DW.skip ?_
      refine DW.seq ?_
      refine DW.block ?_
      refine DW.seq ?_
      refine DW.regE Tgood mixed hnt [.no, .no, .no, .no] [9, 50, 51, 52] [1072, 1400]
        [(9, .ref 1072 0 0), (50, .own 1400 0 0 [({ tree := r1.tree, tasks := s1, next := 129 } : Hierarchy), ({ tree := r102.tree, tasks := r102.tasks, next := (w64 (2147483648 - (w64 (Int.tmod p1 3)))) } : Hierarchy)].length), (51, .p (vi 2)), (52, .p (vi ((k4 : Nat) : Int)))]
        [(1072, ⟨0, .box [.p (slOf 6 encNode (default : Node) ([({ tree := r1.tree, tasks := s1, next := 129 } : Hierarchy), ({ tree := r102.tree, tasks := r102.tasks, next := (w64 (2147483648 - (w64 (Int.tmod p1 3)))) } : Hierarchy)].getD k4 (default : Hierarchy)).tree.nodes), .p (vi ([({ tree := r1.tree, tasks := s1, next := 129 } : Hierarchy), ({ tree := r102.tree, tasks := r102.tasks, next := (w64 (2147483648 - (w64 (Int.tmod p1 3)))) } : Hierarchy)].getD k4 (default : Hierarchy)).tree.next), .p (slOf 4 encTask (default : Task) ([({ tree := r1.tree, tasks := s1, next := 129 } : Hierarchy), ({ tree := r102.tree, tasks := r102.tasks, next := (w64 (2147483648 - (w64 (Int.tmod p1 3)))) } : Hierarchy)].getD k4 (default : Hierarchy)).tasks), .p (vi ([({ tree := r1.tree, tasks := s1, next := 129 } : Hierarchy), ({ tree := r102.tree, tasks := r102.tasks, next := (w64 (2147483648 - (w64 (Int.tmod p1 3)))) } : Hierarchy)].getD k4 (default : Hierarchy)).next)]⟩), (1400, ⟨0, rowOf 4 encHierarchy (default : Hierarchy) [({ tree := r1.tree, tasks := s1, next := 129 } : Hierarchy), ({ tree := r102.tree, tasks := r102.tasks, next := (w64 (2147483648 - (w64 (Int.tmod p1 3)))) } : Hierarchy)]⟩)]
        [((0 : Int) ≤ ((k4 : Nat) : Int)), (((k4 : Nat) : Int) < (([({ tree := r1.tree, tasks := s1, next := 129 } : Hierarchy), ({ tree := r102.tree, tasks := r102.tasks, next := (w64 (2147483648 - (w64 (Int.tmod p1 3)))) } : Hierarchy)].length : Nat) : Int)), (k4 < [({ tree := r1.tree, tasks := s1, next := 129 } : Hierarchy), ({ tree := r102.tree, tasks := r102.tasks, next := (w64 (2147483648 - (w64 (Int.tmod p1 3)))) } : Hierarchy)].length)] (by kernel_rfl) ⟨(by omega), (by omega), (by omega), trivial⟩ ?_
      refine DW.seq ?_
      obtain ⟨r136, hr136, hm⟩ := bind_open hm
      refine DW.regE Tgood mixed hnt [.no, .call 6 [] true (.tup [.agg [.own 0 0 0 r136.1.tree.nodes.length, .p (vi r136.1.tree.next), .own 1 0 0 r136.1.tasks.length, .p (vi r136.1.next)], .p (vi r136.2.1), .p (vi r136.2.2)]) [] [rowOf 6 encNode (default : Node) r136.1.tree.nodes, rowOf 4 encTask (default : Task) r136.1.tasks], .no, .no, .no, .no, .no, .no, .no, .no] [9, 10, 11, 12, 50, 51, 52] [1072, 1080, 1400, 1464, 1465]
        [(9, .ref 1072 0 0), (10, .ref 1080 0 0), (11, .p (vi r136.2.1)), (12, .p (vi r136.2.2)), (50, .own 1400 0 0 [({ tree := r1.tree, tasks := s1, next := 129 } : Hierarchy), ({ tree := r102.tree, tasks := r102.tasks, next := (w64 (2147483648 - (w64 (Int.tmod p1 3)))) } : Hierarchy)].length), (51, .p (vi 2)), (52, .p (vi ((k4 : Nat) : Int)))]
        [(1072, ⟨0, .box [.p (slOf 6 encNode (default : Node) ([({ tree := r1.tree, tasks := s1, next := 129 } : Hierarchy), ({ tree := r102.tree, tasks := r102.tasks, next := (w64 (2147483648 - (w64 (Int.tmod p1 3)))) } : Hierarchy)].getD k4 (default : Hierarchy)).tree.nodes), .p (vi ([({ tree := r1.tree, tasks := s1, next := 129 } : Hierarchy), ({ tree := r102.tree, tasks := r102.tasks, next := (w64 (2147483648 - (w64 (Int.tmod p1 3)))) } : Hierarchy)].getD k4 (default : Hierarchy)).tree.next), .p (slOf 4 encTask (default : Task) ([({ tree := r1.tree, tasks := s1, next := 129 } : Hierarchy), ({ tree := r102.tree, tasks := r102.tasks, next := (w64 (2147483648 - (w64 (Int.tmod p1 3)))) } : Hierarchy)].getD k4 (default : Hierarchy)).tasks), .p (vi ([({ tree := r1.tree, tasks := s1, next := 129 } : Hierarchy), ({ tree := r102.tree, tasks := r102.tasks, next := (w64 (2147483648 - (w64 (Int.tmod p1 3)))) } : Hierarchy)].getD k4 (default : Hierarchy)).next)]⟩), (1080, ⟨0, .box [.own 1464 0 0 r136.1.tree.nodes.length, .p (vi r136.1.tree.next), .own 1465 0 0 r136.1.tasks.length, .p (vi r136.1.next)]⟩), (1400, ⟨0, rowOf 4 encHierarchy (default : Hierarchy) [({ tree := r1.tree, tasks := s1, next := 129 } : Hierarchy), ({ tree := r102.tree, tasks := r102.tasks, next := (w64 (2147483648 - (w64 (Int.tmod p1 3)))) } : Hierarchy)]⟩), (1464, ⟨0, rowOf 6 encNode (default : Node) r136.1.tree.nodes⟩), (1465, ⟨0, rowOf 4 encTask (default : Task) r136.1.tasks⟩)]
        [(Spec Try.prog 6 [.p (.agg [slOf 6 encNode (default : Node) ([({ tree := r1.tree, tasks := s1, next := 129 } : Hierarchy), ({ tree := r102.tree, tasks := r102.tasks, next := (w64 (2147483648 - (w64 (Int.tmod p1 3)))) } : Hierarchy)].getD k4 (default : Hierarchy)).tree.nodes, vi ([({ tree := r1.tree, tasks := s1, next := 129 } : Hierarchy), ({ tree := r102.tree, tasks := r102.tasks, next := (w64 (2147483648 - (w64 (Int.tmod p1 3)))) } : Hierarchy)].getD k4 (default : Hierarchy)).tree.next, slOf 4 encTask (default : Task) ([({ tree := r1.tree, tasks := s1, next := 129 } : Hierarchy), ({ tree := r102.tree, tasks := r102.tasks, next := (w64 (2147483648 - (w64 (Int.tmod p1 3)))) } : Hierarchy)].getD k4 (default : Hierarchy)).tasks, vi ([({ tree := r1.tree, tasks := s1, next := 129 } : Hierarchy), ({ tree := r102.tree, tasks := r102.tasks, next := (w64 (2147483648 - (w64 (Int.tmod p1 3)))) } : Hierarchy)].getD k4 (default : Hierarchy)).next]), .p (vi 1), .p (vi 0)] [] (.tup [.agg [.own 0 0 0 r136.1.tree.nodes.length, .p (vi r136.1.tree.next), .own 1 0 0 r136.1.tasks.length, .p (vi r136.1.next)], .p (vi r136.2.1), .p (vi r136.2.2)]) [] [rowOf 6 encNode (default : Node) r136.1.tree.nodes, rowOf 4 encTask (default : Task) r136.1.tasks])] (by kernel_rfl) ⟨(member_Spawn_spec ([({ tree := r1.tree, tasks := s1, next := 129 } : Hierarchy), ({ tree := r102.tree, tasks := r102.tasks, next := (w64 (2147483648 - (w64 (Int.tmod p1 3)))) } : Hierarchy)].getD k4 (default : Hierarchy)) 1 0 r136 hr136), trivial⟩ ?_
      refine DW.seq ?_
      obtain ⟨r137, hr137, hm⟩ := bind_open hm
      refine DW.regE Tgood mixed hnt [.no, .call 7 [] true (.tup [.agg [.own 0 0 0 r137.1.tree.nodes.length, .p (vi r137.1.tree.next), .own 1 0 0 r137.1.tasks.length, .p (vi r137.1.next)], .p (vi r137.2.1), .p (vi r137.2.2)]) [] [rowOf 6 encNode (default : Node) r137.1.tree.nodes, rowOf 4 encTask (default : Task) r137.1.tasks], .no, .no, .no, .no, .no, .no, .no, .no] [9, 10, 11, 12, 13, 14, 15, 50, 51, 52] [1072, 1080, 1104, 1400, 1464, 1465, 1512, 1513]
        [(9, .ref 1072 0 0), (10, .ref 1080 0 0), (11, .p (vi r136.2.1)), (12, .p (vi r136.2.2)), (13, .ref 1104 0 0), (14, .p (vi r137.2.1)), (15, .p (vi r137.2.2)), (50, .own 1400 0 0 [({ tree := r1.tree, tasks := s1, next := 129 } : Hierarchy), ({ tree := r102.tree, tasks := r102.tasks, next := (w64 (2147483648 - (w64 (Int.tmod p1 3)))) } : Hierarchy)].length), (51, .p (vi 2)), (52, .p (vi ((k4 : Nat) : Int)))]
        [(1072, ⟨0, .box [.p (slOf 6 encNode (default : Node) ([({ tree := r1.tree, tasks := s1, next := 129 } : Hierarchy), ({ tree := r102.tree, tasks := r102.tasks, next := (w64 (2147483648 - (w64 (Int.tmod p1 3)))) } : Hierarchy)].getD k4 (default : Hierarchy)).tree.nodes), .p (vi ([({ tree := r1.tree, tasks := s1, next := 129 } : Hierarchy), ({ tree := r102.tree, tasks := r102.tasks, next := (w64 (2147483648 - (w64 (Int.tmod p1 3)))) } : Hierarchy)].getD k4 (default : Hierarchy)).tree.next), .p (slOf 4 encTask (default : Task) ([({ tree := r1.tree, tasks := s1, next := 129 } : Hierarchy), ({ tree := r102.tree, tasks := r102.tasks, next := (w64 (2147483648 - (w64 (Int.tmod p1 3)))) } : Hierarchy)].getD k4 (default : Hierarchy)).tasks), .p (vi ([({ tree := r1.tree, tasks := s1, next := 129 } : Hierarchy), ({ tree := r102.tree, tasks := r102.tasks, next := (w64 (2147483648 - (w64 (Int.tmod p1 3)))) } : Hierarchy)].getD k4 (default : Hierarchy)).next)]⟩), (1080, ⟨0, .box [.own 1464 0 0 r136.1.tree.nodes.length, .p (vi r136.1.tree.next), .own 1465 0 0 r136.1.tasks.length, .p (vi r136.1.next)]⟩), (1104, ⟨0, .box [.own 1512 0 0 r137.1.tree.nodes.length, .p (vi r137.1.tree.next), .own 1513 0 0 r137.1.tasks.length, .p (vi r137.1.next)]⟩), (1400, ⟨0, rowOf 4 encHierarchy (default : Hierarchy) [({ tree := r1.tree, tasks := s1, next := 129 } : Hierarchy), ({ tree := r102.tree, tasks := r102.tasks, next := (w64 (2147483648 - (w64 (Int.tmod p1 3)))) } : Hierarchy)]⟩), (1464, ⟨0, rowOf 6 encNode (default : Node) r136.1.tree.nodes⟩), (1465, ⟨0, rowOf 4 encTask (default : Task) r136.1.tasks⟩), (1512, ⟨0, rowOf 6 encNode (default : Node) r137.1.tree.nodes⟩), (1513, ⟨0, rowOf 4 encTask (default : Task) r137.1.tasks⟩)]
        [(Spec Try.prog 7 [.p (.agg [slOf 6 encNode (default : Node) ([({ tree := r1.tree, tasks := s1, next := 129 } : Hierarchy), ({ tree := r102.tree, tasks := r102.tasks, next := (w64 (2147483648 - (w64 (Int.tmod p1 3)))) } : Hierarchy)].getD k4 (default : Hierarchy)).tree.nodes, vi ([({ tree := r1.tree, tasks := s1, next := 129 } : Hierarchy), ({ tree := r102.tree, tasks := r102.tasks, next := (w64 (2147483648 - (w64 (Int.tmod p1 3)))) } : Hierarchy)].getD k4 (default : Hierarchy)).tree.next, slOf 4 encTask (default : Task) ([({ tree := r1.tree, tasks := s1, next := 129 } : Hierarchy), ({ tree := r102.tree, tasks := r102.tasks, next := (w64 (2147483648 - (w64 (Int.tmod p1 3)))) } : Hierarchy)].getD k4 (default : Hierarchy)).tasks, vi ([({ tree := r1.tree, tasks := s1, next := 129 } : Hierarchy), ({ tree := r102.tree, tasks := r102.tasks, next := (w64 (2147483648 - (w64 (Int.tmod p1 3)))) } : Hierarchy)].getD k4 (default : Hierarchy)).next]), .p (vi 1), .p (vi 0)] [] (.tup [.agg [.own 0 0 0 r137.1.tree.nodes.length, .p (vi r137.1.tree.next), .own 1 0 0 r137.1.tasks.length, .p (vi r137.1.next)], .p (vi r137.2.1), .p (vi r137.2.2)]) [] [rowOf 6 encNode (default : Node) r137.1.tree.nodes, rowOf 4 encTask (default : Task) r137.1.tasks])] (by kernel_rfl) ⟨(ref6_Spawn_spec ([({ tree := r1.tree, tasks := s1, next := 129 } : Hierarchy), ({ tree := r102.tree, tasks := r102.tasks, next := (w64 (2147483648 - (w64 (Int.tmod p1 3)))) } : Hierarchy)].getD k4 (default : Hierarchy)) 1 0 r137 hr137), trivial⟩ ?_
      refine DW.seq ?_
      obtain ⟨r138, hr138, hm⟩ := bind_open hm
      refine DW.regE Tgood mixed hnt [.no, .call 8 [] true (.tup [.agg [.own 0 0 0 r138.1.tree.nodes.length, .p (vi r138.1.tree.next), .own 1 0 0 r138.1.tasks.length, .p (vi r138.1.next)], .p (vi r138.2.1), .p (vi r138.2.2)]) [] [rowOf 6 encNode (default : Node) r138.1.tree.nodes, rowOf 4 encTask (default : Task) r138.1.tasks], .no, .no, .no, .no, .no, .no, .no, .no] [9, 10, 11, 12, 13, 14, 15, 16, 17, 18, 50, 51, 52] [1072, 1080, 1104, 1128, 1400, 1464, 1465, 1512, 1513, 1560, 1561]
        [(9, .ref 1072 0 0), (10, .ref 1080 0 0), (11, .p (vi r136.2.1)), (12, .p (vi r136.2.2)), (13, .ref 1104 0 0), (14, .p (vi r137.2.1)), (15, .p (vi r137.2.2)), (16, .ref 1128 0 0), (17, .p (vi r138.2.1)), (18, .p (vi r138.2.2)), (50, .own 1400 0 0 [({ tree := r1.tree, tasks := s1, next := 129 } : Hierarchy), ({ tree := r102.tree, tasks := r102.tasks, next := (w64 (2147483648 - (w64 (Int.tmod p1 3)))) } : Hierarchy)].length), (51, .p (vi 2)), (52, .p (vi ((k4 : Nat) : Int)))]
        [(1072, ⟨0, .box [.p (slOf 6 encNode (default : Node) ([({ tree := r1.tree, tasks := s1, next := 129 } : Hierarchy), ({ tree := r102.tree, tasks := r102.tasks, next := (w64 (2147483648 - (w64 (Int.tmod p1 3)))) } : Hierarchy)].getD k4 (default : Hierarchy)).tree.nodes), .p (vi ([({ tree := r1.tree, tasks := s1, next := 129 } : Hierarchy), ({ tree := r102.tree, tasks := r102.tasks, next := (w64 (2147483648 - (w64 (Int.tmod p1 3)))) } : Hierarchy)].getD k4 (default : Hierarchy)).tree.next), .p (slOf 4 encTask (default : Task) ([({ tree := r1.tree, tasks := s1, next := 129 } : Hierarchy), ({ tree := r102.tree, tasks := r102.tasks, next := (w64 (2147483648 - (w64 (Int.tmod p1 3)))) } : Hierarchy)].getD k4 (default : Hierarchy)).tasks), .p (vi ([({ tree := r1.tree, tasks := s1, next := 129 } : Hierarchy), ({ tree := r102.tree, tasks := r102.tasks, next := (w64 (2147483648 - (w64 (Int.tmod p1 3)))) } : Hierarchy)].getD k4 (default : Hierarchy)).next)]⟩), (1080, ⟨0, .box [.own 1464 0 0 r136.1.tree.nodes.length, .p (vi r136.1.tree.next), .own 1465 0 0 r136.1.tasks.length, .p (vi r136.1.next)]⟩), (1104, ⟨0, .box [.own 1512 0 0 r137.1.tree.nodes.length, .p (vi r137.1.tree.next), .own 1513 0 0 r137.1.tasks.length, .p (vi r137.1.next)]⟩), (1128, ⟨0, .box [.own 1560 0 0 r138.1.tree.nodes.length, .p (vi r138.1.tree.next), .own 1561 0 0 r138.1.tasks.length, .p (vi r138.1.next)]⟩), (1400, ⟨0, rowOf 4 encHierarchy (default : Hierarchy) [({ tree := r1.tree, tasks := s1, next := 129 } : Hierarchy), ({ tree := r102.tree, tasks := r102.tasks, next := (w64 (2147483648 - (w64 (Int.tmod p1 3)))) } : Hierarchy)]⟩), (1464, ⟨0, rowOf 6 encNode (default : Node) r136.1.tree.nodes⟩), (1465, ⟨0, rowOf 4 encTask (default : Task) r136.1.tasks⟩), (1512, ⟨0, rowOf 6 encNode (default : Node) r137.1.tree.nodes⟩), (1513, ⟨0, rowOf 4 encTask (default : Task) r137.1.tasks⟩), (1560, ⟨0, rowOf 6 encNode (default : Node) r138.1.tree.nodes⟩), (1561, ⟨0, rowOf 4 encTask (default : Task) r138.1.tasks⟩)]
        [(Spec Try.prog 8 [.p (.agg [slOf 6 encNode (default : Node) ([({ tree := r1.tree, tasks := s1, next := 129 } : Hierarchy), ({ tree := r102.tree, tasks := r102.tasks, next := (w64 (2147483648 - (w64 (Int.tmod p1 3)))) } : Hierarchy)].getD k4 (default : Hierarchy)).tree.nodes, vi ([({ tree := r1.tree, tasks := s1, next := 129 } : Hierarchy), ({ tree := r102.tree, tasks := r102.tasks, next := (w64 (2147483648 - (w64 (Int.tmod p1 3)))) } : Hierarchy)].getD k4 (default : Hierarchy)).tree.next, slOf 4 encTask (default : Task) ([({ tree := r1.tree, tasks := s1, next := 129 } : Hierarchy), ({ tree := r102.tree, tasks := r102.tasks, next := (w64 (2147483648 - (w64 (Int.tmod p1 3)))) } : Hierarchy)].getD k4 (default : Hierarchy)).tasks, vi ([({ tree := r1.tree, tasks := s1, next := 129 } : Hierarchy), ({ tree := r102.tree, tasks := r102.tasks, next := (w64 (2147483648 - (w64 (Int.tmod p1 3)))) } : Hierarchy)].getD k4 (default : Hierarchy)).next]), .p (vi 1)] [] (.tup [.agg [.own 0 0 0 r138.1.tree.nodes.length, .p (vi r138.1.tree.next), .own 1 0 0 r138.1.tasks.length, .p (vi r138.1.next)], .p (vi r138.2.1), .p (vi r138.2.2)]) [] [rowOf 6 encNode (default : Node) r138.1.tree.nodes, rowOf 4 encTask (default : Task) r138.1.tasks])] (by kernel_rfl) ⟨(member_Clone_spec ([({ tree := r1.tree, tasks := s1, next := 129 } : Hierarchy), ({ tree := r102.tree, tasks := r102.tasks, next := (w64 (2147483648 - (w64 (Int.tmod p1 3)))) } : Hierarchy)].getD k4 (default : Hierarchy)) 1 r138 hr138), trivial⟩ ?_
      refine DW.seq ?_
      obtain ⟨r139, hr139, hm⟩ := bind_open hm
      refine DW.regE Tgood mixed hnt [.no, .call 9 [] true (.tup [.agg [.own 0 0 0 r139.1.tree.nodes.length, .p (vi r139.1.tree.next), .own 1 0 0 r139.1.tasks.length, .p (vi r139.1.next)], .p (vi r139.2.1), .p (vi r139.2.2)]) [] [rowOf 6 encNode (default : Node) r139.1.tree.nodes, rowOf 4 encTask (default : Task) r139.1.tasks], .no, .no, .no, .no, .no, .no, .no, .no] [10, 11, 12, 13, 14, 15, 16, 17, 18, 19, 20, 21, 50, 51, 52] [1080, 1104, 1128, 1152, 1400, 1464, 1465, 1512, 1513, 1560, 1561, 1608, 1609]
        [(10, .ref 1080 0 0), (11, .p (vi r136.2.1)), (12, .p (vi r136.2.2)), (13, .ref 1104 0 0), (14, .p (vi r137.2.1)), (15, .p (vi r137.2.2)), (16, .ref 1128 0 0), (17, .p (vi r138.2.1)), (18, .p (vi r138.2.2)), (19, .ref 1152 0 0), (20, .p (vi r139.2.1)), (21, .p (vi r139.2.2)), (50, .own 1400 0 0 [({ tree := r1.tree, tasks := s1, next := 129 } : Hierarchy), ({ tree := r102.tree, tasks := r102.tasks, next := (w64 (2147483648 - (w64 (Int.tmod p1 3)))) } : Hierarchy)].length), (51, .p (vi 2)), (52, .p (vi ((k4 : Nat) : Int)))]
        [(1080, ⟨0, .box [.own 1464 0 0 r136.1.tree.nodes.length, .p (vi r136.1.tree.next), .own 1465 0 0 r136.1.tasks.length, .p (vi r136.1.next)]⟩), (1104, ⟨0, .box [.own 1512 0 0 r137.1.tree.nodes.length, .p (vi r137.1.tree.next), .own 1513 0 0 r137.1.tasks.length, .p (vi r137.1.next)]⟩), (1128, ⟨0, .box [.own 1560 0 0 r138.1.tree.nodes.length, .p (vi r138.1.tree.next), .own 1561 0 0 r138.1.tasks.length, .p (vi r138.1.next)]⟩), (1152, ⟨0, .box [.own 1608 0 0 r139.1.tree.nodes.length, .p (vi r139.1.tree.next), .own 1609 0 0 r139.1.tasks.length, .p (vi r139.1.next)]⟩), (1400, ⟨0, rowOf 4 encHierarchy (default : Hierarchy) [({ tree := r1.tree, tasks := s1, next := 129 } : Hierarchy), ({ tree := r102.tree, tasks := r102.tasks, next := (w64 (2147483648 - (w64 (Int.tmod p1 3)))) } : Hierarchy)]⟩), (1464, ⟨0, rowOf 6 encNode (default : Node) r136.1.tree.nodes⟩), (1465, ⟨0, rowOf 4 encTask (default : Task) r136.1.tasks⟩), (1512, ⟨0, rowOf 6 encNode (default : Node) r137.1.tree.nodes⟩), (1513, ⟨0, rowOf 4 encTask (default : Task) r137.1.tasks⟩), (1560, ⟨0, rowOf 6 encNode (default : Node) r138.1.tree.nodes⟩), (1561, ⟨0, rowOf 4 encTask (default : Task) r138.1.tasks⟩), (1608, ⟨0, rowOf 6 encNode (default : Node) r139.1.tree.nodes⟩), (1609, ⟨0, rowOf 4 encTask (default : Task) r139.1.tasks⟩)]
        [(Spec Try.prog 9 [.p (.agg [slOf 6 encNode (default : Node) ([({ tree := r1.tree, tasks := s1, next := 129 } : Hierarchy), ({ tree := r102.tree, tasks := r102.tasks, next := (w64 (2147483648 - (w64 (Int.tmod p1 3)))) } : Hierarchy)].getD k4 (default : Hierarchy)).tree.nodes, vi ([({ tree := r1.tree, tasks := s1, next := 129 } : Hierarchy), ({ tree := r102.tree, tasks := r102.tasks, next := (w64 (2147483648 - (w64 (Int.tmod p1 3)))) } : Hierarchy)].getD k4 (default : Hierarchy)).tree.next, slOf 4 encTask (default : Task) ([({ tree := r1.tree, tasks := s1, next := 129 } : Hierarchy), ({ tree := r102.tree, tasks := r102.tasks, next := (w64 (2147483648 - (w64 (Int.tmod p1 3)))) } : Hierarchy)].getD k4 (default : Hierarchy)).tasks, vi ([({ tree := r1.tree, tasks := s1, next := 129 } : Hierarchy), ({ tree := r102.tree, tasks := r102.tasks, next := (w64 (2147483648 - (w64 (Int.tmod p1 3)))) } : Hierarchy)].getD k4 (default : Hierarchy)).next]), .p (vi 1)] [] (.tup [.agg [.own 0 0 0 r139.1.tree.nodes.length, .p (vi r139.1.tree.next), .own 1 0 0 r139.1.tasks.length, .p (vi r139.1.next)], .p (vi r139.2.1), .p (vi r139.2.2)]) [] [rowOf 6 encNode (default : Node) r139.1.tree.nodes, rowOf 4 encTask (default : Task) r139.1.tasks])] (by kernel_rfl) ⟨(ref6_Clone_spec ([({ tree := r1.tree, tasks := s1, next := 129 } : Hierarchy), ({ tree := r102.tree, tasks := r102.tasks, next := (w64 (2147483648 - (w64 (Int.tmod p1 3)))) } : Hierarchy)].getD k4 (default : Hierarchy)) 1 r139 hr139), trivial⟩ ?_
      refine DW.seq ?_
      refine DW.join (ι := Bool) (fun (y9 : Bool) => mkSt [(50, .own 1400 0 0 [({ tree := r1.tree, tasks := s1, next := 129 } : Hierarchy), ({ tree := r102.tree, tasks := r102.tasks, next := (w64 (2147483648 - (w64 (Int.tmod p1 3)))) } : Hierarchy)].length), (51, .p (vi 2)), (52, .p (vi ((k4 : Nat) : Int))), (109, .p (vb y9))] [(1400, ⟨0, rowOf 4 encHierarchy (default : Hierarchy) [({ tree := r1.tree, tasks := s1, next := 129 } : Hierarchy), ({ tree := r102.tree, tasks := r102.tasks, next := (w64 (2147483648 - (w64 (Int.tmod p1 3)))) } : Hierarchy)]⟩)]) (fun y9 => (law6_MemberLimits_j9 n4) y9 = some RES) ?_ ?_
      · intro y9 hm
        unfold law6_MemberLimits_j9 at hm
        refine DW.cond y9 rfl rfl ?_ ?_
        ·
          intro h147
          replace hm := if_t h147 hm
          refine DW.seq ?_
          refine DW.regE Tgood mixed hnt [.no] [4] []
            [(4, .p (vb false))]
            []
            [] (by kernel_rfl) trivial ?_
          refine DW.ret ?_
          obtain rfl := Option.some.inj hm
          refine retOK (bs' := []) [] (.p (vb false)) (by kernel_rfl) ?_ ?_
          · rfl
          · rfl
        ·
          intro h147
          replace hm := if_f h147 hm
          refine DW.skip ?_
          refine DW.done ?_
          show DW _ _ _ _ _
          refine DW.regE Tgood mixed hnt [.no, .no] [50, 51, 52] [1400]
            [(50, .own 1400 0 0 [({ tree := r1.tree, tasks := s1, next := 129 } : Hierarchy), ({ tree := r102.tree, tasks := r102.tasks, next := (w64 (2147483648 - (w64 (Int.tmod p1 3)))) } : Hierarchy)].length), (51, .p (vi 2)), (52, .p (vi (w64 (((k4 : Nat) : Int) + 1))))]
            [(1400, ⟨0, rowOf 4 encHierarchy (default : Hierarchy) [({ tree := r1.tree, tasks := s1, next := 129 } : Hierarchy), ({ tree := r102.tree, tasks := r102.tasks, next := (w64 (2147483648 - (w64 (Int.tmod p1 3)))) } : Hierarchy)]⟩)]
            [] (by kernel_rfl) trivial ?_
          exact joinDone () ⟨hlt4, hm⟩ (Conv.to [50, 51, 52] [1400] [(50, .own 1400 0 0 [({ tree := r1.tree, tasks := s1, next := 129 } : Hierarchy), ({ tree := r102.tree, tasks := r102.tasks, next := (w64 (2147483648 - (w64 (Int.tmod p1 3)))) } : Hierarchy)].length), (51, .p (vi 2)), (52, .p (vi (w64 (((k4 : Nat) : Int) + 1))))] [(50, .own 1400 0 0 [({ tree := r1.tree, tasks := s1, next := 129 } : Hierarchy), ({ tree := r102.tree, tasks := r102.tasks, next := (w64 (2147483648 - (w64 (Int.tmod p1 3)))) } : Hierarchy)].length), (51, .p (vi 2)), (52, .p (vi (((k4 + 1) : Nat) : Int)))] [(1400, ⟨0, rowOf 4 encHierarchy (default : Hierarchy) [({ tree := r1.tree, tasks := s1, next := 129 } : Hierarchy), ({ tree := r102.tree, tasks := r102.tasks, next := (w64 (2147483648 - (w64 (Int.tmod p1 3)))) } : Hierarchy)]⟩)] [(1400, ⟨0, rowOf 4 encHierarchy (default : Hierarchy) [({ tree := r1.tree, tasks := s1, next := 129 } : Hierarchy), ({ tree := r102.tree, tasks := r102.tasks, next := (w64 (2147483648 - (w64 (Int.tmod p1 3)))) } : Hierarchy)]⟩)] (by kernel_rfl) (by kernel_rfl) (.cons .rfl (.cons .rfl (.cons (.of_eq (congrArg (fun n => MV.p (vi n)) (w64_succ hlt4 hc4))) .rfl))) .rfl)
      ·
        rcases Bool.eq_false_or_eq_true (r136.2.1 != r137.2.1) with h140 | h140
        ·
          replace hm := if_t h140 hm
          refine DW.regE Tgood mixed hnt [.no, .no, .no, .no, .skip, .skip, .skip, .pk true, .no, .skip, .skip, .skip, .pk true, .no, .skip, .skip, .skip, .pk true, .no, .skip, .skip, .skip, .skip, .pk true, .no, .skip, .skip, .skip, .skip, .pk true] [50, 51, 52, 109] [1400]
            [(50, .own 1400 0 0 [({ tree := r1.tree, tasks := s1, next := 129 } : Hierarchy), ({ tree := r102.tree, tasks := r102.tasks, next := (w64 (2147483648 - (w64 (Int.tmod p1 3)))) } : Hierarchy)].length), (51, .p (vi 2)), (52, .p (vi ((k4 : Nat) : Int))), (109, .p (vb true))]
            [(1400, ⟨0, rowOf 4 encHierarchy (default : Hierarchy) [({ tree := r1.tree, tasks := s1, next := 129 } : Hierarchy), ({ tree := r102.tree, tasks := r102.tasks, next := (w64 (2147483648 - (w64 (Int.tmod p1 3)))) } : Hierarchy)]⟩)]
            [((r136.2.1 != r137.2.1) = true), ((r136.2.1 != r137.2.1) = true), ((r136.2.1 != r137.2.1) = true), ((r136.2.1 != r137.2.1) = true), (true = true), (true = true), (true = true), (true = true), (true = true), (true = true), (true = true), (true = true), (true = true), (true = true), (true = true), (true = true), (true = true), (true = true), (true = true), (true = true), (true = true), (true = true)] (by kernel_rfl) ⟨h140, h140, h140, h140, rfl, rfl, rfl, rfl, rfl, rfl, rfl, rfl, rfl, rfl, rfl, rfl, rfl, rfl, rfl, rfl, rfl, rfl, trivial⟩ ?_
          exact joinDone true hm .refl
        ·
          replace hm := if_f h140 hm
          rcases Bool.eq_false_or_eq_true (r136.2.2 != r137.2.2) with h141 | h141
          ·
            replace hm := if_t h141 hm
            refine DW.regE Tgood mixed hnt [.no, .no, .no, .no, .no, .no, .no, .pk false, .no, .skip, .skip, .skip, .pk true, .no, .skip, .skip, .skip, .pk true, .no, .skip, .skip, .skip, .skip, .pk true, .no, .skip, .skip, .skip, .skip, .pk true] [50, 51, 52, 109] [1400]
              [(50, .own 1400 0 0 [({ tree := r1.tree, tasks := s1, next := 129 } : Hierarchy), ({ tree := r102.tree, tasks := r102.tasks, next := (w64 (2147483648 - (w64 (Int.tmod p1 3)))) } : Hierarchy)].length), (51, .p (vi 2)), (52, .p (vi ((k4 : Nat) : Int))), (109, .p (vb true))]
              [(1400, ⟨0, rowOf 4 encHierarchy (default : Hierarchy) [({ tree := r1.tree, tasks := s1, next := 129 } : Hierarchy), ({ tree := r102.tree, tasks := r102.tasks, next := (w64 (2147483648 - (w64 (Int.tmod p1 3)))) } : Hierarchy)]⟩)]
              [((r136.2.1 != r137.2.1) = false), ((r136.2.1 != r137.2.1) = false), ((r136.2.1 != r137.2.1) = false), ((r136.2.1 != r137.2.1) = false), ((r136.2.2 != r137.2.2) = true), ((r136.2.2 != r137.2.2) = true), ((r136.2.2 != r137.2.2) = true), ((r136.2.2 != r137.2.2) = true), (true = true), (true = true), (true = true), (true = true), (true = true), (true = true), (true = true), (true = true), (true = true), (true = true), (true = true), (true = true), (true = true), (true = true)] (by kernel_rfl) ⟨h140, h140, h140, h140, h141, h141, h141, h141, rfl, rfl, rfl, rfl, rfl, rfl, rfl, rfl, rfl, rfl, rfl, rfl, rfl, rfl, trivial⟩ ?_
            exact joinDone true hm .refl
          ·
            replace hm := if_f h141 hm
            rcases Bool.eq_false_or_eq_true (r138.2.1 != r139.2.1) with h142 | h142
            ·
              replace hm := if_t h142 hm
              refine DW.regE Tgood mixed hnt [.no, .no, .no, .no, .no, .no, .no, .pk false, .no, .no, .no, .no, .pk false, .no, .skip, .skip, .skip, .pk true, .no, .skip, .skip, .skip, .skip, .pk true, .no, .skip, .skip, .skip, .skip, .pk true] [50, 51, 52, 109] [1400]
                [(50, .own 1400 0 0 [({ tree := r1.tree, tasks := s1, next := 129 } : Hierarchy), ({ tree := r102.tree, tasks := r102.tasks, next := (w64 (2147483648 - (w64 (Int.tmod p1 3)))) } : Hierarchy)].length), (51, .p (vi 2)), (52, .p (vi ((k4 : Nat) : Int))), (109, .p (vb true))]
                [(1400, ⟨0, rowOf 4 encHierarchy (default : Hierarchy) [({ tree := r1.tree, tasks := s1, next := 129 } : Hierarchy), ({ tree := r102.tree, tasks := r102.tasks, next := (w64 (2147483648 - (w64 (Int.tmod p1 3)))) } : Hierarchy)]⟩)]
                [((r136.2.1 != r137.2.1) = false), ((r136.2.1 != r137.2.1) = false), ((r136.2.1 != r137.2.1) = false), ((r136.2.1 != r137.2.1) = false), ((r136.2.2 != r137.2.2) = false), ((r136.2.2 != r137.2.2) = false), ((r136.2.2 != r137.2.2) = false), ((r136.2.2 != r137.2.2) = false), ((r138.2.1 != r139.2.1) = true), ((r138.2.1 != r139.2.1) = true), ((r138.2.1 != r139.2.1) = true), ((r138.2.1 != r139.2.1) = true), (true = true), (true = true), (true = true), (true = true), (true = true), (true = true), (true = true), (true = true), (true = true), (true = true)] (by kernel_rfl) ⟨h140, h140, h140, h140, h141, h141, h141, h141, h142, h142, h142, h142, rfl, rfl, rfl, rfl, rfl, rfl, rfl, rfl, rfl, rfl, trivial⟩ ?_
              exact joinDone true hm .refl
            ·
              replace hm := if_f h142 hm
              rcases Bool.eq_false_or_eq_true (r138.2.2 != r139.2.2) with h143 | h143
              ·
                replace hm := if_t h143 hm
                refine DW.regE Tgood mixed hnt [.no, .no, .no, .no, .no, .no, .no, .pk false, .no, .no, .no, .no, .pk false, .no, .no, .no, .no, .pk false, .no, .skip, .skip, .skip, .skip, .pk true, .no, .skip, .skip, .skip, .skip, .pk true] [50, 51, 52, 109] [1400]
                  [(50, .own 1400 0 0 [({ tree := r1.tree, tasks := s1, next := 129 } : Hierarchy), ({ tree := r102.tree, tasks := r102.tasks, next := (w64 (2147483648 - (w64 (Int.tmod p1 3)))) } : Hierarchy)].length), (51, .p (vi 2)), (52, .p (vi ((k4 : Nat) : Int))), (109, .p (vb true))]
                  [(1400, ⟨0, rowOf 4 encHierarchy (default : Hierarchy) [({ tree := r1.tree, tasks := s1, next := 129 } : Hierarchy), ({ tree := r102.tree, tasks := r102.tasks, next := (w64 (2147483648 - (w64 (Int.tmod p1 3)))) } : Hierarchy)]⟩)]
                  [((r136.2.1 != r137.2.1) = false), ((r136.2.1 != r137.2.1) = false), ((r136.2.1 != r137.2.1) = false), ((r136.2.1 != r137.2.1) = false), ((r136.2.2 != r137.2.2) = false), ((r136.2.2 != r137.2.2) = false), ((r136.2.2 != r137.2.2) = false), ((r136.2.2 != r137.2.2) = false), ((r138.2.1 != r139.2.1) = false), ((r138.2.1 != r139.2.1) = false), ((r138.2.1 != r139.2.1) = false), ((r138.2.1 != r139.2.1) = false), ((r138.2.2 != r139.2.2) = true), ((r138.2.2 != r139.2.2) = true), ((r138.2.2 != r139.2.2) = true), ((r138.2.2 != r139.2.2) = true), ((r138.2.2 != r139.2.2) = true), (true = true), (true = true), (true = true), (true = true), (true = true)] (by kernel_rfl) ⟨h140, h140, h140, h140, h141, h141, h141, h141, h142, h142, h142, h142, h143, h143, h143, h143, h143, rfl, rfl, rfl, rfl, rfl, trivial⟩ ?_
                exact joinDone true hm .refl
              ·
                replace hm := if_f h143 hm
                obtain ⟨r144, hr144, hm⟩ := bind_open hm
                rcases Bool.eq_false_or_eq_true (!r144) with h145 | h145
                ·
                  replace hm := if_t h145 hm
                  refine DW.regE Tgood mixed hnt [.no, .no, .no, .no, .no, .no, .no, .pk false, .no, .no, .no, .no, .pk false, .no, .no, .no, .no, .pk false, .no, .no, .no, .call 10 [] true (.p (vb r144)) [] [], .no, .pk false, .no, .skip, .skip, .skip, .skip, .pk true] [50, 51, 52, 109] [1400]
                    [(50, .own 1400 0 0 [({ tree := r1.tree, tasks := s1, next := 129 } : Hierarchy), ({ tree := r102.tree, tasks := r102.tasks, next := (w64 (2147483648 - (w64 (Int.tmod p1 3)))) } : Hierarchy)].length), (51, .p (vi 2)), (52, .p (vi ((k4 : Nat) : Int))), (109, .p (vb true))]
                    [(1400, ⟨0, rowOf 4 encHierarchy (default : Hierarchy) [({ tree := r1.tree, tasks := s1, next := 129 } : Hierarchy), ({ tree := r102.tree, tasks := r102.tasks, next := (w64 (2147483648 - (w64 (Int.tmod p1 3)))) } : Hierarchy)]⟩)]
                    [((r136.2.1 != r137.2.1) = false), ((r136.2.1 != r137.2.1) = false), ((r136.2.1 != r137.2.1) = false), ((r136.2.1 != r137.2.1) = false), ((r136.2.2 != r137.2.2) = false), ((r136.2.2 != r137.2.2) = false), ((r136.2.2 != r137.2.2) = false), ((r136.2.2 != r137.2.2) = false), ((r138.2.1 != r139.2.1) = false), ((r138.2.1 != r139.2.1) = false), ((r138.2.1 != r139.2.1) = false), ((r138.2.1 != r139.2.1) = false), ((r138.2.2 != r139.2.2) = false), ((r138.2.2 != r139.2.2) = false), ((r138.2.2 != r139.2.2) = false), (Spec Try.prog 10 [.p (.agg [slOf 6 encNode (default : Node) r136.1.tree.nodes, vi r136.1.tree.next, slOf 4 encTask (default : Task) r136.1.tasks, vi r136.1.next]), .p (.agg [slOf 6 encNode (default : Node) r137.1.tree.nodes, vi r137.1.tree.next, slOf 4 encTask (default : Task) r137.1.tasks, vi r137.1.next])] [] (.p (vb r144)) [] []), ((r138.2.2 != r139.2.2) = false), ((r138.2.2 != r139.2.2) = false), ((!r144) = true), ((!r144) = true), ((!r144) = true), ((!r144) = true), ((!r144) = true)] (by kernel_rfl) ⟨h140, h140, h140, h140, h141, h141, h141, h141, h142, h142, h142, h142, h143, h143, h143, (ref6_Same_spec r136.1 r137.1 r144 hr144), h143, h143, h145, h145, h145, h145, h145, trivial⟩ ?_
                  exact joinDone true hm .refl
                ·
                  replace hm := if_f h145 hm
                  obtain ⟨r146, hr146, hm⟩ := bind_open hm
                  refine DW.regE Tgood mixed hnt [.no, .no, .no, .no, .no, .no, .no, .pk false, .no, .no, .no, .no, .pk false, .no, .no, .no, .no, .pk false, .no, .no, .no, .call 10 [] true (.p (vb r144)) [] [], .no, .pk false, .no, .no, .no, .call 10 [] true (.p (vb r146)) [] [], .no, .pk false] [50, 51, 52, 109] [1400]
                    [(50, .own 1400 0 0 [({ tree := r1.tree, tasks := s1, next := 129 } : Hierarchy), ({ tree := r102.tree, tasks := r102.tasks, next := (w64 (2147483648 - (w64 (Int.tmod p1 3)))) } : Hierarchy)].length), (51, .p (vi 2)), (52, .p (vi ((k4 : Nat) : Int))), (109, .p (vb (!r146)))]
                    [(1400, ⟨0, rowOf 4 encHierarchy (default : Hierarchy) [({ tree := r1.tree, tasks := s1, next := 129 } : Hierarchy), ({ tree := r102.tree, tasks := r102.tasks, next := (w64 (2147483648 - (w64 (Int.tmod p1 3)))) } : Hierarchy)]⟩)]
                    [((r136.2.1 != r137.2.1) = false), ((r136.2.1 != r137.2.1) = false), ((r136.2.1 != r137.2.1) = false), ((r136.2.1 != r137.2.1) = false), ((r136.2.2 != r137.2.2) = false), ((r136.2.2 != r137.2.2) = false), ((r136.2.2 != r137.2.2) = false), ((r136.2.2 != r137.2.2) = false), ((r138.2.1 != r139.2.1) = false), ((r138.2.1 != r139.2.1) = false), ((r138.2.1 != r139.2.1) = false), ((r138.2.1 != r139.2.1) = false), ((r138.2.2 != r139.2.2) = false), ((r138.2.2 != r139.2.2) = false), ((r138.2.2 != r139.2.2) = false), (Spec Try.prog 10 [.p (.agg [slOf 6 encNode (default : Node) r136.1.tree.nodes, vi r136.1.tree.next, slOf 4 encTask (default : Task) r136.1.tasks, vi r136.1.next]), .p (.agg [slOf 6 encNode (default : Node) r137.1.tree.nodes, vi r137.1.tree.next, slOf 4 encTask (default : Task) r137.1.tasks, vi r137.1.next])] [] (.p (vb r144)) [] []), ((r138.2.2 != r139.2.2) = false), ((r138.2.2 != r139.2.2) = false), ((!r144) = false), ((!r144) = false), ((!r144) = false), (Spec Try.prog 10 [.p (.agg [slOf 6 encNode (default : Node) r138.1.tree.nodes, vi r138.1.tree.next, slOf 4 encTask (default : Task) r138.1.tasks, vi r138.1.next]), .p (.agg [slOf 6 encNode (default : Node) r139.1.tree.nodes, vi r139.1.tree.next, slOf 4 encTask (default : Task) r139.1.tasks, vi r139.1.next])] [] (.p (vb r146)) [] []), ((!r144) = false), ((!r144) = false)] (by kernel_rfl) ⟨h140, h140, h140, h140, h141, h141, h141, h141, h142, h142, h142, h142, h143, h143, h143, (ref6_Same_spec r136.1 r137.1 r144 hr144), h143, h143, h145, h145, h145, (ref6_Same_spec r138.1 r139.1 r146 hr146), h145, h145, trivial⟩ ?_
                  exact joinDone (!r146) hm .refl
    ·
      intro h135
      have hge4 : ¬ k4 < [({ tree := r1.tree, tasks := s1, next := 129 } : Hierarchy), ({ tree := r102.tree, tasks := r102.tasks, next := (w64 (2147483648 - (w64 (Int.tmod p1 3)))) } : Hierarchy)].length := by have := of_decide_eq_false h135; have hL : [({ tree := r1.tree, tasks := s1, next := 129 } : Hierarchy), ({ tree := r102.tree, tasks := r102.tasks, next := (w64 (2147483648 - (w64 (Int.tmod p1 3)))) } : Hierarchy)].length = 2 := rfl; omega
      have hm := he4 hge4
      unfold law6_MemberLimits_d4 at hm
      refine DW.exit ?_
      refine joinQ_exit ?_
      refine KQ_exit ?_
      refine blockQ_exit ?_
      show DW _ _ _ _ _
      refine DW.seq ?_
      obtain ⟨r148, hr148, hm⟩ := bind_open hm
      refine DW.regE Tgood mixed hnt [.call 11 [] true (.p (vb r148)) [] [], .no] [4] []
        [(4, .p (vb r148))]
        []
        [(Spec Try.prog 11 [] [] (.p (vb r148)) [] [])] (by kernel_rfl) ⟨(law6_sane_spec r148 hr148), trivial⟩ ?_
      refine DW.ret ?_
      obtain rfl := Option.some.inj hm
      refine retOK (bs' := []) [] (.p (vb r148)) (by kernel_rfl) ?_ ?_
      · rfl
      · rfl
end Go.Dm
