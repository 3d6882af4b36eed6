/- Texts of the proof of MemberLimits: the data machine, the models of the Go functions, their contracts. -/
import Derived.Test.YtdckdjkjjmadeaaMemberLimitsA2
set_option linter.unusedVariables false
set_option linter.unusedSimpArgs false
/- Go functions compute their models, printed by a program. -/
namespace Go.Dm
open Go.Proofs
set_option linter.unusedVariables false
theorem ref1_Valid_spec (p0 : ByteArray) (RES : Bool) (hm : ref1_Valid p0 = some RES) : Spec Try.prog 77 [.p (vs p0)] [] (.p (vb RES)) [] [] := by
  unfold ref1_Valid at hm
  refine spec_of Tgood (T := Tt) Try.func77 (by decide) (c := _) rfl rfl (sl := [(0, .p (vs p0))]) (ob := []) (Nat.le_of_ble_eq_true rfl) (Nat.le_of_ble_eq_true rfl) (by kernel_rfl) (by kernel_rfl) ?_
  intro cx hnt
  refine DW.start ?_
  refine DW.seq ?_
  refine DW.regE Tgood mixed hnt [.no] [0] []
    [(0, .p (vs p0))]
    []
    [] (by kernel_rfl) trivial ?_
  refine DW.seq ?_
  refine DW.seq ?_
  refine DW.join (ι := Bool) (fun (y1 : Bool) => mkSt [(0, .p (vs p0)), (17, .p (vb y1))] []) (fun y1 => (ref1_Valid_j1 p0) y1 = some RES) ?_ ?_
  · intro y1 hm
    unfold ref1_Valid_j1 at hm
    refine DW.cond y1 rfl rfl ?_ ?_
    ·
      intro h4
      replace hm := if_t h4 hm
      refine DW.seq ?_
      refine DW.regE Tgood mixed hnt [.no] [2] []
        [(2, .p (vb false))]
        []
        [] (by kernel_rfl) trivial ?_
      refine DW.ret ?_
      obtain rfl := Option.some.inj hm
      refine retOK (bs' := []) [] (.p (vb false)) (by kernel_rfl) ?_ ?_
      · rfl
      · rfl
    ·
      intro h4
      replace hm := if_f h4 hm
      refine DW.skip ?_
      refine DW.seq ?_
      refine DW.seq ?_
      refine DW.regE Tgood mixed hnt [.no] [0, 3] []
        [(0, .p (vs p0)), (3, .p (vi 0))]
        []
        [] (by kernel_rfl) trivial ?_
      refine DW.block ?_
      obtain ⟨hc1, hm⟩ := guard_open hm
      refine DW.forO (fun (k1 : Int) (s1 : Unit) => mkSt [(0, .p (vs p0)), (3, .p (vi k1))] []) (lo := 0) (hi := ((p0.size : Nat) : Int)) hm .refl ?_
      intro k1 s1 n1 hk1 hs1 he1
      refine DW.seq ?_
      refine DW.seq ?_
      refine DW.regE Tgood mixed hnt [.no, .no, .no, .no] [0, 3, 21] []
        [(0, .p (vs p0)), (3, .p (vi k1)), (21, .p (vb (decide (k1 < ((p0.size : Nat) : Int)))))]
        []
        [] (by kernel_rfl) trivial ?_
      refine DW.cond (decide (k1 < ((p0.size : Nat) : Int))) rfl rfl ?_ ?_
      ·
        intro h55
        have hlt1 : k1 < ((p0.size : Nat) : Int) := by have := of_decide_eq_true h55; omega
        have hm := hs1 hlt1
        unfold ref1_Valid_l1 at hm
        refine DW.skip ?_
        refine DW.seq ?_
        refine DW.block ?_
        refine DW.seq ?_
        obtain ⟨g56, hm⟩ := guard_open hm
        refine DW.regE Tgood mixed hnt [.no, .no, .no, .no] [0, 3, 4] []
          [(0, .p (vs p0)), (3, .p (vi k1)), (4, .p (vk .u8 (((byteAt p0 (Int.toNat k1)) : Nat) : Int)))]
          []
          [((0 : Int) ≤ k1), (k1 < ((p0.size : Nat) : Int))] (by kernel_rfl) ⟨g56.1, g56.2, trivial⟩ ?_
        refine DW.seq ?_
        refine DW.regJ (sl2 := [(0, .p (vs p0)), (3, .p (vi k1)), (57, .p (vb (!((((((decide ((((byteAt p0 (Int.toNat k1)) : Nat) : Int) ≥ 97)) && (decide ((((byteAt p0 (Int.toNat k1)) : Nat) : Int) ≤ 122))) || ((decide ((((byteAt p0 (Int.toNat k1)) : Nat) : Int) ≥ 65)) && (decide ((((byteAt p0 (Int.toNat k1)) : Nat) : Int) ≤ 90)))) || ((decide ((((byteAt p0 (Int.toNat k1)) : Nat) : Int) ≥ 48)) && (decide ((((byteAt p0 (Int.toNat k1)) : Nat) : Int) ≤ 57)))) || ((((byteAt p0 (Int.toNat k1)) : Nat) : Int) == 95)) || ((((byteAt p0 (Int.toNat k1)) : Nat) : Int) == 45)))))]) (ob2 := []) ?_ ?_
        ·
          rcases Bool.eq_false_or_eq_true (decide ((((byteAt p0 (Int.toNat k1)) : Nat) : Int) ≥ 97)) with h57 | h57
          ·
            rcases Bool.eq_false_or_eq_true (decide ((((byteAt p0 (Int.toNat k1)) : Nat) : Int) ≤ 122)) with h58 | h58
            ·
              exact RegTo.mk Tgood mixed hnt [.no, .no, .no, .no, .no, .pk true, .no, .skip, .skip, .skip, .skip, .skip, .skip, .pk true, .no, .skip, .skip, .skip, .skip, .skip, .skip, .pk true, .no, .skip, .skip, .pk true, .no, .skip, .skip, .pk true, .no] [0, 3, 57] []
                [(0, .p (vs p0)), (3, .p (vi k1)), (57, .p (vb false))]
                [(0, .p (vs p0)), (3, .p (vi k1)), (57, .p (vb (!((((((decide ((((byteAt p0 (Int.toNat k1)) : Nat) : Int) ≥ 97)) && (decide ((((byteAt p0 (Int.toNat k1)) : Nat) : Int) ≤ 122))) || ((decide ((((byteAt p0 (Int.toNat k1)) : Nat) : Int) ≥ 65)) && (decide ((((byteAt p0 (Int.toNat k1)) : Nat) : Int) ≤ 90)))) || ((decide ((((byteAt p0 (Int.toNat k1)) : Nat) : Int) ≥ 48)) && (decide ((((byteAt p0 (Int.toNat k1)) : Nat) : Int) ≤ 57)))) || ((((byteAt p0 (Int.toNat k1)) : Nat) : Int) == 95)) || ((((byteAt p0 (Int.toNat k1)) : Nat) : Int) == 45)))))]
                []
                []
                [((decide ((((byteAt p0 (Int.toNat k1)) : Nat) : Int) ≥ 97)) = true), ((decide ((((byteAt p0 (Int.toNat k1)) : Nat) : Int) ≥ 97)) = true), ((decide ((((byteAt p0 (Int.toNat k1)) : Nat) : Int) ≥ 97)) = true), ((decide ((((byteAt p0 (Int.toNat k1)) : Nat) : Int) ≤ 122)) = true), ((decide ((((byteAt p0 (Int.toNat k1)) : Nat) : Int) ≤ 122)) = true), ((decide ((((byteAt p0 (Int.toNat k1)) : Nat) : Int) ≤ 122)) = true), ((decide ((((byteAt p0 (Int.toNat k1)) : Nat) : Int) ≤ 122)) = true), ((decide ((((byteAt p0 (Int.toNat k1)) : Nat) : Int) ≤ 122)) = true), (true = true), (true = true), (true = true), (true = true), (true = true), (true = true), (true = true), (true = true), (true = true), (true = true), (true = true)] (by kernel_rfl) ⟨h57, h57, h57, h58, h58, h58, h58, h58, rfl, rfl, rfl, rfl, rfl, rfl, rfl, rfl, rfl, rfl, rfl, trivial⟩ (.cons .rfl (.cons .rfl (.cons (.of_eq (by first | (rw [h57, h58]; done) | (rw [h57, h58]; rfl) | simp [h57, h58])) .rfl))) .rfl
            ·
              rcases Bool.eq_false_or_eq_true (decide ((((byteAt p0 (Int.toNat k1)) : Nat) : Int) ≥ 65)) with h59 | h59
              ·
                rcases Bool.eq_false_or_eq_true (decide ((((byteAt p0 (Int.toNat k1)) : Nat) : Int) ≤ 90)) with h60 | h60
                ·
                  exact RegTo.mk Tgood mixed hnt [.no, .no, .no, .no, .no, .pk true, .no, .no, .no, .no, .no, .no, .pk true, .pk false, .no, .skip, .skip, .skip, .skip, .skip, .skip, .pk true, .no, .skip, .skip, .pk true, .no, .skip, .skip, .pk true, .no] [0, 3, 57] []
                    [(0, .p (vs p0)), (3, .p (vi k1)), (57, .p (vb false))]
                    [(0, .p (vs p0)), (3, .p (vi k1)), (57, .p (vb (!((((((decide ((((byteAt p0 (Int.toNat k1)) : Nat) : Int) ≥ 97)) && (decide ((((byteAt p0 (Int.toNat k1)) : Nat) : Int) ≤ 122))) || ((decide ((((byteAt p0 (Int.toNat k1)) : Nat) : Int) ≥ 65)) && (decide ((((byteAt p0 (Int.toNat k1)) : Nat) : Int) ≤ 90)))) || ((decide ((((byteAt p0 (Int.toNat k1)) : Nat) : Int) ≥ 48)) && (decide ((((byteAt p0 (Int.toNat k1)) : Nat) : Int) ≤ 57)))) || ((((byteAt p0 (Int.toNat k1)) : Nat) : Int) == 95)) || ((((byteAt p0 (Int.toNat k1)) : Nat) : Int) == 45)))))]
                    []
                    []
                    [((decide ((((byteAt p0 (Int.toNat k1)) : Nat) : Int) ≥ 97)) = true), ((decide ((((byteAt p0 (Int.toNat k1)) : Nat) : Int) ≥ 97)) = true), ((decide ((((byteAt p0 (Int.toNat k1)) : Nat) : Int) ≥ 97)) = true), ((decide ((((byteAt p0 (Int.toNat k1)) : Nat) : Int) ≤ 122)) = false), ((decide ((((byteAt p0 (Int.toNat k1)) : Nat) : Int) ≤ 122)) = false), ((decide ((((byteAt p0 (Int.toNat k1)) : Nat) : Int) ≤ 122)) = false), ((decide ((((byteAt p0 (Int.toNat k1)) : Nat) : Int) ≥ 65)) = true), ((decide ((((byteAt p0 (Int.toNat k1)) : Nat) : Int) ≥ 65)) = true), ((decide ((((byteAt p0 (Int.toNat k1)) : Nat) : Int) ≤ 122)) = false), ((decide ((((byteAt p0 (Int.toNat k1)) : Nat) : Int) ≥ 65)) = true), ((decide ((((byteAt p0 (Int.toNat k1)) : Nat) : Int) ≤ 122)) = false), ((decide ((((byteAt p0 (Int.toNat k1)) : Nat) : Int) ≤ 90)) = true), ((decide ((((byteAt p0 (Int.toNat k1)) : Nat) : Int) ≤ 90)) = true), ((decide ((((byteAt p0 (Int.toNat k1)) : Nat) : Int) ≤ 90)) = true), ((decide ((((byteAt p0 (Int.toNat k1)) : Nat) : Int) ≤ 90)) = true), ((decide ((((byteAt p0 (Int.toNat k1)) : Nat) : Int) ≤ 90)) = true), (true = true), (true = true), (true = true), (true = true), (true = true), (true = true)] (by kernel_rfl) ⟨h57, h57, h57, h58, h58, h58, h59, h59, h58, h59, h58, h60, h60, h60, h60, h60, rfl, rfl, rfl, rfl, rfl, rfl, trivial⟩ (.cons .rfl (.cons .rfl (.cons (.of_eq (by first | (rw [h57, h58, h59, h60]; done) | (rw [h57, h58, h59, h60]; rfl) | simp [h57, h58, h59, h60])) .rfl))) .rfl
                ·
                  rcases Bool.eq_false_or_eq_true (decide ((((byteAt p0 (Int.toNat k1)) : Nat) : Int) ≥ 48)) with h61 | h61
                  ·
                    rcases Bool.eq_false_or_eq_true (decide ((((byteAt p0 (Int.toNat k1)) : Nat) : Int) ≤ 57)) with h62 | h62
                    ·
                      exact RegTo.mk Tgood mixed hnt [.no, .no, .no, .no, .no, .pk true, .no, .no, .no, .no, .no, .no, .pk true, .pk false, .no, .no, .no, .no, .no, .no, .pk true, .pk false, .no, .skip, .skip, .pk true, .no, .skip, .skip, .pk true, .no] [0, 3, 57] []
                        [(0, .p (vs p0)), (3, .p (vi k1)), (57, .p (vb false))]
                        [(0, .p (vs p0)), (3, .p (vi k1)), (57, .p (vb (!((((((decide ((((byteAt p0 (Int.toNat k1)) : Nat) : Int) ≥ 97)) && (decide ((((byteAt p0 (Int.toNat k1)) : Nat) : Int) ≤ 122))) || ((decide ((((byteAt p0 (Int.toNat k1)) : Nat) : Int) ≥ 65)) && (decide ((((byteAt p0 (Int.toNat k1)) : Nat) : Int) ≤ 90)))) || ((decide ((((byteAt p0 (Int.toNat k1)) : Nat) : Int) ≥ 48)) && (decide ((((byteAt p0 (Int.toNat k1)) : Nat) : Int) ≤ 57)))) || ((((byteAt p0 (Int.toNat k1)) : Nat) : Int) == 95)) || ((((byteAt p0 (Int.toNat k1)) : Nat) : Int) == 45)))))]
                        []
                        []
                        [((decide ((((byteAt p0 (Int.toNat k1)) : Nat) : Int) ≥ 97)) = true), ((decide ((((byteAt p0 (Int.toNat k1)) : Nat) : Int) ≥ 97)) = true), ((decide ((((byteAt p0 (Int.toNat k1)) : Nat) : Int) ≥ 97)) = true), ((decide ((((byteAt p0 (Int.toNat k1)) : Nat) : Int) ≤ 122)) = false), ((decide ((((byteAt p0 (Int.toNat k1)) : Nat) : Int) ≤ 122)) = false), ((decide ((((byteAt p0 (Int.toNat k1)) : Nat) : Int) ≤ 122)) = false), ((decide ((((byteAt p0 (Int.toNat k1)) : Nat) : Int) ≥ 65)) = true), ((decide ((((byteAt p0 (Int.toNat k1)) : Nat) : Int) ≥ 65)) = true), ((decide ((((byteAt p0 (Int.toNat k1)) : Nat) : Int) ≤ 122)) = false), ((decide ((((byteAt p0 (Int.toNat k1)) : Nat) : Int) ≥ 65)) = true), ((decide ((((byteAt p0 (Int.toNat k1)) : Nat) : Int) ≤ 122)) = false), ((decide ((((byteAt p0 (Int.toNat k1)) : Nat) : Int) ≤ 90)) = false), ((decide ((((byteAt p0 (Int.toNat k1)) : Nat) : Int) ≤ 90)) = false), ((decide ((((byteAt p0 (Int.toNat k1)) : Nat) : Int) ≤ 90)) = false), ((decide ((((byteAt p0 (Int.toNat k1)) : Nat) : Int) ≥ 48)) = true), ((decide ((((byteAt p0 (Int.toNat k1)) : Nat) : Int) ≥ 48)) = true), ((decide ((((byteAt p0 (Int.toNat k1)) : Nat) : Int) ≤ 90)) = false), ((decide ((((byteAt p0 (Int.toNat k1)) : Nat) : Int) ≥ 48)) = true), ((decide ((((byteAt p0 (Int.toNat k1)) : Nat) : Int) ≤ 90)) = false), ((decide ((((byteAt p0 (Int.toNat k1)) : Nat) : Int) ≤ 57)) = true), ((decide ((((byteAt p0 (Int.toNat k1)) : Nat) : Int) ≤ 57)) = true), ((decide ((((byteAt p0 (Int.toNat k1)) : Nat) : Int) ≤ 57)) = true), (true = true), (true = true), (true = true)] (by kernel_rfl) ⟨h57, h57, h57, h58, h58, h58, h59, h59, h58, h59, h58, h60, h60, h60, h61, h61, h60, h61, h60, h62, h62, h62, rfl, rfl, rfl, trivial⟩ (.cons .rfl (.cons .rfl (.cons (.of_eq (by first | (rw [h57, h58, h59, h60, h61, h62]; done) | (rw [h57, h58, h59, h60, h61, h62]; rfl) | simp [h57, h58, h59, h60, h61, h62])) .rfl))) .rfl
                    ·
                      rcases Bool.eq_false_or_eq_true ((((byteAt p0 (Int.toNat k1)) : Nat) : Int) == 95) with h63 | h63
                      ·
                        exact RegTo.mk Tgood mixed hnt [.no, .no, .no, .no, .no, .pk true, .no, .no, .no, .no, .no, .no, .pk true, .pk false, .no, .no, .no, .no, .no, .no, .pk true, .pk false, .no, .no, .no, .pk false, .no, .skip, .skip, .pk true, .no] [0, 3, 57] []
                          [(0, .p (vs p0)), (3, .p (vi k1)), (57, .p (vb false))]
                          [(0, .p (vs p0)), (3, .p (vi k1)), (57, .p (vb (!((((((decide ((((byteAt p0 (Int.toNat k1)) : Nat) : Int) ≥ 97)) && (decide ((((byteAt p0 (Int.toNat k1)) : Nat) : Int) ≤ 122))) || ((decide ((((byteAt p0 (Int.toNat k1)) : Nat) : Int) ≥ 65)) && (decide ((((byteAt p0 (Int.toNat k1)) : Nat) : Int) ≤ 90)))) || ((decide ((((byteAt p0 (Int.toNat k1)) : Nat) : Int) ≥ 48)) && (decide ((((byteAt p0 (Int.toNat k1)) : Nat) : Int) ≤ 57)))) || ((((byteAt p0 (Int.toNat k1)) : Nat) : Int) == 95)) || ((((byteAt p0 (Int.toNat k1)) : Nat) : Int) == 45)))))]
                          []
                          []
                          [((decide ((((byteAt p0 (Int.toNat k1)) : Nat) : Int) ≥ 97)) = true), ((decide ((((byteAt p0 (Int.toNat k1)) : Nat) : Int) ≥ 97)) = true), ((decide ((((byteAt p0 (Int.toNat k1)) : Nat) : Int) ≥ 97)) = true), ((decide ((((byteAt p0 (Int.toNat k1)) : Nat) : Int) ≤ 122)) = false), ((decide ((((byteAt p0 (Int.toNat k1)) : Nat) : Int) ≤ 122)) = false), ((decide ((((byteAt p0 (Int.toNat k1)) : Nat) : Int) ≤ 122)) = false), ((decide ((((byteAt p0 (Int.toNat k1)) : Nat) : Int) ≥ 65)) = true), ((decide ((((byteAt p0 (Int.toNat k1)) : Nat) : Int) ≥ 65)) = true), ((decide ((((byteAt p0 (Int.toNat k1)) : Nat) : Int) ≤ 122)) = false), ((decide ((((byteAt p0 (Int.toNat k1)) : Nat) : Int) ≥ 65)) = true), ((decide ((((byteAt p0 (Int.toNat k1)) : Nat) : Int) ≤ 122)) = false), ((decide ((((byteAt p0 (Int.toNat k1)) : Nat) : Int) ≤ 90)) = false), ((decide ((((byteAt p0 (Int.toNat k1)) : Nat) : Int) ≤ 90)) = false), ((decide ((((byteAt p0 (Int.toNat k1)) : Nat) : Int) ≤ 90)) = false), ((decide ((((byteAt p0 (Int.toNat k1)) : Nat) : Int) ≥ 48)) = true), ((decide ((((byteAt p0 (Int.toNat k1)) : Nat) : Int) ≥ 48)) = true), ((decide ((((byteAt p0 (Int.toNat k1)) : Nat) : Int) ≤ 90)) = false), ((decide ((((byteAt p0 (Int.toNat k1)) : Nat) : Int) ≥ 48)) = true), ((decide ((((byteAt p0 (Int.toNat k1)) : Nat) : Int) ≤ 90)) = false), ((decide ((((byteAt p0 (Int.toNat k1)) : Nat) : Int) ≤ 57)) = false), ((decide ((((byteAt p0 (Int.toNat k1)) : Nat) : Int) ≤ 57)) = false), ((decide ((((byteAt p0 (Int.toNat k1)) : Nat) : Int) ≤ 57)) = false), (((((byteAt p0 (Int.toNat k1)) : Nat) : Int) == 95) = true), (((((byteAt p0 (Int.toNat k1)) : Nat) : Int) == 95) = true), (((((byteAt p0 (Int.toNat k1)) : Nat) : Int) == 95) = true)] (by kernel_rfl) ⟨h57, h57, h57, h58, h58, h58, h59, h59, h58, h59, h58, h60, h60, h60, h61, h61, h60, h61, h60, h62, h62, h62, h63, h63, h63, trivial⟩ (.cons .rfl (.cons .rfl (.cons (.of_eq (by first | (rw [h57, h58, h59, h60, h61, h62, h63]; done) | (rw [h57, h58, h59, h60, h61, h62, h63]; rfl) | simp [h57, h58, h59, h60, h61, h62, h63])) .rfl))) .rfl
                      ·
                        exact RegTo.mk Tgood mixed hnt [.no, .no, .no, .no, .no, .pk true, .no, .no, .no, .no, .no, .no, .pk true, .pk false, .no, .no, .no, .no, .no, .no, .pk true, .pk false, .no, .no, .no, .pk false, .no, .no, .no, .pk false, .no] [0, 3, 57] []
                          [(0, .p (vs p0)), (3, .p (vi k1)), (57, .p (vb (!((((byteAt p0 (Int.toNat k1)) : Nat) : Int) == 45))))]
                          [(0, .p (vs p0)), (3, .p (vi k1)), (57, .p (vb (!((((((decide ((((byteAt p0 (Int.toNat k1)) : Nat) : Int) ≥ 97)) && (decide ((((byteAt p0 (Int.toNat k1)) : Nat) : Int) ≤ 122))) || ((decide ((((byteAt p0 (Int.toNat k1)) : Nat) : Int) ≥ 65)) && (decide ((((byteAt p0 (Int.toNat k1)) : Nat) : Int) ≤ 90)))) || ((decide ((((byteAt p0 (Int.toNat k1)) : Nat) : Int) ≥ 48)) && (decide ((((byteAt p0 (Int.toNat k1)) : Nat) : Int) ≤ 57)))) || ((((byteAt p0 (Int.toNat k1)) : Nat) : Int) == 95)) || ((((byteAt p0 (Int.toNat k1)) : Nat) : Int) == 45)))))]
                          []
                          []
                          [((decide ((((byteAt p0 (Int.toNat k1)) : Nat) : Int) ≥ 97)) = true), ((decide ((((byteAt p0 (Int.toNat k1)) : Nat) : Int) ≥ 97)) = true), ((decide ((((byteAt p0 (Int.toNat k1)) : Nat) : Int) ≥ 97)) = true), ((decide ((((byteAt p0 (Int.toNat k1)) : Nat) : Int) ≤ 122)) = false), ((decide ((((byteAt p0 (Int.toNat k1)) : Nat) : Int) ≤ 122)) = false), ((decide ((((byteAt p0 (Int.toNat k1)) : Nat) : Int) ≤ 122)) = false), ((decide ((((byteAt p0 (Int.toNat k1)) : Nat) : Int) ≥ 65)) = true), ((decide ((((byteAt p0 (Int.toNat k1)) : Nat) : Int) ≥ 65)) = true), ((decide ((((byteAt p0 (Int.toNat k1)) : Nat) : Int) ≤ 122)) = false), ((decide ((((byteAt p0 (Int.toNat k1)) : Nat) : Int) ≥ 65)) = true), ((decide ((((byteAt p0 (Int.toNat k1)) : Nat) : Int) ≤ 122)) = false), ((decide ((((byteAt p0 (Int.toNat k1)) : Nat) : Int) ≤ 90)) = false), ((decide ((((byteAt p0 (Int.toNat k1)) : Nat) : Int) ≤ 90)) = false), ((decide ((((byteAt p0 (Int.toNat k1)) : Nat) : Int) ≤ 90)) = false), ((decide ((((byteAt p0 (Int.toNat k1)) : Nat) : Int) ≥ 48)) = true), ((decide ((((byteAt p0 (Int.toNat k1)) : Nat) : Int) ≥ 48)) = true), ((decide ((((byteAt p0 (Int.toNat k1)) : Nat) : Int) ≤ 90)) = false), ((decide ((((byteAt p0 (Int.toNat k1)) : Nat) : Int) ≥ 48)) = true), ((decide ((((byteAt p0 (Int.toNat k1)) : Nat) : Int) ≤ 90)) = false), ((decide ((((byteAt p0 (Int.toNat k1)) : Nat) : Int) ≤ 57)) = false), ((decide ((((byteAt p0 (Int.toNat k1)) : Nat) : Int) ≤ 57)) = false), ((decide ((((byteAt p0 (Int.toNat k1)) : Nat) : Int) ≤ 57)) = false), (((((byteAt p0 (Int.toNat k1)) : Nat) : Int) == 95) = false), (((((byteAt p0 (Int.toNat k1)) : Nat) : Int) == 95) = false), (((((byteAt p0 (Int.toNat k1)) : Nat) : Int) == 95) = false)] (by kernel_rfl) ⟨h57, h57, h57, h58, h58, h58, h59, h59, h58, h59, h58, h60, h60, h60, h61, h61, h60, h61, h60, h62, h62, h62, h63, h63, h63, trivial⟩ (.cons .rfl (.cons .rfl (.cons (.of_eq (by first | (rw [h57, h58, h59, h60, h61, h62, h63]; done) | (rw [h57, h58, h59, h60, h61, h62, h63]; rfl) | simp [h57, h58, h59, h60, h61, h62, h63])) .rfl))) .rfl
                  ·
                    rcases Bool.eq_false_or_eq_true ((((byteAt p0 (Int.toNat k1)) : Nat) : Int) == 95) with h64 | h64
                    ·
                      exact RegTo.mk Tgood mixed hnt [.no, .no, .no, .no, .no, .pk true, .no, .no, .no, .no, .no, .no, .pk true, .pk false, .no, .no, .no, .no, .skip, .skip, .pk false, .pk false, .no, .no, .no, .pk false, .no, .skip, .skip, .pk true, .no] [0, 3, 57] []
                        [(0, .p (vs p0)), (3, .p (vi k1)), (57, .p (vb false))]
                        [(0, .p (vs p0)), (3, .p (vi k1)), (57, .p (vb (!((((((decide ((((byteAt p0 (Int.toNat k1)) : Nat) : Int) ≥ 97)) && (decide ((((byteAt p0 (Int.toNat k1)) : Nat) : Int) ≤ 122))) || ((decide ((((byteAt p0 (Int.toNat k1)) : Nat) : Int) ≥ 65)) && (decide ((((byteAt p0 (Int.toNat k1)) : Nat) : Int) ≤ 90)))) || ((decide ((((byteAt p0 (Int.toNat k1)) : Nat) : Int) ≥ 48)) && (decide ((((byteAt p0 (Int.toNat k1)) : Nat) : Int) ≤ 57)))) || ((((byteAt p0 (Int.toNat k1)) : Nat) : Int) == 95)) || ((((byteAt p0 (Int.toNat k1)) : Nat) : Int) == 45)))))]
                        []
                        []
                        [((decide ((((byteAt p0 (Int.toNat k1)) : Nat) : Int) ≥ 97)) = true), ((decide ((((byteAt p0 (Int.toNat k1)) : Nat) : Int) ≥ 97)) = true), ((decide ((((byteAt p0 (Int.toNat k1)) : Nat) : Int) ≥ 97)) = true), ((decide ((((byteAt p0 (Int.toNat k1)) : Nat) : Int) ≤ 122)) = false), ((decide ((((byteAt p0 (Int.toNat k1)) : Nat) : Int) ≤ 122)) = false), ((decide ((((byteAt p0 (Int.toNat k1)) : Nat) : Int) ≤ 122)) = false), ((decide ((((byteAt p0 (Int.toNat k1)) : Nat) : Int) ≥ 65)) = true), ((decide ((((byteAt p0 (Int.toNat k1)) : Nat) : Int) ≥ 65)) = true), ((decide ((((byteAt p0 (Int.toNat k1)) : Nat) : Int) ≤ 122)) = false), ((decide ((((byteAt p0 (Int.toNat k1)) : Nat) : Int) ≥ 65)) = true), ((decide ((((byteAt p0 (Int.toNat k1)) : Nat) : Int) ≤ 122)) = false), ((decide ((((byteAt p0 (Int.toNat k1)) : Nat) : Int) ≤ 90)) = false), ((decide ((((byteAt p0 (Int.toNat k1)) : Nat) : Int) ≤ 90)) = false), ((decide ((((byteAt p0 (Int.toNat k1)) : Nat) : Int) ≤ 90)) = false), ((decide ((((byteAt p0 (Int.toNat k1)) : Nat) : Int) ≥ 48)) = false), ((decide ((((byteAt p0 (Int.toNat k1)) : Nat) : Int) ≥ 48)) = false), ((decide ((((byteAt p0 (Int.toNat k1)) : Nat) : Int) ≤ 90)) = false), ((decide ((((byteAt p0 (Int.toNat k1)) : Nat) : Int) ≥ 48)) = false), ((decide ((((byteAt p0 (Int.toNat k1)) : Nat) : Int) ≤ 90)) = false), (false = false), (false = false), (false = false), (((((byteAt p0 (Int.toNat k1)) : Nat) : Int) == 95) = true), (((((byteAt p0 (Int.toNat k1)) : Nat) : Int) == 95) = true), (((((byteAt p0 (Int.toNat k1)) : Nat) : Int) == 95) = true)] (by kernel_rfl) ⟨h57, h57, h57, h58, h58, h58, h59, h59, h58, h59, h58, h60, h60, h60, h61, h61, h60, h61, h60, rfl, rfl, rfl, h64, h64, h64, trivial⟩ (.cons .rfl (.cons .rfl (.cons (.of_eq (by first | (rw [h57, h58, h59, h60, h61, h64]; done) | (rw [h57, h58, h59, h60, h61, h64]; rfl) | simp [h57, h58, h59, h60, h61, h64])) .rfl))) .rfl
                    ·
                      exact RegTo.mk Tgood mixed hnt [.no, .no, .no, .no, .no, .pk true, .no, .no, .no, .no, .no, .no, .pk true, .pk false, .no, .no, .no, .no, .skip, .skip, .pk false, .pk false, .no, .no, .no, .pk false, .no, .no, .no, .pk false, .no] [0, 3, 57] []
                        [(0, .p (vs p0)), (3, .p (vi k1)), (57, .p (vb (!((((byteAt p0 (Int.toNat k1)) : Nat) : Int) == 45))))]
                        [(0, .p (vs p0)), (3, .p (vi k1)), (57, .p (vb (!((((((decide ((((byteAt p0 (Int.toNat k1)) : Nat) : Int) ≥ 97)) && (decide ((((byteAt p0 (Int.toNat k1)) : Nat) : Int) ≤ 122))) || ((decide ((((byteAt p0 (Int.toNat k1)) : Nat) : Int) ≥ 65)) && (decide ((((byteAt p0 (Int.toNat k1)) : Nat) : Int) ≤ 90)))) || ((decide ((((byteAt p0 (Int.toNat k1)) : Nat) : Int) ≥ 48)) && (decide ((((byteAt p0 (Int.toNat k1)) : Nat) : Int) ≤ 57)))) || ((((byteAt p0 (Int.toNat k1)) : Nat) : Int) == 95)) || ((((byteAt p0 (Int.toNat k1)) : Nat) : Int) == 45)))))]
                        []
                        []
                        [((decide ((((byteAt p0 (Int.toNat k1)) : Nat) : Int) ≥ 97)) = true), ((decide ((((byteAt p0 (Int.toNat k1)) : Nat) : Int) ≥ 97)) = true), ((decide ((((byteAt p0 (Int.toNat k1)) : Nat) : Int) ≥ 97)) = true), ((decide ((((byteAt p0 (Int.toNat k1)) : Nat) : Int) ≤ 122)) = false), ((decide ((((byteAt p0 (Int.toNat k1)) : Nat) : Int) ≤ 122)) = false), ((decide ((((byteAt p0 (Int.toNat k1)) : Nat) : Int) ≤ 122)) = false), ((decide ((((byteAt p0 (Int.toNat k1)) : Nat) : Int) ≥ 65)) = true), ((decide ((((byteAt p0 (Int.toNat k1)) : Nat) : Int) ≥ 65)) = true), ((decide ((((byteAt p0 (Int.toNat k1)) : Nat) : Int) ≤ 122)) = false), ((decide ((((byteAt p0 (Int.toNat k1)) : Nat) : Int) ≥ 65)) = true), ((decide ((((byteAt p0 (Int.toNat k1)) : Nat) : Int) ≤ 122)) = false), ((decide ((((byteAt p0 (Int.toNat k1)) : Nat) : Int) ≤ 90)) = false), ((decide ((((byteAt p0 (Int.toNat k1)) : Nat) : Int) ≤ 90)) = false), ((decide ((((byteAt p0 (Int.toNat k1)) : Nat) : Int) ≤ 90)) = false), ((decide ((((byteAt p0 (Int.toNat k1)) : Nat) : Int) ≥ 48)) = false), ((decide ((((byteAt p0 (Int.toNat k1)) : Nat) : Int) ≥ 48)) = false), ((decide ((((byteAt p0 (Int.toNat k1)) : Nat) : Int) ≤ 90)) = false), ((decide ((((byteAt p0 (Int.toNat k1)) : Nat) : Int) ≥ 48)) = false), ((decide ((((byteAt p0 (Int.toNat k1)) : Nat) : Int) ≤ 90)) = false), (false = false), (false = false), (false = false), (((((byteAt p0 (Int.toNat k1)) : Nat) : Int) == 95) = false), (((((byteAt p0 (Int.toNat k1)) : Nat) : Int) == 95) = false), (((((byteAt p0 (Int.toNat k1)) : Nat) : Int) == 95) = false)] (by kernel_rfl) ⟨h57, h57, h57, h58, h58, h58, h59, h59, h58, h59, h58, h60, h60, h60, h61, h61, h60, h61, h60, rfl, rfl, rfl, h64, h64, h64, trivial⟩ (.cons .rfl (.cons .rfl (.cons (.of_eq (by first | (rw [h57, h58, h59, h60, h61, h64]; done) | (rw [h57, h58, h59, h60, h61, h64]; rfl) | simp [h57, h58, h59, h60, h61, h64])) .rfl))) .rfl
              ·
                rcases Bool.eq_false_or_eq_true (decide ((((byteAt p0 (Int.toNat k1)) : Nat) : Int) ≥ 48)) with h65 | h65
                ·
                  rcases Bool.eq_false_or_eq_true (decide ((((byteAt p0 (Int.toNat k1)) : Nat) : Int) ≤ 57)) with h66 | h66
                  ·
                    exact RegTo.mk Tgood mixed hnt [.no, .no, .no, .no, .no, .pk true, .no, .no, .no, .no, .skip, .skip, .pk false, .pk false, .no, .no, .no, .no, .no, .no, .pk true, .pk false, .no, .skip, .skip, .pk true, .no, .skip, .skip, .pk true, .no] [0, 3, 57] []
                      [(0, .p (vs p0)), (3, .p (vi k1)), (57, .p (vb false))]
                      [(0, .p (vs p0)), (3, .p (vi k1)), (57, .p (vb (!((((((decide ((((byteAt p0 (Int.toNat k1)) : Nat) : Int) ≥ 97)) && (decide ((((byteAt p0 (Int.toNat k1)) : Nat) : Int) ≤ 122))) || ((decide ((((byteAt p0 (Int.toNat k1)) : Nat) : Int) ≥ 65)) && (decide ((((byteAt p0 (Int.toNat k1)) : Nat) : Int) ≤ 90)))) || ((decide ((((byteAt p0 (Int.toNat k1)) : Nat) : Int) ≥ 48)) && (decide ((((byteAt p0 (Int.toNat k1)) : Nat) : Int) ≤ 57)))) || ((((byteAt p0 (Int.toNat k1)) : Nat) : Int) == 95)) || ((((byteAt p0 (Int.toNat k1)) : Nat) : Int) == 45)))))]
                      []
                      []
                      [((decide ((((byteAt p0 (Int.toNat k1)) : Nat) : Int) ≥ 97)) = true), ((decide ((((byteAt p0 (Int.toNat k1)) : Nat) : Int) ≥ 97)) = true), ((decide ((((byteAt p0 (Int.toNat k1)) : Nat) : Int) ≥ 97)) = true), ((decide ((((byteAt p0 (Int.toNat k1)) : Nat) : Int) ≤ 122)) = false), ((decide ((((byteAt p0 (Int.toNat k1)) : Nat) : Int) ≤ 122)) = false), ((decide ((((byteAt p0 (Int.toNat k1)) : Nat) : Int) ≤ 122)) = false), ((decide ((((byteAt p0 (Int.toNat k1)) : Nat) : Int) ≥ 65)) = false), ((decide ((((byteAt p0 (Int.toNat k1)) : Nat) : Int) ≥ 65)) = false), ((decide ((((byteAt p0 (Int.toNat k1)) : Nat) : Int) ≤ 122)) = false), ((decide ((((byteAt p0 (Int.toNat k1)) : Nat) : Int) ≥ 65)) = false), ((decide ((((byteAt p0 (Int.toNat k1)) : Nat) : Int) ≤ 122)) = false), (false = false), (false = false), (false = false), ((decide ((((byteAt p0 (Int.toNat k1)) : Nat) : Int) ≥ 48)) = true), ((decide ((((byteAt p0 (Int.toNat k1)) : Nat) : Int) ≥ 48)) = true), (false = false), ((decide ((((byteAt p0 (Int.toNat k1)) : Nat) : Int) ≥ 48)) = true), (false = false), ((decide ((((byteAt p0 (Int.toNat k1)) : Nat) : Int) ≤ 57)) = true), ((decide ((((byteAt p0 (Int.toNat k1)) : Nat) : Int) ≤ 57)) = true), ((decide ((((byteAt p0 (Int.toNat k1)) : Nat) : Int) ≤ 57)) = true), (true = true), (true = true), (true = true)] (by kernel_rfl) ⟨h57, h57, h57, h58, h58, h58, h59, h59, h58, h59, h58, rfl, rfl, rfl, h65, h65, rfl, h65, rfl, h66, h66, h66, rfl, rfl, rfl, trivial⟩ (.cons .rfl (.cons .rfl (.cons (.of_eq (by first | (rw [h57, h58, h59, h65, h66]; done) | (rw [h57, h58, h59, h65, h66]; rfl) | simp [h57, h58, h59, h65, h66])) .rfl))) .rfl
                  ·
                    rcases Bool.eq_false_or_eq_true ((((byteAt p0 (Int.toNat k1)) : Nat) : Int) == 95) with h67 | h67
                    ·
                      exact RegTo.mk Tgood mixed hnt [.no, .no, .no, .no, .no, .pk true, .no, .no, .no, .no, .skip, .skip, .pk false, .pk false, .no, .no, .no, .no, .no, .no, .pk true, .pk false, .no, .no, .no, .pk false, .no, .skip, .skip, .pk true, .no] [0, 3, 57] []
                        [(0, .p (vs p0)), (3, .p (vi k1)), (57, .p (vb false))]
                        [(0, .p (vs p0)), (3, .p (vi k1)), (57, .p (vb (!((((((decide ((((byteAt p0 (Int.toNat k1)) : Nat) : Int) ≥ 97)) && (decide ((((byteAt p0 (Int.toNat k1)) : Nat) : Int) ≤ 122))) || ((decide ((((byteAt p0 (Int.toNat k1)) : Nat) : Int) ≥ 65)) && (decide ((((byteAt p0 (Int.toNat k1)) : Nat) : Int) ≤ 90)))) || ((decide ((((byteAt p0 (Int.toNat k1)) : Nat) : Int) ≥ 48)) && (decide ((((byteAt p0 (Int.toNat k1)) : Nat) : Int) ≤ 57)))) || ((((byteAt p0 (Int.toNat k1)) : Nat) : Int) == 95)) || ((((byteAt p0 (Int.toNat k1)) : Nat) : Int) == 45)))))]
                        []
                        []
                        [((decide ((((byteAt p0 (Int.toNat k1)) : Nat) : Int) ≥ 97)) = true), ((decide ((((byteAt p0 (Int.toNat k1)) : Nat) : Int) ≥ 97)) = true), ((decide ((((byteAt p0 (Int.toNat k1)) : Nat) : Int) ≥ 97)) = true), ((decide ((((byteAt p0 (Int.toNat k1)) : Nat) : Int) ≤ 122)) = false), ((decide ((((byteAt p0 (Int.toNat k1)) : Nat) : Int) ≤ 122)) = false), ((decide ((((byteAt p0 (Int.toNat k1)) : Nat) : Int) ≤ 122)) = false), ((decide ((((byteAt p0 (Int.toNat k1)) : Nat) : Int) ≥ 65)) = false), ((decide ((((byteAt p0 (Int.toNat k1)) : Nat) : Int) ≥ 65)) = false), ((decide ((((byteAt p0 (Int.toNat k1)) : Nat) : Int) ≤ 122)) = false), ((decide ((((byteAt p0 (Int.toNat k1)) : Nat) : Int) ≥ 65)) = false), ((decide ((((byteAt p0 (Int.toNat k1)) : Nat) : Int) ≤ 122)) = false), (false = false), (false = false), (false = false), ((decide ((((byteAt p0 (Int.toNat k1)) : Nat) : Int) ≥ 48)) = true), ((decide ((((byteAt p0 (Int.toNat k1)) : Nat) : Int) ≥ 48)) = true), (false = false), ((decide ((((byteAt p0 (Int.toNat k1)) : Nat) : Int) ≥ 48)) = true), (false = false), ((decide ((((byteAt p0 (Int.toNat k1)) : Nat) : Int) ≤ 57)) = false), ((decide ((((byteAt p0 (Int.toNat k1)) : Nat) : Int) ≤ 57)) = false), ((decide ((((byteAt p0 (Int.toNat k1)) : Nat) : Int) ≤ 57)) = false), (((((byteAt p0 (Int.toNat k1)) : Nat) : Int) == 95) = true), (((((byteAt p0 (Int.toNat k1)) : Nat) : Int) == 95) = true), (((((byteAt p0 (Int.toNat k1)) : Nat) : Int) == 95) = true)] (by kernel_rfl) ⟨h57, h57, h57, h58, h58, h58, h59, h59, h58, h59, h58, rfl, rfl, rfl, h65, h65, rfl, h65, rfl, h66, h66, h66, h67, h67, h67, trivial⟩ (.cons .rfl (.cons .rfl (.cons (.of_eq (by first | (rw [h57, h58, h59, h65, h66, h67]; done) | (rw [h57, h58, h59, h65, h66, h67]; rfl) | simp [h57, h58, h59, h65, h66, h67])) .rfl))) .rfl
                    ·
                      exact RegTo.mk Tgood mixed hnt [.no, .no, .no, .no, .no, .pk true, .no, .no, .no, .no, .skip, .skip, .pk false, .pk false, .no, .no, .no, .no, .no, .no, .pk true, .pk false, .no, .no, .no, .pk false, .no, .no, .no, .pk false, .no] [0, 3, 57] []
                        [(0, .p (vs p0)), (3, .p (vi k1)), (57, .p (vb (!((((byteAt p0 (Int.toNat k1)) : Nat) : Int) == 45))))]
                        [(0, .p (vs p0)), (3, .p (vi k1)), (57, .p (vb (!((((((decide ((((byteAt p0 (Int.toNat k1)) : Nat) : Int) ≥ 97)) && (decide ((((byteAt p0 (Int.toNat k1)) : Nat) : Int) ≤ 122))) || ((decide ((((byteAt p0 (Int.toNat k1)) : Nat) : Int) ≥ 65)) && (decide ((((byteAt p0 (Int.toNat k1)) : Nat) : Int) ≤ 90)))) || ((decide ((((byteAt p0 (Int.toNat k1)) : Nat) : Int) ≥ 48)) && (decide ((((byteAt p0 (Int.toNat k1)) : Nat) : Int) ≤ 57)))) || ((((byteAt p0 (Int.toNat k1)) : Nat) : Int) == 95)) || ((((byteAt p0 (Int.toNat k1)) : Nat) : Int) == 45)))))]
                        []
                        []
                        [((decide ((((byteAt p0 (Int.toNat k1)) : Nat) : Int) ≥ 97)) = true), ((decide ((((byteAt p0 (Int.toNat k1)) : Nat) : Int) ≥ 97)) = true), ((decide ((((byteAt p0 (Int.toNat k1)) : Nat) : Int) ≥ 97)) = true), ((decide ((((byteAt p0 (Int.toNat k1)) : Nat) : Int) ≤ 122)) = false), ((decide ((((byteAt p0 (Int.toNat k1)) : Nat) : Int) ≤ 122)) = false), ((decide ((((byteAt p0 (Int.toNat k1)) : Nat) : Int) ≤ 122)) = false), ((decide ((((byteAt p0 (Int.toNat k1)) : Nat) : Int) ≥ 65)) = false), ((decide ((((byteAt p0 (Int.toNat k1)) : Nat) : Int) ≥ 65)) = false), ((decide ((((byteAt p0 (Int.toNat k1)) : Nat) : Int) ≤ 122)) = false), ((decide ((((byteAt p0 (Int.toNat k1)) : Nat) : Int) ≥ 65)) = false), ((decide ((((byteAt p0 (Int.toNat k1)) : Nat) : Int) ≤ 122)) = false), (false = false), (false = false), (false = false), ((decide ((((byteAt p0 (Int.toNat k1)) : Nat) : Int) ≥ 48)) = true), ((decide ((((byteAt p0 (Int.toNat k1)) : Nat) : Int) ≥ 48)) = true), (false = false), ((decide ((((byteAt p0 (Int.toNat k1)) : Nat) : Int) ≥ 48)) = true), (false = false), ((decide ((((byteAt p0 (Int.toNat k1)) : Nat) : Int) ≤ 57)) = false), ((decide ((((byteAt p0 (Int.toNat k1)) : Nat) : Int) ≤ 57)) = false), ((decide ((((byteAt p0 (Int.toNat k1)) : Nat) : Int) ≤ 57)) = false), (((((byteAt p0 (Int.toNat k1)) : Nat) : Int) == 95) = false), (((((byteAt p0 (Int.toNat k1)) : Nat) : Int) == 95) = false), (((((byteAt p0 (Int.toNat k1)) : Nat) : Int) == 95) = false)] (by kernel_rfl) ⟨h57, h57, h57, h58, h58, h58, h59, h59, h58, h59, h58, rfl, rfl, rfl, h65, h65, rfl, h65, rfl, h66, h66, h66, h67, h67, h67, trivial⟩ (.cons .rfl (.cons .rfl (.cons (.of_eq (by first | (rw [h57, h58, h59, h65, h66, h67]; done) | (rw [h57, h58, h59, h65, h66, h67]; rfl) | simp [h57, h58, h59, h65, h66, h67])) .rfl))) .rfl
                ·
                  rcases Bool.eq_false_or_eq_true ((((byteAt p0 (Int.toNat k1)) : Nat) : Int) == 95) with h68 | h68
                  ·
                    exact RegTo.mk Tgood mixed hnt [.no, .no, .no, .no, .no, .pk true, .no, .no, .no, .no, .skip, .skip, .pk false, .pk false, .no, .no, .no, .no, .skip, .skip, .pk false, .pk false, .no, .no, .no, .pk false, .no, .skip, .skip, .pk true, .no] [0, 3, 57] []
                      [(0, .p (vs p0)), (3, .p (vi k1)), (57, .p (vb false))]
                      [(0, .p (vs p0)), (3, .p (vi k1)), (57, .p (vb (!((((((decide ((((byteAt p0 (Int.toNat k1)) : Nat) : Int) ≥ 97)) && (decide ((((byteAt p0 (Int.toNat k1)) : Nat) : Int) ≤ 122))) || ((decide ((((byteAt p0 (Int.toNat k1)) : Nat) : Int) ≥ 65)) && (decide ((((byteAt p0 (Int.toNat k1)) : Nat) : Int) ≤ 90)))) || ((decide ((((byteAt p0 (Int.toNat k1)) : Nat) : Int) ≥ 48)) && (decide ((((byteAt p0 (Int.toNat k1)) : Nat) : Int) ≤ 57)))) || ((((byteAt p0 (Int.toNat k1)) : Nat) : Int) == 95)) || ((((byteAt p0 (Int.toNat k1)) : Nat) : Int) == 45)))))]
                      []
                      []
                      [((decide ((((byteAt p0 (Int.toNat k1)) : Nat) : Int) ≥ 97)) = true), ((decide ((((byteAt p0 (Int.toNat k1)) : Nat) : Int) ≥ 97)) = true), ((decide ((((byteAt p0 (Int.toNat k1)) : Nat) : Int) ≥ 97)) = true), ((decide ((((byteAt p0 (Int.toNat k1)) : Nat) : Int) ≤ 122)) = false), ((decide ((((byteAt p0 (Int.toNat k1)) : Nat) : Int) ≤ 122)) = false), ((decide ((((byteAt p0 (Int.toNat k1)) : Nat) : Int) ≤ 122)) = false), ((decide ((((byteAt p0 (Int.toNat k1)) : Nat) : Int) ≥ 65)) = false), ((decide ((((byteAt p0 (Int.toNat k1)) : Nat) : Int) ≥ 65)) = false), ((decide ((((byteAt p0 (Int.toNat k1)) : Nat) : Int) ≤ 122)) = false), ((decide ((((byteAt p0 (Int.toNat k1)) : Nat) : Int) ≥ 65)) = false), ((decide ((((byteAt p0 (Int.toNat k1)) : Nat) : Int) ≤ 122)) = false), (false = false), (false = false), (false = false), ((decide ((((byteAt p0 (Int.toNat k1)) : Nat) : Int) ≥ 48)) = false), ((decide ((((byteAt p0 (Int.toNat k1)) : Nat) : Int) ≥ 48)) = false), (false = false), ((decide ((((byteAt p0 (Int.toNat k1)) : Nat) : Int) ≥ 48)) = false), (false = false), (false = false), (false = false), (false = false), (((((byteAt p0 (Int.toNat k1)) : Nat) : Int) == 95) = true), (((((byteAt p0 (Int.toNat k1)) : Nat) : Int) == 95) = true), (((((byteAt p0 (Int.toNat k1)) : Nat) : Int) == 95) = true)] (by kernel_rfl) ⟨h57, h57, h57, h58, h58, h58, h59, h59, h58, h59, h58, rfl, rfl, rfl, h65, h65, rfl, h65, rfl, rfl, rfl, rfl, h68, h68, h68, trivial⟩ (.cons .rfl (.cons .rfl (.cons (.of_eq (by first | (rw [h57, h58, h59, h65, h68]; done) | (rw [h57, h58, h59, h65, h68]; rfl) | simp [h57, h58, h59, h65, h68])) .rfl))) .rfl
                  ·
                    exact RegTo.mk Tgood mixed hnt [.no, .no, .no, .no, .no, .pk true, .no, .no, .no, .no, .skip, .skip, .pk false, .pk false, .no, .no, .no, .no, .skip, .skip, .pk false, .pk false, .no, .no, .no, .pk false, .no, .no, .no, .pk false, .no] [0, 3, 57] []
                      [(0, .p (vs p0)), (3, .p (vi k1)), (57, .p (vb (!((((byteAt p0 (Int.toNat k1)) : Nat) : Int) == 45))))]
                      [(0, .p (vs p0)), (3, .p (vi k1)), (57, .p (vb (!((((((decide ((((byteAt p0 (Int.toNat k1)) : Nat) : Int) ≥ 97)) && (decide ((((byteAt p0 (Int.toNat k1)) : Nat) : Int) ≤ 122))) || ((decide ((((byteAt p0 (Int.toNat k1)) : Nat) : Int) ≥ 65)) && (decide ((((byteAt p0 (Int.toNat k1)) : Nat) : Int) ≤ 90)))) || ((decide ((((byteAt p0 (Int.toNat k1)) : Nat) : Int) ≥ 48)) && (decide ((((byteAt p0 (Int.toNat k1)) : Nat) : Int) ≤ 57)))) || ((((byteAt p0 (Int.toNat k1)) : Nat) : Int) == 95)) || ((((byteAt p0 (Int.toNat k1)) : Nat) : Int) == 45)))))]
                      []
                      []
                      [((decide ((((byteAt p0 (Int.toNat k1)) : Nat) : Int) ≥ 97)) = true), ((decide ((((byteAt p0 (Int.toNat k1)) : Nat) : Int) ≥ 97)) = true), ((decide ((((byteAt p0 (Int.toNat k1)) : Nat) : Int) ≥ 97)) = true), ((decide ((((byteAt p0 (Int.toNat k1)) : Nat) : Int) ≤ 122)) = false), ((decide ((((byteAt p0 (Int.toNat k1)) : Nat) : Int) ≤ 122)) = false), ((decide ((((byteAt p0 (Int.toNat k1)) : Nat) : Int) ≤ 122)) = false), ((decide ((((byteAt p0 (Int.toNat k1)) : Nat) : Int) ≥ 65)) = false), ((decide ((((byteAt p0 (Int.toNat k1)) : Nat) : Int) ≥ 65)) = false), ((decide ((((byteAt p0 (Int.toNat k1)) : Nat) : Int) ≤ 122)) = false), ((decide ((((byteAt p0 (Int.toNat k1)) : Nat) : Int) ≥ 65)) = false), ((decide ((((byteAt p0 (Int.toNat k1)) : Nat) : Int) ≤ 122)) = false), (false = false), (false = false), (false = false), ((decide ((((byteAt p0 (Int.toNat k1)) : Nat) : Int) ≥ 48)) = false), ((decide ((((byteAt p0 (Int.toNat k1)) : Nat) : Int) ≥ 48)) = false), (false = false), ((decide ((((byteAt p0 (Int.toNat k1)) : Nat) : Int) ≥ 48)) = false), (false = false), (false = false), (false = false), (false = false), (((((byteAt p0 (Int.toNat k1)) : Nat) : Int) == 95) = false), (((((byteAt p0 (Int.toNat k1)) : Nat) : Int) == 95) = false), (((((byteAt p0 (Int.toNat k1)) : Nat) : Int) == 95) = false)] (by kernel_rfl) ⟨h57, h57, h57, h58, h58, h58, h59, h59, h58, h59, h58, rfl, rfl, rfl, h65, h65, rfl, h65, rfl, rfl, rfl, rfl, h68, h68, h68, trivial⟩ (.cons .rfl (.cons .rfl (.cons (.of_eq (by first | (rw [h57, h58, h59, h65, h68]; done) | (rw [h57, h58, h59, h65, h68]; rfl) | simp [h57, h58, h59, h65, h68])) .rfl))) .rfl
          ·
            rcases Bool.eq_false_or_eq_true (decide ((((byteAt p0 (Int.toNat k1)) : Nat) : Int) ≥ 65)) with h69 | h69
            ·
              rcases Bool.eq_false_or_eq_true (decide ((((byteAt p0 (Int.toNat k1)) : Nat) : Int) ≤ 90)) with h70 | h70
              ·
                exact RegTo.mk Tgood mixed hnt [.no, .no, .no, .skip, .skip, .pk false, .no, .no, .no, .no, .no, .no, .pk true, .pk false, .no, .skip, .skip, .skip, .skip, .skip, .skip, .pk true, .no, .skip, .skip, .pk true, .no, .skip, .skip, .pk true, .no] [0, 3, 57] []
                  [(0, .p (vs p0)), (3, .p (vi k1)), (57, .p (vb false))]
                  [(0, .p (vs p0)), (3, .p (vi k1)), (57, .p (vb (!((((((decide ((((byteAt p0 (Int.toNat k1)) : Nat) : Int) ≥ 97)) && (decide ((((byteAt p0 (Int.toNat k1)) : Nat) : Int) ≤ 122))) || ((decide ((((byteAt p0 (Int.toNat k1)) : Nat) : Int) ≥ 65)) && (decide ((((byteAt p0 (Int.toNat k1)) : Nat) : Int) ≤ 90)))) || ((decide ((((byteAt p0 (Int.toNat k1)) : Nat) : Int) ≥ 48)) && (decide ((((byteAt p0 (Int.toNat k1)) : Nat) : Int) ≤ 57)))) || ((((byteAt p0 (Int.toNat k1)) : Nat) : Int) == 95)) || ((((byteAt p0 (Int.toNat k1)) : Nat) : Int) == 45)))))]
                  []
                  []
                  [((decide ((((byteAt p0 (Int.toNat k1)) : Nat) : Int) ≥ 97)) = false), ((decide ((((byteAt p0 (Int.toNat k1)) : Nat) : Int) ≥ 97)) = false), ((decide ((((byteAt p0 (Int.toNat k1)) : Nat) : Int) ≥ 97)) = false), (false = false), (false = false), (false = false), ((decide ((((byteAt p0 (Int.toNat k1)) : Nat) : Int) ≥ 65)) = true), ((decide ((((byteAt p0 (Int.toNat k1)) : Nat) : Int) ≥ 65)) = true), (false = false), ((decide ((((byteAt p0 (Int.toNat k1)) : Nat) : Int) ≥ 65)) = true), (false = false), ((decide ((((byteAt p0 (Int.toNat k1)) : Nat) : Int) ≤ 90)) = true), ((decide ((((byteAt p0 (Int.toNat k1)) : Nat) : Int) ≤ 90)) = true), ((decide ((((byteAt p0 (Int.toNat k1)) : Nat) : Int) ≤ 90)) = true), ((decide ((((byteAt p0 (Int.toNat k1)) : Nat) : Int) ≤ 90)) = true), ((decide ((((byteAt p0 (Int.toNat k1)) : Nat) : Int) ≤ 90)) = true), (true = true), (true = true), (true = true), (true = true), (true = true), (true = true)] (by kernel_rfl) ⟨h57, h57, h57, rfl, rfl, rfl, h69, h69, rfl, h69, rfl, h70, h70, h70, h70, h70, rfl, rfl, rfl, rfl, rfl, rfl, trivial⟩ (.cons .rfl (.cons .rfl (.cons (.of_eq (by first | (rw [h57, h69, h70]; done) | (rw [h57, h69, h70]; rfl) | simp [h57, h69, h70])) .rfl))) .rfl
              ·
                rcases Bool.eq_false_or_eq_true (decide ((((byteAt p0 (Int.toNat k1)) : Nat) : Int) ≥ 48)) with h71 | h71
                ·
                  rcases Bool.eq_false_or_eq_true (decide ((((byteAt p0 (Int.toNat k1)) : Nat) : Int) ≤ 57)) with h72 | h72
                  ·
                    exact RegTo.mk Tgood mixed hnt [.no, .no, .no, .skip, .skip, .pk false, .no, .no, .no, .no, .no, .no, .pk true, .pk false, .no, .no, .no, .no, .no, .no, .pk true, .pk false, .no, .skip, .skip, .pk true, .no, .skip, .skip, .pk true, .no] [0, 3, 57] []
                      [(0, .p (vs p0)), (3, .p (vi k1)), (57, .p (vb false))]
                      [(0, .p (vs p0)), (3, .p (vi k1)), (57, .p (vb (!((((((decide ((((byteAt p0 (Int.toNat k1)) : Nat) : Int) ≥ 97)) && (decide ((((byteAt p0 (Int.toNat k1)) : Nat) : Int) ≤ 122))) || ((decide ((((byteAt p0 (Int.toNat k1)) : Nat) : Int) ≥ 65)) && (decide ((((byteAt p0 (Int.toNat k1)) : Nat) : Int) ≤ 90)))) || ((decide ((((byteAt p0 (Int.toNat k1)) : Nat) : Int) ≥ 48)) && (decide ((((byteAt p0 (Int.toNat k1)) : Nat) : Int) ≤ 57)))) || ((((byteAt p0 (Int.toNat k1)) : Nat) : Int) == 95)) || ((((byteAt p0 (Int.toNat k1)) : Nat) : Int) == 45)))))]
                      []
                      []
                      [((decide ((((byteAt p0 (Int.toNat k1)) : Nat) : Int) ≥ 97)) = false), ((decide ((((byteAt p0 (Int.toNat k1)) : Nat) : Int) ≥ 97)) = false), ((decide ((((byteAt p0 (Int.toNat k1)) : Nat) : Int) ≥ 97)) = false), (false = false), (false = false), (false = false), ((decide ((((byteAt p0 (Int.toNat k1)) : Nat) : Int) ≥ 65)) = true), ((decide ((((byteAt p0 (Int.toNat k1)) : Nat) : Int) ≥ 65)) = true), (false = false), ((decide ((((byteAt p0 (Int.toNat k1)) : Nat) : Int) ≥ 65)) = true), (false = false), ((decide ((((byteAt p0 (Int.toNat k1)) : Nat) : Int) ≤ 90)) = false), ((decide ((((byteAt p0 (Int.toNat k1)) : Nat) : Int) ≤ 90)) = false), ((decide ((((byteAt p0 (Int.toNat k1)) : Nat) : Int) ≤ 90)) = false), ((decide ((((byteAt p0 (Int.toNat k1)) : Nat) : Int) ≥ 48)) = true), ((decide ((((byteAt p0 (Int.toNat k1)) : Nat) : Int) ≥ 48)) = true), ((decide ((((byteAt p0 (Int.toNat k1)) : Nat) : Int) ≤ 90)) = false), ((decide ((((byteAt p0 (Int.toNat k1)) : Nat) : Int) ≥ 48)) = true), ((decide ((((byteAt p0 (Int.toNat k1)) : Nat) : Int) ≤ 90)) = false), ((decide ((((byteAt p0 (Int.toNat k1)) : Nat) : Int) ≤ 57)) = true), ((decide ((((byteAt p0 (Int.toNat k1)) : Nat) : Int) ≤ 57)) = true), ((decide ((((byteAt p0 (Int.toNat k1)) : Nat) : Int) ≤ 57)) = true), (true = true), (true = true), (true = true)] (by kernel_rfl) ⟨h57, h57, h57, rfl, rfl, rfl, h69, h69, rfl, h69, rfl, h70, h70, h70, h71, h71, h70, h71, h70, h72, h72, h72, rfl, rfl, rfl, trivial⟩ (.cons .rfl (.cons .rfl (.cons (.of_eq (by first | (rw [h57, h69, h70, h71, h72]; done) | (rw [h57, h69, h70, h71, h72]; rfl) | simp [h57, h69, h70, h71, h72])) .rfl))) .rfl
                  ·
                    rcases Bool.eq_false_or_eq_true ((((byteAt p0 (Int.toNat k1)) : Nat) : Int) == 95) with h73 | h73
                    ·
                      exact RegTo.mk Tgood mixed hnt [.no, .no, .no, .skip, .skip, .pk false, .no, .no, .no, .no, .no, .no, .pk true, .pk false, .no, .no, .no, .no, .no, .no, .pk true, .pk false, .no, .no, .no, .pk false, .no, .skip, .skip, .pk true, .no] [0, 3, 57] []
                        [(0, .p (vs p0)), (3, .p (vi k1)), (57, .p (vb false))]
                        [(0, .p (vs p0)), (3, .p (vi k1)), (57, .p (vb (!((((((decide ((((byteAt p0 (Int.toNat k1)) : Nat) : Int) ≥ 97)) && (decide ((((byteAt p0 (Int.toNat k1)) : Nat) : Int) ≤ 122))) || ((decide ((((byteAt p0 (Int.toNat k1)) : Nat) : Int) ≥ 65)) && (decide ((((byteAt p0 (Int.toNat k1)) : Nat) : Int) ≤ 90)))) || ((decide ((((byteAt p0 (Int.toNat k1)) : Nat) : Int) ≥ 48)) && (decide ((((byteAt p0 (Int.toNat k1)) : Nat) : Int) ≤ 57)))) || ((((byteAt p0 (Int.toNat k1)) : Nat) : Int) == 95)) || ((((byteAt p0 (Int.toNat k1)) : Nat) : Int) == 45)))))]
                        []
                        []
                        [((decide ((((byteAt p0 (Int.toNat k1)) : Nat) : Int) ≥ 97)) = false), ((decide ((((byteAt p0 (Int.toNat k1)) : Nat) : Int) ≥ 97)) = false), ((decide ((((byteAt p0 (Int.toNat k1)) : Nat) : Int) ≥ 97)) = false), (false = false), (false = false), (false = false), ((decide ((((byteAt p0 (Int.toNat k1)) : Nat) : Int) ≥ 65)) = true), ((decide ((((byteAt p0 (Int.toNat k1)) : Nat) : Int) ≥ 65)) = true), (false = false), ((decide ((((byteAt p0 (Int.toNat k1)) : Nat) : Int) ≥ 65)) = true), (false = false), ((decide ((((byteAt p0 (Int.toNat k1)) : Nat) : Int) ≤ 90)) = false), ((decide ((((byteAt p0 (Int.toNat k1)) : Nat) : Int) ≤ 90)) = false), ((decide ((((byteAt p0 (Int.toNat k1)) : Nat) : Int) ≤ 90)) = false), ((decide ((((byteAt p0 (Int.toNat k1)) : Nat) : Int) ≥ 48)) = true), ((decide ((((byteAt p0 (Int.toNat k1)) : Nat) : Int) ≥ 48)) = true), ((decide ((((byteAt p0 (Int.toNat k1)) : Nat) : Int) ≤ 90)) = false), ((decide ((((byteAt p0 (Int.toNat k1)) : Nat) : Int) ≥ 48)) = true), ((decide ((((byteAt p0 (Int.toNat k1)) : Nat) : Int) ≤ 90)) = false), ((decide ((((byteAt p0 (Int.toNat k1)) : Nat) : Int) ≤ 57)) = false), ((decide ((((byteAt p0 (Int.toNat k1)) : Nat) : Int) ≤ 57)) = false), ((decide ((((byteAt p0 (Int.toNat k1)) : Nat) : Int) ≤ 57)) = false), (((((byteAt p0 (Int.toNat k1)) : Nat) : Int) == 95) = true), (((((byteAt p0 (Int.toNat k1)) : Nat) : Int) == 95) = true), (((((byteAt p0 (Int.toNat k1)) : Nat) : Int) == 95) = true)] (by kernel_rfl) ⟨h57, h57, h57, rfl, rfl, rfl, h69, h69, rfl, h69, rfl, h70, h70, h70, h71, h71, h70, h71, h70, h72, h72, h72, h73, h73, h73, trivial⟩ (.cons .rfl (.cons .rfl (.cons (.of_eq (by first | (rw [h57, h69, h70, h71, h72, h73]; done) | (rw [h57, h69, h70, h71, h72, h73]; rfl) | simp [h57, h69, h70, h71, h72, h73])) .rfl))) .rfl
                    ·
                      exact RegTo.mk Tgood mixed hnt [.no, .no, .no, .skip, .skip, .pk false, .no, .no, .no, .no, .no, .no, .pk true, .pk false, .no, .no, .no, .no, .no, .no, .pk true, .pk false, .no, .no, .no, .pk false, .no, .no, .no, .pk false, .no] [0, 3, 57] []
                        [(0, .p (vs p0)), (3, .p (vi k1)), (57, .p (vb (!((((byteAt p0 (Int.toNat k1)) : Nat) : Int) == 45))))]
                        [(0, .p (vs p0)), (3, .p (vi k1)), (57, .p (vb (!((((((decide ((((byteAt p0 (Int.toNat k1)) : Nat) : Int) ≥ 97)) && (decide ((((byteAt p0 (Int.toNat k1)) : Nat) : Int) ≤ 122))) || ((decide ((((byteAt p0 (Int.toNat k1)) : Nat) : Int) ≥ 65)) && (decide ((((byteAt p0 (Int.toNat k1)) : Nat) : Int) ≤ 90)))) || ((decide ((((byteAt p0 (Int.toNat k1)) : Nat) : Int) ≥ 48)) && (decide ((((byteAt p0 (Int.toNat k1)) : Nat) : Int) ≤ 57)))) || ((((byteAt p0 (Int.toNat k1)) : Nat) : Int) == 95)) || ((((byteAt p0 (Int.toNat k1)) : Nat) : Int) == 45)))))]
                        []
                        []
                        [((decide ((((byteAt p0 (Int.toNat k1)) : Nat) : Int) ≥ 97)) = false), ((decide ((((byteAt p0 (Int.toNat k1)) : Nat) : Int) ≥ 97)) = false), ((decide ((((byteAt p0 (Int.toNat k1)) : Nat) : Int) ≥ 97)) = false), (false = false), (false = false), (false = false), ((decide ((((byteAt p0 (Int.toNat k1)) : Nat) : Int) ≥ 65)) = true), ((decide ((((byteAt p0 (Int.toNat k1)) : Nat) : Int) ≥ 65)) = true), (false = false), ((decide ((((byteAt p0 (Int.toNat k1)) : Nat) : Int) ≥ 65)) = true), (false = false), ((decide ((((byteAt p0 (Int.toNat k1)) : Nat) : Int) ≤ 90)) = false), ((decide ((((byteAt p0 (Int.toNat k1)) : Nat) : Int) ≤ 90)) = false), ((decide ((((byteAt p0 (Int.toNat k1)) : Nat) : Int) ≤ 90)) = false), ((decide ((((byteAt p0 (Int.toNat k1)) : Nat) : Int) ≥ 48)) = true), ((decide ((((byteAt p0 (Int.toNat k1)) : Nat) : Int) ≥ 48)) = true), ((decide ((((byteAt p0 (Int.toNat k1)) : Nat) : Int) ≤ 90)) = false), ((decide ((((byteAt p0 (Int.toNat k1)) : Nat) : Int) ≥ 48)) = true), ((decide ((((byteAt p0 (Int.toNat k1)) : Nat) : Int) ≤ 90)) = false), ((decide ((((byteAt p0 (Int.toNat k1)) : Nat) : Int) ≤ 57)) = false), ((decide ((((byteAt p0 (Int.toNat k1)) : Nat) : Int) ≤ 57)) = false), ((decide ((((byteAt p0 (Int.toNat k1)) : Nat) : Int) ≤ 57)) = false), (((((byteAt p0 (Int.toNat k1)) : Nat) : Int) == 95) = false), (((((byteAt p0 (Int.toNat k1)) : Nat) : Int) == 95) = false), (((((byteAt p0 (Int.toNat k1)) : Nat) : Int) == 95) = false)] (by kernel_rfl) ⟨h57, h57, h57, rfl, rfl, rfl, h69, h69, rfl, h69, rfl, h70, h70, h70, h71, h71, h70, h71, h70, h72, h72, h72, h73, h73, h73, trivial⟩ (.cons .rfl (.cons .rfl (.cons (.of_eq (by first | (rw [h57, h69, h70, h71, h72, h73]; done) | (rw [h57, h69, h70, h71, h72, h73]; rfl) | simp [h57, h69, h70, h71, h72, h73])) .rfl))) .rfl
                ·
                  rcases Bool.eq_false_or_eq_true ((((byteAt p0 (Int.toNat k1)) : Nat) : Int) == 95) with h74 | h74
                  ·
                    exact RegTo.mk Tgood mixed hnt [.no, .no, .no, .skip, .skip, .pk false, .no, .no, .no, .no, .no, .no, .pk true, .pk false, .no, .no, .no, .no, .skip, .skip, .pk false, .pk false, .no, .no, .no, .pk false, .no, .skip, .skip, .pk true, .no] [0, 3, 57] []
                      [(0, .p (vs p0)), (3, .p (vi k1)), (57, .p (vb false))]
                      [(0, .p (vs p0)), (3, .p (vi k1)), (57, .p (vb (!((((((decide ((((byteAt p0 (Int.toNat k1)) : Nat) : Int) ≥ 97)) && (decide ((((byteAt p0 (Int.toNat k1)) : Nat) : Int) ≤ 122))) || ((decide ((((byteAt p0 (Int.toNat k1)) : Nat) : Int) ≥ 65)) && (decide ((((byteAt p0 (Int.toNat k1)) : Nat) : Int) ≤ 90)))) || ((decide ((((byteAt p0 (Int.toNat k1)) : Nat) : Int) ≥ 48)) && (decide ((((byteAt p0 (Int.toNat k1)) : Nat) : Int) ≤ 57)))) || ((((byteAt p0 (Int.toNat k1)) : Nat) : Int) == 95)) || ((((byteAt p0 (Int.toNat k1)) : Nat) : Int) == 45)))))]
                      []
                      []
                      [((decide ((((byteAt p0 (Int.toNat k1)) : Nat) : Int) ≥ 97)) = false), ((decide ((((byteAt p0 (Int.toNat k1)) : Nat) : Int) ≥ 97)) = false), ((decide ((((byteAt p0 (Int.toNat k1)) : Nat) : Int) ≥ 97)) = false), (false = false), (false = false), (false = false), ((decide ((((byteAt p0 (Int.toNat k1)) : Nat) : Int) ≥ 65)) = true), ((decide ((((byteAt p0 (Int.toNat k1)) : Nat) : Int) ≥ 65)) = true), (false = false), ((decide ((((byteAt p0 (Int.toNat k1)) : Nat) : Int) ≥ 65)) = true), (false = false), ((decide ((((byteAt p0 (Int.toNat k1)) : Nat) : Int) ≤ 90)) = false), ((decide ((((byteAt p0 (Int.toNat k1)) : Nat) : Int) ≤ 90)) = false), ((decide ((((byteAt p0 (Int.toNat k1)) : Nat) : Int) ≤ 90)) = false), ((decide ((((byteAt p0 (Int.toNat k1)) : Nat) : Int) ≥ 48)) = false), ((decide ((((byteAt p0 (Int.toNat k1)) : Nat) : Int) ≥ 48)) = false), ((decide ((((byteAt p0 (Int.toNat k1)) : Nat) : Int) ≤ 90)) = false), ((decide ((((byteAt p0 (Int.toNat k1)) : Nat) : Int) ≥ 48)) = false), ((decide ((((byteAt p0 (Int.toNat k1)) : Nat) : Int) ≤ 90)) = false), (false = false), (false = false), (false = false), (((((byteAt p0 (Int.toNat k1)) : Nat) : Int) == 95) = true), (((((byteAt p0 (Int.toNat k1)) : Nat) : Int) == 95) = true), (((((byteAt p0 (Int.toNat k1)) : Nat) : Int) == 95) = true)] (by kernel_rfl) ⟨h57, h57, h57, rfl, rfl, rfl, h69, h69, rfl, h69, rfl, h70, h70, h70, h71, h71, h70, h71, h70, rfl, rfl, rfl, h74, h74, h74, trivial⟩ (.cons .rfl (.cons .rfl (.cons (.of_eq (by first | (rw [h57, h69, h70, h71, h74]; done) | (rw [h57, h69, h70, h71, h74]; rfl) | simp [h57, h69, h70, h71, h74])) .rfl))) .rfl
                  ·
                    exact RegTo.mk Tgood mixed hnt [.no, .no, .no, .skip, .skip, .pk false, .no, .no, .no, .no, .no, .no, .pk true, .pk false, .no, .no, .no, .no, .skip, .skip, .pk false, .pk false, .no, .no, .no, .pk false, .no, .no, .no, .pk false, .no] [0, 3, 57] []
                      [(0, .p (vs p0)), (3, .p (vi k1)), (57, .p (vb (!((((byteAt p0 (Int.toNat k1)) : Nat) : Int) == 45))))]
                      [(0, .p (vs p0)), (3, .p (vi k1)), (57, .p (vb (!((((((decide ((((byteAt p0 (Int.toNat k1)) : Nat) : Int) ≥ 97)) && (decide ((((byteAt p0 (Int.toNat k1)) : Nat) : Int) ≤ 122))) || ((decide ((((byteAt p0 (Int.toNat k1)) : Nat) : Int) ≥ 65)) && (decide ((((byteAt p0 (Int.toNat k1)) : Nat) : Int) ≤ 90)))) || ((decide ((((byteAt p0 (Int.toNat k1)) : Nat) : Int) ≥ 48)) && (decide ((((byteAt p0 (Int.toNat k1)) : Nat) : Int) ≤ 57)))) || ((((byteAt p0 (Int.toNat k1)) : Nat) : Int) == 95)) || ((((byteAt p0 (Int.toNat k1)) : Nat) : Int) == 45)))))]
                      []
                      []
                      [((decide ((((byteAt p0 (Int.toNat k1)) : Nat) : Int) ≥ 97)) = false), ((decide ((((byteAt p0 (Int.toNat k1)) : Nat) : Int) ≥ 97)) = false), ((decide ((((byteAt p0 (Int.toNat k1)) : Nat) : Int) ≥ 97)) = false), (false = false), (false = false), (false = false), ((decide ((((byteAt p0 (Int.toNat k1)) : Nat) : Int) ≥ 65)) = true), ((decide ((((byteAt p0 (Int.toNat k1)) : Nat) : Int) ≥ 65)) = true), (false = false), ((decide ((((byteAt p0 (Int.toNat k1)) : Nat) : Int) ≥ 65)) = true), (false = false), ((decide ((((byteAt p0 (Int.toNat k1)) : Nat) : Int) ≤ 90)) = false), ((decide ((((byteAt p0 (Int.toNat k1)) : Nat) : Int) ≤ 90)) = false), ((decide ((((byteAt p0 (Int.toNat k1)) : Nat) : Int) ≤ 90)) = false), ((decide ((((byteAt p0 (Int.toNat k1)) : Nat) : Int) ≥ 48)) = false), ((decide ((((byteAt p0 (Int.toNat k1)) : Nat) : Int) ≥ 48)) = false), ((decide ((((byteAt p0 (Int.toNat k1)) : Nat) : Int) ≤ 90)) = false), ((decide ((((byteAt p0 (Int.toNat k1)) : Nat) : Int) ≥ 48)) = false), ((decide ((((byteAt p0 (Int.toNat k1)) : Nat) : Int) ≤ 90)) = false), (false = false), (false = false), (false = false), (((((byteAt p0 (Int.toNat k1)) : Nat) : Int) == 95) = false), (((((byteAt p0 (Int.toNat k1)) : Nat) : Int) == 95) = false), (((((byteAt p0 (Int.toNat k1)) : Nat) : Int) == 95) = false)] (by kernel_rfl) ⟨h57, h57, h57, rfl, rfl, rfl, h69, h69, rfl, h69, rfl, h70, h70, h70, h71, h71, h70, h71, h70, rfl, rfl, rfl, h74, h74, h74, trivial⟩ (.cons .rfl (.cons .rfl (.cons (.of_eq (by first | (rw [h57, h69, h70, h71, h74]; done) | (rw [h57, h69, h70, h71, h74]; rfl) | simp [h57, h69, h70, h71, h74])) .rfl))) .rfl
            ·
              rcases Bool.eq_false_or_eq_true (decide ((((byteAt p0 (Int.toNat k1)) : Nat) : Int) ≥ 48)) with h75 | h75
              ·
                rcases Bool.eq_false_or_eq_true (decide ((((byteAt p0 (Int.toNat k1)) : Nat) : Int) ≤ 57)) with h76 | h76
                ·
                  exact RegTo.mk Tgood mixed hnt [.no, .no, .no, .skip, .skip, .pk false, .no, .no, .no, .no, .skip, .skip, .pk false, .pk false, .no, .no, .no, .no, .no, .no, .pk true, .pk false, .no, .skip, .skip, .pk true, .no, .skip, .skip, .pk true, .no] [0, 3, 57] []
                    [(0, .p (vs p0)), (3, .p (vi k1)), (57, .p (vb false))]
                    [(0, .p (vs p0)), (3, .p (vi k1)), (57, .p (vb (!((((((decide ((((byteAt p0 (Int.toNat k1)) : Nat) : Int) ≥ 97)) && (decide ((((byteAt p0 (Int.toNat k1)) : Nat) : Int) ≤ 122))) || ((decide ((((byteAt p0 (Int.toNat k1)) : Nat) : Int) ≥ 65)) && (decide ((((byteAt p0 (Int.toNat k1)) : Nat) : Int) ≤ 90)))) || ((decide ((((byteAt p0 (Int.toNat k1)) : Nat) : Int) ≥ 48)) && (decide ((((byteAt p0 (Int.toNat k1)) : Nat) : Int) ≤ 57)))) || ((((byteAt p0 (Int.toNat k1)) : Nat) : Int) == 95)) || ((((byteAt p0 (Int.toNat k1)) : Nat) : Int) == 45)))))]
                    []
                    []
                    [((decide ((((byteAt p0 (Int.toNat k1)) : Nat) : Int) ≥ 97)) = false), ((decide ((((byteAt p0 (Int.toNat k1)) : Nat) : Int) ≥ 97)) = false), ((decide ((((byteAt p0 (Int.toNat k1)) : Nat) : Int) ≥ 97)) = false), (false = false), (false = false), (false = false), ((decide ((((byteAt p0 (Int.toNat k1)) : Nat) : Int) ≥ 65)) = false), ((decide ((((byteAt p0 (Int.toNat k1)) : Nat) : Int) ≥ 65)) = false), (false = false), ((decide ((((byteAt p0 (Int.toNat k1)) : Nat) : Int) ≥ 65)) = false), (false = false), (false = false), (false = false), (false = false), ((decide ((((byteAt p0 (Int.toNat k1)) : Nat) : Int) ≥ 48)) = true), ((decide ((((byteAt p0 (Int.toNat k1)) : Nat) : Int) ≥ 48)) = true), (false = false), ((decide ((((byteAt p0 (Int.toNat k1)) : Nat) : Int) ≥ 48)) = true), (false = false), ((decide ((((byteAt p0 (Int.toNat k1)) : Nat) : Int) ≤ 57)) = true), ((decide ((((byteAt p0 (Int.toNat k1)) : Nat) : Int) ≤ 57)) = true), ((decide ((((byteAt p0 (Int.toNat k1)) : Nat) : Int) ≤ 57)) = true), (true = true), (true = true), (true = true)] (by kernel_rfl) ⟨h57, h57, h57, rfl, rfl, rfl, h69, h69, rfl, h69, rfl, rfl, rfl, rfl, h75, h75, rfl, h75, rfl, h76, h76, h76, rfl, rfl, rfl, trivial⟩ (.cons .rfl (.cons .rfl (.cons (.of_eq (by first | (rw [h57, h69, h75, h76]; done) | (rw [h57, h69, h75, h76]; rfl) | simp [h57, h69, h75, h76])) .rfl))) .rfl
                ·
                  rcases Bool.eq_false_or_eq_true ((((byteAt p0 (Int.toNat k1)) : Nat) : Int) == 95) with h77 | h77
                  ·
                    exact RegTo.mk Tgood mixed hnt [.no, .no, .no, .skip, .skip, .pk false, .no, .no, .no, .no, .skip, .skip, .pk false, .pk false, .no, .no, .no, .no, .no, .no, .pk true, .pk false, .no, .no, .no, .pk false, .no, .skip, .skip, .pk true, .no] [0, 3, 57] []
                      [(0, .p (vs p0)), (3, .p (vi k1)), (57, .p (vb false))]
                      [(0, .p (vs p0)), (3, .p (vi k1)), (57, .p (vb (!((((((decide ((((byteAt p0 (Int.toNat k1)) : Nat) : Int) ≥ 97)) && (decide ((((byteAt p0 (Int.toNat k1)) : Nat) : Int) ≤ 122))) || ((decide ((((byteAt p0 (Int.toNat k1)) : Nat) : Int) ≥ 65)) && (decide ((((byteAt p0 (Int.toNat k1)) : Nat) : Int) ≤ 90)))) || ((decide ((((byteAt p0 (Int.toNat k1)) : Nat) : Int) ≥ 48)) && (decide ((((byteAt p0 (Int.toNat k1)) : Nat) : Int) ≤ 57)))) || ((((byteAt p0 (Int.toNat k1)) : Nat) : Int) == 95)) || ((((byteAt p0 (Int.toNat k1)) : Nat) : Int) == 45)))))]
                      []
                      []
                      [((decide ((((byteAt p0 (Int.toNat k1)) : Nat) : Int) ≥ 97)) = false), ((decide ((((byteAt p0 (Int.toNat k1)) : Nat) : Int) ≥ 97)) = false), ((decide ((((byteAt p0 (Int.toNat k1)) : Nat) : Int) ≥ 97)) = false), (false = false), (false = false), (false = false), ((decide ((((byteAt p0 (Int.toNat k1)) : Nat) : Int) ≥ 65)) = false), ((decide ((((byteAt p0 (Int.toNat k1)) : Nat) : Int) ≥ 65)) = false), (false = false), ((decide ((((byteAt p0 (Int.toNat k1)) : Nat) : Int) ≥ 65)) = false), (false = false), (false = false), (false = false), (false = false), ((decide ((((byteAt p0 (Int.toNat k1)) : Nat) : Int) ≥ 48)) = true), ((decide ((((byteAt p0 (Int.toNat k1)) : Nat) : Int) ≥ 48)) = true), (false = false), ((decide ((((byteAt p0 (Int.toNat k1)) : Nat) : Int) ≥ 48)) = true), (false = false), ((decide ((((byteAt p0 (Int.toNat k1)) : Nat) : Int) ≤ 57)) = false), ((decide ((((byteAt p0 (Int.toNat k1)) : Nat) : Int) ≤ 57)) = false), ((decide ((((byteAt p0 (Int.toNat k1)) : Nat) : Int) ≤ 57)) = false), (((((byteAt p0 (Int.toNat k1)) : Nat) : Int) == 95) = true), (((((byteAt p0 (Int.toNat k1)) : Nat) : Int) == 95) = true), (((((byteAt p0 (Int.toNat k1)) : Nat) : Int) == 95) = true)] (by kernel_rfl) ⟨h57, h57, h57, rfl, rfl, rfl, h69, h69, rfl, h69, rfl, rfl, rfl, rfl, h75, h75, rfl, h75, rfl, h76, h76, h76, h77, h77, h77, trivial⟩ (.cons .rfl (.cons .rfl (.cons (.of_eq (by first | (rw [h57, h69, h75, h76, h77]; done) | (rw [h57, h69, h75, h76, h77]; rfl) | simp [h57, h69, h75, h76, h77])) .rfl))) .rfl
                  ·
                    exact RegTo.mk Tgood mixed hnt [.no, .no, .no, .skip, .skip, .pk false, .no, .no, .no, .no, .skip, .skip, .pk false, .pk false, .no, .no, .no, .no, .no, .no, .pk true, .pk false, .no, .no, .no, .pk false, .no, .no, .no, .pk false, .no] [0, 3, 57] []
                      [(0, .p (vs p0)), (3, .p (vi k1)), (57, .p (vb (!((((byteAt p0 (Int.toNat k1)) : Nat) : Int) == 45))))]
                      [(0, .p (vs p0)), (3, .p (vi k1)), (57, .p (vb (!((((((decide ((((byteAt p0 (Int.toNat k1)) : Nat) : Int) ≥ 97)) && (decide ((((byteAt p0 (Int.toNat k1)) : Nat) : Int) ≤ 122))) || ((decide ((((byteAt p0 (Int.toNat k1)) : Nat) : Int) ≥ 65)) && (decide ((((byteAt p0 (Int.toNat k1)) : Nat) : Int) ≤ 90)))) || ((decide ((((byteAt p0 (Int.toNat k1)) : Nat) : Int) ≥ 48)) && (decide ((((byteAt p0 (Int.toNat k1)) : Nat) : Int) ≤ 57)))) || ((((byteAt p0 (Int.toNat k1)) : Nat) : Int) == 95)) || ((((byteAt p0 (Int.toNat k1)) : Nat) : Int) == 45)))))]
                      []
                      []
                      [((decide ((((byteAt p0 (Int.toNat k1)) : Nat) : Int) ≥ 97)) = false), ((decide ((((byteAt p0 (Int.toNat k1)) : Nat) : Int) ≥ 97)) = false), ((decide ((((byteAt p0 (Int.toNat k1)) : Nat) : Int) ≥ 97)) = false), (false = false), (false = false), (false = false), ((decide ((((byteAt p0 (Int.toNat k1)) : Nat) : Int) ≥ 65)) = false), ((decide ((((byteAt p0 (Int.toNat k1)) : Nat) : Int) ≥ 65)) = false), (false = false), ((decide ((((byteAt p0 (Int.toNat k1)) : Nat) : Int) ≥ 65)) = false), (false = false), (false = false), (false = false), (false = false), ((decide ((((byteAt p0 (Int.toNat k1)) : Nat) : Int) ≥ 48)) = true), ((decide ((((byteAt p0 (Int.toNat k1)) : Nat) : Int) ≥ 48)) = true), (false = false), ((decide ((((byteAt p0 (Int.toNat k1)) : Nat) : Int) ≥ 48)) = true), (false = false), ((decide ((((byteAt p0 (Int.toNat k1)) : Nat) : Int) ≤ 57)) = false), ((decide ((((byteAt p0 (Int.toNat k1)) : Nat) : Int) ≤ 57)) = false), ((decide ((((byteAt p0 (Int.toNat k1)) : Nat) : Int) ≤ 57)) = false), (((((byteAt p0 (Int.toNat k1)) : Nat) : Int) == 95) = false), (((((byteAt p0 (Int.toNat k1)) : Nat) : Int) == 95) = false), (((((byteAt p0 (Int.toNat k1)) : Nat) : Int) == 95) = false)] (by kernel_rfl) ⟨h57, h57, h57, rfl, rfl, rfl, h69, h69, rfl, h69, rfl, rfl, rfl, rfl, h75, h75, rfl, h75, rfl, h76, h76, h76, h77, h77, h77, trivial⟩ (.cons .rfl (.cons .rfl (.cons (.of_eq (by first | (rw [h57, h69, h75, h76, h77]; done) | (rw [h57, h69, h75, h76, h77]; rfl) | simp [h57, h69, h75, h76, h77])) .rfl))) .rfl
              ·
                rcases Bool.eq_false_or_eq_true ((((byteAt p0 (Int.toNat k1)) : Nat) : Int) == 95) with h78 | h78
                ·
                  exact RegTo.mk Tgood mixed hnt [.no, .no, .no, .skip, .skip, .pk false, .no, .no, .no, .no, .skip, .skip, .pk false, .pk false, .no, .no, .no, .no, .skip, .skip, .pk false, .pk false, .no, .no, .no, .pk false, .no, .skip, .skip, .pk true, .no] [0, 3, 57] []
                    [(0, .p (vs p0)), (3, .p (vi k1)), (57, .p (vb false))]
                    [(0, .p (vs p0)), (3, .p (vi k1)), (57, .p (vb (!((((((decide ((((byteAt p0 (Int.toNat k1)) : Nat) : Int) ≥ 97)) && (decide ((((byteAt p0 (Int.toNat k1)) : Nat) : Int) ≤ 122))) || ((decide ((((byteAt p0 (Int.toNat k1)) : Nat) : Int) ≥ 65)) && (decide ((((byteAt p0 (Int.toNat k1)) : Nat) : Int) ≤ 90)))) || ((decide ((((byteAt p0 (Int.toNat k1)) : Nat) : Int) ≥ 48)) && (decide ((((byteAt p0 (Int.toNat k1)) : Nat) : Int) ≤ 57)))) || ((((byteAt p0 (Int.toNat k1)) : Nat) : Int) == 95)) || ((((byteAt p0 (Int.toNat k1)) : Nat) : Int) == 45)))))]
                    []
                    []
                    [((decide ((((byteAt p0 (Int.toNat k1)) : Nat) : Int) ≥ 97)) = false), ((decide ((((byteAt p0 (Int.toNat k1)) : Nat) : Int) ≥ 97)) = false), ((decide ((((byteAt p0 (Int.toNat k1)) : Nat) : Int) ≥ 97)) = false), (false = false), (false = false), (false = false), ((decide ((((byteAt p0 (Int.toNat k1)) : Nat) : Int) ≥ 65)) = false), ((decide ((((byteAt p0 (Int.toNat k1)) : Nat) : Int) ≥ 65)) = false), (false = false), ((decide ((((byteAt p0 (Int.toNat k1)) : Nat) : Int) ≥ 65)) = false), (false = false), (false = false), (false = false), (false = false), ((decide ((((byteAt p0 (Int.toNat k1)) : Nat) : Int) ≥ 48)) = false), ((decide ((((byteAt p0 (Int.toNat k1)) : Nat) : Int) ≥ 48)) = false), (false = false), ((decide ((((byteAt p0 (Int.toNat k1)) : Nat) : Int) ≥ 48)) = false), (false = false), (false = false), (false = false), (false = false), (((((byteAt p0 (Int.toNat k1)) : Nat) : Int) == 95) = true), (((((byteAt p0 (Int.toNat k1)) : Nat) : Int) == 95) = true), (((((byteAt p0 (Int.toNat k1)) : Nat) : Int) == 95) = true)] (by kernel_rfl) ⟨h57, h57, h57, rfl, rfl, rfl, h69, h69, rfl, h69, rfl, rfl, rfl, rfl, h75, h75, rfl, h75, rfl, rfl, rfl, rfl, h78, h78, h78, trivial⟩ (.cons .rfl (.cons .rfl (.cons (.of_eq (by first | (rw [h57, h69, h75, h78]; done) | (rw [h57, h69, h75, h78]; rfl) | simp [h57, h69, h75, h78])) .rfl))) .rfl
                ·
                  exact RegTo.mk Tgood mixed hnt [.no, .no, .no, .skip, .skip, .pk false, .no, .no, .no, .no, .skip, .skip, .pk false, .pk false, .no, .no, .no, .no, .skip, .skip, .pk false, .pk false, .no, .no, .no, .pk false, .no, .no, .no, .pk false, .no] [0, 3, 57] []
                    [(0, .p (vs p0)), (3, .p (vi k1)), (57, .p (vb (!((((byteAt p0 (Int.toNat k1)) : Nat) : Int) == 45))))]
                    [(0, .p (vs p0)), (3, .p (vi k1)), (57, .p (vb (!((((((decide ((((byteAt p0 (Int.toNat k1)) : Nat) : Int) ≥ 97)) && (decide ((((byteAt p0 (Int.toNat k1)) : Nat) : Int) ≤ 122))) || ((decide ((((byteAt p0 (Int.toNat k1)) : Nat) : Int) ≥ 65)) && (decide ((((byteAt p0 (Int.toNat k1)) : Nat) : Int) ≤ 90)))) || ((decide ((((byteAt p0 (Int.toNat k1)) : Nat) : Int) ≥ 48)) && (decide ((((byteAt p0 (Int.toNat k1)) : Nat) : Int) ≤ 57)))) || ((((byteAt p0 (Int.toNat k1)) : Nat) : Int) == 95)) || ((((byteAt p0 (Int.toNat k1)) : Nat) : Int) == 45)))))]
                    []
                    []
                    [((decide ((((byteAt p0 (Int.toNat k1)) : Nat) : Int) ≥ 97)) = false), ((decide ((((byteAt p0 (Int.toNat k1)) : Nat) : Int) ≥ 97)) = false), ((decide ((((byteAt p0 (Int.toNat k1)) : Nat) : Int) ≥ 97)) = false), (false = false), (false = false), (false = false), ((decide ((((byteAt p0 (Int.toNat k1)) : Nat) : Int) ≥ 65)) = false), ((decide ((((byteAt p0 (Int.toNat k1)) : Nat) : Int) ≥ 65)) = false), (false = false), ((decide ((((byteAt p0 (Int.toNat k1)) : Nat) : Int) ≥ 65)) = false), (false = false), (false = false), (false = false), (false = false), ((decide ((((byteAt p0 (Int.toNat k1)) : Nat) : Int) ≥ 48)) = false), ((decide ((((byteAt p0 (Int.toNat k1)) : Nat) : Int) ≥ 48)) = false), (false = false), ((decide ((((byteAt p0 (Int.toNat k1)) : Nat) : Int) ≥ 48)) = false), (false = false), (false = false), (false = false), (false = false), (((((byteAt p0 (Int.toNat k1)) : Nat) : Int) == 95) = false), (((((byteAt p0 (Int.toNat k1)) : Nat) : Int) == 95) = false), (((((byteAt p0 (Int.toNat k1)) : Nat) : Int) == 95) = false)] (by kernel_rfl) ⟨h57, h57, h57, rfl, rfl, rfl, h69, h69, rfl, h69, rfl, rfl, rfl, rfl, h75, h75, rfl, h75, rfl, rfl, rfl, rfl, h78, h78, h78, trivial⟩ (.cons .rfl (.cons .rfl (.cons (.of_eq (by first | (rw [h57, h69, h75, h78]; done) | (rw [h57, h69, h75, h78]; rfl) | simp [h57, h69, h75, h78])) .rfl))) .rfl
        ·
          refine DW.cond (!((((((decide ((((byteAt p0 (Int.toNat k1)) : Nat) : Int) ≥ 97)) && (decide ((((byteAt p0 (Int.toNat k1)) : Nat) : Int) ≤ 122))) || ((decide ((((byteAt p0 (Int.toNat k1)) : Nat) : Int) ≥ 65)) && (decide ((((byteAt p0 (Int.toNat k1)) : Nat) : Int) ≤ 90)))) || ((decide ((((byteAt p0 (Int.toNat k1)) : Nat) : Int) ≥ 48)) && (decide ((((byteAt p0 (Int.toNat k1)) : Nat) : Int) ≤ 57)))) || ((((byteAt p0 (Int.toNat k1)) : Nat) : Int) == 95)) || ((((byteAt p0 (Int.toNat k1)) : Nat) : Int) == 45))) rfl rfl ?_ ?_
          ·
            intro h79
            replace hm := if_t h79 hm
            refine DW.seq ?_
            refine DW.regE Tgood mixed hnt [.no] [2] []
              [(2, .p (vb false))]
              []
              [] (by kernel_rfl) trivial ?_
            refine DW.ret ?_
            obtain rfl := Option.some.inj hm
            refine retOK (bs' := []) [] (.p (vb false)) (by kernel_rfl) ?_ ?_
            · rfl
            · rfl
          ·
            intro h79
            replace hm := if_f h79 hm
            refine DW.skip ?_
            refine DW.done ?_
            show DW _ _ _ _ _
            refine DW.regE Tgood mixed hnt [.no, .no, .no] [0, 3] []
              [(0, .p (vs p0)), (3, .p (vi (w64 (k1 + 1))))]
              []
              [] (by kernel_rfl) trivial ?_
            exact joinDone () ⟨hlt1, hm⟩ (Conv.to [0, 3] [] [(0, .p (vs p0)), (3, .p (vi (w64 (k1 + 1))))] [(0, .p (vs p0)), (3, .p (vi (k1 + 1)))] [] [] (by kernel_rfl) (by kernel_rfl) (.cons .rfl (.cons (.of_eq (congrArg (fun n => MV.p (vi n)) (w64_for (lo := 0) (hi := ((p0.size : Nat) : Int)) (by omega) hk1 hlt1 (by omega)))) .rfl)) .rfl)
      ·
        intro h55
        have hge1 : ¬ k1 < ((p0.size : Nat) : Int) := by have := of_decide_eq_false h55; omega
        have hm := he1 hge1
        unfold ref1_Valid_d1 at hm
        refine DW.exit ?_
        refine joinQ_exit ?_
        refine KQ_exit ?_
        refine blockQ_exit ?_
        show DW _ _ _ _ _
        refine DW.seq ?_
        refine DW.regE Tgood mixed hnt [.no] [2] []
          [(2, .p (vb true))]
          []
          [] (by kernel_rfl) trivial ?_
        refine DW.ret ?_
        obtain rfl := Option.some.inj hm
        refine retOK (bs' := []) [] (.p (vb true)) (by kernel_rfl) ?_ ?_
        · rfl
        · rfl
  ·
    rcases Bool.eq_false_or_eq_true (((p0.size : Nat) : Int) == 0) with h1 | h1
    ·
      replace hm := if_t h1 hm
      refine DW.regE Tgood mixed hnt [.no, .no, .no, .no, .skip, .skip, .skip, .pk true, .no, .skip, .skip, .skip, .pk true] [0, 17] []
        [(0, .p (vs p0)), (17, .p (vb true))]
        []
        [((((p0.size : Nat) : Int) == 0) = true), ((((p0.size : Nat) : Int) == 0) = true), ((((p0.size : Nat) : Int) == 0) = true), ((((p0.size : Nat) : Int) == 0) = true), (true = true), (true = true), (true = true), (true = true)] (by kernel_rfl) ⟨h1, h1, h1, h1, rfl, rfl, rfl, rfl, trivial⟩ ?_
      exact joinDone true hm .refl
    ·
      replace hm := if_f h1 hm
      rcases Bool.eq_false_or_eq_true (decide (((p0.size : Nat) : Int) > 32)) with h2 | h2
      ·
        replace hm := if_t h2 hm
        refine DW.regE Tgood mixed hnt [.no, .no, .no, .no, .no, .no, .no, .pk false, .no, .skip, .skip, .skip, .pk true] [0, 17] []
          [(0, .p (vs p0)), (17, .p (vb true))]
          []
          [((((p0.size : Nat) : Int) == 0) = false), ((((p0.size : Nat) : Int) == 0) = false), ((((p0.size : Nat) : Int) == 0) = false), ((((p0.size : Nat) : Int) == 0) = false), ((decide (((p0.size : Nat) : Int) > 32)) = true), ((decide (((p0.size : Nat) : Int) > 32)) = true), ((decide (((p0.size : Nat) : Int) > 32)) = true), ((decide (((p0.size : Nat) : Int) > 32)) = true)] (by kernel_rfl) ⟨h1, h1, h1, h1, h2, h2, h2, h2, trivial⟩ ?_
        exact joinDone true hm .refl
      ·
        replace hm := if_f h2 hm
        obtain ⟨g3, hm⟩ := guard_open hm
        refine DW.regE Tgood mixed hnt [.no, .no, .no, .no, .no, .no, .no, .pk false, .no, .no, .no, .no, .pk false] [0, 17] []
          [(0, .p (vs p0)), (17, .p (vb ((((byteAt p0 0) : Nat) : Int) == 45)))]
          []
          [((((p0.size : Nat) : Int) == 0) = false), ((((p0.size : Nat) : Int) == 0) = false), ((((p0.size : Nat) : Int) == 0) = false), ((((p0.size : Nat) : Int) == 0) = false), ((decide (((p0.size : Nat) : Int) > 32)) = false), ((decide (((p0.size : Nat) : Int) > 32)) = false), ((0 : Int) ≤ 0), (0 < ((p0.size : Nat) : Int)), ((decide (((p0.size : Nat) : Int) > 32)) = false), ((decide (((p0.size : Nat) : Int) > 32)) = false)] (by kernel_rfl) ⟨h1, h1, h1, h1, h2, h2, (by omega), (by omega), h2, h2, trivial⟩ ?_
        exact joinDone ((((byteAt p0 0) : Nat) : Int) == 45) hm .refl
end Go.Dm

/- Go functions compute their models, printed by a program. -/
namespace Go.Dm
open Go.Proofs
set_option linter.unusedVariables false
theorem ref5_node_spec (p0 : Tree) (p1 : Int) (RES : Bool) (hm : ref5_node p0 p1 = some RES) : Spec Try.prog 76 [.p (.agg [slOf 6 encNode (default : Node) p0.nodes, vi p0.next]), .p (vi p1)] [] (.p (vb RES)) [] [] := by
  unfold ref5_node at hm
  refine spec_of Tgood (T := Tt) Try.func76 (by decide) (c := _) rfl rfl (sl := [(0, .p (.agg [slOf 6 encNode (default : Node) p0.nodes, vi p0.next])), (1, .p (vi p1))]) (ob := []) (Nat.le_of_ble_eq_true rfl) (Nat.le_of_ble_eq_true rfl) (by kernel_rfl) (by kernel_rfl) ?_
  intro cx hnt
  refine DW.start ?_
  refine DW.seq ?_
  refine DW.regE Tgood mixed hnt [.no, .no] [1, 2] [1016]
    [(1, .p (vi p1)), (2, .ref 1016 0 0)]
    [(1016, ⟨0, .box [.p (slOf 6 encNode (default : Node) p0.nodes), .p (vi p0.next)]⟩)]
    [] (by kernel_rfl) trivial ?_
  refine DW.seq ?_
  obtain ⟨g1, hm⟩ := guard_open hm
  refine DW.regE Tgood mixed hnt [.no, .no, .no, .no, .no, .no, .no] [1, 2, 5] [1016, 1040]
    [(1, .p (vi p1)), (2, .ref 1016 0 0), (5, .ref 1040 0 0)]
    [(1016, ⟨0, .box [.p (slOf 6 encNode (default : Node) p0.nodes), .p (vi p0.next)]⟩), (1040, ⟨0, .box [.p (vi (p0.nodes.getD (Int.toNat p1) (default : Node)).id), .p (vi (p0.nodes.getD (Int.toNat p1) (default : Node)).parent), .p (vs (p0.nodes.getD (Int.toNat p1) (default : Node)).name), .p (vi (p0.nodes.getD (Int.toNat p1) (default : Node)).control), .p (vi (p0.nodes.getD (Int.toNat p1) (default : Node)).kind), .p (vi (p0.nodes.getD (Int.toNat p1) (default : Node)).owner)]⟩)]
    [((0 : Int) ≤ p1), (p1 < ((p0.nodes.length : Nat) : Int))] (by kernel_rfl) ⟨g1.1, g1.2, trivial⟩ ?_
  refine DW.seq ?_
  refine DW.seq ?_
  refine DW.regJ (sl2 := [(1, .p (vi p1)), (2, .ref 1016 0 0), (5, .ref 1040 0 0), (40, .p (vb (((((((p0.nodes.getD (Int.toNat p1) (default : Node)).kind != 0) && ((p0.nodes.getD (Int.toNat p1) (default : Node)).kind != 1)) || (decide ((p0.nodes.getD (Int.toNat p1) (default : Node)).control < 0))) || (decide ((p0.nodes.getD (Int.toNat p1) (default : Node)).control > 31))) || (decide ((p0.nodes.getD (Int.toNat p1) (default : Node)).owner < 0))) || (decide ((p0.nodes.getD (Int.toNat p1) (default : Node)).owner > 1048576)))))]) (ob2 := [(1016, ⟨0, .box [.p (slOf 6 encNode (default : Node) p0.nodes), .p (vi p0.next)]⟩), (1040, ⟨0, .box [.p (vi (p0.nodes.getD (Int.toNat p1) (default : Node)).id), .p (vi (p0.nodes.getD (Int.toNat p1) (default : Node)).parent), .p (vs (p0.nodes.getD (Int.toNat p1) (default : Node)).name), .p (vi (p0.nodes.getD (Int.toNat p1) (default : Node)).control), .p (vi (p0.nodes.getD (Int.toNat p1) (default : Node)).kind), .p (vi (p0.nodes.getD (Int.toNat p1) (default : Node)).owner)]⟩)]) ?_ ?_
  ·
    rcases Bool.eq_false_or_eq_true ((p0.nodes.getD (Int.toNat p1) (default : Node)).kind != 0) with h2 | h2
    ·
      rcases Bool.eq_false_or_eq_true ((p0.nodes.getD (Int.toNat p1) (default : Node)).kind != 1) with h3 | h3
      ·
        exact RegTo.mk Tgood mixed hnt [.no, .no, .no, .no, .no, .no, .no, .pk true, .no, .skip, .skip, .skip, .pk true, .no, .skip, .skip, .skip, .pk true, .no, .skip, .skip, .skip, .pk true, .no, .skip, .skip, .skip, .pk true] [1, 2, 5, 40] [1016, 1040]
          [(1, .p (vi p1)), (2, .ref 1016 0 0), (5, .ref 1040 0 0), (40, .p (vb true))]
          [(1, .p (vi p1)), (2, .ref 1016 0 0), (5, .ref 1040 0 0), (40, .p (vb (((((((p0.nodes.getD (Int.toNat p1) (default : Node)).kind != 0) && ((p0.nodes.getD (Int.toNat p1) (default : Node)).kind != 1)) || (decide ((p0.nodes.getD (Int.toNat p1) (default : Node)).control < 0))) || (decide ((p0.nodes.getD (Int.toNat p1) (default : Node)).control > 31))) || (decide ((p0.nodes.getD (Int.toNat p1) (default : Node)).owner < 0))) || (decide ((p0.nodes.getD (Int.toNat p1) (default : Node)).owner > 1048576)))))]
          [(1016, ⟨0, .box [.p (slOf 6 encNode (default : Node) p0.nodes), .p (vi p0.next)]⟩), (1040, ⟨0, .box [.p (vi (p0.nodes.getD (Int.toNat p1) (default : Node)).id), .p (vi (p0.nodes.getD (Int.toNat p1) (default : Node)).parent), .p (vs (p0.nodes.getD (Int.toNat p1) (default : Node)).name), .p (vi (p0.nodes.getD (Int.toNat p1) (default : Node)).control), .p (vi (p0.nodes.getD (Int.toNat p1) (default : Node)).kind), .p (vi (p0.nodes.getD (Int.toNat p1) (default : Node)).owner)]⟩)]
          [(1016, ⟨0, .box [.p (slOf 6 encNode (default : Node) p0.nodes), .p (vi p0.next)]⟩), (1040, ⟨0, .box [.p (vi (p0.nodes.getD (Int.toNat p1) (default : Node)).id), .p (vi (p0.nodes.getD (Int.toNat p1) (default : Node)).parent), .p (vs (p0.nodes.getD (Int.toNat p1) (default : Node)).name), .p (vi (p0.nodes.getD (Int.toNat p1) (default : Node)).control), .p (vi (p0.nodes.getD (Int.toNat p1) (default : Node)).kind), .p (vi (p0.nodes.getD (Int.toNat p1) (default : Node)).owner)]⟩)]
          [(((p0.nodes.getD (Int.toNat p1) (default : Node)).kind != 0) = true), (((p0.nodes.getD (Int.toNat p1) (default : Node)).kind != 0) = true), (((p0.nodes.getD (Int.toNat p1) (default : Node)).kind != 0) = true), (((p0.nodes.getD (Int.toNat p1) (default : Node)).kind != 0) = true), (((p0.nodes.getD (Int.toNat p1) (default : Node)).kind != 1) = true), (((p0.nodes.getD (Int.toNat p1) (default : Node)).kind != 1) = true), (((p0.nodes.getD (Int.toNat p1) (default : Node)).kind != 1) = true), (((p0.nodes.getD (Int.toNat p1) (default : Node)).kind != 1) = true), (true = true), (true = true), (true = true), (true = true), (true = true), (true = true), (true = true), (true = true), (true = true), (true = true), (true = true), (true = true)] (by kernel_rfl) ⟨h2, h2, h2, h2, h3, h3, h3, h3, rfl, rfl, rfl, rfl, rfl, rfl, rfl, rfl, rfl, rfl, rfl, rfl, trivial⟩ (.cons .rfl (.cons .rfl (.cons .rfl (.cons (.of_eq (by first | (rw [h2, h3]; done) | (rw [h2, h3]; rfl) | simp [h2, h3])) .rfl)))) .rfl
      ·
        rcases Bool.eq_false_or_eq_true (decide ((p0.nodes.getD (Int.toNat p1) (default : Node)).control < 0)) with h4 | h4
        ·
          exact RegTo.mk Tgood mixed hnt [.no, .no, .no, .no, .no, .no, .no, .pk true, .no, .no, .no, .no, .pk false, .no, .skip, .skip, .skip, .pk true, .no, .skip, .skip, .skip, .pk true, .no, .skip, .skip, .skip, .pk true] [1, 2, 5, 40] [1016, 1040]
            [(1, .p (vi p1)), (2, .ref 1016 0 0), (5, .ref 1040 0 0), (40, .p (vb true))]
            [(1, .p (vi p1)), (2, .ref 1016 0 0), (5, .ref 1040 0 0), (40, .p (vb (((((((p0.nodes.getD (Int.toNat p1) (default : Node)).kind != 0) && ((p0.nodes.getD (Int.toNat p1) (default : Node)).kind != 1)) || (decide ((p0.nodes.getD (Int.toNat p1) (default : Node)).control < 0))) || (decide ((p0.nodes.getD (Int.toNat p1) (default : Node)).control > 31))) || (decide ((p0.nodes.getD (Int.toNat p1) (default : Node)).owner < 0))) || (decide ((p0.nodes.getD (Int.toNat p1) (default : Node)).owner > 1048576)))))]
            [(1016, ⟨0, .box [.p (slOf 6 encNode (default : Node) p0.nodes), .p (vi p0.next)]⟩), (1040, ⟨0, .box [.p (vi (p0.nodes.getD (Int.toNat p1) (default : Node)).id), .p (vi (p0.nodes.getD (Int.toNat p1) (default : Node)).parent), .p (vs (p0.nodes.getD (Int.toNat p1) (default : Node)).name), .p (vi (p0.nodes.getD (Int.toNat p1) (default : Node)).control), .p (vi (p0.nodes.getD (Int.toNat p1) (default : Node)).kind), .p (vi (p0.nodes.getD (Int.toNat p1) (default : Node)).owner)]⟩)]
            [(1016, ⟨0, .box [.p (slOf 6 encNode (default : Node) p0.nodes), .p (vi p0.next)]⟩), (1040, ⟨0, .box [.p (vi (p0.nodes.getD (Int.toNat p1) (default : Node)).id), .p (vi (p0.nodes.getD (Int.toNat p1) (default : Node)).parent), .p (vs (p0.nodes.getD (Int.toNat p1) (default : Node)).name), .p (vi (p0.nodes.getD (Int.toNat p1) (default : Node)).control), .p (vi (p0.nodes.getD (Int.toNat p1) (default : Node)).kind), .p (vi (p0.nodes.getD (Int.toNat p1) (default : Node)).owner)]⟩)]
            [(((p0.nodes.getD (Int.toNat p1) (default : Node)).kind != 0) = true), (((p0.nodes.getD (Int.toNat p1) (default : Node)).kind != 0) = true), (((p0.nodes.getD (Int.toNat p1) (default : Node)).kind != 0) = true), (((p0.nodes.getD (Int.toNat p1) (default : Node)).kind != 0) = true), (((p0.nodes.getD (Int.toNat p1) (default : Node)).kind != 1) = false), (((p0.nodes.getD (Int.toNat p1) (default : Node)).kind != 1) = false), (((p0.nodes.getD (Int.toNat p1) (default : Node)).kind != 1) = false), (((p0.nodes.getD (Int.toNat p1) (default : Node)).kind != 1) = false), ((decide ((p0.nodes.getD (Int.toNat p1) (default : Node)).control < 0)) = true), ((decide ((p0.nodes.getD (Int.toNat p1) (default : Node)).control < 0)) = true), ((decide ((p0.nodes.getD (Int.toNat p1) (default : Node)).control < 0)) = true), ((decide ((p0.nodes.getD (Int.toNat p1) (default : Node)).control < 0)) = true), (true = true), (true = true), (true = true), (true = true), (true = true), (true = true), (true = true), (true = true)] (by kernel_rfl) ⟨h2, h2, h2, h2, h3, h3, h3, h3, h4, h4, h4, h4, rfl, rfl, rfl, rfl, rfl, rfl, rfl, rfl, trivial⟩ (.cons .rfl (.cons .rfl (.cons .rfl (.cons (.of_eq (by first | (rw [h2, h3, h4]; done) | (rw [h2, h3, h4]; rfl) | simp [h2, h3, h4])) .rfl)))) .rfl
        ·
          rcases Bool.eq_false_or_eq_true (decide ((p0.nodes.getD (Int.toNat p1) (default : Node)).control > 31)) with h5 | h5
          ·
            exact RegTo.mk Tgood mixed hnt [.no, .no, .no, .no, .no, .no, .no, .pk true, .no, .no, .no, .no, .pk false, .no, .no, .no, .no, .pk false, .no, .skip, .skip, .skip, .pk true, .no, .skip, .skip, .skip, .pk true] [1, 2, 5, 40] [1016, 1040]
              [(1, .p (vi p1)), (2, .ref 1016 0 0), (5, .ref 1040 0 0), (40, .p (vb true))]
              [(1, .p (vi p1)), (2, .ref 1016 0 0), (5, .ref 1040 0 0), (40, .p (vb (((((((p0.nodes.getD (Int.toNat p1) (default : Node)).kind != 0) && ((p0.nodes.getD (Int.toNat p1) (default : Node)).kind != 1)) || (decide ((p0.nodes.getD (Int.toNat p1) (default : Node)).control < 0))) || (decide ((p0.nodes.getD (Int.toNat p1) (default : Node)).control > 31))) || (decide ((p0.nodes.getD (Int.toNat p1) (default : Node)).owner < 0))) || (decide ((p0.nodes.getD (Int.toNat p1) (default : Node)).owner > 1048576)))))]
              [(1016, ⟨0, .box [.p (slOf 6 encNode (default : Node) p0.nodes), .p (vi p0.next)]⟩), (1040, ⟨0, .box [.p (vi (p0.nodes.getD (Int.toNat p1) (default : Node)).id), .p (vi (p0.nodes.getD (Int.toNat p1) (default : Node)).parent), .p (vs (p0.nodes.getD (Int.toNat p1) (default : Node)).name), .p (vi (p0.nodes.getD (Int.toNat p1) (default : Node)).control), .p (vi (p0.nodes.getD (Int.toNat p1) (default : Node)).kind), .p (vi (p0.nodes.getD (Int.toNat p1) (default : Node)).owner)]⟩)]
              [(1016, ⟨0, .box [.p (slOf 6 encNode (default : Node) p0.nodes), .p (vi p0.next)]⟩), (1040, ⟨0, .box [.p (vi (p0.nodes.getD (Int.toNat p1) (default : Node)).id), .p (vi (p0.nodes.getD (Int.toNat p1) (default : Node)).parent), .p (vs (p0.nodes.getD (Int.toNat p1) (default : Node)).name), .p (vi (p0.nodes.getD (Int.toNat p1) (default : Node)).control), .p (vi (p0.nodes.getD (Int.toNat p1) (default : Node)).kind), .p (vi (p0.nodes.getD (Int.toNat p1) (default : Node)).owner)]⟩)]
              [(((p0.nodes.getD (Int.toNat p1) (default : Node)).kind != 0) = true), (((p0.nodes.getD (Int.toNat p1) (default : Node)).kind != 0) = true), (((p0.nodes.getD (Int.toNat p1) (default : Node)).kind != 0) = true), (((p0.nodes.getD (Int.toNat p1) (default : Node)).kind != 0) = true), (((p0.nodes.getD (Int.toNat p1) (default : Node)).kind != 1) = false), (((p0.nodes.getD (Int.toNat p1) (default : Node)).kind != 1) = false), (((p0.nodes.getD (Int.toNat p1) (default : Node)).kind != 1) = false), (((p0.nodes.getD (Int.toNat p1) (default : Node)).kind != 1) = false), ((decide ((p0.nodes.getD (Int.toNat p1) (default : Node)).control < 0)) = false), ((decide ((p0.nodes.getD (Int.toNat p1) (default : Node)).control < 0)) = false), ((decide ((p0.nodes.getD (Int.toNat p1) (default : Node)).control < 0)) = false), ((decide ((p0.nodes.getD (Int.toNat p1) (default : Node)).control < 0)) = false), ((decide ((p0.nodes.getD (Int.toNat p1) (default : Node)).control > 31)) = true), ((decide ((p0.nodes.getD (Int.toNat p1) (default : Node)).control > 31)) = true), ((decide ((p0.nodes.getD (Int.toNat p1) (default : Node)).control > 31)) = true), ((decide ((p0.nodes.getD (Int.toNat p1) (default : Node)).control > 31)) = true), (true = true), (true = true), (true = true), (true = true)] (by kernel_rfl) ⟨h2, h2, h2, h2, h3, h3, h3, h3, h4, h4, h4, h4, h5, h5, h5, h5, rfl, rfl, rfl, rfl, trivial⟩ (.cons .rfl (.cons .rfl (.cons .rfl (.cons (.of_eq (by first | (rw [h2, h3, h4, h5]; done) | (rw [h2, h3, h4, h5]; rfl) | simp [h2, h3, h4, h5])) .rfl)))) .rfl
          ·
            rcases Bool.eq_false_or_eq_true (decide ((p0.nodes.getD (Int.toNat p1) (default : Node)).owner < 0)) with h6 | h6
            ·
              exact RegTo.mk Tgood mixed hnt [.no, .no, .no, .no, .no, .no, .no, .pk true, .no, .no, .no, .no, .pk false, .no, .no, .no, .no, .pk false, .no, .no, .no, .no, .pk false, .no, .skip, .skip, .skip, .pk true] [1, 2, 5, 40] [1016, 1040]
                [(1, .p (vi p1)), (2, .ref 1016 0 0), (5, .ref 1040 0 0), (40, .p (vb true))]
                [(1, .p (vi p1)), (2, .ref 1016 0 0), (5, .ref 1040 0 0), (40, .p (vb (((((((p0.nodes.getD (Int.toNat p1) (default : Node)).kind != 0) && ((p0.nodes.getD (Int.toNat p1) (default : Node)).kind != 1)) || (decide ((p0.nodes.getD (Int.toNat p1) (default : Node)).control < 0))) || (decide ((p0.nodes.getD (Int.toNat p1) (default : Node)).control > 31))) || (decide ((p0.nodes.getD (Int.toNat p1) (default : Node)).owner < 0))) || (decide ((p0.nodes.getD (Int.toNat p1) (default : Node)).owner > 1048576)))))]
                [(1016, ⟨0, .box [.p (slOf 6 encNode (default : Node) p0.nodes), .p (vi p0.next)]⟩), (1040, ⟨0, .box [.p (vi (p0.nodes.getD (Int.toNat p1) (default : Node)).id), .p (vi (p0.nodes.getD (Int.toNat p1) (default : Node)).parent), .p (vs (p0.nodes.getD (Int.toNat p1) (default : Node)).name), .p (vi (p0.nodes.getD (Int.toNat p1) (default : Node)).control), .p (vi (p0.nodes.getD (Int.toNat p1) (default : Node)).kind), .p (vi (p0.nodes.getD (Int.toNat p1) (default : Node)).owner)]⟩)]
                [(1016, ⟨0, .box [.p (slOf 6 encNode (default : Node) p0.nodes), .p (vi p0.next)]⟩), (1040, ⟨0, .box [.p (vi (p0.nodes.getD (Int.toNat p1) (default : Node)).id), .p (vi (p0.nodes.getD (Int.toNat p1) (default : Node)).parent), .p (vs (p0.nodes.getD (Int.toNat p1) (default : Node)).name), .p (vi (p0.nodes.getD (Int.toNat p1) (default : Node)).control), .p (vi (p0.nodes.getD (Int.toNat p1) (default : Node)).kind), .p (vi (p0.nodes.getD (Int.toNat p1) (default : Node)).owner)]⟩)]
                [(((p0.nodes.getD (Int.toNat p1) (default : Node)).kind != 0) = true), (((p0.nodes.getD (Int.toNat p1) (default : Node)).kind != 0) = true), (((p0.nodes.getD (Int.toNat p1) (default : Node)).kind != 0) = true), (((p0.nodes.getD (Int.toNat p1) (default : Node)).kind != 0) = true), (((p0.nodes.getD (Int.toNat p1) (default : Node)).kind != 1) = false), (((p0.nodes.getD (Int.toNat p1) (default : Node)).kind != 1) = false), (((p0.nodes.getD (Int.toNat p1) (default : Node)).kind != 1) = false), (((p0.nodes.getD (Int.toNat p1) (default : Node)).kind != 1) = false), ((decide ((p0.nodes.getD (Int.toNat p1) (default : Node)).control < 0)) = false), ((decide ((p0.nodes.getD (Int.toNat p1) (default : Node)).control < 0)) = false), ((decide ((p0.nodes.getD (Int.toNat p1) (default : Node)).control < 0)) = false), ((decide ((p0.nodes.getD (Int.toNat p1) (default : Node)).control < 0)) = false), ((decide ((p0.nodes.getD (Int.toNat p1) (default : Node)).control > 31)) = false), ((decide ((p0.nodes.getD (Int.toNat p1) (default : Node)).control > 31)) = false), ((decide ((p0.nodes.getD (Int.toNat p1) (default : Node)).control > 31)) = false), ((decide ((p0.nodes.getD (Int.toNat p1) (default : Node)).control > 31)) = false), ((decide ((p0.nodes.getD (Int.toNat p1) (default : Node)).owner < 0)) = true), ((decide ((p0.nodes.getD (Int.toNat p1) (default : Node)).owner < 0)) = true), ((decide ((p0.nodes.getD (Int.toNat p1) (default : Node)).owner < 0)) = true), ((decide ((p0.nodes.getD (Int.toNat p1) (default : Node)).owner < 0)) = true)] (by kernel_rfl) ⟨h2, h2, h2, h2, h3, h3, h3, h3, h4, h4, h4, h4, h5, h5, h5, h5, h6, h6, h6, h6, trivial⟩ (.cons .rfl (.cons .rfl (.cons .rfl (.cons (.of_eq (by first | (rw [h2, h3, h4, h5, h6]; done) | (rw [h2, h3, h4, h5, h6]; rfl) | simp [h2, h3, h4, h5, h6])) .rfl)))) .rfl
            ·
              exact RegTo.mk Tgood mixed hnt [.no, .no, .no, .no, .no, .no, .no, .pk true, .no, .no, .no, .no, .pk false, .no, .no, .no, .no, .pk false, .no, .no, .no, .no, .pk false, .no, .no, .no, .no, .pk false] [1, 2, 5, 40] [1016, 1040]
                [(1, .p (vi p1)), (2, .ref 1016 0 0), (5, .ref 1040 0 0), (40, .p (vb (decide ((p0.nodes.getD (Int.toNat p1) (default : Node)).owner > 1048576))))]
                [(1, .p (vi p1)), (2, .ref 1016 0 0), (5, .ref 1040 0 0), (40, .p (vb (((((((p0.nodes.getD (Int.toNat p1) (default : Node)).kind != 0) && ((p0.nodes.getD (Int.toNat p1) (default : Node)).kind != 1)) || (decide ((p0.nodes.getD (Int.toNat p1) (default : Node)).control < 0))) || (decide ((p0.nodes.getD (Int.toNat p1) (default : Node)).control > 31))) || (decide ((p0.nodes.getD (Int.toNat p1) (default : Node)).owner < 0))) || (decide ((p0.nodes.getD (Int.toNat p1) (default : Node)).owner > 1048576)))))]
                [(1016, ⟨0, .box [.p (slOf 6 encNode (default : Node) p0.nodes), .p (vi p0.next)]⟩), (1040, ⟨0, .box [.p (vi (p0.nodes.getD (Int.toNat p1) (default : Node)).id), .p (vi (p0.nodes.getD (Int.toNat p1) (default : Node)).parent), .p (vs (p0.nodes.getD (Int.toNat p1) (default : Node)).name), .p (vi (p0.nodes.getD (Int.toNat p1) (default : Node)).control), .p (vi (p0.nodes.getD (Int.toNat p1) (default : Node)).kind), .p (vi (p0.nodes.getD (Int.toNat p1) (default : Node)).owner)]⟩)]
                [(1016, ⟨0, .box [.p (slOf 6 encNode (default : Node) p0.nodes), .p (vi p0.next)]⟩), (1040, ⟨0, .box [.p (vi (p0.nodes.getD (Int.toNat p1) (default : Node)).id), .p (vi (p0.nodes.getD (Int.toNat p1) (default : Node)).parent), .p (vs (p0.nodes.getD (Int.toNat p1) (default : Node)).name), .p (vi (p0.nodes.getD (Int.toNat p1) (default : Node)).control), .p (vi (p0.nodes.getD (Int.toNat p1) (default : Node)).kind), .p (vi (p0.nodes.getD (Int.toNat p1) (default : Node)).owner)]⟩)]
                [(((p0.nodes.getD (Int.toNat p1) (default : Node)).kind != 0) = true), (((p0.nodes.getD (Int.toNat p1) (default : Node)).kind != 0) = true), (((p0.nodes.getD (Int.toNat p1) (default : Node)).kind != 0) = true), (((p0.nodes.getD (Int.toNat p1) (default : Node)).kind != 0) = true), (((p0.nodes.getD (Int.toNat p1) (default : Node)).kind != 1) = false), (((p0.nodes.getD (Int.toNat p1) (default : Node)).kind != 1) = false), (((p0.nodes.getD (Int.toNat p1) (default : Node)).kind != 1) = false), (((p0.nodes.getD (Int.toNat p1) (default : Node)).kind != 1) = false), ((decide ((p0.nodes.getD (Int.toNat p1) (default : Node)).control < 0)) = false), ((decide ((p0.nodes.getD (Int.toNat p1) (default : Node)).control < 0)) = false), ((decide ((p0.nodes.getD (Int.toNat p1) (default : Node)).control < 0)) = false), ((decide ((p0.nodes.getD (Int.toNat p1) (default : Node)).control < 0)) = false), ((decide ((p0.nodes.getD (Int.toNat p1) (default : Node)).control > 31)) = false), ((decide ((p0.nodes.getD (Int.toNat p1) (default : Node)).control > 31)) = false), ((decide ((p0.nodes.getD (Int.toNat p1) (default : Node)).control > 31)) = false), ((decide ((p0.nodes.getD (Int.toNat p1) (default : Node)).control > 31)) = false), ((decide ((p0.nodes.getD (Int.toNat p1) (default : Node)).owner < 0)) = false), ((decide ((p0.nodes.getD (Int.toNat p1) (default : Node)).owner < 0)) = false), ((decide ((p0.nodes.getD (Int.toNat p1) (default : Node)).owner < 0)) = false), ((decide ((p0.nodes.getD (Int.toNat p1) (default : Node)).owner < 0)) = false)] (by kernel_rfl) ⟨h2, h2, h2, h2, h3, h3, h3, h3, h4, h4, h4, h4, h5, h5, h5, h5, h6, h6, h6, h6, trivial⟩ (.cons .rfl (.cons .rfl (.cons .rfl (.cons (.of_eq (by first | (rw [h2, h3, h4, h5, h6]; done) | (rw [h2, h3, h4, h5, h6]; rfl) | simp [h2, h3, h4, h5, h6])) .rfl)))) .rfl
    ·
      rcases Bool.eq_false_or_eq_true (decide ((p0.nodes.getD (Int.toNat p1) (default : Node)).control < 0)) with h7 | h7
      ·
        exact RegTo.mk Tgood mixed hnt [.no, .no, .no, .no, .skip, .skip, .skip, .pk false, .no, .no, .no, .no, .pk false, .no, .skip, .skip, .skip, .pk true, .no, .skip, .skip, .skip, .pk true, .no, .skip, .skip, .skip, .pk true] [1, 2, 5, 40] [1016, 1040]
          [(1, .p (vi p1)), (2, .ref 1016 0 0), (5, .ref 1040 0 0), (40, .p (vb true))]
          [(1, .p (vi p1)), (2, .ref 1016 0 0), (5, .ref 1040 0 0), (40, .p (vb (((((((p0.nodes.getD (Int.toNat p1) (default : Node)).kind != 0) && ((p0.nodes.getD (Int.toNat p1) (default : Node)).kind != 1)) || (decide ((p0.nodes.getD (Int.toNat p1) (default : Node)).control < 0))) || (decide ((p0.nodes.getD (Int.toNat p1) (default : Node)).control > 31))) || (decide ((p0.nodes.getD (Int.toNat p1) (default : Node)).owner < 0))) || (decide ((p0.nodes.getD (Int.toNat p1) (default : Node)).owner > 1048576)))))]
          [(1016, ⟨0, .box [.p (slOf 6 encNode (default : Node) p0.nodes), .p (vi p0.next)]⟩), (1040, ⟨0, .box [.p (vi (p0.nodes.getD (Int.toNat p1) (default : Node)).id), .p (vi (p0.nodes.getD (Int.toNat p1) (default : Node)).parent), .p (vs (p0.nodes.getD (Int.toNat p1) (default : Node)).name), .p (vi (p0.nodes.getD (Int.toNat p1) (default : Node)).control), .p (vi (p0.nodes.getD (Int.toNat p1) (default : Node)).kind), .p (vi (p0.nodes.getD (Int.toNat p1) (default : Node)).owner)]⟩)]
          [(1016, ⟨0, .box [.p (slOf 6 encNode (default : Node) p0.nodes), .p (vi p0.next)]⟩), (1040, ⟨0, .box [.p (vi (p0.nodes.getD (Int.toNat p1) (default : Node)).id), .p (vi (p0.nodes.getD (Int.toNat p1) (default : Node)).parent), .p (vs (p0.nodes.getD (Int.toNat p1) (default : Node)).name), .p (vi (p0.nodes.getD (Int.toNat p1) (default : Node)).control), .p (vi (p0.nodes.getD (Int.toNat p1) (default : Node)).kind), .p (vi (p0.nodes.getD (Int.toNat p1) (default : Node)).owner)]⟩)]
          [(((p0.nodes.getD (Int.toNat p1) (default : Node)).kind != 0) = false), (((p0.nodes.getD (Int.toNat p1) (default : Node)).kind != 0) = false), (((p0.nodes.getD (Int.toNat p1) (default : Node)).kind != 0) = false), (((p0.nodes.getD (Int.toNat p1) (default : Node)).kind != 0) = false), (false = false), (false = false), (false = false), (false = false), ((decide ((p0.nodes.getD (Int.toNat p1) (default : Node)).control < 0)) = true), ((decide ((p0.nodes.getD (Int.toNat p1) (default : Node)).control < 0)) = true), ((decide ((p0.nodes.getD (Int.toNat p1) (default : Node)).control < 0)) = true), ((decide ((p0.nodes.getD (Int.toNat p1) (default : Node)).control < 0)) = true), (true = true), (true = true), (true = true), (true = true), (true = true), (true = true), (true = true), (true = true)] (by kernel_rfl) ⟨h2, h2, h2, h2, rfl, rfl, rfl, rfl, h7, h7, h7, h7, rfl, rfl, rfl, rfl, rfl, rfl, rfl, rfl, trivial⟩ (.cons .rfl (.cons .rfl (.cons .rfl (.cons (.of_eq (by first | (rw [h2, h7]; done) | (rw [h2, h7]; rfl) | simp [h2, h7])) .rfl)))) .rfl
      ·
        rcases Bool.eq_false_or_eq_true (decide ((p0.nodes.getD (Int.toNat p1) (default : Node)).control > 31)) with h8 | h8
        ·
          exact RegTo.mk Tgood mixed hnt [.no, .no, .no, .no, .skip, .skip, .skip, .pk false, .no, .no, .no, .no, .pk false, .no, .no, .no, .no, .pk false, .no, .skip, .skip, .skip, .pk true, .no, .skip, .skip, .skip, .pk true] [1, 2, 5, 40] [1016, 1040]
            [(1, .p (vi p1)), (2, .ref 1016 0 0), (5, .ref 1040 0 0), (40, .p (vb true))]
            [(1, .p (vi p1)), (2, .ref 1016 0 0), (5, .ref 1040 0 0), (40, .p (vb (((((((p0.nodes.getD (Int.toNat p1) (default : Node)).kind != 0) && ((p0.nodes.getD (Int.toNat p1) (default : Node)).kind != 1)) || (decide ((p0.nodes.getD (Int.toNat p1) (default : Node)).control < 0))) || (decide ((p0.nodes.getD (Int.toNat p1) (default : Node)).control > 31))) || (decide ((p0.nodes.getD (Int.toNat p1) (default : Node)).owner < 0))) || (decide ((p0.nodes.getD (Int.toNat p1) (default : Node)).owner > 1048576)))))]
            [(1016, ⟨0, .box [.p (slOf 6 encNode (default : Node) p0.nodes), .p (vi p0.next)]⟩), (1040, ⟨0, .box [.p (vi (p0.nodes.getD (Int.toNat p1) (default : Node)).id), .p (vi (p0.nodes.getD (Int.toNat p1) (default : Node)).parent), .p (vs (p0.nodes.getD (Int.toNat p1) (default : Node)).name), .p (vi (p0.nodes.getD (Int.toNat p1) (default : Node)).control), .p (vi (p0.nodes.getD (Int.toNat p1) (default : Node)).kind), .p (vi (p0.nodes.getD (Int.toNat p1) (default : Node)).owner)]⟩)]
            [(1016, ⟨0, .box [.p (slOf 6 encNode (default : Node) p0.nodes), .p (vi p0.next)]⟩), (1040, ⟨0, .box [.p (vi (p0.nodes.getD (Int.toNat p1) (default : Node)).id), .p (vi (p0.nodes.getD (Int.toNat p1) (default : Node)).parent), .p (vs (p0.nodes.getD (Int.toNat p1) (default : Node)).name), .p (vi (p0.nodes.getD (Int.toNat p1) (default : Node)).control), .p (vi (p0.nodes.getD (Int.toNat p1) (default : Node)).kind), .p (vi (p0.nodes.getD (Int.toNat p1) (default : Node)).owner)]⟩)]
            [(((p0.nodes.getD (Int.toNat p1) (default : Node)).kind != 0) = false), (((p0.nodes.getD (Int.toNat p1) (default : Node)).kind != 0) = false), (((p0.nodes.getD (Int.toNat p1) (default : Node)).kind != 0) = false), (((p0.nodes.getD (Int.toNat p1) (default : Node)).kind != 0) = false), (false = false), (false = false), (false = false), (false = false), ((decide ((p0.nodes.getD (Int.toNat p1) (default : Node)).control < 0)) = false), ((decide ((p0.nodes.getD (Int.toNat p1) (default : Node)).control < 0)) = false), ((decide ((p0.nodes.getD (Int.toNat p1) (default : Node)).control < 0)) = false), ((decide ((p0.nodes.getD (Int.toNat p1) (default : Node)).control < 0)) = false), ((decide ((p0.nodes.getD (Int.toNat p1) (default : Node)).control > 31)) = true), ((decide ((p0.nodes.getD (Int.toNat p1) (default : Node)).control > 31)) = true), ((decide ((p0.nodes.getD (Int.toNat p1) (default : Node)).control > 31)) = true), ((decide ((p0.nodes.getD (Int.toNat p1) (default : Node)).control > 31)) = true), (true = true), (true = true), (true = true), (true = true)] (by kernel_rfl) ⟨h2, h2, h2, h2, rfl, rfl, rfl, rfl, h7, h7, h7, h7, h8, h8, h8, h8, rfl, rfl, rfl, rfl, trivial⟩ (.cons .rfl (.cons .rfl (.cons .rfl (.cons (.of_eq (by first | (rw [h2, h7, h8]; done) | (rw [h2, h7, h8]; rfl) | simp [h2, h7, h8])) .rfl)))) .rfl
        ·
          rcases Bool.eq_false_or_eq_true (decide ((p0.nodes.getD (Int.toNat p1) (default : Node)).owner < 0)) with h9 | h9
          ·
            exact RegTo.mk Tgood mixed hnt [.no, .no, .no, .no, .skip, .skip, .skip, .pk false, .no, .no, .no, .no, .pk false, .no, .no, .no, .no, .pk false, .no, .no, .no, .no, .pk false, .no, .skip, .skip, .skip, .pk true] [1, 2, 5, 40] [1016, 1040]
              [(1, .p (vi p1)), (2, .ref 1016 0 0), (5, .ref 1040 0 0), (40, .p (vb true))]
              [(1, .p (vi p1)), (2, .ref 1016 0 0), (5, .ref 1040 0 0), (40, .p (vb (((((((p0.nodes.getD (Int.toNat p1) (default : Node)).kind != 0) && ((p0.nodes.getD (Int.toNat p1) (default : Node)).kind != 1)) || (decide ((p0.nodes.getD (Int.toNat p1) (default : Node)).control < 0))) || (decide ((p0.nodes.getD (Int.toNat p1) (default : Node)).control > 31))) || (decide ((p0.nodes.getD (Int.toNat p1) (default : Node)).owner < 0))) || (decide ((p0.nodes.getD (Int.toNat p1) (default : Node)).owner > 1048576)))))]
              [(1016, ⟨0, .box [.p (slOf 6 encNode (default : Node) p0.nodes), .p (vi p0.next)]⟩), (1040, ⟨0, .box [.p (vi (p0.nodes.getD (Int.toNat p1) (default : Node)).id), .p (vi (p0.nodes.getD (Int.toNat p1) (default : Node)).parent), .p (vs (p0.nodes.getD (Int.toNat p1) (default : Node)).name), .p (vi (p0.nodes.getD (Int.toNat p1) (default : Node)).control), .p (vi (p0.nodes.getD (Int.toNat p1) (default : Node)).kind), .p (vi (p0.nodes.getD (Int.toNat p1) (default : Node)).owner)]⟩)]
              [(1016, ⟨0, .box [.p (slOf 6 encNode (default : Node) p0.nodes), .p (vi p0.next)]⟩), (1040, ⟨0, .box [.p (vi (p0.nodes.getD (Int.toNat p1) (default : Node)).id), .p (vi (p0.nodes.getD (Int.toNat p1) (default : Node)).parent), .p (vs (p0.nodes.getD (Int.toNat p1) (default : Node)).name), .p (vi (p0.nodes.getD (Int.toNat p1) (default : Node)).control), .p (vi (p0.nodes.getD (Int.toNat p1) (default : Node)).kind), .p (vi (p0.nodes.getD (Int.toNat p1) (default : Node)).owner)]⟩)]
              [(((p0.nodes.getD (Int.toNat p1) (default : Node)).kind != 0) = false), (((p0.nodes.getD (Int.toNat p1) (default : Node)).kind != 0) = false), (((p0.nodes.getD (Int.toNat p1) (default : Node)).kind != 0) = false), (((p0.nodes.getD (Int.toNat p1) (default : Node)).kind != 0) = false), (false = false), (false = false), (false = false), (false = false), ((decide ((p0.nodes.getD (Int.toNat p1) (default : Node)).control < 0)) = false), ((decide ((p0.nodes.getD (Int.toNat p1) (default : Node)).control < 0)) = false), ((decide ((p0.nodes.getD (Int.toNat p1) (default : Node)).control < 0)) = false), ((decide ((p0.nodes.getD (Int.toNat p1) (default : Node)).control < 0)) = false), ((decide ((p0.nodes.getD (Int.toNat p1) (default : Node)).control > 31)) = false), ((decide ((p0.nodes.getD (Int.toNat p1) (default : Node)).control > 31)) = false), ((decide ((p0.nodes.getD (Int.toNat p1) (default : Node)).control > 31)) = false), ((decide ((p0.nodes.getD (Int.toNat p1) (default : Node)).control > 31)) = false), ((decide ((p0.nodes.getD (Int.toNat p1) (default : Node)).owner < 0)) = true), ((decide ((p0.nodes.getD (Int.toNat p1) (default : Node)).owner < 0)) = true), ((decide ((p0.nodes.getD (Int.toNat p1) (default : Node)).owner < 0)) = true), ((decide ((p0.nodes.getD (Int.toNat p1) (default : Node)).owner < 0)) = true)] (by kernel_rfl) ⟨h2, h2, h2, h2, rfl, rfl, rfl, rfl, h7, h7, h7, h7, h8, h8, h8, h8, h9, h9, h9, h9, trivial⟩ (.cons .rfl (.cons .rfl (.cons .rfl (.cons (.of_eq (by first | (rw [h2, h7, h8, h9]; done) | (rw [h2, h7, h8, h9]; rfl) | simp [h2, h7, h8, h9])) .rfl)))) .rfl
          ·
            exact RegTo.mk Tgood mixed hnt [.no, .no, .no, .no, .skip, .skip, .skip, .pk false, .no, .no, .no, .no, .pk false, .no, .no, .no, .no, .pk false, .no, .no, .no, .no, .pk false, .no, .no, .no, .no, .pk false] [1, 2, 5, 40] [1016, 1040]
              [(1, .p (vi p1)), (2, .ref 1016 0 0), (5, .ref 1040 0 0), (40, .p (vb (decide ((p0.nodes.getD (Int.toNat p1) (default : Node)).owner > 1048576))))]
              [(1, .p (vi p1)), (2, .ref 1016 0 0), (5, .ref 1040 0 0), (40, .p (vb (((((((p0.nodes.getD (Int.toNat p1) (default : Node)).kind != 0) && ((p0.nodes.getD (Int.toNat p1) (default : Node)).kind != 1)) || (decide ((p0.nodes.getD (Int.toNat p1) (default : Node)).control < 0))) || (decide ((p0.nodes.getD (Int.toNat p1) (default : Node)).control > 31))) || (decide ((p0.nodes.getD (Int.toNat p1) (default : Node)).owner < 0))) || (decide ((p0.nodes.getD (Int.toNat p1) (default : Node)).owner > 1048576)))))]
              [(1016, ⟨0, .box [.p (slOf 6 encNode (default : Node) p0.nodes), .p (vi p0.next)]⟩), (1040, ⟨0, .box [.p (vi (p0.nodes.getD (Int.toNat p1) (default : Node)).id), .p (vi (p0.nodes.getD (Int.toNat p1) (default : Node)).parent), .p (vs (p0.nodes.getD (Int.toNat p1) (default : Node)).name), .p (vi (p0.nodes.getD (Int.toNat p1) (default : Node)).control), .p (vi (p0.nodes.getD (Int.toNat p1) (default : Node)).kind), .p (vi (p0.nodes.getD (Int.toNat p1) (default : Node)).owner)]⟩)]
              [(1016, ⟨0, .box [.p (slOf 6 encNode (default : Node) p0.nodes), .p (vi p0.next)]⟩), (1040, ⟨0, .box [.p (vi (p0.nodes.getD (Int.toNat p1) (default : Node)).id), .p (vi (p0.nodes.getD (Int.toNat p1) (default : Node)).parent), .p (vs (p0.nodes.getD (Int.toNat p1) (default : Node)).name), .p (vi (p0.nodes.getD (Int.toNat p1) (default : Node)).control), .p (vi (p0.nodes.getD (Int.toNat p1) (default : Node)).kind), .p (vi (p0.nodes.getD (Int.toNat p1) (default : Node)).owner)]⟩)]
              [(((p0.nodes.getD (Int.toNat p1) (default : Node)).kind != 0) = false), (((p0.nodes.getD (Int.toNat p1) (default : Node)).kind != 0) = false), (((p0.nodes.getD (Int.toNat p1) (default : Node)).kind != 0) = false), (((p0.nodes.getD (Int.toNat p1) (default : Node)).kind != 0) = false), (false = false), (false = false), (false = false), (false = false), ((decide ((p0.nodes.getD (Int.toNat p1) (default : Node)).control < 0)) = false), ((decide ((p0.nodes.getD (Int.toNat p1) (default : Node)).control < 0)) = false), ((decide ((p0.nodes.getD (Int.toNat p1) (default : Node)).control < 0)) = false), ((decide ((p0.nodes.getD (Int.toNat p1) (default : Node)).control < 0)) = false), ((decide ((p0.nodes.getD (Int.toNat p1) (default : Node)).control > 31)) = false), ((decide ((p0.nodes.getD (Int.toNat p1) (default : Node)).control > 31)) = false), ((decide ((p0.nodes.getD (Int.toNat p1) (default : Node)).control > 31)) = false), ((decide ((p0.nodes.getD (Int.toNat p1) (default : Node)).control > 31)) = false), ((decide ((p0.nodes.getD (Int.toNat p1) (default : Node)).owner < 0)) = false), ((decide ((p0.nodes.getD (Int.toNat p1) (default : Node)).owner < 0)) = false), ((decide ((p0.nodes.getD (Int.toNat p1) (default : Node)).owner < 0)) = false), ((decide ((p0.nodes.getD (Int.toNat p1) (default : Node)).owner < 0)) = false)] (by kernel_rfl) ⟨h2, h2, h2, h2, rfl, rfl, rfl, rfl, h7, h7, h7, h7, h8, h8, h8, h8, h9, h9, h9, h9, trivial⟩ (.cons .rfl (.cons .rfl (.cons .rfl (.cons (.of_eq (by first | (rw [h2, h7, h8, h9]; done) | (rw [h2, h7, h8, h9]; rfl) | simp [h2, h7, h8, h9])) .rfl)))) .rfl
  ·
    refine DW.cond (((((((p0.nodes.getD (Int.toNat p1) (default : Node)).kind != 0) && ((p0.nodes.getD (Int.toNat p1) (default : Node)).kind != 1)) || (decide ((p0.nodes.getD (Int.toNat p1) (default : Node)).control < 0))) || (decide ((p0.nodes.getD (Int.toNat p1) (default : Node)).control > 31))) || (decide ((p0.nodes.getD (Int.toNat p1) (default : Node)).owner < 0))) || (decide ((p0.nodes.getD (Int.toNat p1) (default : Node)).owner > 1048576))) rfl rfl ?_ ?_
    ·
      intro h10
      replace hm := if_t h10 hm
      refine DW.seq ?_
      refine DW.regE Tgood mixed hnt [.no] [4] []
        [(4, .p (vb false))]
        []
        [] (by kernel_rfl) trivial ?_
      refine DW.ret ?_
      obtain rfl := Option.some.inj hm
      refine retOK (bs' := []) [] (.p (vb false)) (by kernel_rfl) ?_ ?_
      · rfl
      · rfl
    ·
      intro h10
      replace hm := if_f h10 hm
      refine DW.skip ?_
      refine DW.seq ?_
      refine DW.seq ?_
      refine DW.regE Tgood mixed hnt [.no, .no] [1, 2, 5, 42] [1016, 1040]
        [(1, .p (vi p1)), (2, .ref 1016 0 0), (5, .ref 1040 0 0), (42, .p (vb (p1 == 0)))]
        [(1016, ⟨0, .box [.p (slOf 6 encNode (default : Node) p0.nodes), .p (vi p0.next)]⟩), (1040, ⟨0, .box [.p (vi (p0.nodes.getD (Int.toNat p1) (default : Node)).id), .p (vi (p0.nodes.getD (Int.toNat p1) (default : Node)).parent), .p (vs (p0.nodes.getD (Int.toNat p1) (default : Node)).name), .p (vi (p0.nodes.getD (Int.toNat p1) (default : Node)).control), .p (vi (p0.nodes.getD (Int.toNat p1) (default : Node)).kind), .p (vi (p0.nodes.getD (Int.toNat p1) (default : Node)).owner)]⟩)]
        [] (by kernel_rfl) trivial ?_
      refine DW.cond (p1 == 0) rfl rfl ?_ ?_
      ·
        intro h11
        replace hm := if_t h11 hm
        refine DW.seq ?_
        refine DW.regJ (sl2 := [(4, .p (vb (((((p0.nodes.getD (Int.toNat p1) (default : Node)).id == 1) && ((p0.nodes.getD (Int.toNat p1) (default : Node)).parent == 0)) && (beqS (p0.nodes.getD (Int.toNat p1) (default : Node)).name ByteArray.empty)) && ((p0.nodes.getD (Int.toNat p1) (default : Node)).kind == 0))))]) (ob2 := []) ?_ ?_
        ·
          rcases Bool.eq_false_or_eq_true ((p0.nodes.getD (Int.toNat p1) (default : Node)).id == 1) with h12 | h12
          ·
            rcases Bool.eq_false_or_eq_true ((p0.nodes.getD (Int.toNat p1) (default : Node)).parent == 0) with h13 | h13
            ·
              rcases Bool.eq_false_or_eq_true (beqS (p0.nodes.getD (Int.toNat p1) (default : Node)).name ByteArray.empty) with h14 | h14
              ·
                exact RegTo.mk Tgood mixed hnt [.no, .no, .no, .no, .no, .no, .no, .pk true, .no, .no, .no, .no, .pk true, .no, .no, .no, .no, .pk true, .no] [4] []
                  [(4, .p (vb ((p0.nodes.getD (Int.toNat p1) (default : Node)).kind == 0)))]
                  [(4, .p (vb (((((p0.nodes.getD (Int.toNat p1) (default : Node)).id == 1) && ((p0.nodes.getD (Int.toNat p1) (default : Node)).parent == 0)) && (beqS (p0.nodes.getD (Int.toNat p1) (default : Node)).name ByteArray.empty)) && ((p0.nodes.getD (Int.toNat p1) (default : Node)).kind == 0))))]
                  []
                  []
                  [(((p0.nodes.getD (Int.toNat p1) (default : Node)).id == 1) = true), (((p0.nodes.getD (Int.toNat p1) (default : Node)).id == 1) = true), (((p0.nodes.getD (Int.toNat p1) (default : Node)).id == 1) = true), (((p0.nodes.getD (Int.toNat p1) (default : Node)).id == 1) = true), (((p0.nodes.getD (Int.toNat p1) (default : Node)).parent == 0) = true), (((p0.nodes.getD (Int.toNat p1) (default : Node)).parent == 0) = true), (((p0.nodes.getD (Int.toNat p1) (default : Node)).parent == 0) = true), (((p0.nodes.getD (Int.toNat p1) (default : Node)).parent == 0) = true), ((beqS (p0.nodes.getD (Int.toNat p1) (default : Node)).name ByteArray.empty) = true), ((beqS (p0.nodes.getD (Int.toNat p1) (default : Node)).name ByteArray.empty) = true), ((beqS (p0.nodes.getD (Int.toNat p1) (default : Node)).name ByteArray.empty) = true), ((beqS (p0.nodes.getD (Int.toNat p1) (default : Node)).name ByteArray.empty) = true)] (by kernel_rfl) ⟨h12, h12, h12, h12, h13, h13, h13, h13, h14, h14, h14, h14, trivial⟩ (.cons (.of_eq (by first | (rw [h12, h13, h14]; done) | (rw [h12, h13, h14]; rfl) | simp [h12, h13, h14])) .rfl) .rfl
              ·
                exact RegTo.mk Tgood mixed hnt [.no, .no, .no, .no, .no, .no, .no, .pk true, .no, .no, .no, .no, .pk true, .no, .skip, .skip, .skip, .pk false, .no] [4] []
                  [(4, .p (vb false))]
                  [(4, .p (vb (((((p0.nodes.getD (Int.toNat p1) (default : Node)).id == 1) && ((p0.nodes.getD (Int.toNat p1) (default : Node)).parent == 0)) && (beqS (p0.nodes.getD (Int.toNat p1) (default : Node)).name ByteArray.empty)) && ((p0.nodes.getD (Int.toNat p1) (default : Node)).kind == 0))))]
                  []
                  []
                  [(((p0.nodes.getD (Int.toNat p1) (default : Node)).id == 1) = true), (((p0.nodes.getD (Int.toNat p1) (default : Node)).id == 1) = true), (((p0.nodes.getD (Int.toNat p1) (default : Node)).id == 1) = true), (((p0.nodes.getD (Int.toNat p1) (default : Node)).id == 1) = true), (((p0.nodes.getD (Int.toNat p1) (default : Node)).parent == 0) = true), (((p0.nodes.getD (Int.toNat p1) (default : Node)).parent == 0) = true), (((p0.nodes.getD (Int.toNat p1) (default : Node)).parent == 0) = true), (((p0.nodes.getD (Int.toNat p1) (default : Node)).parent == 0) = true), ((beqS (p0.nodes.getD (Int.toNat p1) (default : Node)).name ByteArray.empty) = false), ((beqS (p0.nodes.getD (Int.toNat p1) (default : Node)).name ByteArray.empty) = false), ((beqS (p0.nodes.getD (Int.toNat p1) (default : Node)).name ByteArray.empty) = false), ((beqS (p0.nodes.getD (Int.toNat p1) (default : Node)).name ByteArray.empty) = false)] (by kernel_rfl) ⟨h12, h12, h12, h12, h13, h13, h13, h13, h14, h14, h14, h14, trivial⟩ (.cons (.of_eq (by first | (rw [h12, h13, h14]; done) | (rw [h12, h13, h14]; rfl) | simp [h12, h13, h14])) .rfl) .rfl
            ·
              exact RegTo.mk Tgood mixed hnt [.no, .no, .no, .no, .no, .no, .no, .pk true, .no, .skip, .skip, .skip, .pk false, .no, .skip, .skip, .skip, .pk false, .no] [4] []
                [(4, .p (vb false))]
                [(4, .p (vb (((((p0.nodes.getD (Int.toNat p1) (default : Node)).id == 1) && ((p0.nodes.getD (Int.toNat p1) (default : Node)).parent == 0)) && (beqS (p0.nodes.getD (Int.toNat p1) (default : Node)).name ByteArray.empty)) && ((p0.nodes.getD (Int.toNat p1) (default : Node)).kind == 0))))]
                []
                []
                [(((p0.nodes.getD (Int.toNat p1) (default : Node)).id == 1) = true), (((p0.nodes.getD (Int.toNat p1) (default : Node)).id == 1) = true), (((p0.nodes.getD (Int.toNat p1) (default : Node)).id == 1) = true), (((p0.nodes.getD (Int.toNat p1) (default : Node)).id == 1) = true), (((p0.nodes.getD (Int.toNat p1) (default : Node)).parent == 0) = false), (((p0.nodes.getD (Int.toNat p1) (default : Node)).parent == 0) = false), (((p0.nodes.getD (Int.toNat p1) (default : Node)).parent == 0) = false), (((p0.nodes.getD (Int.toNat p1) (default : Node)).parent == 0) = false), (false = false), (false = false), (false = false), (false = false)] (by kernel_rfl) ⟨h12, h12, h12, h12, h13, h13, h13, h13, rfl, rfl, rfl, rfl, trivial⟩ (.cons (.of_eq (by first | (rw [h12, h13]; done) | (rw [h12, h13]; rfl) | simp [h12, h13])) .rfl) .rfl
          ·
            exact RegTo.mk Tgood mixed hnt [.no, .no, .no, .no, .skip, .skip, .skip, .pk false, .no, .skip, .skip, .skip, .pk false, .no, .skip, .skip, .skip, .pk false, .no] [4] []
              [(4, .p (vb false))]
              [(4, .p (vb (((((p0.nodes.getD (Int.toNat p1) (default : Node)).id == 1) && ((p0.nodes.getD (Int.toNat p1) (default : Node)).parent == 0)) && (beqS (p0.nodes.getD (Int.toNat p1) (default : Node)).name ByteArray.empty)) && ((p0.nodes.getD (Int.toNat p1) (default : Node)).kind == 0))))]
              []
              []
              [(((p0.nodes.getD (Int.toNat p1) (default : Node)).id == 1) = false), (((p0.nodes.getD (Int.toNat p1) (default : Node)).id == 1) = false), (((p0.nodes.getD (Int.toNat p1) (default : Node)).id == 1) = false), (((p0.nodes.getD (Int.toNat p1) (default : Node)).id == 1) = false), (false = false), (false = false), (false = false), (false = false), (false = false), (false = false), (false = false), (false = false)] (by kernel_rfl) ⟨h12, h12, h12, h12, rfl, rfl, rfl, rfl, rfl, rfl, rfl, rfl, trivial⟩ (.cons (.of_eq (by first | (rw [h12]; done) | (rw [h12]; rfl) | simp [h12])) .rfl) .rfl
        ·
          refine DW.ret ?_
          obtain rfl := Option.some.inj hm
          refine retOK (bs' := []) [] (.p (vb (((((p0.nodes.getD (Int.toNat p1) (default : Node)).id == 1) && ((p0.nodes.getD (Int.toNat p1) (default : Node)).parent == 0)) && (beqS (p0.nodes.getD (Int.toNat p1) (default : Node)).name ByteArray.empty)) && ((p0.nodes.getD (Int.toNat p1) (default : Node)).kind == 0)))) (by kernel_rfl) ?_ ?_
          · rfl
          · rfl
      ·
        intro h11
        replace hm := if_f h11 hm
        refine DW.skip ?_
        refine DW.seq ?_
        refine DW.seq ?_
        obtain ⟨g15, hm⟩ := guard_open hm
        refine DW.join (ι := Bool) (fun (y1 : Bool) => mkSt [(1, .p (vi p1)), (2, .ref 1016 0 0), (5, .ref 1040 0 0), (76, .p (vb y1))] [(1016, ⟨0, .box [.p (slOf 6 encNode (default : Node) p0.nodes), .p (vi p0.next)]⟩), (1040, ⟨0, .box [.p (vi (p0.nodes.getD (Int.toNat p1) (default : Node)).id), .p (vi (p0.nodes.getD (Int.toNat p1) (default : Node)).parent), .p (vs (p0.nodes.getD (Int.toNat p1) (default : Node)).name), .p (vi (p0.nodes.getD (Int.toNat p1) (default : Node)).control), .p (vi (p0.nodes.getD (Int.toNat p1) (default : Node)).kind), .p (vi (p0.nodes.getD (Int.toNat p1) (default : Node)).owner)]⟩)]) (fun y1 => (ref5_node_j1 p0 p1) y1 = some RES) ?_ ?_
        · intro y1 hm
          unfold ref5_node_j1 at hm
          refine DW.cond y1 rfl rfl ?_ ?_
          ·
            intro h18
            replace hm := if_t h18 hm
            refine DW.seq ?_
            refine DW.regE Tgood mixed hnt [.no] [4] []
              [(4, .p (vb false))]
              []
              [] (by kernel_rfl) trivial ?_
            refine DW.ret ?_
            obtain rfl := Option.some.inj hm
            refine retOK (bs' := []) [] (.p (vb false)) (by kernel_rfl) ?_ ?_
            · rfl
            · rfl
          ·
            intro h18
            replace hm := if_f h18 hm
            refine DW.skip ?_
            refine DW.seq ?_
            refine DW.regE Tgood mixed hnt [.no] [1, 2, 5, 6] [1016, 1040]
              [(1, .p (vi p1)), (2, .ref 1016 0 0), (5, .ref 1040 0 0), (6, .p (vb false))]
              [(1016, ⟨0, .box [.p (slOf 6 encNode (default : Node) p0.nodes), .p (vi p0.next)]⟩), (1040, ⟨0, .box [.p (vi (p0.nodes.getD (Int.toNat p1) (default : Node)).id), .p (vi (p0.nodes.getD (Int.toNat p1) (default : Node)).parent), .p (vs (p0.nodes.getD (Int.toNat p1) (default : Node)).name), .p (vi (p0.nodes.getD (Int.toNat p1) (default : Node)).control), .p (vi (p0.nodes.getD (Int.toNat p1) (default : Node)).kind), .p (vi (p0.nodes.getD (Int.toNat p1) (default : Node)).owner)]⟩)]
              [] (by kernel_rfl) trivial ?_
            refine DW.seq ?_
            refine DW.seq ?_
            refine DW.regE Tgood mixed hnt [.no] [1, 2, 5, 6, 7] [1016, 1040]
              [(1, .p (vi p1)), (2, .ref 1016 0 0), (5, .ref 1040 0 0), (6, .p (vb false)), (7, .p (vi 0))]
              [(1016, ⟨0, .box [.p (slOf 6 encNode (default : Node) p0.nodes), .p (vi p0.next)]⟩), (1040, ⟨0, .box [.p (vi (p0.nodes.getD (Int.toNat p1) (default : Node)).id), .p (vi (p0.nodes.getD (Int.toNat p1) (default : Node)).parent), .p (vs (p0.nodes.getD (Int.toNat p1) (default : Node)).name), .p (vi (p0.nodes.getD (Int.toNat p1) (default : Node)).control), .p (vi (p0.nodes.getD (Int.toNat p1) (default : Node)).kind), .p (vi (p0.nodes.getD (Int.toNat p1) (default : Node)).owner)]⟩)]
              [] (by kernel_rfl) trivial ?_
            refine DW.block ?_
            obtain ⟨hc1, hm⟩ := guard_open hm
            refine DW.forO (fun (k1 : Int) (s1 : Bool) => mkSt [(1, .p (vi p1)), (2, .ref 1016 0 0), (5, .ref 1040 0 0), (6, .p (vb s1)), (7, .p (vi k1))] [(1016, ⟨0, .box [.p (slOf 6 encNode (default : Node) p0.nodes), .p (vi p0.next)]⟩), (1040, ⟨0, .box [.p (vi (p0.nodes.getD (Int.toNat p1) (default : Node)).id), .p (vi (p0.nodes.getD (Int.toNat p1) (default : Node)).parent), .p (vs (p0.nodes.getD (Int.toNat p1) (default : Node)).name), .p (vi (p0.nodes.getD (Int.toNat p1) (default : Node)).control), .p (vi (p0.nodes.getD (Int.toNat p1) (default : Node)).kind), .p (vi (p0.nodes.getD (Int.toNat p1) (default : Node)).owner)]⟩)]) (lo := 0) (hi := p1) hm .refl ?_
            intro k1 s1 n1 hk1 hs1 he1
            refine DW.seq ?_
            refine DW.seq ?_
            refine DW.regE Tgood mixed hnt [.no, .no, .no] [1, 2, 5, 6, 7, 79] [1016, 1040]
              [(1, .p (vi p1)), (2, .ref 1016 0 0), (5, .ref 1040 0 0), (6, .p (vb s1)), (7, .p (vi k1)), (79, .p (vb (decide (k1 < p1))))]
              [(1016, ⟨0, .box [.p (slOf 6 encNode (default : Node) p0.nodes), .p (vi p0.next)]⟩), (1040, ⟨0, .box [.p (vi (p0.nodes.getD (Int.toNat p1) (default : Node)).id), .p (vi (p0.nodes.getD (Int.toNat p1) (default : Node)).parent), .p (vs (p0.nodes.getD (Int.toNat p1) (default : Node)).name), .p (vi (p0.nodes.getD (Int.toNat p1) (default : Node)).control), .p (vi (p0.nodes.getD (Int.toNat p1) (default : Node)).kind), .p (vi (p0.nodes.getD (Int.toNat p1) (default : Node)).owner)]⟩)]
              [] (by kernel_rfl) trivial ?_
            refine DW.cond (decide (k1 < p1)) rfl rfl ?_ ?_
            ·
              intro h32
              have hlt1 : k1 < p1 := by have := of_decide_eq_true h32; omega
              have hm := hs1 hlt1
              unfold ref5_node_l1 at hm
              refine DW.skip ?_
              refine DW.seq ?_
              refine DW.block ?_
              refine DW.seq ?_
              refine DW.join (ι := Bool) (fun (y5 : Bool) => mkSt [(1, .p (vi p1)), (2, .ref 1016 0 0), (5, .ref 1040 0 0), (6, .p (vb y5)), (7, .p (vi k1))] [(1016, ⟨0, .box [.p (slOf 6 encNode (default : Node) p0.nodes), .p (vi p0.next)]⟩), (1040, ⟨0, .box [.p (vi (p0.nodes.getD (Int.toNat p1) (default : Node)).id), .p (vi (p0.nodes.getD (Int.toNat p1) (default : Node)).parent), .p (vs (p0.nodes.getD (Int.toNat p1) (default : Node)).name), .p (vi (p0.nodes.getD (Int.toNat p1) (default : Node)).control), .p (vi (p0.nodes.getD (Int.toNat p1) (default : Node)).kind), .p (vi (p0.nodes.getD (Int.toNat p1) (default : Node)).owner)]⟩)]) (fun y5 => (ref5_node_j5 p0 p1 k1 n1) y5 = some RES) ?_ ?_
              · intro y5 hm
                unfold ref5_node_j5 at hm
                refine DW.seq ?_
                obtain ⟨g35, hm⟩ := guard_open hm
                refine DW.join (ι := Bool) (fun (y6 : Bool) => mkSt [(1, .p (vi p1)), (2, .ref 1016 0 0), (5, .ref 1040 0 0), (6, .p (vb y5)), (7, .p (vi k1)), (113, .p (vb y6))] [(1016, ⟨0, .box [.p (slOf 6 encNode (default : Node) p0.nodes), .p (vi p0.next)]⟩), (1040, ⟨0, .box [.p (vi (p0.nodes.getD (Int.toNat p1) (default : Node)).id), .p (vi (p0.nodes.getD (Int.toNat p1) (default : Node)).parent), .p (vs (p0.nodes.getD (Int.toNat p1) (default : Node)).name), .p (vi (p0.nodes.getD (Int.toNat p1) (default : Node)).control), .p (vi (p0.nodes.getD (Int.toNat p1) (default : Node)).kind), .p (vi (p0.nodes.getD (Int.toNat p1) (default : Node)).owner)]⟩)]) (fun y6 => (ref5_node_j6 n1 y5) y6 = some RES) ?_ ?_
                · intro y6 hm
                  unfold ref5_node_j6 at hm
                  refine DW.cond y6 rfl rfl ?_ ?_
                  ·
                    intro h38
                    replace hm := if_t h38 hm
                    refine DW.seq ?_
                    refine DW.regE Tgood mixed hnt [.no] [4] []
                      [(4, .p (vb false))]
                      []
                      [] (by kernel_rfl) trivial ?_
                    refine DW.ret ?_
                    obtain rfl := Option.some.inj hm
                    refine retOK (bs' := []) [] (.p (vb false)) (by kernel_rfl) ?_ ?_
                    · rfl
                    · rfl
                  ·
                    intro h38
                    replace hm := if_f h38 hm
                    refine DW.skip ?_
                    refine DW.done ?_
                    show DW _ _ _ _ _
                    refine DW.regE Tgood mixed hnt [.no, .no, .no] [1, 2, 5, 6, 7] [1016, 1040]
                      [(1, .p (vi p1)), (2, .ref 1016 0 0), (5, .ref 1040 0 0), (6, .p (vb y5)), (7, .p (vi (w64 (k1 + 1))))]
                      [(1016, ⟨0, .box [.p (slOf 6 encNode (default : Node) p0.nodes), .p (vi p0.next)]⟩), (1040, ⟨0, .box [.p (vi (p0.nodes.getD (Int.toNat p1) (default : Node)).id), .p (vi (p0.nodes.getD (Int.toNat p1) (default : Node)).parent), .p (vs (p0.nodes.getD (Int.toNat p1) (default : Node)).name), .p (vi (p0.nodes.getD (Int.toNat p1) (default : Node)).control), .p (vi (p0.nodes.getD (Int.toNat p1) (default : Node)).kind), .p (vi (p0.nodes.getD (Int.toNat p1) (default : Node)).owner)]⟩)]
                      [] (by kernel_rfl) trivial ?_
                    exact joinDone y5 ⟨hlt1, hm⟩ (Conv.to [1, 2, 5, 6, 7] [1016, 1040] [(1, .p (vi p1)), (2, .ref 1016 0 0), (5, .ref 1040 0 0), (6, .p (vb y5)), (7, .p (vi (w64 (k1 + 1))))] [(1, .p (vi p1)), (2, .ref 1016 0 0), (5, .ref 1040 0 0), (6, .p (vb y5)), (7, .p (vi (k1 + 1)))] [(1016, ⟨0, .box [.p (slOf 6 encNode (default : Node) p0.nodes), .p (vi p0.next)]⟩), (1040, ⟨0, .box [.p (vi (p0.nodes.getD (Int.toNat p1) (default : Node)).id), .p (vi (p0.nodes.getD (Int.toNat p1) (default : Node)).parent), .p (vs (p0.nodes.getD (Int.toNat p1) (default : Node)).name), .p (vi (p0.nodes.getD (Int.toNat p1) (default : Node)).control), .p (vi (p0.nodes.getD (Int.toNat p1) (default : Node)).kind), .p (vi (p0.nodes.getD (Int.toNat p1) (default : Node)).owner)]⟩)] [(1016, ⟨0, .box [.p (slOf 6 encNode (default : Node) p0.nodes), .p (vi p0.next)]⟩), (1040, ⟨0, .box [.p (vi (p0.nodes.getD (Int.toNat p1) (default : Node)).id), .p (vi (p0.nodes.getD (Int.toNat p1) (default : Node)).parent), .p (vs (p0.nodes.getD (Int.toNat p1) (default : Node)).name), .p (vi (p0.nodes.getD (Int.toNat p1) (default : Node)).control), .p (vi (p0.nodes.getD (Int.toNat p1) (default : Node)).kind), .p (vi (p0.nodes.getD (Int.toNat p1) (default : Node)).owner)]⟩)] (by kernel_rfl) (by kernel_rfl) (.cons .rfl (.cons .rfl (.cons .rfl (.cons .rfl (.cons (.of_eq (congrArg (fun n => MV.p (vi n)) (w64_for (lo := 0) (hi := p1) (by omega) hk1 hlt1 (by omega)))) .rfl))))) .rfl)
                ·
                  rcases Bool.eq_false_or_eq_true ((p0.nodes.getD (Int.toNat k1) (default : Node)).parent == (p0.nodes.getD (Int.toNat p1) (default : Node)).parent) with h36 | h36
                  ·
                    replace hm := if_t h36 hm
                    obtain ⟨g37, hm⟩ := guard_open hm
                    refine DW.regE Tgood mixed hnt [.no, .no, .no, .no, .no, .no, .no, .no, .no, .no, .no, .no, .no, .no, .no, .no, .no, .no, .no, .pk true] [1, 2, 5, 6, 7, 113] [1016, 1040]
                      [(1, .p (vi p1)), (2, .ref 1016 0 0), (5, .ref 1040 0 0), (6, .p (vb y5)), (7, .p (vi k1)), (113, .p (vb (beqS (p0.nodes.getD (Int.toNat k1) (default : Node)).name (p0.nodes.getD (Int.toNat p1) (default : Node)).name)))]
                      [(1016, ⟨0, .box [.p (slOf 6 encNode (default : Node) p0.nodes), .p (vi p0.next)]⟩), (1040, ⟨0, .box [.p (vi (p0.nodes.getD (Int.toNat p1) (default : Node)).id), .p (vi (p0.nodes.getD (Int.toNat p1) (default : Node)).parent), .p (vs (p0.nodes.getD (Int.toNat p1) (default : Node)).name), .p (vi (p0.nodes.getD (Int.toNat p1) (default : Node)).control), .p (vi (p0.nodes.getD (Int.toNat p1) (default : Node)).kind), .p (vi (p0.nodes.getD (Int.toNat p1) (default : Node)).owner)]⟩)]
                      [((0 : Int) ≤ k1), (k1 < ((p0.nodes.length : Nat) : Int)), (((p0.nodes.getD (Int.toNat k1) (default : Node)).parent == (p0.nodes.getD (Int.toNat p1) (default : Node)).parent) = true), (((p0.nodes.getD (Int.toNat k1) (default : Node)).parent == (p0.nodes.getD (Int.toNat p1) (default : Node)).parent) = true), (((p0.nodes.getD (Int.toNat k1) (default : Node)).parent == (p0.nodes.getD (Int.toNat p1) (default : Node)).parent) = true), (((p0.nodes.getD (Int.toNat k1) (default : Node)).parent == (p0.nodes.getD (Int.toNat p1) (default : Node)).parent) = true), ((0 : Int) ≤ k1), (k1 < ((p0.nodes.length : Nat) : Int)), (((p0.nodes.getD (Int.toNat k1) (default : Node)).parent == (p0.nodes.getD (Int.toNat p1) (default : Node)).parent) = true), (((p0.nodes.getD (Int.toNat k1) (default : Node)).parent == (p0.nodes.getD (Int.toNat p1) (default : Node)).parent) = true), (((p0.nodes.getD (Int.toNat k1) (default : Node)).parent == (p0.nodes.getD (Int.toNat p1) (default : Node)).parent) = true), (((p0.nodes.getD (Int.toNat k1) (default : Node)).parent == (p0.nodes.getD (Int.toNat p1) (default : Node)).parent) = true), (((p0.nodes.getD (Int.toNat k1) (default : Node)).parent == (p0.nodes.getD (Int.toNat p1) (default : Node)).parent) = true), (((p0.nodes.getD (Int.toNat k1) (default : Node)).parent == (p0.nodes.getD (Int.toNat p1) (default : Node)).parent) = true)] (by kernel_rfl) ⟨g35.1, g35.2, h36, h36, h36, h36, g37.1, g37.2, h36, h36, h36, h36, h36, h36, trivial⟩ ?_
                    exact joinDone (beqS (p0.nodes.getD (Int.toNat k1) (default : Node)).name (p0.nodes.getD (Int.toNat p1) (default : Node)).name) hm .refl
                  ·
                    replace hm := if_f h36 hm
                    refine DW.regE Tgood mixed hnt [.no, .no, .no, .no, .no, .no, .no, .no, .no, .no, .skip, .skip, .skip, .skip, .skip, .skip, .skip, .skip, .skip, .pk false] [1, 2, 5, 6, 7, 113] [1016, 1040]
                      [(1, .p (vi p1)), (2, .ref 1016 0 0), (5, .ref 1040 0 0), (6, .p (vb y5)), (7, .p (vi k1)), (113, .p (vb false))]
                      [(1016, ⟨0, .box [.p (slOf 6 encNode (default : Node) p0.nodes), .p (vi p0.next)]⟩), (1040, ⟨0, .box [.p (vi (p0.nodes.getD (Int.toNat p1) (default : Node)).id), .p (vi (p0.nodes.getD (Int.toNat p1) (default : Node)).parent), .p (vs (p0.nodes.getD (Int.toNat p1) (default : Node)).name), .p (vi (p0.nodes.getD (Int.toNat p1) (default : Node)).control), .p (vi (p0.nodes.getD (Int.toNat p1) (default : Node)).kind), .p (vi (p0.nodes.getD (Int.toNat p1) (default : Node)).owner)]⟩)]
                      [((0 : Int) ≤ k1), (k1 < ((p0.nodes.length : Nat) : Int)), (((p0.nodes.getD (Int.toNat k1) (default : Node)).parent == (p0.nodes.getD (Int.toNat p1) (default : Node)).parent) = false), (((p0.nodes.getD (Int.toNat k1) (default : Node)).parent == (p0.nodes.getD (Int.toNat p1) (default : Node)).parent) = false), (((p0.nodes.getD (Int.toNat k1) (default : Node)).parent == (p0.nodes.getD (Int.toNat p1) (default : Node)).parent) = false), (((p0.nodes.getD (Int.toNat k1) (default : Node)).parent == (p0.nodes.getD (Int.toNat p1) (default : Node)).parent) = false), (((p0.nodes.getD (Int.toNat k1) (default : Node)).parent == (p0.nodes.getD (Int.toNat p1) (default : Node)).parent) = false), (((p0.nodes.getD (Int.toNat k1) (default : Node)).parent == (p0.nodes.getD (Int.toNat p1) (default : Node)).parent) = false), (((p0.nodes.getD (Int.toNat k1) (default : Node)).parent == (p0.nodes.getD (Int.toNat p1) (default : Node)).parent) = false), (((p0.nodes.getD (Int.toNat k1) (default : Node)).parent == (p0.nodes.getD (Int.toNat p1) (default : Node)).parent) = false), (((p0.nodes.getD (Int.toNat k1) (default : Node)).parent == (p0.nodes.getD (Int.toNat p1) (default : Node)).parent) = false), (((p0.nodes.getD (Int.toNat k1) (default : Node)).parent == (p0.nodes.getD (Int.toNat p1) (default : Node)).parent) = false)] (by kernel_rfl) ⟨g35.1, g35.2, h36, h36, h36, h36, h36, h36, h36, h36, h36, h36, trivial⟩ ?_
                    exact joinDone false hm .refl
              ·
                rcases Bool.eq_false_or_eq_true s1 with h33 | h33
                ·
                  replace hm := if_t h33 hm
                  refine DW.regE Tgood mixed hnt [.no, .no, .skip, .skip, .skip, .skip, .skip, .skip, .skip, .skip, .skip, .pk true, .no] [1, 2, 5, 6, 7] [1016, 1040]
                    [(1, .p (vi p1)), (2, .ref 1016 0 0), (5, .ref 1040 0 0), (6, .p (vb true)), (7, .p (vi k1))]
                    [(1016, ⟨0, .box [.p (slOf 6 encNode (default : Node) p0.nodes), .p (vi p0.next)]⟩), (1040, ⟨0, .box [.p (vi (p0.nodes.getD (Int.toNat p1) (default : Node)).id), .p (vi (p0.nodes.getD (Int.toNat p1) (default : Node)).parent), .p (vs (p0.nodes.getD (Int.toNat p1) (default : Node)).name), .p (vi (p0.nodes.getD (Int.toNat p1) (default : Node)).control), .p (vi (p0.nodes.getD (Int.toNat p1) (default : Node)).kind), .p (vi (p0.nodes.getD (Int.toNat p1) (default : Node)).owner)]⟩)]
                    [(s1 = true), (s1 = true), (s1 = true), (s1 = true), (s1 = true), (s1 = true), (s1 = true), (s1 = true), (s1 = true), (s1 = true)] (by kernel_rfl) ⟨h33, h33, h33, h33, h33, h33, h33, h33, h33, h33, trivial⟩ ?_
                  exact joinDone true hm .refl
                ·
                  replace hm := if_f h33 hm
                  obtain ⟨g34, hm⟩ := guard_open hm
                  refine DW.regE Tgood mixed hnt [.no, .no, .no, .no, .no, .no, .no, .no, .no, .no, .no, .pk false, .no] [1, 2, 5, 6, 7] [1016, 1040]
                    [(1, .p (vi p1)), (2, .ref 1016 0 0), (5, .ref 1040 0 0), (6, .p (vb ((p0.nodes.getD (Int.toNat k1) (default : Node)).id == (p0.nodes.getD (Int.toNat p1) (default : Node)).parent))), (7, .p (vi k1))]
                    [(1016, ⟨0, .box [.p (slOf 6 encNode (default : Node) p0.nodes), .p (vi p0.next)]⟩), (1040, ⟨0, .box [.p (vi (p0.nodes.getD (Int.toNat p1) (default : Node)).id), .p (vi (p0.nodes.getD (Int.toNat p1) (default : Node)).parent), .p (vs (p0.nodes.getD (Int.toNat p1) (default : Node)).name), .p (vi (p0.nodes.getD (Int.toNat p1) (default : Node)).control), .p (vi (p0.nodes.getD (Int.toNat p1) (default : Node)).kind), .p (vi (p0.nodes.getD (Int.toNat p1) (default : Node)).owner)]⟩)]
                    [(s1 = false), (s1 = false), (s1 = false), (s1 = false), ((0 : Int) ≤ k1), (k1 < ((p0.nodes.length : Nat) : Int)), (s1 = false), (s1 = false), (s1 = false), (s1 = false), (s1 = false), (s1 = false)] (by kernel_rfl) ⟨h33, h33, h33, h33, g34.1, g34.2, h33, h33, h33, h33, h33, h33, trivial⟩ ?_
                  exact joinDone ((p0.nodes.getD (Int.toNat k1) (default : Node)).id == (p0.nodes.getD (Int.toNat p1) (default : Node)).parent) hm .refl
            ·
              intro h32
              have hge1 : ¬ k1 < p1 := by have := of_decide_eq_false h32; omega
              have hm := he1 hge1
              unfold ref5_node_d1 at hm
              refine DW.exit ?_
              refine joinQ_exit ?_
              refine KQ_exit ?_
              refine blockQ_exit ?_
              show DW _ _ _ _ _
              refine DW.seq ?_
              refine DW.regE Tgood mixed hnt [.no, .no] [4] []
                [(4, .p (vb s1))]
                []
                [] (by kernel_rfl) trivial ?_
              refine DW.ret ?_
              obtain rfl := Option.some.inj hm
              refine retOK (bs' := []) [] (.p (vb s1)) (by kernel_rfl) ?_ ?_
              · rfl
              · rfl
        ·
          rcases Bool.eq_false_or_eq_true (decide ((p0.nodes.getD (Int.toNat p1) (default : Node)).id ≤ (p0.nodes.getD (Int.toNat (w64 (p1 - 1))) (default : Node)).id)) with h16 | h16
          ·
            replace hm := if_t h16 hm
            refine DW.regE Tgood mixed hnt [.no, .no, .no, .no, .no, .no, .no, .no, .no, .no, .no, .skip, .skip, .skip, .skip, .pk true] [1, 2, 5, 76] [1016, 1040]
              [(1, .p (vi p1)), (2, .ref 1016 0 0), (5, .ref 1040 0 0), (76, .p (vb true))]
              [(1016, ⟨0, .box [.p (slOf 6 encNode (default : Node) p0.nodes), .p (vi p0.next)]⟩), (1040, ⟨0, .box [.p (vi (p0.nodes.getD (Int.toNat p1) (default : Node)).id), .p (vi (p0.nodes.getD (Int.toNat p1) (default : Node)).parent), .p (vs (p0.nodes.getD (Int.toNat p1) (default : Node)).name), .p (vi (p0.nodes.getD (Int.toNat p1) (default : Node)).control), .p (vi (p0.nodes.getD (Int.toNat p1) (default : Node)).kind), .p (vi (p0.nodes.getD (Int.toNat p1) (default : Node)).owner)]⟩)]
              [((0 : Int) ≤ (w64 (p1 - 1))), ((w64 (p1 - 1)) < ((p0.nodes.length : Nat) : Int)), ((decide ((p0.nodes.getD (Int.toNat p1) (default : Node)).id ≤ (p0.nodes.getD (Int.toNat (w64 (p1 - 1))) (default : Node)).id)) = true), ((decide ((p0.nodes.getD (Int.toNat p1) (default : Node)).id ≤ (p0.nodes.getD (Int.toNat (w64 (p1 - 1))) (default : Node)).id)) = true), ((decide ((p0.nodes.getD (Int.toNat p1) (default : Node)).id ≤ (p0.nodes.getD (Int.toNat (w64 (p1 - 1))) (default : Node)).id)) = true), ((decide ((p0.nodes.getD (Int.toNat p1) (default : Node)).id ≤ (p0.nodes.getD (Int.toNat (w64 (p1 - 1))) (default : Node)).id)) = true), ((decide ((p0.nodes.getD (Int.toNat p1) (default : Node)).id ≤ (p0.nodes.getD (Int.toNat (w64 (p1 - 1))) (default : Node)).id)) = true)] (by kernel_rfl) ⟨g15.1, g15.2, h16, h16, h16, h16, h16, trivial⟩ ?_
            exact joinDone true hm .refl
          ·
            replace hm := if_f h16 hm
            obtain ⟨r17, hr17, hm⟩ := bind_open hm
            refine DW.regE Tgood mixed hnt [.no, .no, .no, .no, .no, .no, .no, .no, .no, .no, .no, .no, .no, .call 77 [] true (.p (vb r17)) [] [], .no, .pk false] [1, 2, 5, 76] [1016, 1040]
              [(1, .p (vi p1)), (2, .ref 1016 0 0), (5, .ref 1040 0 0), (76, .p (vb (!r17)))]
              [(1016, ⟨0, .box [.p (slOf 6 encNode (default : Node) p0.nodes), .p (vi p0.next)]⟩), (1040, ⟨0, .box [.p (vi (p0.nodes.getD (Int.toNat p1) (default : Node)).id), .p (vi (p0.nodes.getD (Int.toNat p1) (default : Node)).parent), .p (vs (p0.nodes.getD (Int.toNat p1) (default : Node)).name), .p (vi (p0.nodes.getD (Int.toNat p1) (default : Node)).control), .p (vi (p0.nodes.getD (Int.toNat p1) (default : Node)).kind), .p (vi (p0.nodes.getD (Int.toNat p1) (default : Node)).owner)]⟩)]
              [((0 : Int) ≤ (w64 (p1 - 1))), ((w64 (p1 - 1)) < ((p0.nodes.length : Nat) : Int)), ((decide ((p0.nodes.getD (Int.toNat p1) (default : Node)).id ≤ (p0.nodes.getD (Int.toNat (w64 (p1 - 1))) (default : Node)).id)) = false), ((decide ((p0.nodes.getD (Int.toNat p1) (default : Node)).id ≤ (p0.nodes.getD (Int.toNat (w64 (p1 - 1))) (default : Node)).id)) = false), ((decide ((p0.nodes.getD (Int.toNat p1) (default : Node)).id ≤ (p0.nodes.getD (Int.toNat (w64 (p1 - 1))) (default : Node)).id)) = false), (Spec Try.prog 77 [.p (vs (p0.nodes.getD (Int.toNat p1) (default : Node)).name)] [] (.p (vb r17)) [] []), ((decide ((p0.nodes.getD (Int.toNat p1) (default : Node)).id ≤ (p0.nodes.getD (Int.toNat (w64 (p1 - 1))) (default : Node)).id)) = false), ((decide ((p0.nodes.getD (Int.toNat p1) (default : Node)).id ≤ (p0.nodes.getD (Int.toNat (w64 (p1 - 1))) (default : Node)).id)) = false)] (by kernel_rfl) ⟨g15.1, g15.2, h16, h16, h16, (ref1_Valid_spec (p0.nodes.getD (Int.toNat p1) (default : Node)).name r17 hr17), h16, h16, trivial⟩ ?_
            exact joinDone (!r17) hm .refl

theorem ref5_up_spec (p0 : Tree) (p1 : Int) (RES : List Int) (hm : ref5_up p0 p1 = some RES) : Spec Try.prog 42 [.p (.agg [slOf 6 encNode (default : Node) p0.nodes, vi p0.next]), .p (vi p1)] [] (.own 0 0 0 RES.length) [] [rowOf 1 encI 0 RES] := by
  unfold ref5_up at hm
  refine spec_of Tgood (T := Tt) Try.func42 (by decide) (c := _) rfl rfl (sl := [(0, .p (.agg [slOf 6 encNode (default : Node) p0.nodes, vi p0.next])), (1, .p (vi p1))]) (ob := []) (Nat.le_of_ble_eq_true rfl) (Nat.le_of_ble_eq_true rfl) (by kernel_rfl) (by kernel_rfl) ?_
  intro cx hnt
  refine DW.start ?_
  refine DW.seq ?_
  refine DW.regE Tgood mixed hnt [.no, .no] [1, 2] [1016]
    [(1, .p (vi p1)), (2, .ref 1016 0 0)]
    [(1016, ⟨0, .box [.p (slOf 6 encNode (default : Node) p0.nodes), .p (vi p0.next)]⟩)]
    [] (by kernel_rfl) trivial ?_
  refine DW.seq ?_
  refine DW.regE Tgood mixed hnt [.no] [1, 2, 5] [1016]
    [(1, .p (vi p1)), (2, .ref 1016 0 0), (5, .p (.sl .nil 0 0 (fun _ => [])))]
    [(1016, ⟨0, .box [.p (slOf 6 encNode (default : Node) p0.nodes), .p (vi p0.next)]⟩)]
    [] (by kernel_rfl) trivial ?_
  refine DW.seq ?_
  refine DW.seq ?_
  refine DW.regE Tgood mixed hnt [.no, .no, .no, .no, .no] [1, 2, 5, 6] [1016]
    [(1, .p (vi p1)), (2, .ref 1016 0 0), (5, .p (.sl .nil 0 0 (fun _ => []))), (6, .p (vi (w64 (((p0.nodes.length : Nat) : Int) - 1))))]
    [(1016, ⟨0, .box [.p (slOf 6 encNode (default : Node) p0.nodes), .p (vi p0.next)]⟩)]
    [] (by kernel_rfl) trivial ?_
  refine DW.block ?_
  refine DW.whileO (fun (s1 : (List Int) × Int × Int) => mkSt [(1, .p (vi s1.2.1)), (2, .ref 1016 0 0), (5, .own 1208 0 0 s1.1.length), (6, .p (vi s1.2.2))] [(1016, ⟨0, .box [.p (slOf 6 encNode (default : Node) p0.nodes), .p (vi p0.next)]⟩), (1208, ⟨0, rowOf 1 encI 0 s1.1⟩)]) hm (Conv.trans (τ := mkSt [(1, .p (vi p1)), (2, .ref 1016 0 0), (5, .own 1208 0 0 0), (6, .p (vi (w64 (((p0.nodes.length : Nat) : Int) - 1))))] ((1208, ⟨0, .row 1 0 (elems encI 0 [])⟩) :: [(1016, ⟨0, .box [.p (slOf 6 encNode (default : Node) p0.nodes), .p (vi p0.next)]⟩)])) (Conv.adopt 1208 1 (elems encI 0 []) rfl rfl (.cons (.one (.rfl _)) (.cons (.one (.rfl _)) (.cons (.one (.nil _ _)) (.cons (.one (.rfl _)) (.rfl _))))) (.rfl _)) (Conv.trans (τ := mkSt [(1, .p (vi p1)), (2, .ref 1016 0 0), (5, .own 1208 0 0 0), (6, .p (vi (w64 (((p0.nodes.length : Nat) : Int) - 1))))] [(1016, ⟨0, .box [.p (slOf 6 encNode (default : Node) p0.nodes), .p (vi p0.next)]⟩), (1208, ⟨0, rowOf 1 encI 0 []⟩)]) (Conv.to [1, 2, 5, 6] [1016, 1208] [(1, .p (vi p1)), (2, .ref 1016 0 0), (5, .own 1208 0 0 0), (6, .p (vi (w64 (((p0.nodes.length : Nat) : Int) - 1))))] [(1, .p (vi p1)), (2, .ref 1016 0 0), (5, .own 1208 0 0 0), (6, .p (vi (w64 (((p0.nodes.length : Nat) : Int) - 1))))] [(1016, ⟨0, .box [.p (slOf 6 encNode (default : Node) p0.nodes), .p (vi p0.next)]⟩), (1208, ⟨0, rowOf 1 encI 0 []⟩)] [(1016, ⟨0, .box [.p (slOf 6 encNode (default : Node) p0.nodes), .p (vi p0.next)]⟩), (1208, ⟨0, rowOf 1 encI 0 []⟩)] (by kernel_rfl) (by kernel_rfl) .rfl .rfl) .refl)) ?_
  intro s1 n1 hm
  unfold ref5_up_l1 at hm
  refine DW.seq ?_
  refine DW.seq ?_
  refine DW.regE Tgood mixed hnt [.no, .no] [1, 2, 5, 6, 12] [1016, 1208]
    [(1, .p (vi s1.2.1)), (2, .ref 1016 0 0), (5, .own 1208 0 0 s1.1.length), (6, .p (vi s1.2.2)), (12, .p (vb (decide (s1.2.2 ≥ 0))))]
    [(1016, ⟨0, .box [.p (slOf 6 encNode (default : Node) p0.nodes), .p (vi p0.next)]⟩), (1208, ⟨0, rowOf 1 encI 0 s1.1⟩)]
    [] (by kernel_rfl) trivial ?_
  refine DW.cond (decide (s1.2.2 ≥ 0)) rfl rfl ?_ ?_
  ·
    intro h5
    replace hm := if_t h5 hm
    refine DW.skip ?_
    refine DW.seq ?_
    refine DW.join (ι := (List Int) × Int) (fun (y2 : (List Int) × Int) => mkSt [(1, .p (vi y2.2)), (2, .ref 1016 0 0), (5, .own 1208 0 0 y2.1.length), (6, .p (vi s1.2.2))] [(1016, ⟨0, .box [.p (slOf 6 encNode (default : Node) p0.nodes), .p (vi p0.next)]⟩), (1208, ⟨0, rowOf 1 encI 0 y2.1⟩)]) (fun y2 => (ref5_up_j2 s1 n1) y2 = some RES) ?_ ?_
    · intro y2 hm
      unfold ref5_up_j2 at hm
      refine DW.regE Tgood mixed hnt [.no, .no, .no] [1, 2, 5, 6] [1016, 1208]
        [(1, .p (vi y2.2)), (2, .ref 1016 0 0), (5, .own 1208 0 0 y2.1.length), (6, .p (vi (w64 (s1.2.2 - 1))))]
        [(1016, ⟨0, .box [.p (slOf 6 encNode (default : Node) p0.nodes), .p (vi p0.next)]⟩), (1208, ⟨0, rowOf 1 encI 0 y2.1⟩)]
        [] (by kernel_rfl) trivial ?_
      exact joinDone (y2.1, y2.2, (w64 (s1.2.2 - 1))) hm .refl
    ·
      refine DW.block ?_
      refine DW.seq ?_
      obtain ⟨g6, hm⟩ := guard_open hm
      refine DW.regE Tgood mixed hnt [.no, .no, .no, .no, .no, .no, .no, .no] [1, 2, 5, 6, 22] [1016, 1208]
        [(1, .p (vi s1.2.1)), (2, .ref 1016 0 0), (5, .own 1208 0 0 s1.1.length), (6, .p (vi s1.2.2)), (22, .p (vb ((p0.nodes.getD (Int.toNat s1.2.2) (default : Node)).id == s1.2.1)))]
        [(1016, ⟨0, .box [.p (slOf 6 encNode (default : Node) p0.nodes), .p (vi p0.next)]⟩), (1208, ⟨0, rowOf 1 encI 0 s1.1⟩)]
        [((0 : Int) ≤ s1.2.2), (s1.2.2 < ((p0.nodes.length : Nat) : Int))] (by kernel_rfl) ⟨g6.1, g6.2, trivial⟩ ?_
      refine DW.cond ((p0.nodes.getD (Int.toNat s1.2.2) (default : Node)).id == s1.2.1) rfl rfl ?_ ?_
      ·
        intro h7
        replace hm := if_t h7 hm
        refine DW.seq ?_
        obtain ⟨g8, hm⟩ := guard_open hm
        refine DW.reg Tgood mixed hnt [.no, .no, .no, .no, .no] [2, 5, 6] [1016, 1208]
          [(2, .ref 1016 0 0), (5, .own 1208 0 0 (s1.1.length + 1)), (6, .p (vi s1.2.2))]
          [(2, .ref 1016 0 0), (5, .own 1208 0 0 (s1.1 ++ [s1.2.1]).length), (6, .p (vi s1.2.2))]
          [(1016, ⟨0, .box [.p (slOf 6 encNode (default : Node) p0.nodes), .p (vi p0.next)]⟩), (1208, ⟨0, .row 1 (s1.1.length + 1) (catF s1.1.length (elems encI 0 s1.1) (cut 1 [vi s1.2.1]))⟩)]
          [(1016, ⟨0, .box [.p (slOf 6 encNode (default : Node) p0.nodes), .p (vi p0.next)]⟩), (1208, ⟨0, rowOf 1 encI 0 (s1.1 ++ [s1.2.1])⟩)]
          [((s1.1.length + 1) * 8 ≤ 140737488355328)] (by kernel_rfl) ⟨(by omega), trivial⟩ (.cons .rfl (.cons (MLe.ownLen (enc := encI) (d := 0) (f := (catF s1.1.length (elems encI 0 s1.1) (cut 1 [vi s1.2.1]))) (RowIs.cat RowIs.elems (RowIs.lit (enc := encI) (d := 0) (n := 1) (f := (cut 1 [vi s1.2.1])) [s1.2.1] rfl (fun | 0, _ => rfl | n + 1, h => absurd h (by omega))))) .rfl)) (.cons .rfl (.cons (BLe.typed (RowIs.cat RowIs.elems (RowIs.lit (enc := encI) (d := 0) (n := 1) (f := (cut 1 [vi s1.2.1])) [s1.2.1] rfl (fun | 0, _ => rfl | n + 1, h => absurd h (by omega))))) .rfl)) ?_
        obtain ⟨g9, hm⟩ := guard_open hm
        refine DW.regE Tgood mixed hnt [.no, .no, .no, .no, .no, .no, .no] [1, 2, 5, 6] [1016, 1208]
          [(1, .p (vi (p0.nodes.getD (Int.toNat s1.2.2) (default : Node)).parent)), (2, .ref 1016 0 0), (5, .own 1208 0 0 (s1.1 ++ [s1.2.1]).length), (6, .p (vi s1.2.2))]
          [(1016, ⟨0, .box [.p (slOf 6 encNode (default : Node) p0.nodes), .p (vi p0.next)]⟩), (1208, ⟨0, rowOf 1 encI 0 (s1.1 ++ [s1.2.1])⟩)]
          [((0 : Int) ≤ s1.2.2), (s1.2.2 < ((p0.nodes.length : Nat) : Int))] (by kernel_rfl) ⟨g9.1, g9.2, trivial⟩ ?_
        exact blockDone ((s1.1 ++ [s1.2.1]), (p0.nodes.getD (Int.toNat s1.2.2) (default : Node)).parent) hm .refl
      ·
        intro h7
        replace hm := if_f h7 hm
        refine DW.skip ?_
        exact blockDone (s1.1, s1.2.1) hm (Conv.to [1, 2, 5, 6] [1016, 1208] [(1, .p (vi s1.2.1)), (2, .ref 1016 0 0), (5, .own 1208 0 0 s1.1.length), (6, .p (vi s1.2.2))] [(1, .p (vi s1.2.1)), (2, .ref 1016 0 0), (5, .own 1208 0 0 s1.1.length), (6, .p (vi s1.2.2))] [(1016, ⟨0, .box [.p (slOf 6 encNode (default : Node) p0.nodes), .p (vi p0.next)]⟩), (1208, ⟨0, rowOf 1 encI 0 s1.1⟩)] [(1016, ⟨0, .box [.p (slOf 6 encNode (default : Node) p0.nodes), .p (vi p0.next)]⟩), (1208, ⟨0, rowOf 1 encI 0 s1.1⟩)] (by kernel_rfl) (by kernel_rfl) .rfl .rfl)
  ·
    intro h5
    replace hm := if_f h5 hm
    refine DW.exit ?_
    refine joinQ_exit ?_
    refine KQ_exit ?_
    refine blockQ_exit ?_
    show DW _ _ _ _ _
    refine DW.seq ?_
    refine DW.regE Tgood mixed hnt [.no, .no] [4] [1208]
      [(4, .own 1208 0 0 s1.1.length)]
      [(1208, ⟨0, rowOf 1 encI 0 s1.1⟩)]
      [] (by kernel_rfl) trivial ?_
    refine DW.ret ?_
    obtain rfl := Option.some.inj hm
    refine retOK (bs' := [rowOf 1 encI 0 s1.1]) [1208] (.own 0 0 0 s1.1.length) (by kernel_rfl) ?_ ?_
    · rfl
    · rfl

theorem ref5_Check_spec (p0 : Tree) (RES : Bool) (hm : ref5_Check p0 = some RES) : Spec Try.prog 49 [.p (.agg [slOf 6 encNode (default : Node) p0.nodes, vi p0.next])] [] (.p (vb RES)) [] [] := by
  unfold ref5_Check at hm
  refine spec_of Tgood (T := Tt) Try.func49 (by decide) (c := _) rfl rfl (sl := [(0, .p (.agg [slOf 6 encNode (default : Node) p0.nodes, vi p0.next]))]) (ob := []) (Nat.le_of_ble_eq_true rfl) (Nat.le_of_ble_eq_true rfl) (by kernel_rfl) (by kernel_rfl) ?_
  intro cx hnt
  refine DW.start ?_
  refine DW.seq ?_
  refine DW.regE Tgood mixed hnt [.no, .no] [1] [1008]
    [(1, .ref 1008 0 0)]
    [(1008, ⟨0, .box [.p (slOf 6 encNode (default : Node) p0.nodes), .p (vi p0.next)]⟩)]
    [] (by kernel_rfl) trivial ?_
  refine DW.seq ?_
  refine DW.regE Tgood mixed hnt [.no, .no, .no, .no] [1, 3] [1008]
    [(1, .ref 1008 0 0), (3, .p (vi ((p0.nodes.length : Nat) : Int)))]
    [(1008, ⟨0, .box [.p (slOf 6 encNode (default : Node) p0.nodes), .p (vi p0.next)]⟩)]
    [] (by kernel_rfl) trivial ?_
  refine DW.seq ?_
  refine DW.seq ?_
  refine DW.regJ (sl2 := [(1, .ref 1008 0 0), (3, .p (vi ((p0.nodes.length : Nat) : Int))), (14, .p (vb ((decide (((p0.nodes.length : Nat) : Int) < 1)) || (decide (((p0.nodes.length : Nat) : Int) > 64)))))]) (ob2 := [(1008, ⟨0, .box [.p (slOf 6 encNode (default : Node) p0.nodes), .p (vi p0.next)]⟩)]) ?_ ?_
  ·
    rcases Bool.eq_false_or_eq_true (decide (((p0.nodes.length : Nat) : Int) < 1)) with h1 | h1
    ·
      exact RegTo.mk Tgood mixed hnt [.no, .no, .no, .skip, .skip, .pk true] [1, 3, 14] [1008]
        [(1, .ref 1008 0 0), (3, .p (vi ((p0.nodes.length : Nat) : Int))), (14, .p (vb true))]
        [(1, .ref 1008 0 0), (3, .p (vi ((p0.nodes.length : Nat) : Int))), (14, .p (vb ((decide (((p0.nodes.length : Nat) : Int) < 1)) || (decide (((p0.nodes.length : Nat) : Int) > 64)))))]
        [(1008, ⟨0, .box [.p (slOf 6 encNode (default : Node) p0.nodes), .p (vi p0.next)]⟩)]
        [(1008, ⟨0, .box [.p (slOf 6 encNode (default : Node) p0.nodes), .p (vi p0.next)]⟩)]
        [((decide (((p0.nodes.length : Nat) : Int) < 1)) = true), ((decide (((p0.nodes.length : Nat) : Int) < 1)) = true), ((decide (((p0.nodes.length : Nat) : Int) < 1)) = true)] (by kernel_rfl) ⟨h1, h1, h1, trivial⟩ (.cons .rfl (.cons .rfl (.cons (.of_eq (by first | (rw [h1]; done) | (rw [h1]; rfl) | simp [h1])) .rfl))) .rfl
    ·
      exact RegTo.mk Tgood mixed hnt [.no, .no, .no, .no, .no, .pk false] [1, 3, 14] [1008]
        [(1, .ref 1008 0 0), (3, .p (vi ((p0.nodes.length : Nat) : Int))), (14, .p (vb (decide (((p0.nodes.length : Nat) : Int) > 64))))]
        [(1, .ref 1008 0 0), (3, .p (vi ((p0.nodes.length : Nat) : Int))), (14, .p (vb ((decide (((p0.nodes.length : Nat) : Int) < 1)) || (decide (((p0.nodes.length : Nat) : Int) > 64)))))]
        [(1008, ⟨0, .box [.p (slOf 6 encNode (default : Node) p0.nodes), .p (vi p0.next)]⟩)]
        [(1008, ⟨0, .box [.p (slOf 6 encNode (default : Node) p0.nodes), .p (vi p0.next)]⟩)]
        [((decide (((p0.nodes.length : Nat) : Int) < 1)) = false), ((decide (((p0.nodes.length : Nat) : Int) < 1)) = false), ((decide (((p0.nodes.length : Nat) : Int) < 1)) = false)] (by kernel_rfl) ⟨h1, h1, h1, trivial⟩ (.cons .rfl (.cons .rfl (.cons (.of_eq (by first | (rw [h1]; done) | (rw [h1]; rfl) | simp [h1])) .rfl))) .rfl
  ·
    refine DW.cond ((decide (((p0.nodes.length : Nat) : Int) < 1)) || (decide (((p0.nodes.length : Nat) : Int) > 64))) rfl rfl ?_ ?_
    ·
      intro h2
      replace hm := if_t h2 hm
      refine DW.seq ?_
      refine DW.regE Tgood mixed hnt [.no] [2] []
        [(2, .p (vb false))]
        []
        [] (by kernel_rfl) trivial ?_
      refine DW.ret ?_
      obtain rfl := Option.some.inj hm
      refine retOK (bs' := []) [] (.p (vb false)) (by kernel_rfl) ?_ ?_
      · rfl
      · rfl
    ·
      intro h2
      replace hm := if_f h2 hm
      refine DW.skip ?_
      refine DW.seq ?_
      refine DW.seq ?_
      refine DW.regE Tgood mixed hnt [.no] [1, 3, 4] [1008]
        [(1, .ref 1008 0 0), (3, .p (vi ((p0.nodes.length : Nat) : Int))), (4, .p (vi 0))]
        [(1008, ⟨0, .box [.p (slOf 6 encNode (default : Node) p0.nodes), .p (vi p0.next)]⟩)]
        [] (by kernel_rfl) trivial ?_
      refine DW.block ?_
      obtain ⟨hc1, hm⟩ := guard_open hm
      refine DW.rangeO (fun (k1 : Nat) (s1 : Unit) => mkSt [(1, .ref 1008 0 0), (3, .p (vi ((p0.nodes.length : Nat) : Int))), (4, .p (vi ((k1 : Nat) : Int)))] [(1008, ⟨0, .box [.p (slOf 6 encNode (default : Node) p0.nodes), .p (vi p0.next)]⟩)]) (default : Node) hm .refl ?_
      intro k1 s1 n1 hk1 hs1 he1
      refine DW.seq ?_
      refine DW.seq ?_
      refine DW.regE Tgood mixed hnt [.no, .no, .no] [1, 3, 4, 17] [1008]
        [(1, .ref 1008 0 0), (3, .p (vi ((p0.nodes.length : Nat) : Int))), (4, .p (vi ((k1 : Nat) : Int))), (17, .p (vb (decide (((k1 : Nat) : Int) < ((p0.nodes.length : Nat) : Int)))))]
        [(1008, ⟨0, .box [.p (slOf 6 encNode (default : Node) p0.nodes), .p (vi p0.next)]⟩)]
        [] (by kernel_rfl) trivial ?_
      refine DW.cond (decide (((k1 : Nat) : Int) < ((p0.nodes.length : Nat) : Int))) rfl rfl ?_ ?_
      ·
        intro h32
        have hlt1 : k1 < p0.nodes.length := by have := of_decide_eq_true h32; omega
        have hm := hs1 hlt1
        unfold ref5_Check_l1 at hm
        refine DW.skip ?_
        refine DW.seq ?_
        refine DW.block ?_
        refine DW.seq ?_
        obtain ⟨r33, hr33, hm⟩ := bind_open hm
        refine DW.regE Tgood mixed hnt [.no, .no, .call 76 [] true (.p (vb r33)) [] [], .no] [1, 3, 4, 23] [1008]
          [(1, .ref 1008 0 0), (3, .p (vi ((p0.nodes.length : Nat) : Int))), (4, .p (vi ((k1 : Nat) : Int))), (23, .p (vb (!r33)))]
          [(1008, ⟨0, .box [.p (slOf 6 encNode (default : Node) p0.nodes), .p (vi p0.next)]⟩)]
          [(Spec Try.prog 76 [.p (.agg [slOf 6 encNode (default : Node) p0.nodes, vi p0.next]), .p (vi ((k1 : Nat) : Int))] [] (.p (vb r33)) [] [])] (by kernel_rfl) ⟨(ref5_node_spec p0 ((k1 : Nat) : Int) r33 hr33), trivial⟩ ?_
        refine DW.cond (!r33) rfl rfl ?_ ?_
        ·
          intro h34
          replace hm := if_t h34 hm
          refine DW.seq ?_
          refine DW.regE Tgood mixed hnt [.no] [2] []
            [(2, .p (vb false))]
            []
            [] (by kernel_rfl) trivial ?_
          refine DW.ret ?_
          obtain rfl := Option.some.inj hm
          refine retOK (bs' := []) [] (.p (vb false)) (by kernel_rfl) ?_ ?_
          · rfl
          · rfl
        ·
          intro h34
          replace hm := if_f h34 hm
          refine DW.skip ?_
          refine DW.done ?_
          show DW _ _ _ _ _
          refine DW.regE Tgood mixed hnt [.no, .no, .no] [1, 3, 4] [1008]
            [(1, .ref 1008 0 0), (3, .p (vi ((p0.nodes.length : Nat) : Int))), (4, .p (vi (w64 (((k1 : Nat) : Int) + 1))))]
            [(1008, ⟨0, .box [.p (slOf 6 encNode (default : Node) p0.nodes), .p (vi p0.next)]⟩)]
            [] (by kernel_rfl) trivial ?_
          exact joinDone () ⟨hlt1, hm⟩ (Conv.to [1, 3, 4] [1008] [(1, .ref 1008 0 0), (3, .p (vi ((p0.nodes.length : Nat) : Int))), (4, .p (vi (w64 (((k1 : Nat) : Int) + 1))))] [(1, .ref 1008 0 0), (3, .p (vi ((p0.nodes.length : Nat) : Int))), (4, .p (vi (((k1 + 1) : Nat) : Int)))] [(1008, ⟨0, .box [.p (slOf 6 encNode (default : Node) p0.nodes), .p (vi p0.next)]⟩)] [(1008, ⟨0, .box [.p (slOf 6 encNode (default : Node) p0.nodes), .p (vi p0.next)]⟩)] (by kernel_rfl) (by kernel_rfl) (.cons .rfl (.cons .rfl (.cons (.of_eq (congrArg (fun n => MV.p (vi n)) (w64_succ hlt1 hc1))) .rfl))) .rfl)
      ·
        intro h32
        have hge1 : ¬ k1 < p0.nodes.length := by have := of_decide_eq_false h32; omega
        have hm := he1 hge1
        unfold ref5_Check_d1 at hm
        refine DW.exit ?_
        refine joinQ_exit ?_
        refine KQ_exit ?_
        refine blockQ_exit ?_
        show DW _ _ _ _ _
        refine DW.seq ?_
        refine DW.seq ?_
        refine DW.regE Tgood mixed hnt [.no] [1, 3, 5] [1008]
          [(1, .ref 1008 0 0), (3, .p (vi ((p0.nodes.length : Nat) : Int))), (5, .p (vi 0))]
          [(1008, ⟨0, .box [.p (slOf 6 encNode (default : Node) p0.nodes), .p (vi p0.next)]⟩)]
          [] (by kernel_rfl) trivial ?_
        refine DW.block ?_
        obtain ⟨hc4, hm⟩ := guard_open hm
        refine DW.rangeO (fun (k4 : Nat) (s4 : Unit) => mkSt [(1, .ref 1008 0 0), (3, .p (vi ((p0.nodes.length : Nat) : Int))), (5, .p (vi ((k4 : Nat) : Int)))] [(1008, ⟨0, .box [.p (slOf 6 encNode (default : Node) p0.nodes), .p (vi p0.next)]⟩)]) (default : Node) hm .refl ?_
        intro k4 s4 n4 hk4 hs4 he4
        refine DW.seq ?_
        refine DW.seq ?_
        refine DW.regE Tgood mixed hnt [.no, .no, .no] [1, 3, 5, 26] [1008]
          [(1, .ref 1008 0 0), (3, .p (vi ((p0.nodes.length : Nat) : Int))), (5, .p (vi ((k4 : Nat) : Int))), (26, .p (vb (decide (((k4 : Nat) : Int) < ((p0.nodes.length : Nat) : Int)))))]
          [(1008, ⟨0, .box [.p (slOf 6 encNode (default : Node) p0.nodes), .p (vi p0.next)]⟩)]
          [] (by kernel_rfl) trivial ?_
        refine DW.cond (decide (((k4 : Nat) : Int) < ((p0.nodes.length : Nat) : Int))) rfl rfl ?_ ?_
        ·
          intro h49
          have hlt4 : k4 < p0.nodes.length := by have := of_decide_eq_true h49; omega
          have hm := hs4 hlt4
          unfold ref5_Check_l4 at hm
          refine DW.skip ?_
          refine DW.seq ?_
          refine DW.block ?_
          refine DW.seq ?_
          obtain ⟨r50, hr50, hm⟩ := bind_open hm
          refine DW.regE Tgood mixed hnt [.no, .no, .no, .no, .no, .no, .no, .call 42 [] true (.own 0 0 0 r50.length) [] [rowOf 1 encI 0 r50], .no, .no] [1, 3, 5, 38] [1008]
            [(1, .ref 1008 0 0), (3, .p (vi ((p0.nodes.length : Nat) : Int))), (5, .p (vi ((k4 : Nat) : Int))), (38, .p (vb (decide (((r50.length : Nat) : Int) > 9))))]
            [(1008, ⟨0, .box [.p (slOf 6 encNode (default : Node) p0.nodes), .p (vi p0.next)]⟩)]
            [((0 : Int) ≤ ((k4 : Nat) : Int)), (((k4 : Nat) : Int) < ((p0.nodes.length : Nat) : Int)), (Spec Try.prog 42 [.p (.agg [slOf 6 encNode (default : Node) p0.nodes, vi p0.next]), .p (vi (p0.nodes.getD k4 (default : Node)).id)] [] (.own 0 0 0 r50.length) [] [rowOf 1 encI 0 r50])] (by kernel_rfl) ⟨(by omega), (by omega), (ref5_up_spec p0 (p0.nodes.getD k4 (default : Node)).id r50 hr50), trivial⟩ ?_
          refine DW.cond (decide (((r50.length : Nat) : Int) > 9)) rfl rfl ?_ ?_
          ·
            intro h51
            replace hm := if_t h51 hm
            refine DW.seq ?_
            refine DW.regE Tgood mixed hnt [.no] [2] []
              [(2, .p (vb false))]
              []
              [] (by kernel_rfl) trivial ?_
            refine DW.ret ?_
            obtain rfl := Option.some.inj hm
            refine retOK (bs' := []) [] (.p (vb false)) (by kernel_rfl) ?_ ?_
            · rfl
            · rfl
          ·
            intro h51
            replace hm := if_f h51 hm
            refine DW.skip ?_
            refine DW.done ?_
            show DW _ _ _ _ _
            refine DW.regE Tgood mixed hnt [.no, .no, .no] [1, 3, 5] [1008]
              [(1, .ref 1008 0 0), (3, .p (vi ((p0.nodes.length : Nat) : Int))), (5, .p (vi (w64 (((k4 : Nat) : Int) + 1))))]
              [(1008, ⟨0, .box [.p (slOf 6 encNode (default : Node) p0.nodes), .p (vi p0.next)]⟩)]
              [] (by kernel_rfl) trivial ?_
            exact joinDone () ⟨hlt4, hm⟩ (Conv.to [1, 3, 5] [1008] [(1, .ref 1008 0 0), (3, .p (vi ((p0.nodes.length : Nat) : Int))), (5, .p (vi (w64 (((k4 : Nat) : Int) + 1))))] [(1, .ref 1008 0 0), (3, .p (vi ((p0.nodes.length : Nat) : Int))), (5, .p (vi (((k4 + 1) : Nat) : Int)))] [(1008, ⟨0, .box [.p (slOf 6 encNode (default : Node) p0.nodes), .p (vi p0.next)]⟩)] [(1008, ⟨0, .box [.p (slOf 6 encNode (default : Node) p0.nodes), .p (vi p0.next)]⟩)] (by kernel_rfl) (by kernel_rfl) (.cons .rfl (.cons .rfl (.cons (.of_eq (congrArg (fun n => MV.p (vi n)) (w64_succ hlt4 hc4))) .rfl))) .rfl)
        ·
          intro h49
          have hge4 : ¬ k4 < p0.nodes.length := by have := of_decide_eq_false h49; omega
          have hm := he4 hge4
          unfold ref5_Check_d4 at hm
          refine DW.exit ?_
          refine joinQ_exit ?_
          refine KQ_exit ?_
          refine blockQ_exit ?_
          show DW _ _ _ _ _
          refine DW.seq ?_
          obtain ⟨g52, hm⟩ := guard_open hm
          refine DW.join (ι := Bool) (fun (y7 : Bool) => mkSt [(2, .p (vb y7))] []) (fun y7 => ref5_Check_j7 y7 = some RES) ?_ ?_
          · intro y7 hm
            unfold ref5_Check_j7 at hm
            refine DW.ret ?_
            obtain rfl := Option.some.inj hm
            refine retOK (bs' := []) [] (.p (vb y7)) (by kernel_rfl) ?_ ?_
            · rfl
            · rfl
          ·
            rcases Bool.eq_false_or_eq_true (decide (p0.next > (p0.nodes.getD (Int.toNat (w64 (((p0.nodes.length : Nat) : Int) - 1))) (default : Node)).id)) with h53 | h53
            ·
              replace hm := if_t h53 hm
              refine DW.regE Tgood mixed hnt [.no, .no, .no, .no, .no, .no, .no, .no, .no, .no, .no, .no, .no, .no, .pk true, .no] [2] []
                [(2, .p (vb (decide (p0.next ≤ 2147483648))))]
                []
                [((0 : Int) ≤ (w64 (((p0.nodes.length : Nat) : Int) - 1))), ((w64 (((p0.nodes.length : Nat) : Int) - 1)) < ((p0.nodes.length : Nat) : Int)), ((decide (p0.next > (p0.nodes.getD (Int.toNat (w64 (((p0.nodes.length : Nat) : Int) - 1))) (default : Node)).id)) = true), ((decide (p0.next > (p0.nodes.getD (Int.toNat (w64 (((p0.nodes.length : Nat) : Int) - 1))) (default : Node)).id)) = true), ((decide (p0.next > (p0.nodes.getD (Int.toNat (w64 (((p0.nodes.length : Nat) : Int) - 1))) (default : Node)).id)) = true), ((decide (p0.next > (p0.nodes.getD (Int.toNat (w64 (((p0.nodes.length : Nat) : Int) - 1))) (default : Node)).id)) = true)] (by kernel_rfl) ⟨g52.1, g52.2, h53, h53, h53, h53, trivial⟩ ?_
              exact joinDone (decide (p0.next ≤ 2147483648)) hm .refl
            ·
              replace hm := if_f h53 hm
              refine DW.regE Tgood mixed hnt [.no, .no, .no, .no, .no, .no, .no, .no, .no, .no, .no, .skip, .skip, .skip, .pk false, .no] [2] []
                [(2, .p (vb false))]
                []
                [((0 : Int) ≤ (w64 (((p0.nodes.length : Nat) : Int) - 1))), ((w64 (((p0.nodes.length : Nat) : Int) - 1)) < ((p0.nodes.length : Nat) : Int)), ((decide (p0.next > (p0.nodes.getD (Int.toNat (w64 (((p0.nodes.length : Nat) : Int) - 1))) (default : Node)).id)) = false), ((decide (p0.next > (p0.nodes.getD (Int.toNat (w64 (((p0.nodes.length : Nat) : Int) - 1))) (default : Node)).id)) = false), ((decide (p0.next > (p0.nodes.getD (Int.toNat (w64 (((p0.nodes.length : Nat) : Int) - 1))) (default : Node)).id)) = false), ((decide (p0.next > (p0.nodes.getD (Int.toNat (w64 (((p0.nodes.length : Nat) : Int) - 1))) (default : Node)).id)) = false)] (by kernel_rfl) ⟨g52.1, g52.2, h53, h53, h53, h53, trivial⟩ ?_
              exact joinDone false hm .refl

theorem ref6_leader_spec (p0 : List Task) (p1 : Int) (RES : Task × Bool) (hm : ref6_leader p0 p1 = some RES) : Spec Try.prog 50 [.p (slOf 4 encTask (default : Task) p0), .p (vi p1)] [] (.p (.tup [.agg [vi RES.1.id, vi RES.1.process, vi RES.1.group, vi RES.1.user], vb RES.2])) [] [] := by
  unfold ref6_leader at hm
  refine spec_of Tgood (T := Tt) Try.func50 (by decide) (c := _) rfl rfl (sl := [(0, .p (slOf 4 encTask (default : Task) p0)), (1, .p (vi p1))]) (ob := []) (Nat.le_of_ble_eq_true rfl) (Nat.le_of_ble_eq_true rfl) (by kernel_rfl) (by kernel_rfl) ?_
  intro cx hnt
  refine DW.start ?_
  refine DW.seq ?_
  refine DW.regE Tgood mixed hnt [.no, .no] [0, 1, 4] [1032]
    [(0, .p (slOf 4 encTask (default : Task) p0)), (1, .p (vi p1)), (4, .ref 1032 0 0)]
    [(1032, ⟨0, .box [.p (vi 0), .p (vi 0), .p (vi 0), .p (vi 0)]⟩)]
    [] (by kernel_rfl) trivial ?_
  refine DW.seq ?_
  refine DW.seq ?_
  refine DW.regE Tgood mixed hnt [.no] [0, 1, 4, 6] [1032]
    [(0, .p (slOf 4 encTask (default : Task) p0)), (1, .p (vi p1)), (4, .ref 1032 0 0), (6, .p (vi 0))]
    [(1032, ⟨0, .box [.p (vi 0), .p (vi 0), .p (vi 0), .p (vi 0)]⟩)]
    [] (by kernel_rfl) trivial ?_
  refine DW.block ?_
  obtain ⟨hc1, hm⟩ := guard_open hm
  refine DW.rangeO (fun (k1 : Nat) (s1 : Unit) => mkSt [(0, .p (slOf 4 encTask (default : Task) p0)), (1, .p (vi p1)), (4, .ref 1032 0 0), (6, .p (vi ((k1 : Nat) : Int)))] [(1032, ⟨0, .box [.p (vi 0), .p (vi 0), .p (vi 0), .p (vi 0)]⟩)]) (default : Task) hm .refl ?_
  intro k1 s1 n1 hk1 hs1 he1
  refine DW.seq ?_
  refine DW.seq ?_
  refine DW.regE Tgood mixed hnt [.no, .no, .no, .no] [0, 1, 4, 6, 10] [1032]
    [(0, .p (slOf 4 encTask (default : Task) p0)), (1, .p (vi p1)), (4, .ref 1032 0 0), (6, .p (vi ((k1 : Nat) : Int))), (10, .p (vb (decide (((k1 : Nat) : Int) < ((p0.length : Nat) : Int)))))]
    [(1032, ⟨0, .box [.p (vi 0), .p (vi 0), .p (vi 0), .p (vi 0)]⟩)]
    [] (by kernel_rfl) trivial ?_
  refine DW.cond (decide (((k1 : Nat) : Int) < ((p0.length : Nat) : Int))) rfl rfl ?_ ?_
  ·
    intro h11
    have hlt1 : k1 < p0.length := by have := of_decide_eq_true h11; omega
    have hm := hs1 hlt1
    unfold ref6_leader_l1 at hm
    refine DW.skip ?_
    refine DW.seq ?_
    refine DW.block ?_
    refine DW.seq ?_
    refine DW.regE Tgood mixed hnt [.no, .no, .no, .no, .no, .no, .no] [0, 1, 4, 6, 19] [1032]
      [(0, .p (slOf 4 encTask (default : Task) p0)), (1, .p (vi p1)), (4, .ref 1032 0 0), (6, .p (vi ((k1 : Nat) : Int))), (19, .p (vb ((p0.getD k1 (default : Task)).id == p1)))]
      [(1032, ⟨0, .box [.p (vi 0), .p (vi 0), .p (vi 0), .p (vi 0)]⟩)]
      [((0 : Int) ≤ ((k1 : Nat) : Int)), (((k1 : Nat) : Int) < ((p0.length : Nat) : Int))] (by kernel_rfl) ⟨(by omega), (by omega), trivial⟩ ?_
    refine DW.cond ((p0.getD k1 (default : Task)).id == p1) rfl rfl ?_ ?_
    ·
      intro h12
      replace hm := if_t h12 hm
      refine DW.seq ?_
      refine DW.regE Tgood mixed hnt [.no, .no, .no, .no, .no, .no, .no, .no, .no, .no, .no, .no, .no] [4, 5] [1032]
        [(4, .ref 1032 0 0), (5, .p (vb ((p0.getD k1 (default : Task)).process == p1)))]
        [(1032, ⟨0, .box [.p (vi (p0.getD k1 (default : Task)).id), .p (vi (p0.getD k1 (default : Task)).process), .p (vi (p0.getD k1 (default : Task)).group), .p (vi (p0.getD k1 (default : Task)).user)]⟩)]
        [((0 : Int) ≤ ((k1 : Nat) : Int)), (((k1 : Nat) : Int) < ((p0.length : Nat) : Int)), ((0 : Int) ≤ ((k1 : Nat) : Int)), (((k1 : Nat) : Int) < ((p0.length : Nat) : Int))] (by kernel_rfl) ⟨(by omega), (by omega), (by omega), (by omega), trivial⟩ ?_
      refine DW.ret ?_
      obtain rfl := Option.some.inj hm
      refine retOK (bs' := []) [] (.p (.tup [.agg [vi (p0.getD k1 (default : Task)).id, vi (p0.getD k1 (default : Task)).process, vi (p0.getD k1 (default : Task)).group, vi (p0.getD k1 (default : Task)).user], vb ((p0.getD k1 (default : Task)).process == p1)])) (by kernel_rfl) ?_ ?_
      · rfl
      · rfl
    ·
      intro h12
      replace hm := if_f h12 hm
      refine DW.skip ?_
      refine DW.done ?_
      show DW _ _ _ _ _
      refine DW.regE Tgood mixed hnt [.no, .no, .no] [0, 1, 4, 6] [1032]
        [(0, .p (slOf 4 encTask (default : Task) p0)), (1, .p (vi p1)), (4, .ref 1032 0 0), (6, .p (vi (w64 (((k1 : Nat) : Int) + 1))))]
        [(1032, ⟨0, .box [.p (vi 0), .p (vi 0), .p (vi 0), .p (vi 0)]⟩)]
        [] (by kernel_rfl) trivial ?_
      exact joinDone () ⟨hlt1, hm⟩ (Conv.to [0, 1, 4, 6] [1032] [(0, .p (slOf 4 encTask (default : Task) p0)), (1, .p (vi p1)), (4, .ref 1032 0 0), (6, .p (vi (w64 (((k1 : Nat) : Int) + 1))))] [(0, .p (slOf 4 encTask (default : Task) p0)), (1, .p (vi p1)), (4, .ref 1032 0 0), (6, .p (vi (((k1 + 1) : Nat) : Int)))] [(1032, ⟨0, .box [.p (vi 0), .p (vi 0), .p (vi 0), .p (vi 0)]⟩)] [(1032, ⟨0, .box [.p (vi 0), .p (vi 0), .p (vi 0), .p (vi 0)]⟩)] (by kernel_rfl) (by kernel_rfl) (.cons .rfl (.cons .rfl (.cons .rfl (.cons (.of_eq (congrArg (fun n => MV.p (vi n)) (w64_succ hlt1 hc1))) .rfl)))) .rfl)
  ·
    intro h11
    have hge1 : ¬ k1 < p0.length := by have := of_decide_eq_false h11; omega
    have hm := he1 hge1
    unfold ref6_leader_d1 at hm
    refine DW.exit ?_
    refine joinQ_exit ?_
    refine KQ_exit ?_
    refine blockQ_exit ?_
    show DW _ _ _ _ _
    refine DW.seq ?_
    refine DW.regE Tgood mixed hnt [.no, .no, .no] [4, 5] [1032]
      [(4, .ref 1032 0 0), (5, .p (vb false))]
      [(1032, ⟨0, .box [.p (vi 0), .p (vi 0), .p (vi 0), .p (vi 0)]⟩)]
      [] (by kernel_rfl) trivial ?_
    refine DW.ret ?_
    obtain rfl := Option.some.inj hm
    refine retOK (bs' := []) [] (.p (.tup [.agg [vi 0, vi 0, vi 0, vi 0], vb false])) (by kernel_rfl) ?_ ?_
    · rfl
    · rfl

theorem ref5_Find_spec (p0 : Tree) (p1 : Int) (RES : Node × Bool) (hm : ref5_Find p0 p1 = some RES) : Spec Try.prog 51 [.p (.agg [slOf 6 encNode (default : Node) p0.nodes, vi p0.next]), .p (vi p1)] [] (.p (.tup [.agg [vi RES.1.id, vi RES.1.parent, vs RES.1.name, vi RES.1.control, vi RES.1.kind, vi RES.1.owner], vb RES.2])) [] [] := by
  unfold ref5_Find at hm
  refine spec_of Tgood (T := Tt) Try.func51 (by decide) (c := _) rfl rfl (sl := [(0, .p (.agg [slOf 6 encNode (default : Node) p0.nodes, vi p0.next])), (1, .p (vi p1))]) (ob := []) (Nat.le_of_ble_eq_true rfl) (Nat.le_of_ble_eq_true rfl) (by kernel_rfl) (by kernel_rfl) ?_
  intro cx hnt
  refine DW.start ?_
  refine DW.seq ?_
  refine DW.regE Tgood mixed hnt [.no, .no, .no] [1, 2, 4] [1016, 1032]
    [(1, .p (vi p1)), (2, .ref 1016 0 0), (4, .ref 1032 0 0)]
    [(1016, ⟨0, .box [.p (slOf 6 encNode (default : Node) p0.nodes), .p (vi p0.next)]⟩), (1032, ⟨0, .box [.p (vi 0), .p (vi 0), .p (vs ByteArray.empty), .p (vi 0), .p (vi 0), .p (vi 0)]⟩)]
    [] (by kernel_rfl) trivial ?_
  refine DW.seq ?_
  refine DW.seq ?_
  obtain ⟨r1, hr1, hm⟩ := bind_open hm
  refine DW.regE Tgood mixed hnt [.no, .call 49 [] true (.p (vb r1)) [] [], .no] [1, 2, 4, 9] [1016, 1032]
    [(1, .p (vi p1)), (2, .ref 1016 0 0), (4, .ref 1032 0 0), (9, .p (vb (!r1)))]
    [(1016, ⟨0, .box [.p (slOf 6 encNode (default : Node) p0.nodes), .p (vi p0.next)]⟩), (1032, ⟨0, .box [.p (vi 0), .p (vi 0), .p (vs ByteArray.empty), .p (vi 0), .p (vi 0), .p (vi 0)]⟩)]
    [(Spec Try.prog 49 [.p (.agg [slOf 6 encNode (default : Node) p0.nodes, vi p0.next])] [] (.p (vb r1)) [] [])] (by kernel_rfl) ⟨(ref5_Check_spec p0 r1 hr1), trivial⟩ ?_
  refine DW.cond (!r1) rfl rfl ?_ ?_
  ·
    intro h2
    replace hm := if_t h2 hm
    refine DW.seq ?_
    refine DW.regE Tgood mixed hnt [.no, .no, .no] [4, 5] [1032]
      [(4, .ref 1032 0 0), (5, .p (vb false))]
      [(1032, ⟨0, .box [.p (vi 0), .p (vi 0), .p (vs ByteArray.empty), .p (vi 0), .p (vi 0), .p (vi 0)]⟩)]
      [] (by kernel_rfl) trivial ?_
    refine DW.ret ?_
    obtain rfl := Option.some.inj hm
    refine retOK (bs' := []) [] (.p (.tup [.agg [vi 0, vi 0, vs ByteArray.empty, vi 0, vi 0, vi 0], vb false])) (by kernel_rfl) ?_ ?_
    · rfl
    · rfl
  ·
    intro h2
    replace hm := if_f h2 hm
    refine DW.skip ?_
    refine DW.seq ?_
    refine DW.seq ?_
    refine DW.regE Tgood mixed hnt [.no] [1, 2, 4, 6] [1016, 1032]
      [(1, .p (vi p1)), (2, .ref 1016 0 0), (4, .ref 1032 0 0), (6, .p (vi 0))]
      [(1016, ⟨0, .box [.p (slOf 6 encNode (default : Node) p0.nodes), .p (vi p0.next)]⟩), (1032, ⟨0, .box [.p (vi 0), .p (vi 0), .p (vs ByteArray.empty), .p (vi 0), .p (vi 0), .p (vi 0)]⟩)]
      [] (by kernel_rfl) trivial ?_
    refine DW.block ?_
    obtain ⟨hc1, hm⟩ := guard_open hm
    refine DW.rangeO (fun (k1 : Nat) (s1 : Unit) => mkSt [(1, .p (vi p1)), (2, .ref 1016 0 0), (4, .ref 1032 0 0), (6, .p (vi ((k1 : Nat) : Int)))] [(1016, ⟨0, .box [.p (slOf 6 encNode (default : Node) p0.nodes), .p (vi p0.next)]⟩), (1032, ⟨0, .box [.p (vi 0), .p (vi 0), .p (vs ByteArray.empty), .p (vi 0), .p (vi 0), .p (vi 0)]⟩)]) (default : Node) hm .refl ?_
    intro k1 s1 n1 hk1 hs1 he1
    refine DW.seq ?_
    refine DW.seq ?_
    refine DW.regE Tgood mixed hnt [.no, .no, .no, .no, .no] [1, 2, 4, 6, 15] [1016, 1032]
      [(1, .p (vi p1)), (2, .ref 1016 0 0), (4, .ref 1032 0 0), (6, .p (vi ((k1 : Nat) : Int))), (15, .p (vb (decide (((k1 : Nat) : Int) < ((p0.nodes.length : Nat) : Int)))))]
      [(1016, ⟨0, .box [.p (slOf 6 encNode (default : Node) p0.nodes), .p (vi p0.next)]⟩), (1032, ⟨0, .box [.p (vi 0), .p (vi 0), .p (vs ByteArray.empty), .p (vi 0), .p (vi 0), .p (vi 0)]⟩)]
      [] (by kernel_rfl) trivial ?_
    refine DW.cond (decide (((k1 : Nat) : Int) < ((p0.nodes.length : Nat) : Int))) rfl rfl ?_ ?_
    ·
      intro h11
      have hlt1 : k1 < p0.nodes.length := by have := of_decide_eq_true h11; omega
      have hm := hs1 hlt1
      unfold ref5_Find_l1 at hm
      refine DW.skip ?_
      refine DW.seq ?_
      refine DW.block ?_
      refine DW.seq ?_
      refine DW.regE Tgood mixed hnt [.no, .no, .no, .no, .no, .no, .no, .no] [1, 2, 4, 6, 25] [1016, 1032]
        [(1, .p (vi p1)), (2, .ref 1016 0 0), (4, .ref 1032 0 0), (6, .p (vi ((k1 : Nat) : Int))), (25, .p (vb ((p0.nodes.getD k1 (default : Node)).id == p1)))]
        [(1016, ⟨0, .box [.p (slOf 6 encNode (default : Node) p0.nodes), .p (vi p0.next)]⟩), (1032, ⟨0, .box [.p (vi 0), .p (vi 0), .p (vs ByteArray.empty), .p (vi 0), .p (vi 0), .p (vi 0)]⟩)]
        [((0 : Int) ≤ ((k1 : Nat) : Int)), (((k1 : Nat) : Int) < ((p0.nodes.length : Nat) : Int))] (by kernel_rfl) ⟨(by omega), (by omega), trivial⟩ ?_
      refine DW.cond ((p0.nodes.getD k1 (default : Node)).id == p1) rfl rfl ?_ ?_
      ·
        intro h12
        replace hm := if_t h12 hm
        refine DW.seq ?_
        refine DW.regE Tgood mixed hnt [.no, .no, .no, .no, .no, .no, .no] [4, 5] [1032]
          [(4, .ref 1032 0 0), (5, .p (vb true))]
          [(1032, ⟨0, .box [.p (vi (p0.nodes.getD k1 (default : Node)).id), .p (vi (p0.nodes.getD k1 (default : Node)).parent), .p (vs (p0.nodes.getD k1 (default : Node)).name), .p (vi (p0.nodes.getD k1 (default : Node)).control), .p (vi (p0.nodes.getD k1 (default : Node)).kind), .p (vi (p0.nodes.getD k1 (default : Node)).owner)]⟩)]
          [((0 : Int) ≤ ((k1 : Nat) : Int)), (((k1 : Nat) : Int) < ((p0.nodes.length : Nat) : Int))] (by kernel_rfl) ⟨(by omega), (by omega), trivial⟩ ?_
        refine DW.ret ?_
        obtain rfl := Option.some.inj hm
        refine retOK (bs' := []) [] (.p (.tup [.agg [vi (p0.nodes.getD k1 (default : Node)).id, vi (p0.nodes.getD k1 (default : Node)).parent, vs (p0.nodes.getD k1 (default : Node)).name, vi (p0.nodes.getD k1 (default : Node)).control, vi (p0.nodes.getD k1 (default : Node)).kind, vi (p0.nodes.getD k1 (default : Node)).owner], vb true])) (by kernel_rfl) ?_ ?_
        · rfl
        · rfl
      ·
        intro h12
        replace hm := if_f h12 hm
        refine DW.skip ?_
        refine DW.done ?_
        show DW _ _ _ _ _
        refine DW.regE Tgood mixed hnt [.no, .no, .no] [1, 2, 4, 6] [1016, 1032]
          [(1, .p (vi p1)), (2, .ref 1016 0 0), (4, .ref 1032 0 0), (6, .p (vi (w64 (((k1 : Nat) : Int) + 1))))]
          [(1016, ⟨0, .box [.p (slOf 6 encNode (default : Node) p0.nodes), .p (vi p0.next)]⟩), (1032, ⟨0, .box [.p (vi 0), .p (vi 0), .p (vs ByteArray.empty), .p (vi 0), .p (vi 0), .p (vi 0)]⟩)]
          [] (by kernel_rfl) trivial ?_
        exact joinDone () ⟨hlt1, hm⟩ (Conv.to [1, 2, 4, 6] [1016, 1032] [(1, .p (vi p1)), (2, .ref 1016 0 0), (4, .ref 1032 0 0), (6, .p (vi (w64 (((k1 : Nat) : Int) + 1))))] [(1, .p (vi p1)), (2, .ref 1016 0 0), (4, .ref 1032 0 0), (6, .p (vi (((k1 + 1) : Nat) : Int)))] [(1016, ⟨0, .box [.p (slOf 6 encNode (default : Node) p0.nodes), .p (vi p0.next)]⟩), (1032, ⟨0, .box [.p (vi 0), .p (vi 0), .p (vs ByteArray.empty), .p (vi 0), .p (vi 0), .p (vi 0)]⟩)] [(1016, ⟨0, .box [.p (slOf 6 encNode (default : Node) p0.nodes), .p (vi p0.next)]⟩), (1032, ⟨0, .box [.p (vi 0), .p (vi 0), .p (vs ByteArray.empty), .p (vi 0), .p (vi 0), .p (vi 0)]⟩)] (by kernel_rfl) (by kernel_rfl) (.cons .rfl (.cons .rfl (.cons .rfl (.cons (.of_eq (congrArg (fun n => MV.p (vi n)) (w64_succ hlt1 hc1))) .rfl)))) .rfl)
    ·
      intro h11
      have hge1 : ¬ k1 < p0.nodes.length := by have := of_decide_eq_false h11; omega
      have hm := he1 hge1
      unfold ref5_Find_d1 at hm
      refine DW.exit ?_
      refine joinQ_exit ?_
      refine KQ_exit ?_
      refine blockQ_exit ?_
      show DW _ _ _ _ _
      refine DW.seq ?_
      refine DW.regE Tgood mixed hnt [.no, .no, .no] [4, 5] [1032]
        [(4, .ref 1032 0 0), (5, .p (vb false))]
        [(1032, ⟨0, .box [.p (vi 0), .p (vi 0), .p (vs ByteArray.empty), .p (vi 0), .p (vi 0), .p (vi 0)]⟩)]
        [] (by kernel_rfl) trivial ?_
      refine DW.ret ?_
      obtain rfl := Option.some.inj hm
      refine retOK (bs' := []) [] (.p (.tup [.agg [vi 0, vi 0, vs ByteArray.empty, vi 0, vi 0, vi 0], vb false])) (by kernel_rfl) ?_ ?_
      · rfl
      · rfl

theorem ref5_Has_spec (p0 : Tree) (p1 : Int) (RES : Bool) (hm : ref5_Has p0 p1 = some RES) : Spec Try.prog 25 [.p (.agg [slOf 6 encNode (default : Node) p0.nodes, vi p0.next]), .p (vi p1)] [] (.p (vb RES)) [] [] := by
  unfold ref5_Has at hm
  refine spec_of Tgood (T := Tt) Try.func25 (by decide) (c := _) rfl rfl (sl := [(0, .p (.agg [slOf 6 encNode (default : Node) p0.nodes, vi p0.next])), (1, .p (vi p1))]) (ob := []) (Nat.le_of_ble_eq_true rfl) (Nat.le_of_ble_eq_true rfl) (by kernel_rfl) (by kernel_rfl) ?_
  intro cx hnt
  refine DW.start ?_
  refine DW.seq ?_
  refine DW.regE Tgood mixed hnt [.no, .no] [1, 2] [1016]
    [(1, .p (vi p1)), (2, .ref 1016 0 0)]
    [(1016, ⟨0, .box [.p (slOf 6 encNode (default : Node) p0.nodes), .p (vi p0.next)]⟩)]
    [] (by kernel_rfl) trivial ?_
  refine DW.seq ?_
  obtain ⟨r1, hr1, hm⟩ := bind_open hm
  refine DW.regE Tgood mixed hnt [.no, .no, .call 51 [] true (.p (.tup [.agg [vi r1.1.id, vi r1.1.parent, vs r1.1.name, vi r1.1.control, vi r1.1.kind, vi r1.1.owner], vb r1.2])) [] [], .no, .no, .no, .no, .no, .no] [6] []
    [(6, .p (vb r1.2))]
    []
    [(Spec Try.prog 51 [.p (.agg [slOf 6 encNode (default : Node) p0.nodes, vi p0.next]), .p (vi p1)] [] (.p (.tup [.agg [vi r1.1.id, vi r1.1.parent, vs r1.1.name, vi r1.1.control, vi r1.1.kind, vi r1.1.owner], vb r1.2])) [] [])] (by kernel_rfl) ⟨(ref5_Find_spec p0 p1 r1 hr1), trivial⟩ ?_
  refine DW.seq ?_
  refine DW.regE Tgood mixed hnt [.no, .no] [4] []
    [(4, .p (vb r1.2))]
    []
    [] (by kernel_rfl) trivial ?_
  refine DW.ret ?_
  obtain rfl := Option.some.inj hm
  refine retOK (bs' := []) [] (.p (vb r1.2)) (by kernel_rfl) ?_ ?_
  · rfl
  · rfl
end Go.Dm
