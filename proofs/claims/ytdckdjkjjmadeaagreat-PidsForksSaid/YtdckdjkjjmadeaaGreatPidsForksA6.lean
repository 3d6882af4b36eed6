/- Texts of the proof of PidsForks: the data machine, the models of the Go functions, their contracts. -/
import Derived.Test.YtdckdjkjjmadeaaGreatPidsForksA5
set_option linter.unusedVariables false
set_option linter.unusedSimpArgs false
/- Go functions compute their models, printed by a program. -/
namespace Go.Dm
open Go.Proofs
set_option linter.unusedVariables false
abbrev c115e1 (s1 : (List Int) × Int × Int × Int × Bool × Bool) : Nat × MV := (10, pI (w64 (s1.2.2.1 - s1.2.1)))
abbrev c115e2 (s1 : (List Int) × Int × Int × Int × Bool × Bool) := (w64 (Int.tdiv (w64 (s1.2.2.1 - s1.2.1)) 8))
theorem pdqsortOrdered_slices_intBSpec (rec : (List Int) → Int → Int → Int → Option (List Int)) (ih : ∀ (p0 : List Int) (p1 : Int) (p2 : Int) (p3 : Int) (RES : List Int), rec p0 p1 p2 p3 = some RES → Spec Tryz.prog 168 [ow 0 p0.length, pI p1, pI p2, pI p3] [roI p0] (.p (.tup [])) [roI RES] []) (p0 : List Int) (p1 : Int) (p2 : Int) (p3 : Int) (RES : List Int) (hm : pdqsortOrdered_slices_intB rec p0 p1 p2 p3 = some RES) : Spec Tryz.prog 168 [ow 0 p0.length, pI p1, pI p2, pI p3] [roI p0] (.p (.tup [])) [roI RES] [] := by
 unfold pdqsortOrdered_slices_intB at hm
 refine SO Tryz.func168 rfl rfl [(0, ow 0 p0.length), (1, pI p1), (2, pI p2), (3, pI p3)] [(0, ob0 (roI p0))] ?_
 intro cx hnt
 refine Sq (RD hnt (.no :: []) [] [(8, pB true)] [] [] tv ?_)
 refine Sq (RD hnt (.no :: []) [] [(9, pB true)] [] [] tv ?_)
 refine Bk ?_
 refine DW.whileO (fun (s1 : (List Int) × Int × Int × Int × Bool × Bool) => mkSt [(0, ow 0 s1.1.length), (1, pI s1.2.1), (2, pI s1.2.2.1), (3, pI s1.2.2.2.1), (8, pB s1.2.2.2.2.1), (9, pB s1.2.2.2.2.2)] [(0, ob0 (roI s1.1))]) hm Conv.eqK ?_
 intro s1 n1 hm
 unfold pdqsortOrdered_slices_intL1 at hm
 refine Bk ?_
 refine Sq (RD hnt (nn 4 []) [] [(c115e1 s1)] [] [] tv ?_)
 refine Sq (Sq (RD hnt (nn 2 []) [] [(23, pB (decide ((w64 (s1.2.2.1 - s1.2.1)) ≤ 12)))] [] [] tv ?_))
 refine condM hm ?_ ?_
 ·intro h66 hm
  obtain ⟨r67, hr67, hm⟩ := bo hm
  obtain ⟨g68, hm⟩ := go1 hm
  refine Sq (RK hnt (nn 3 (o116 [0] true r67 :: [])) [] [(0, ob0 (roI r67))] (an (insertionSortOrdered_slices_intSpec s1.1 s1.2.1 s1.2.2.1 r67 hr67) (an (⟨rfl, g68⟩ : Body.same (roI s1.1) (roI r67)) tv)) ?_)
  obtain rfl := sj hm
  exact DW.ret (retK [roI r67] [] (.p (.tup [])))
 ·intro h66 hm
  refine Sk ?_
  refine Sq (Sq (RD hnt (nn 2 []) [23] [(29, pB (s1.2.2.2.1 == 0))] [] [] tv ?_))
  refine condM hm ?_ ?_
  ·intro h69 hm
   obtain ⟨r70, hr70, hm⟩ := bo hm
   obtain ⟨g71, hm⟩ := go1 hm
   refine Sq (RK hnt (nn 3 (o119 [0] true r70 :: [])) [] [(0, ob0 (roI r70))] (an (heapSortOrdered_slices_intSpec s1.1 s1.2.1 s1.2.2.1 r70 hr70) (an (⟨rfl, g71⟩ : Body.same (roI s1.1) (roI r70)) tv)) ?_)
   obtain rfl := sj hm
   exact DW.ret (retK [roI r70] [] (.p (.tup [])))
  ·intro h69 hm
   refine Sk ?_
   refine Sq (Sq (RD hnt (nn 2 []) [29] [(35, pB (!s1.2.2.2.2.1))] [] [] tv ?_))
   refine Jn (ι := (List Int) × Int) (fun (y8 : (List Int) × Int) => mkSt [(0, ow 0 y8.1.length), (1, pI s1.2.1), (2, pI s1.2.2.1), (3, pI y8.2), (8, pB s1.2.2.2.2.1), (9, pB s1.2.2.2.2.2), (c115e1 s1)] [(0, ob0 (roI y8.1))]) (fun y8 => (pdqsortOrdered_slices_intJ8 rec s1 n1) y8 = some RES) ?_ ?_
   ·intro y8 hm
    unfold pdqsortOrdered_slices_intJ8 at hm
    obtain ⟨r75, hr75, hm⟩ := bo hm
    refine Sq (RD hnt (nn 3 (o121 [] true r75 :: nn 5 [])) [] [(11, pI r75.1), (12, pI r75.2)] [] [] (an (choosePivotOrdered_slices_intSpec y8.1 s1.2.1 s1.2.2.1 r75 hr75) tv) ?_)
    refine Sq (Sq (RD hnt (nn 2 []) [] [(50, pB (r75.2 == 2))] [] [] tv ?_))
    refine Jn (ι := (List Int) × Int × Int) (fun (y9 : (List Int) × Int × Int) => mkSt [(0, ow 0 y9.1.length), (1, pI s1.2.1), (2, pI s1.2.2.1), (3, pI y8.2), (8, pB s1.2.2.2.2.1), (9, pB s1.2.2.2.2.2), (c115e1 s1), (11, pI y9.2.1), (12, pI y9.2.2)] [(0, ob0 (roI y9.1))]) (fun y9 => (pdqsortOrdered_slices_intJ9 rec s1 n1 y8) y9 = some RES) ?_ ?_
    ·intro y9 hm
     unfold pdqsortOrdered_slices_intJ9 at hm
     refine Sq (Sq (DW.regJ (sl2 := [(0, ow 0 y9.1.length), (1, pI s1.2.1), (2, pI s1.2.2.1), (3, pI y8.2), (8, pB s1.2.2.2.2.1), (9, pB s1.2.2.2.2.2), (c115e1 s1), (11, pI y9.2.1), (68, pB ((s1.2.2.2.2.1 && s1.2.2.2.2.2) && (y9.2.2 == 1)))]) (ob2 := [(0, ob0 (roI y9.1))]) ?_ ?_))
     ·rcases bt s1.2.2.2.2.1 with h79 | h79
      ·rcases bt s1.2.2.2.2.2 with h80 | h80
       ·exact RT hnt (nn 3 (pT :: nn 3 (pT :: []))) [(68, pB (y9.2.2 == 1))] (an2 h79 (an3 h80 tv)) (by kernel_rfl) (.cons rfl (.of_eq (by rw [h79, h80]; try rfl)) .nil)
       ·exact RT hnt (nn 3 (pT :: .no :: sk 2 (pF :: []))) [(68, pB false)] (an2 h79 (an3 h80 tv)) (by kernel_rfl) (.cons rfl (.of_eq (by rw [h79, h80]; try rfl)) .nil)
      ·exact RT hnt (nn 2 (.skip :: pF :: .no :: sk 2 (pF :: []))) [(68, pB false)] (an2 h79 (an3 ff tv)) (by kernel_rfl) (.cons rfl (.of_eq (by rw [h79]; try rfl)) .nil)
     ·refine Jn (ι := List Int) (fun (y10 : List Int) => mkSt [(0, ow 0 y10.length), (1, pI s1.2.1), (2, pI s1.2.2.1), (3, pI y8.2), (8, pB s1.2.2.2.2.1), (9, pB s1.2.2.2.2.2), (c115e1 s1), (11, pI y9.2.1)] [(0, ob0 (roI y10))]) (fun y10 => (pdqsortOrdered_slices_intJ10 rec s1 n1 y8 y9) y10 = some RES) ?_ ?_
      ·intro y10 hm
       unfold pdqsortOrdered_slices_intJ10 at hm
       refine Sq (Sq ?_)
       refine Jn (ι := Bool) (fun (y11 : Bool) => mkSt [(0, ow 0 y10.length), (1, pI s1.2.1), (2, pI s1.2.2.1), (3, pI y8.2), (8, pB s1.2.2.2.2.1), (9, pB s1.2.2.2.2.2), (c115e1 s1), (11, pI y9.2.1), (87, pB y11)] [(0, ob0 (roI y10))]) (fun y11 => (pdqsortOrdered_slices_intJ11 rec s1 n1 y8 y9 y10) y11 = some RES) ?_ ?_
       ·intro y11 hm
        unfold pdqsortOrdered_slices_intJ11 at hm
        refine condM hm ?_ ?_
        ·intro h91 hm
         obtain ⟨r92, hr92, hm⟩ := bo hm
         obtain ⟨g93, hm⟩ := go1 hm
         refine Sq (RN hnt (nn 4 (o127 [0] true r92 :: .no :: [])) [(0, ow 0 r92.2.length), (2, pI s1.2.2.1), (3, pI y8.2), (8, pB s1.2.2.2.2.1), (9, pB s1.2.2.2.2.2), (13, pI r92.1)] [(0, ob0 (roI r92.2))] [(0, ow 0 y10.length)] [] (an (partitionEqualOrdered_slices_intSpec y10 s1.2.1 s1.2.2.1 y9.2.1 r92 hr92) (an (⟨rfl, g93⟩ : Body.same (roI y10) (roI r92.2)) tv)) (by kernel_rfl) (.cons rfl (MLe.of_eq (congrArg (MV.own 0 0 0) g93)) .nil) .nil ?_)
         refine Sq (RD hnt (nn 2 []) [13] [(1, pI r92.1)] [] [] tv ?_)
         refine DW.exit ?_
         refine blockQ_exit ?_
         show DW _ _ _ _ _
         exact jD (r92.2, r92.1, s1.2.2.1, y8.2, s1.2.2.2.2.1, s1.2.2.2.2.2) hm Conv.eqK
        ·intro h91 hm
         refine Sk ?_
         obtain ⟨r94, hr94, hm⟩ := bo hm
         obtain ⟨g95, hm⟩ := go1 hm
         refine Sq (RN hnt (nn 4 (o128 [0] true r94 :: nn 5 [])) [(0, ow 0 r94.2.2.length), (1, pI s1.2.1), (2, pI s1.2.2.1), (3, pI y8.2), (c115e1 s1), (14, pI r94.1), (15, pB r94.2.1)] [(0, ob0 (roI r94.2.2))] [(0, ow 0 y10.length)] [] (an (partitionOrdered_slices_intSpec y10 s1.2.1 s1.2.2.1 y9.2.1 r94 hr94) (an (⟨rfl, g95⟩ : Body.same (roI y10) (roI r94.2.2)) tv)) (by kernel_rfl) (.cons rfl (MLe.of_eq (congrArg (MV.own 0 0 0) g95)) .nil) .nil ?_)
         refine Sq (RD hnt (nn 2 []) [15] [(9, pB r94.2.1)] [] [] tv ?_)
         refine Sq (RD hnt (nn 8 []) [] [(16, pI (w64 (r94.1 - s1.2.1))), (17, pI (w64 (s1.2.2.1 - r94.1)))] [] [] tv ?_)
         refine Sq (RD hnt (nn 3 []) [10] [(18, pI (c115e2 s1))] [] [] (an (by decide : (8 : Int) ≠ 0) tv) ?_)
         refine Sq (RD hnt (nn 3 []) [] [(113, pB (decide ((w64 (r94.1 - s1.2.1)) < (w64 (s1.2.2.1 - r94.1)))))] [] [] tv ?_)
         refine condM hm ?_ ?_
         ·intro h96 hm
          refine Sq (RD hnt (nn 4 []) [16, 17, 18, 113] [(8, pB (decide ((w64 (r94.1 - s1.2.1)) ≥ (c115e2 s1))))] [] [] tv ?_)
          obtain ⟨r97, hr97, hm⟩ := bo hm
          obtain ⟨g98, hm⟩ := go1 hm
          refine Sq (RN hnt (nn 4 (.call 168 [0] true (.p (.tup [])) [roI r97] [] :: [])) [(0, ow 0 r97.length), (2, pI s1.2.2.1), (3, pI y8.2), (8, pB (decide ((w64 (r94.1 - s1.2.1)) ≥ (c115e2 s1)))), (9, pB r94.2.1), (14, pI r94.1)] [(0, ob0 (roI r97))] [(0, ow 0 r94.2.2.length)] [] (an (ih r94.2.2 s1.2.1 r94.1 y8.2 r97 hr97) (an (⟨rfl, g98⟩ : Body.same (roI r94.2.2) (roI r97)) tv)) (by kernel_rfl) (.cons rfl (MLe.of_eq (congrArg (MV.own 0 0 0) g98)) .nil) .nil ?_)
          refine RD hnt (nn 3 []) [14] [(1, pI (w64 (r94.1 + 1)))] [] [] tv ?_
          refine DW.done ?_
          show DW _ _ _ _ _
          exact jD (r97, (w64 (r94.1 + 1)), s1.2.2.1, y8.2, (decide ((w64 (r94.1 - s1.2.1)) ≥ (c115e2 s1))), r94.2.1) hm Conv.eqK
         ·intro h96 hm
          refine Sq (RD hnt (nn 4 []) [16, 17, 18, 113] [(8, pB (decide ((w64 (s1.2.2.1 - r94.1)) ≥ (c115e2 s1))))] [] [] tv ?_)
          obtain ⟨r99, hr99, hm⟩ := bo hm
          obtain ⟨g100, hm⟩ := go1 hm
          refine Sq (RN hnt (nn 5 (.call 168 [0] true (.p (.tup [])) [roI r99] [] :: [])) [(0, ow 0 r99.length), (1, pI s1.2.1), (3, pI y8.2), (8, pB (decide ((w64 (s1.2.2.1 - r94.1)) ≥ (c115e2 s1)))), (9, pB r94.2.1), (14, pI r94.1)] [(0, ob0 (roI r99))] [(0, ow 0 r94.2.2.length)] [] (an (ih r94.2.2 (w64 (r94.1 + 1)) s1.2.2.1 y8.2 r99 hr99) (an (⟨rfl, g100⟩ : Body.same (roI r94.2.2) (roI r99)) tv)) (by kernel_rfl) (.cons rfl (MLe.of_eq (congrArg (MV.own 0 0 0) g100)) .nil) .nil ?_)
          refine RD hnt (nn 2 []) [14] [(2, pI r94.1)] [] [] tv ?_
          refine DW.done ?_
          show DW _ _ _ _ _
          exact jD (r99, s1.2.1, r94.1, y8.2, (decide ((w64 (s1.2.2.1 - r94.1)) ≥ (c115e2 s1))), r94.2.1) hm Conv.eqK
       ·rcases bt (decide (s1.2.1 > 0)) with h85 | h85
        ·replace hm := if_t h85 hm
         obtain ⟨g86, g87, g88, g89, hm⟩ := go4 hm
         obtain ⟨r90, hr90, hm⟩ := bo hm
         refine RD hnt (nn 12 (o117 [] true r90 :: .no :: pT :: [])) [] [(87, pB (!r90))] [] [] (an4 h85 (an g86.1 (an g86.2 (an h85 (an g87 (an3 h85 (an g88.1 (an g88.2 (an h85 (an g89 (an h85 (an (Less_cmp_intSpec (y10.getD (Int.toNat (w64 (s1.2.1 - 1))) 0) (y10.getD (Int.toNat y9.2.1) 0) r90 hr90) (an2 h85 tv))))))))))))) ?_
         exact jD (!r90) hm Conv.eqK
        ·replace hm := if_f h85 hm
         refine RD hnt (nn 3 (sk 11 (pF :: []))) [] [(87, pB false)] [] [] (an6 h85 (an6 h85 tv)) ?_
         exact jD false hm Conv.eqK
      ·refine condM hm ?_ ?_
       ·intro h81 hm
        obtain ⟨r82, hr82, hm⟩ := bo hm
        obtain ⟨g83, hm⟩ := go1 hm
        refine Sq (RN hnt (nn 3 (o126 [0] true r82 :: [])) [(0, ow 0 r82.2.length), (1, pI s1.2.1), (2, pI s1.2.2.1), (3, pI y8.2), (8, pB s1.2.2.2.2.1), (9, pB s1.2.2.2.2.2), (c115e1 s1), (11, pI y9.2.1), (72, pB r82.1)] [(0, ob0 (roI r82.2))] [(0, ow 0 y9.1.length)] [] (an (partialInsertionSortOrdered_slices_intSpec y9.1 s1.2.1 s1.2.2.1 r82 hr82) (an (⟨rfl, g83⟩ : Body.same (roI y9.1) (roI r82.2)) tv)) (by kernel_rfl) (.cons rfl (MLe.of_eq (congrArg (MV.own 0 0 0) g83)) .nil) .nil ?_)
        refine condM hm ?_ ?_
        ·intro h84 hm
         obtain rfl := sj hm
         exact DW.ret (retK [roI r82.2] [] (.p (.tup [])))
        ·intro h84 hm
         refine Sk ?_
         exact jD r82.2 hm Conv.t0
       ·intro h81 hm
        refine Sk ?_
        exact jD y9.1 hm Conv.t0
    ·refine condM hm ?_ ?_
     ·intro h76 hm
      obtain ⟨r77, hr77, hm⟩ := bo hm
      obtain ⟨g78, hm⟩ := go1 hm
      refine Sq (RN hnt (nn 3 (o125 [0] true r77 :: [])) [(0, ow 0 r77.length), (1, pI s1.2.1), (2, pI s1.2.2.1), (3, pI y8.2), (8, pB s1.2.2.2.2.1), (9, pB s1.2.2.2.2.2), (c115e1 s1), (11, pI r75.1)] [(0, ob0 (roI r77))] [(0, ow 0 y8.1.length)] [] (an (reverseRangeOrdered_slices_intSpec y8.1 s1.2.1 s1.2.2.1 r77 hr77) (an (⟨rfl, g78⟩ : Body.same (roI y8.1) (roI r77)) tv)) (by kernel_rfl) (.cons rfl (MLe.of_eq (congrArg (MV.own 0 0 0) g78)) .nil) .nil ?_)
      refine Sq (RD hnt (nn 7 []) [] [(11, pI (w64 ((w64 (s1.2.2.1 - 1)) - (w64 (r75.1 - s1.2.1)))))] [] [] tv ?_)
      refine RD hnt (.no :: []) [] [(12, pI 1)] [] [] tv ?_
      exact jD (r77, (w64 ((w64 (s1.2.2.1 - 1)) - (w64 (r75.1 - s1.2.1)))), 1) hm Conv.eqK
     ·intro h76 hm
      refine Sk ?_
      exact jD (y8.1, r75.1, r75.2) hm Conv.t0
   ·refine condM hm ?_ ?_
    ·intro h72 hm
     obtain ⟨r73, hr73, hm⟩ := bo hm
     obtain ⟨g74, hm⟩ := go1 hm
     refine Sq (RN hnt (nn 3 (o129 [0] true r73 :: [])) [(0, ow 0 r73.length), (1, pI s1.2.1), (2, pI s1.2.2.1), (3, pI s1.2.2.2.1), (8, pB s1.2.2.2.2.1), (9, pB s1.2.2.2.2.2), (c115e1 s1)] [(0, ob0 (roI r73))] [(0, ow 0 s1.1.length)] [] (an (breakPatternsOrdered_slices_intSpec s1.1 s1.2.1 s1.2.2.1 r73 hr73) (an (⟨rfl, g74⟩ : Body.same (roI s1.1) (roI r73)) tv)) (by kernel_rfl) (.cons rfl (MLe.of_eq (congrArg (MV.own 0 0 0) g74)) .nil) .nil ?_)
     refine RD hnt (nn 3 []) [] [(3, pI (w64 (s1.2.2.2.1 - 1)))] [] [] tv ?_
     exact jD (r73, (w64 (s1.2.2.2.1 - 1))) hm Conv.eqK
    ·intro h72 hm
     refine Sk ?_
     exact jD (s1.1, s1.2.2.2.1) hm Conv.t0
theorem pdqsortOrdered_slices_intFSpec : ∀ (n : Nat) (p0 : List Int) (p1 : Int) (p2 : Int) (p3 : Int) (RES : List Int), pdqsortOrdered_slices_intF n p0 p1 p2 p3 = some RES → Spec Tryz.prog 168 [ow 0 p0.length, pI p1, pI p2, pI p3] [roI p0] (.p (.tup [])) [roI RES] []
  | 0, p0, p1, p2, p3, RES, hm => by simp [pdqsortOrdered_slices_intF] at hm
  | n + 1, p0, p1, p2, p3, RES, hm => pdqsortOrdered_slices_intBSpec (pdqsortOrdered_slices_intF n) (pdqsortOrdered_slices_intFSpec n) p0 p1 p2 p3 RES hm
theorem pdqsortOrdered_slices_intSpec (p0 : List Int) (p1 : Int) (p2 : Int) (p3 : Int) (RES : List Int) (hm : pdqsortOrdered_slices_int p0 p1 p2 p3 = some RES) : Spec Tryz.prog 168 [ow 0 p0.length, pI p1, pI p2, pI p3] [roI p0] (.p (.tup [])) [roI RES] [] := pdqsortOrdered_slices_intFSpec FUEL p0 p1 p2 p3 RES hm
abbrev o115 (ks : List Nat) (b : Bool) (RES : List Int) : Orc := .call 168 ks b (.p (.tup [])) [roI RES] []

theorem Sort_slices_intSpec (p0 : List Int) (RES : List Int) (hm : Sort_slices_int p0 = some RES) : Spec Tryz.prog 155 [ow 0 p0.length] [roI p0] (.p (.tup [])) [roI RES] [] := by
 unfold Sort_slices_int at hm
 refine SO Tryz.func155 rfl rfl [(0, ow 0 p0.length)] [(0, ob0 (roI p0))] ?_
 intro cx hnt
 refine Sq (RD hnt (nn 3 []) [] [(2, pI ((p0.length : Nat) : Int))] [] [] tv ?_)
 obtain ⟨r1, hr1, hm⟩ := bo hm
 obtain ⟨r2, hr2, hm⟩ := bo hm
 obtain ⟨g3, hm⟩ := go1 hm
 refine RK hnt (nn 4 (o113 [] true r1 :: o115 [0] true r2 :: [])) [] [(0, ob0 (roI r2))] (an (Len_bitsSpec (IntKind.u64.wrap ((p0.length : Nat) : Int)) r1 hr1) (an (pdqsortOrdered_slices_intSpec p0 0 ((p0.length : Nat) : Int) r1 r2 hr2) (an (⟨rfl, g3⟩ : Body.same (roI p0) (roI r2)) tv))) ?_
 refine DW.done ?_
 obtain rfl := sj hm
 exact endK [roI r2] [] (.p (.tup []))
abbrev o112 (ks : List Nat) (b : Bool) (RES : List Int) : Orc := .call 155 ks b (.p (.tup [])) [roI RES] []

abbrev c132e1 (s4 : (List Int) × Int) (k1 : Int) (k4 : Int) := (s4.1.getD (addN (Int.toNat k1) (Int.toNat k4)) 0)
abbrev c132e2 (k1 : Int) (p0 : List Int) : Nat × MV := (4, .own 0 0 (Int.toNat k1) (subN p0.length (Int.toNat k1)))
abbrev c132e3 (s4 : (List Int) × Int) := (fillL s4.1 (Int.toNat s4.2) (subN s4.1.length (Int.toNat s4.2)) 0)
theorem Compact_slices_intSpec (p0 : List Int) (RES : Nat × (List Int)) (hm : Compact_slices_int p0 = some RES) : Spec Tryz.prog 156 [ow 0 p0.length] [roI p0] (ow 0 RES.1) [roI RES.2] [] := by
 unfold Compact_slices_int at hm
 refine SO Tryz.func156 rfl rfl [(0, ow 0 p0.length)] [(0, ob0 (roI p0))] ?_
 intro cx hnt
 refine Sq (RD hnt (.no :: []) [] [] [] [] tv ?_)
 refine Sq (Sq (RD hnt (nn 3 []) [] [(8, pB (decide (((p0.length : Nat) : Int) < 2)))] [] [] tv ?_))
 refine condM hm ?_ ?_
 ·intro h1 hm
  refine Sq (RK hnt (nn 2 []) [(2, ow 0 p0.length)] [(0, ob0 (roI p0))] tv ?_)
  obtain rfl := sj hm
  exact DW.ret (retK [roI p0] [] (ow 0 p0.length))
 ·intro h1 hm
  refine Sk ?_
  refine Sq (Sq (RD hnt (.no :: []) [8] [(3, pI 1)] [] [] tv ?_))
  refine Bk ?_
  obtain ⟨hc1, hm⟩ := go1 hm
  refine DW.forO (fun (k1 : Int) (s1 : Unit) => mkSt [(0, ow 0 p0.length), (3, pI k1)] [(0, ob0 (roI p0))]) (lo := 1) (hi := ((p0.length : Nat) : Int)) hm Conv.eqK ?_
  intro k1 s1 n1 hk1 hs1 he1
  refine Sq (Sq (RD hnt (nn 4 []) [] [(13, pB (decide (k1 < ((p0.length : Nat) : Int))))] [] [] tv ?_))
  refine condK (decide (k1 < ((p0.length : Nat) : Int))) ?_ ?_
  ·intro h94
   have hlt1 : k1 < ((p0.length : Nat) : Int) := by have := of_decide_eq_true h94; omega
   have hm := hs1 hlt1
   unfold Compact_slices_intL1 at hm
   refine Sk ?_
   refine Sq (Bk ?_)
   obtain ⟨g95, g96, g97, g98, hm⟩ := go4 hm
   refine Sq (RD hnt (nn 10 []) [13] [(25, pB ((p0.getD (Int.toNat k1) 0) == (p0.getD (Int.toNat (w64 (k1 - 1))) 0)))] [] [] (an g95.1 (an g95.2 (an g96 (an g97.1 (an g97.2 (an g98 tv)))))) ?_)
   refine condM hm ?_ ?_
   ·intro h99 hm
    obtain ⟨g100, hm⟩ := go1 hm
    refine Sq (RD hnt (nn 4 []) [25] [(c132e2 k1 p0)] [] [] (an (by omega : (0 : Int) ≤ k1) (an (by omega : k1 ≤ ((p0.length : Nat) : Int)) (an (by omega : ((p0.length : Nat) : Int) ≤ ((p0.length : Nat) : Int)) tv))) ?_)
    refine Sq (Sq (RD hnt (.no :: []) [] [(5, pI 1)] [] [] tv ?_))
    refine Bk ?_
    obtain ⟨hc4, hm⟩ := go1 hm
    refine DW.forO (fun (k4 : Int) (s4 : (List Int) × Int) => mkSt [(0, ow 0 s4.1.length), (3, pI s4.2), (c132e2 k1 p0), (5, pI k4)] [(0, ob0 (roI s4.1))]) (lo := 1) (hi := (((subN p0.length (Int.toNat k1)) : Nat) : Int)) hm Conv.eqK ?_
    intro k4 s4 n4 hk4 hs4 he4
    refine Sq (Sq (RD hnt (nn 4 []) [] [(32, pB (decide (k4 < (((subN p0.length (Int.toNat k1)) : Nat) : Int))))] [] [] tv ?_))
    refine condK (decide (k4 < (((subN p0.length (Int.toNat k1)) : Nat) : Int))) ?_ ?_
    ·intro h127
     have hlt4 : k4 < (((subN p0.length (Int.toNat k1)) : Nat) : Int) := by have := of_decide_eq_true h127; omega
     have hm := hs4 hlt4
     unfold Compact_slices_intL4 at hm
     refine Sk ?_
     refine Sq ?_
     refine Jn (ι := (List Int) × Int) (fun (y9 : (List Int) × Int) => mkSt [(0, ow 0 y9.1.length), (3, pI y9.2), (c132e2 k1 p0), (5, pI k4)] [(0, ob0 (roI y9.1))]) (fun y9 => (Compact_slices_intJ9 n4) y9 = some RES) ?_ ?_
     ·intro y9 hm
      unfold Compact_slices_intJ9 at hm
      refine RD hnt (nn 3 []) [] [(5, pI (w64 (k4 + 1)))] [] [] tv ?_
      exact jD (y9.1, y9.2) ⟨hlt4, hm⟩ (Conv.tp [(5, pI (w64 (k4 + 1)))] [] (by kernel_rfl) (.cons rfl (.of_eq (congrArg pI (w64_for (lo := 1) (hi := (((subN p0.length (Int.toNat k1)) : Nat) : Int)) (by omega) hk4 hlt4 (by omega)))) .nil) .nil)
     ·refine Bk ?_
      obtain ⟨g128, g129, g130, g131, hm⟩ := go4 hm
      refine Sq (RD hnt (nn 10 []) [32] [(44, pB ((c132e1 s4 k1 k4) != (s4.1.getD (addN (Int.toNat k1) (Int.toNat (w64 (k4 - 1)))) 0)))] [] [] (an g128.1 (an g128.2 (an g129 (an g130.1 (an g130.2 (an g131 tv)))))) ?_)
      refine condM hm ?_ ?_
      ·intro h132 hm
       obtain ⟨g133, g134, g135, g136, hm⟩ := go4 hm
       refine Sq (RN hnt (nn 8 []) [(0, ow 0 (s4.1.set (Int.toNat s4.2) (c132e1 s4 k1 k4)).length), (3, pI s4.2), (c132e2 k1 p0), (5, pI k4)] [(0, ob0 (roI (s4.1.set (Int.toNat s4.2) (c132e1 s4 k1 k4))))] [(0, ow 0 s4.1.length)] [(0, .row 1 s4.1.length (updF (elI s4.1) (Int.toNat s4.2) [vi (c132e1 s4 k1 k4)]))] (an g133.1 (an g133.2 (an g134 (an g135.1 (an g135.2 (an g136 tv)))))) (by kernel_rfl) (.cons rfl (MLe.ownLen (enc := encI) (d := 0) (f := (updF (elI s4.1) (Int.toNat s4.2) [vi (c132e1 s4 k1 k4)])) (RowIs.upd RowIs.elems (c132e1 s4 k1 k4) rfl)) .nil) (.cons rfl (BLe.typed (RowIs.upd RowIs.elems (c132e1 s4 k1 k4) rfl)) .nil) ?_)
       refine RD hnt (nn 3 []) [] [(3, pI (w64 (s4.2 + 1)))] [] [] tv ?_
       exact bD ((s4.1.set (Int.toNat s4.2) (c132e1 s4 k1 k4)), (w64 (s4.2 + 1))) hm Conv.eqK
      ·intro h132 hm
       refine Sk ?_
       exact bD (s4.1, s4.2) hm Conv.t0
    ·intro h127
     have hge4 : ¬ k4 < (((subN p0.length (Int.toNat k1)) : Nat) : Int) := by have := of_decide_eq_false h127; omega
     have hm := he4 hge4
     unfold Compact_slices_intD4 at hm
     refine DW.exit ?_
     refine joinQ_exit ?_
     refine KQ_exit ?_
     refine blockQ_exit ?_
     show DW _ _ _ _ _
     obtain ⟨g137, g138, hm⟩ := go2 hm
     refine Sq (RN hnt (nn 4 []) [(0, ow 0 (c132e3 s4).length), (3, pI s4.2)] [(0, ob0 (roI (c132e3 s4)))] [(0, ow 0 s4.1.length)] [(0, .row 1 s4.1.length (overF (elI s4.1) (Int.toNat s4.2) (subN s4.1.length (Int.toNat s4.2)) (fun _ => [vi 0])))] (an (by omega : (0 : Int) ≤ s4.2) (an (by omega : s4.2 ≤ ((s4.1.length : Nat) : Int)) (an (by omega : ((s4.1.length : Nat) : Int) ≤ ((s4.1.length : Nat) : Int)) (an g138 tv)))) (by kernel_rfl) (.cons rfl (MLe.ownLen (enc := encI) (d := 0) (f := (overF (elI s4.1) (Int.toNat s4.2) (subN s4.1.length (Int.toNat s4.2)) (fun _ => [vi 0]))) (RowIs.fill RowIs.elems 0 rfl (by first | exact g138 | omega))) .nil) (.cons rfl (BLe.typed (RowIs.fill RowIs.elems 0 rfl (by first | exact g138 | omega))) .nil) ?_)
     obtain ⟨g139, hm⟩ := go1 hm
     refine Sq (RD hnt (nn 4 []) [0, 3] [(2, ow 0 (Int.toNat s4.2))] [] [] (an (by omega : (0 : Int) ≤ 0) (an (by omega : (0 : Int) ≤ s4.2) (an (by omega : s4.2 ≤ (((fillL s4.1 (Int.toNat s4.2) (subN s4.1.length (Int.toNat s4.2)) 0).length : Nat) : Int)) tv))) ?_)
     obtain rfl := sj hm
     exact DW.ret (retK [roI (c132e3 s4)] [] (ow 0 (Int.toNat s4.2)))
   ·intro h99 hm
    refine Sk ?_
    refine DW.done ?_
    show DW _ _ _ _ _
    refine RD hnt (nn 3 []) [25] [(3, pI (w64 (k1 + 1)))] [] [] tv ?_
    exact jD () ⟨hlt1, hm⟩ (Conv.tp [(3, pI (w64 (k1 + 1)))] [] (by kernel_rfl) (.cons rfl (.of_eq (congrArg pI (w64_for (lo := 1) (hi := ((p0.length : Nat) : Int)) (by omega) hk1 hlt1 (by omega)))) .nil) .nil)
  ·intro h94
   have hge1 : ¬ k1 < ((p0.length : Nat) : Int) := by have := of_decide_eq_false h94; omega
   have hm := he1 hge1
   unfold Compact_slices_intD1 at hm
   refine DW.exit ?_
   refine joinQ_exit ?_
   refine KQ_exit ?_
   refine blockQ_exit ?_
   show DW _ _ _ _ _
   refine Sq (RK hnt (nn 2 []) [(2, ow 0 p0.length)] [(0, ob0 (roI p0))] tv ?_)
   obtain rfl := sj hm
   exact DW.ret (retK [roI p0] [] (ow 0 p0.length))
abbrev o132 (ks : List Nat) (b : Bool) (RES : Nat × (List Int)) : Orc := .call 156 ks b (ow 0 RES.1) [roI RES.2] []

abbrev c109e1 (p0 : Hierarchy) : Nat × MV := (12, pI ((p0.tasks.length : Nat) : Int))
theorem Those_crewQTasksFa_crewQID_crewSpec (p0 : Hierarchy) (p1c0 : Int) (RES : List Int) (hm : Those_crewQTasksFa_crewQID_crew p0 p1c0 = some RES) : Spec Tryz.prog 112 [.p (.agg (encHierarchy p0)), .fn 151 [rr 0], .p (.fn 148 [])] [.box [pI p1c0]] (.p (slI RES)) [.box [pI p1c0]] [] := by
 unfold Those_crewQTasksFa_crewQID_crew at hm
 refine SO Tryz.func112 rfl rfl [(0, .p (.agg (encHierarchy p0))), (1, .fn 151 [rr 0]), (2, .p (.fn 148 []))] [(0, bx [pI p1c0])] ?_
 intro cx hnt
 refine Sq (RD hnt (nn 2 []) [0] [(3, rr 1024)] [] [(1024, bx (pm (encHierarchy p0)))] tv ?_)
 refine Sq (RD hnt (.no :: []) [] [(7, .p (.sl .nil 0 0 (fun _ => [])))] [] [] tv ?_)
 refine Sq (Sq (RD hnt (nn 4 []) [3] [(11, .p (slTask p0.tasks)), (c109e1 p0), (13, pI 0)] [1024] [] tv ?_))
 refine Bk ?_
 obtain ⟨hc1, hm⟩ := go1 hm
 refine DW.rangeO (fun (k1 : Nat) (s1 : List Int) => mkSt [(1, .fn 151 [rr 0]), (2, .p (.fn 148 [])), (7, ow 1200 s1.length), (11, .p (slTask p0.tasks)), (c109e1 p0), (13, pI ((k1 : Nat) : Int))] [(0, bx [pI p1c0]), (1200, ob0 (roI s1))]) dTask hm (Conv.ads [(.s 7, 1200, 1, elems encI 0 [])]) ?_
 intro k1 s1 n1 hk1 hs1 he1
 refine Sq (RD hnt (.no :: []) [] [(14, pB (decide (((k1 : Nat) : Int) < ((p0.tasks.length : Nat) : Int))))] [] [] tv ?_)
 refine Sq (condK (decide (((k1 : Nat) : Int) < ((p0.tasks.length : Nat) : Int))) ?_ ?_)
 ·intro h22
  have hlt1 : k1 < p0.tasks.length := by have := of_decide_eq_true h22; omega
  have hm := hs1 hlt1
  unfold Those_crewQTasksFa_crewQID_crewL1 at hm
  refine Sk ?_
  refine Sq ?_
  refine Jn (ι := List Int) (fun (y3 : List Int) => mkSt [(1, .fn 151 [rr 0]), (2, .p (.fn 148 [])), (7, ow 1200 y3.length), (11, .p (slTask p0.tasks)), (c109e1 p0), (13, pI ((k1 : Nat) : Int))] [(0, bx [pI p1c0]), (1200, ob0 (roI y3))]) (fun y3 => (Those_crewQTasksFa_crewQID_crewJ3 n1) y3 = some RES) ?_ ?_
  ·intro y3 hm
   unfold Those_crewQTasksFa_crewQID_crewJ3 at hm
   refine RD hnt (nn 2 []) [] [(13, pI (w64 (((k1 : Nat) : Int) + 1)))] [] [] tv ?_
   exact jD y3 ⟨hlt1, hm⟩ (Conv.tp [(13, pI (w64 (((k1 : Nat) : Int) + 1)))] [] (by kernel_rfl) (.cons rfl (.of_eq (congrArg pI (w64_succ hlt1 hc1))) .nil) .nil)
  ·refine Bk ?_
   refine Sq (RD hnt (nn 4 []) [14] [(9, rr 1072)] [] [(1072, bx (pm (encTask (p0.tasks.getD k1 (default : Task)))))] (an (nn0 k1) (an (ltc hlt1) tv)) ?_)
   obtain ⟨r23, hr23, hm⟩ := bo hm
   refine Sq (RD hnt (nn 2 (.call 151 [0] true (pB r23) [.box [pI p1c0]] [] :: [])) [] [(19, pB r23)] [] [] (an (TasksFa_crewSpec (p0.tasks.getD k1 (default : Task)) p1c0 r23 hr23) (an tv tv)) ?_)
   refine condM hm ?_ ?_
   ·intro h24 hm
    obtain ⟨r25, hr25, hm⟩ := bo hm
    obtain ⟨g26, hm⟩ := go1 hm
    refine RN hnt (nn 3 (o111 [] true r25 :: nn 3 [])) [(1, .fn 151 [rr 0]), (2, .p (.fn 148 [])), (7, ow 1200 (s1 ++ [r25]).length), (11, .p (slTask p0.tasks)), (c109e1 p0), (13, pI ((k1 : Nat) : Int))] [(0, bx [pI p1c0]), (1200, ob0 (roI (s1 ++ [r25])))] [(7, ow 1200 (s1.length + 1))] [(1200, .row 1 (s1.length + 1) (catF s1.length (elI s1) (cut 1 [vi r25])))] (an (ID_crewSpec (p0.tasks.getD k1 (default : Task)) r25 hr25) (an (by omega : (s1.length + 1) * 8 ≤ 140737488355328) tv)) (by kernel_rfl) (.cons rfl (MLe.ownLen (enc := encI) (d := 0) (f := (catF s1.length (elI s1) (cut 1 [vi r25]))) (RowIs.cat RowIs.elems (RowIs.lit (enc := encI) (d := 0) (n := 1) (f := (cut 1 [vi r25])) [r25] rfl (fun | 0, _ => rfl | n + 1, h => absurd h (by omega))))) .nil) (.cons rfl (BLe.typed (RowIs.cat RowIs.elems (RowIs.lit (enc := encI) (d := 0) (n := 1) (f := (cut 1 [vi r25])) [r25] rfl (fun | 0, _ => rfl | n + 1, h => absurd h (by omega))))) .nil) ?_
    exact bD (s1 ++ [r25]) hm .refl
   ·intro h24 hm
    refine Sk ?_
    exact bD s1 hm Conv.t0
 ·intro h22
  have hge1 : ¬ k1 < p0.tasks.length := by have := of_decide_eq_false h22; omega
  have hm := he1 hge1
  unfold Those_crewQTasksFa_crewQID_crewD1 at hm
  refine DW.exit ?_
  refine joinQ_exit ?_
  refine KQ_exit ?_
  refine blockQ_exit ?_
  show DW _ _ _ _ _
  obtain ⟨r27, hr27, hm⟩ := bo hm
  obtain ⟨g28, hm⟩ := go1 hm
  refine Sq (RN hnt (.no :: o112 [1200] true r27 :: []) [(7, ow 1200 r27.length)] [(0, bx [pI p1c0]), (1200, ob0 (roI r27))] [(7, ow 1200 s1.length)] [] (an (Sort_slices_intSpec s1 r27 hr27) (an (⟨rfl, g28⟩ : Body.same (roI s1) (roI r27)) tv)) (by kernel_rfl) (.cons rfl (MLe.of_eq (congrArg (MV.own 1200 0 0) g28)) .nil) .nil ?_)
  obtain ⟨r29, hr29, hm⟩ := bo hm
  obtain ⟨g30, g31, hm⟩ := go2 hm
  refine Sq (RD hnt (.no :: o132 [1200] true r29 :: .no :: []) [7] [(6, ow 1200 r29.1)] [] [(1200, ob0 (roI r29.2))] (an (Compact_slices_intSpec r27 r29 hr29) (an (⟨rfl, g30⟩ : Body.same (roI r27) (roI r29.2)) tv)) ?_)
  refine DW.conv (τ := mkSt [(6, .p (slI (r29.2.take r29.1)))] [(0, bx [pI p1c0])]) (Conv.trans (τ := mkSt [(6, .p (.sl .unk 1 r29.1 (elI r29.2)))] [(0, bx [pI p1c0])]) (Conv.frz [1200]) (Conv.tp [(6, .p (.sl .unk 1 r29.1 (elI r29.2)))] [] (by kernel_rfl) (.cons rfl (MLe.typed (RowIs.take RowIs.elems (by first | omega | (simp only [subN_eq, addN_eq] at *; omega)))) .nil) .nil)) ?_
  obtain rfl := sj hm
  exact DW.ret (retK [.box [pI p1c0]] [] (.p (slI (r29.2.take r29.1))))

theorem Tasks_crewSpec (p0 : Hierarchy) (p1 : Int) (RES : List Int) (hm : Tasks_crew p0 p1 = some RES) : Spec Tryz.prog 103 [.p (.agg (encHierarchy p0)), pI p1] [] (.p (slI RES)) [] [] := by
 unfold Tasks_crew at hm
 refine SO Tryz.func103 rfl rfl [(0, .p (.agg (encHierarchy p0))), (1, pI p1)] [] ?_
 intro cx hnt
 refine Sq (RK hnt (nn 3 []) [(2, rr 1016), (3, rr 1024)] [(1016, bx (pm (encHierarchy p0))), (1024, bx [pI p1])] tv ?_)
 obtain ⟨r1, hr1, hm⟩ := bo hm
 refine Sq (RK hnt (nn 2 (.call 112 [1024] true (.p (slI r1)) [.box [pI p1]] [] :: .no :: [])) [(4, .p (slI r1))] [] (an (Those_crewQTasksFa_crewQID_crewSpec p0 p1 r1 hr1) (an tv tv)) ?_)
 obtain rfl := sj hm
 exact DW.ret (retK [] [] (.p (slI r1)))
abbrev o108 (ks : List Nat) (b : Bool) (RES : List Int) : Orc := .call 103 ks b (.p (slI RES)) [] []

abbrev c106e1 (p0 : Hierarchy) (k1 : Nat) := (p0.tree.nodes.getD k1 (default : Node))
theorem Sound_controlSpec (p0 : Hierarchy) (RES : Bool) (hm : Sound_control p0 = some RES) : Spec Tryz.prog 170 [.p (.agg (encHierarchy p0))] [] (pB RES) [] [] := by
 unfold Sound_control at hm
 refine SO Tryz.func170 rfl rfl [(0, .p (.agg (encHierarchy p0)))] [] ?_
 intro cx hnt
 refine Sq (RK hnt (nn 2 []) [(1, rr 1008)] [(1008, bx (pm (encHierarchy p0)))] tv ?_)
 obtain ⟨r1, hr1, hm⟩ := bo hm
 refine Sq (Sq (RD hnt (.no :: o33 [] true r1 :: .no :: []) [] [(7, pB (!r1))] [] [] (an (Check_memberSpec p0 r1 hr1) tv) ?_))
 refine condM hm ?_ ?_
 ·intro h2 hm
  refine Sq (RK hnt (.no :: []) [(2, pB false)] [] tv ?_)
  obtain rfl := sj hm
  exact DW.ret (retK [] [] (pB false))
 ·intro h2 hm
  refine Sk ?_
  refine Sq (Sq (RD hnt (nn 5 []) [7] [(10, .p (slNode p0.tree.nodes)), (11, pI ((p0.tree.nodes.length : Nat) : Int)), (12, pI 0)] [] [] tv ?_))
  refine Bk ?_
  obtain ⟨hc1, hm⟩ := go1 hm
  refine DW.rangeO (fun (k1 : Nat) (s1 : Unit) => mkSt [(1, rr 1008), (10, .p (slNode p0.tree.nodes)), (11, pI ((p0.tree.nodes.length : Nat) : Int)), (12, pI ((k1 : Nat) : Int))] [(1008, bx (pm (encHierarchy p0)))]) dNode hm Conv.eqK ?_
  intro k1 s1 n1 hk1 hs1 he1
  refine Sq (RD hnt (.no :: []) [] [(13, pB (decide (((k1 : Nat) : Int) < ((p0.tree.nodes.length : Nat) : Int))))] [] [] tv ?_)
  refine Sq (condK (decide (((k1 : Nat) : Int) < ((p0.tree.nodes.length : Nat) : Int))) ?_ ?_)
  ·intro h19
   have hlt1 : k1 < p0.tree.nodes.length := by have := of_decide_eq_true h19; omega
   have hm := hs1 hlt1
   unfold Sound_controlL1 at hm
   refine Sk ?_
   refine Sq (Bk ?_)
   refine Sq (RD hnt (nn 4 []) [13] [(4, rr 1032)] [] [(1032, bx (pm (encNode (c106e1 p0 k1))))] (an (nn0 k1) (an (ltc hlt1) tv)) ?_)
   obtain ⟨r20, hr20, hm⟩ := bo hm
   refine Sq (Sq (RD hnt (nn 5 (o107 [] true r20 :: nn 2 [])) [] [(23, pB ((kandNot .i64 (c106e1 p0 k1).control r20) != 0))] [] [] (an (from_controlSpec p0.tree (c106e1 p0 k1) r20 hr20) tv) ?_))
   refine condM hm ?_ ?_
   ·intro h21 hm
    refine Sq (RK hnt (.no :: []) [(2, pB false)] [] tv ?_)
    obtain rfl := sj hm
    exact DW.ret (retK [] [] (pB false))
   ·intro h21 hm
    refine Sk ?_
    refine Sq ?_
    refine Jn (ι := Bool) (fun (y3 : Bool) => mkSt [(1, rr 1008), (10, .p (slNode p0.tree.nodes)), (11, pI ((p0.tree.nodes.length : Nat) : Int)), (12, pI ((k1 : Nat) : Int)), (40, pB y3)] [(1008, bx (pm (encHierarchy p0)))]) (fun y3 => (Sound_controlJ3 n1) y3 = some RES) ?_ ?_
    ·intro y3 hm
     unfold Sound_controlJ3 at hm
     refine condM hm ?_ ?_
     ·intro h25 hm
      refine Sq (RK hnt (.no :: []) [(2, pB false)] [] tv ?_)
      obtain rfl := sj hm
      exact DW.ret (retK [] [] (pB false))
     ·intro h25 hm
      refine Sk ?_
      refine DW.done ?_
      show DW _ _ _ _ _
      refine RD hnt (nn 2 []) [40] [(12, pI (w64 (((k1 : Nat) : Int) + 1)))] [] [] tv ?_
      exact jD () ⟨hlt1, hm⟩ (Conv.tp [(12, pI (w64 (((k1 : Nat) : Int) + 1)))] [] (by kernel_rfl) (.cons rfl (.of_eq (congrArg pI (w64_succ hlt1 hc1))) .nil) .nil)
    ·rcases bt ((c106e1 p0 k1).id != 1) with h22 | h22
     ·replace hm := if_t h22 hm
      rcases bt ((kand .i64 (c106e1 p0 k1).control 6) != 0) with h23 | h23
      ·replace hm := if_t h23 hm
       obtain ⟨r24, hr24, hm⟩ := bo hm
       refine RD hnt (nn 8 (pT :: nn 4 (o108 [] true r24 :: nn 2 (pT :: [])))) [4, 23] [(40, pB (decide (((r24.length : Nat) : Int) > 0)))] [1032] [] (an5 h22 (an4 h23 (an (Tasks_crewSpec p0 (c106e1 p0 k1).id r24 hr24) (an3 h23 tv)))) ?_
       exact jD (decide (((r24.length : Nat) : Int) > 0)) hm Conv.eqK
      ·replace hm := if_f h23 hm
       refine RD hnt (nn 8 (pT :: .no :: sk 6 (pF :: []))) [4, 23] [(40, pB false)] [1032] [] (an5 h22 (an h23 (an6 h23 tv))) ?_
       exact jD false hm Conv.eqK
     ·replace hm := if_f h22 hm
      refine RD hnt (nn 4 (sk 4 (pF :: .no :: sk 6 (pF :: [])))) [4, 23] [(40, pB false)] [1032] [] (an5 h22 (an ff (an6 ff tv))) ?_
      exact jD false hm Conv.eqK
  ·intro h19
   have hge1 : ¬ k1 < p0.tree.nodes.length := by have := of_decide_eq_false h19; omega
   have hm := he1 hge1
   unfold Sound_controlD1 at hm
   refine DW.exit ?_
   refine joinQ_exit ?_
   refine KQ_exit ?_
   refine blockQ_exit ?_
   show DW _ _ _ _ _
   refine Sq (RK hnt (.no :: []) [(2, pB true)] [] tv ?_)
   obtain rfl := sj hm
   exact DW.ret (retK [] [] (pB true))
abbrev o106 (ks : List Nat) (b : Bool) (RES : Bool) : Orc := .call 170 ks b (pB RES) [] []

theorem domain_threadedSpec (p0 : Tree) (p1 : Int) (RES : Int) (hm : domain_threaded p0 p1 = some RES) : Spec Tryz.prog 171 [.p (.agg (encTree p0)), pI p1] [] (pI RES) [] [] := by
 unfold domain_threaded at hm
 refine SO Tryz.func171 rfl rfl [(0, .p (.agg (encTree p0))), (1, pI p1)] [] ?_
 intro cx hnt
 refine Sq (RK hnt (nn 2 []) [(1, pI p1), (2, rr 1016)] [(1016, bx (pm (encTree p0)))] tv ?_)
 obtain ⟨r1, hr1, hm⟩ := bo hm
 refine Sq (Sq (RD hnt (nn 2 (o69 [] true r1 :: nn 2 [])) [1] [(11, ow 1088 r1.length), (12, pI ((r1.length : Nat) : Int)), (13, pI 0)] [] [(1088, ob0 (roI r1))] (an (Ancestors_forestSpec p0 p1 r1 hr1) tv) ?_))
 refine Bk ?_
 obtain ⟨hc1, hm⟩ := go1 hm
 refine DW.rangeO (fun (k1 : Nat) (s1 : Unit) => mkSt [(2, rr 1016), (11, ow 1088 r1.length), (12, pI ((r1.length : Nat) : Int)), (13, pI ((k1 : Nat) : Int))] [(1016, bx (pm (encTree p0))), (1088, ob0 (roI r1))]) 0 hm Conv.eqK ?_
 intro k1 s1 n1 hk1 hs1 he1
 refine Sq (RD hnt (.no :: []) [] [(14, pB (decide (((k1 : Nat) : Int) < ((r1.length : Nat) : Int))))] [] [] tv ?_)
 refine Sq (condK (decide (((k1 : Nat) : Int) < ((r1.length : Nat) : Int))) ?_ ?_)
 ·intro h12
  have hlt1 : k1 < r1.length := by have := of_decide_eq_true h12; omega
  have hm := hs1 hlt1
  unfold domain_threadedL1 at hm
  refine Sk ?_
  refine Sq (Bk ?_)
  refine Sq (RD hnt (nn 3 []) [14] [(6, pI (r1.getD k1 0))] [] [] (an (nn0 k1) (an (ltc hlt1) (an (by omega : k1 < r1.length) tv))) ?_)
  obtain ⟨r13, hr13, hm⟩ := bo hm
  refine Sq (RD hnt (nn 2 (o70 [] true r13 :: nn 6 [])) [] [(7, rr 1056)] [] [(1056, bx (pm (encNode r13.1)))] (an (Find_forestSpec p0 (r1.getD k1 0) r13 hr13) tv) ?_)
  refine Sq (RD hnt (nn 3 []) [7] [(25, pB (r13.1.kind != 1))] [1056] [] tv ?_)
  refine condM hm ?_ ?_
  ·intro h14 hm
   refine Sq (RK hnt (nn 2 []) [(4, pI (r1.getD k1 0))] [] tv ?_)
   obtain rfl := sj hm
   exact DW.ret (retK [] [] (pI (r1.getD k1 0)))
  ·intro h14 hm
   refine Sk ?_
   refine DW.done ?_
   show DW _ _ _ _ _
   refine RD hnt (nn 2 []) [6, 25] [(13, pI (w64 (((k1 : Nat) : Int) + 1)))] [] [] tv ?_
   exact jD () ⟨hlt1, hm⟩ (Conv.tp [(13, pI (w64 (((k1 : Nat) : Int) + 1)))] [] (by kernel_rfl) (.cons rfl (.of_eq (congrArg pI (w64_succ hlt1 hc1))) .nil) .nil)
 ·intro h12
  have hge1 : ¬ k1 < r1.length := by have := of_decide_eq_false h12; omega
  have hm := he1 hge1
  unfold domain_threadedD1 at hm
  refine DW.exit ?_
  refine joinQ_exit ?_
  refine KQ_exit ?_
  refine blockQ_exit ?_
  show DW _ _ _ _ _
  refine Sq (RK hnt (.no :: []) [(4, pI 0)] [] tv ?_)
  obtain rfl := sj hm
  exact DW.ret (retK [] [] (pI 0))
abbrev o133 (ks : List Nat) (b : Bool) (RES : Int) : Orc := .call 171 ks b (pI RES) [] []

theorem invalid_threadedSpec (p0 : Tree) (p1 : Int) (RES : Bool) (hm : invalid_threaded p0 p1 = some RES) : Spec Tryz.prog 173 [.p (.agg (encTree p0)), pI p1] [] (pB RES) [] [] := by
 unfold invalid_threaded at hm
 refine SO Tryz.func173 rfl rfl [(0, .p (.agg (encTree p0))), (1, pI p1)] [] ?_
 intro cx hnt
 refine Sq (RK hnt (nn 2 []) [(1, pI p1), (2, rr 1016)] [(1016, bx (pm (encTree p0)))] tv ?_)
 obtain ⟨r1, hr1, hm⟩ := bo hm
 refine Sq (Sq (RD hnt (nn 2 (o69 [] true r1 :: nn 2 [])) [] [(11, ow 1088 r1.length), (12, pI ((r1.length : Nat) : Int)), (13, pI 0)] [] [(1088, ob0 (roI r1))] (an (Ancestors_forestSpec p0 p1 r1 hr1) tv) ?_))
 refine Bk ?_
 obtain ⟨hc1, hm⟩ := go1 hm
 refine DW.rangeO (fun (k1 : Nat) (s1 : Unit) => mkSt [(1, pI p1), (2, rr 1016), (11, ow 1088 r1.length), (12, pI ((r1.length : Nat) : Int)), (13, pI ((k1 : Nat) : Int))] [(1016, bx (pm (encTree p0))), (1088, ob0 (roI r1))]) 0 hm Conv.eqK ?_
 intro k1 s1 n1 hk1 hs1 he1
 refine Sq (RD hnt (.no :: []) [] [(14, pB (decide (((k1 : Nat) : Int) < ((r1.length : Nat) : Int))))] [] [] tv ?_)
 refine Sq (condK (decide (((k1 : Nat) : Int) < ((r1.length : Nat) : Int))) ?_ ?_)
 ·intro h12
  have hlt1 : k1 < r1.length := by have := of_decide_eq_true h12; omega
  have hm := hs1 hlt1
  unfold invalid_threadedL1 at hm
  refine Sk ?_
  refine Sq (Bk ?_)
  refine Sq (RD hnt (nn 3 []) [14] [(6, pI (r1.getD k1 0))] [] [] (an (nn0 k1) (an (ltc hlt1) (an (by omega : k1 < r1.length) tv))) ?_)
  obtain ⟨r13, hr13, hm⟩ := bo hm
  refine Sq (RD hnt (nn 2 (o70 [] true r13 :: nn 6 [])) [] [(7, rr 1056)] [] [(1056, bx (pm (encNode r13.1)))] (an (Find_forestSpec p0 (r1.getD k1 0) r13 hr13) tv) ?_)
  refine Sq (RD hnt (nn 3 []) [7] [(25, pB (r13.1.kind == 1))] [1056] [] tv ?_)
  refine condM hm ?_ ?_
  ·intro h14 hm
   refine Sq (RK hnt (nn 4 []) [(4, pB ((r1.getD k1 0) != p1))] [] tv ?_)
   obtain rfl := sj hm
   exact DW.ret (retK [] [] (pB ((r1.getD k1 0) != p1)))
  ·intro h14 hm
   refine Sk ?_
   refine DW.done ?_
   show DW _ _ _ _ _
   refine RD hnt (nn 2 []) [6, 25] [(13, pI (w64 (((k1 : Nat) : Int) + 1)))] [] [] tv ?_
   exact jD () ⟨hlt1, hm⟩ (Conv.tp [(13, pI (w64 (((k1 : Nat) : Int) + 1)))] [] (by kernel_rfl) (.cons rfl (.of_eq (congrArg pI (w64_succ hlt1 hc1))) .nil) .nil)
 ·intro h12
  have hge1 : ¬ k1 < r1.length := by have := of_decide_eq_false h12; omega
  have hm := he1 hge1
  unfold invalid_threadedD1 at hm
  refine DW.exit ?_
  refine joinQ_exit ?_
  refine KQ_exit ?_
  refine blockQ_exit ?_
  show DW _ _ _ _ _
  refine Sq (RK hnt (.no :: []) [(4, pB false)] [] tv ?_)
  obtain rfl := sj hm
  exact DW.ret (retK [] [] (pB false))
abbrev o135 (ks : List Nat) (b : Bool) (RES : Bool) : Orc := .call 173 ks b (pB RES) [] []

theorem fits_threadedSpec (p0 : Hierarchy) (p1 : Node) (RES : Bool) (hm : fits_threaded p0 p1 = some RES) : Spec Tryz.prog 172 [.p (.agg (encHierarchy p0)), .p (.agg (encNode p1))] [] (pB RES) [] [] := by
 unfold fits_threaded at hm
 refine SO Tryz.func172 rfl rfl [(0, .p (.agg (encHierarchy p0))), (1, .p (.agg (encNode p1)))] [] ?_
 intro cx hnt
 refine Sq (RK hnt (nn 3 []) [(2, rr 1016), (3, rr 1024)] [(1016, bx (pm (encHierarchy p0))), (1024, bx (pm (encNode p1)))] tv ?_)
 refine Sq (Sq (RD hnt (nn 3 []) [] [(9, pB (p1.kind != 1))] [] [] tv ?_))
 refine condM hm ?_ ?_
 ·intro h1 hm
  obtain ⟨r2, hr2, hm⟩ := bo hm
  refine Sq ?_
  refine Jn (ι := Bool) (fun (y1 : Bool) => mkSt [(4, pB y1)] []) (fun y1 => fits_threadedJ1 y1 = some RES) ?_ ?_
  ·intro y1 hm
   unfold fits_threadedJ1 at hm
   obtain rfl := sj hm
   exact DW.ret (retK [] [] (pB y1))
  ·rcases bt (!r2) with h3 | h3
   ·replace hm := if_t h3 hm
    refine RK hnt (nn 4 (o135 [] true r2 :: nn 2 (sk 11 (pT :: .no :: [])))) [(4, pB true)] [] (an (invalid_threadedSpec p0.tree p1.id r2 hr2) (an6 h3 tv)) ?_
    exact jD true hm .refl
   ·replace hm := if_f h3 hm
    rcases bt (p1.control == 0) with h4 | h4
    ·replace hm := if_t h4 hm
     obtain ⟨r5, hr5, hm⟩ := bo hm
     refine RK hnt (nn 4 (o135 [] true r2 :: nn 9 (o108 [] true r5 :: nn 2 (pT :: pF :: .no :: [])))) [(4, pB (((r5.length : Nat) : Int) == 0))] [] (an (invalid_threadedSpec p0.tree p1.id r2 hr2) (an4 h3 (an4 h4 (an (Tasks_crewSpec p0 p1.id r5 hr5) (an2 h4 (an h3 (an h4 (an h3 tv)))))))) ?_
     exact jD (((r5.length : Nat) : Int) == 0) hm .refl
    ·replace hm := if_f h4 hm
     refine RK hnt (nn 4 (o135 [] true r2 :: nn 6 (sk 6 (pF :: pF :: .no :: [])))) [(4, pB false)] [] (an (invalid_threadedSpec p0.tree p1.id r2 hr2) (an4 h3 (an6 h4 (an h3 (an h4 (an h3 tv)))))) ?_
     exact jD false hm .refl
 ·intro h1 hm
  refine Sk ?_
  obtain ⟨r6, hr6, hm⟩ := bo hm
  refine Sq (RD hnt (nn 4 (o70 [] true r6 :: nn 6 [])) [9] [(5, rr 1040)] [] [(1040, bx (pm (encNode r6.1)))] (an (Find_forestSpec p0.tree p1.parent r6 hr6) tv) ?_)
  refine Sq (Sq ?_)
  refine Jn (ι := Bool) (fun (y2 : Bool) => mkSt [(3, rr 1024), (5, rr 1040), (46, pB y2)] [(1024, bx (pm (encNode p1))), (1040, bx (pm (encNode r6.1)))]) (fun y2 => (fits_threadedJ2 p1 r6) y2 = some RES) ?_ ?_
  ·intro y2 hm
   unfold fits_threadedJ2 at hm
   refine condM hm ?_ ?_
   ·intro h9 hm
    refine Sq (RK hnt (.no :: []) [(4, pB false)] [] tv ?_)
    obtain rfl := sj hm
    exact DW.ret (retK [] [] (pB false))
   ·intro h9 hm
    refine Sk ?_
    refine Sq (DW.regJ (sl2 := [(4, pB ((p1.parent == 1) || ((kand .i64 r6.1.control 6) == 0)))]) (ob2 := []) ?_ ?_)
    ·rcases bt (p1.parent == 1) with h10 | h10
     ·exact RT hnt (nn 4 (sk 4 (pT :: .no :: []))) [(4, pB true)] (an5 h10 tv) (by kernel_rfl) (.cons rfl (.of_eq (by rw [h10]; try rfl)) .nil)
     ·exact RT hnt (nn 8 (pF :: .no :: [])) [(4, pB ((kand .i64 r6.1.control 6) == 0))] (an5 h10 tv) (by kernel_rfl) (.cons rfl (.of_eq (by rw [h10]; try rfl)) .nil)
    ·refine DW.ret ?_
     obtain rfl := sj hm
     exact retK [] [] (pB ((p1.parent == 1) || ((kand .i64 r6.1.control 6) == 0)))
  ·rcases bt (r6.1.kind != 1) with h7 | h7
   ·replace hm := if_t h7 hm
    obtain ⟨r8, hr8, hm⟩ := bo hm
    refine RD hnt (nn 8 (o135 [] true r8 :: pT :: [])) [2] [(46, pB r8)] [1016] [] (an5 h7 (an (invalid_threadedSpec p0.tree p1.parent r8 hr8) (an h7 tv))) ?_
    exact jD r8 hm Conv.eqK
   ·replace hm := if_f h7 hm
    refine RD hnt (nn 4 (sk 5 (pF :: []))) [2] [(46, pB false)] [1016] [] (an6 h7 tv) ?_
    exact jD false hm Conv.eqK
abbrev o134 (ks : List Nat) (b : Bool) (RES : Bool) : Orc := .call 172 ks b (pB RES) [] []

abbrev c105e1 (p0 : Hierarchy) (k1 : Nat) := (p0.tasks.getD k1 (default : Task))
abbrev c105e2 (p0 : Hierarchy) : Nat × Obj := (1008, bx (pm (encHierarchy p0)))
abbrev c105e3 (p0 : Hierarchy) : Nat × MV := (16, pI ((p0.tasks.length : Nat) : Int))
theorem Fits_threadedSpec (p0 : Hierarchy) (RES : Bool) (hm : Fits_threaded p0 = some RES) : Spec Tryz.prog 160 [.p (.agg (encHierarchy p0))] [] (pB RES) [] [] := by
 unfold Fits_threaded at hm
 refine SO Tryz.func160 rfl rfl [(0, .p (.agg (encHierarchy p0)))] [] ?_
 intro cx hnt
 refine Sq (RK hnt (nn 2 []) [(1, rr 1008)] [(c105e2 p0)] tv ?_)
 obtain ⟨r1, hr1, hm⟩ := bo hm
 refine Sq (Sq (RD hnt (.no :: o106 [] true r1 :: .no :: []) [] [(12, pB (!r1))] [] [] (an (Sound_controlSpec p0 r1 hr1) tv) ?_))
 refine condM hm ?_ ?_
 ·intro h2 hm
  refine Sq (RK hnt (.no :: []) [(2, pB false)] [] tv ?_)
  obtain rfl := sj hm
  exact DW.ret (retK [] [] (pB false))
 ·intro h2 hm
  refine Sk ?_
  refine Sq (RD hnt (nn 2 []) [12] [(3, .mref 1104 0)] [] [(1104, ob0 (mapOf vi (vi 0) (IMap.empty 0)))] tv ?_)
  refine Sq (Sq (RD hnt (nn 4 []) [] [(15, .p (slTask p0.tasks)), (c105e3 p0), (17, pI 0)] [] [] tv ?_))
  refine Bk ?_
  obtain ⟨hc1, hm⟩ := go1 hm
  refine DW.rangeO (fun (k1 : Nat) (s1 : IMap Int) => mkSt [(1, rr 1008), (3, .mref 1104 0), (15, .p (slTask p0.tasks)), (c105e3 p0), (17, pI ((k1 : Nat) : Int))] [(c105e2 p0), (1104, ob0 (mapOf vi (vi 0) s1))]) dTask hm Conv.eqK ?_
  intro k1 s1 n1 hk1 hs1 he1
  refine Sq (RD hnt (.no :: []) [] [(18, pB (decide (((k1 : Nat) : Int) < ((p0.tasks.length : Nat) : Int))))] [] [] tv ?_)
  refine Sq (condK (decide (((k1 : Nat) : Int) < ((p0.tasks.length : Nat) : Int))) ?_ ?_)
  ·intro h66
   have hlt1 : k1 < p0.tasks.length := by have := of_decide_eq_true h66; omega
   have hm := hs1 hlt1
   unfold Fits_threadedL1 at hm
   refine Sk ?_
   refine Sq ?_
   refine Jn (ι := IMap Int) (fun (y3 : IMap Int) => mkSt [(1, rr 1008), (3, .mref 1104 0), (15, .p (slTask p0.tasks)), (c105e3 p0), (17, pI ((k1 : Nat) : Int))] [(c105e2 p0), (1104, ob0 (mapOf vi (vi 0) y3))]) (fun y3 => (Fits_threadedJ3 n1) y3 = some RES) ?_ ?_
   ·intro y3 hm
    unfold Fits_threadedJ3 at hm
    refine RD hnt (nn 2 []) [] [(17, pI (w64 (((k1 : Nat) : Int) + 1)))] [] [] tv ?_
    exact jD y3 ⟨hlt1, hm⟩ (Conv.tp [(17, pI (w64 (((k1 : Nat) : Int) + 1)))] [] (by kernel_rfl) (.cons rfl (.of_eq (congrArg pI (w64_succ hlt1 hc1))) .nil) .nil)
   ·refine Bk ?_
    refine Sq (RD hnt (nn 4 []) [18] [(5, rr 1040)] [] [(1040, bx (pm (encTask (c105e1 p0 k1))))] (an (nn0 k1) (an (ltc hlt1) tv)) ?_)
    refine Sq (RD hnt (nn 5 []) [] [(25, pB ((c105e1 p0 k1).id == (c105e1 p0 k1).process))] [] [] tv ?_)
    refine condM hm ?_ ?_
    ·intro h67 hm
     obtain ⟨r68, hr68, hm⟩ := bo hm
     refine RN hnt (nn 7 (o133 [] true r68 :: .no :: [])) [(1, rr 1008), (3, .mref 1104 0), (15, .p (slTask p0.tasks)), (c105e3 p0), (17, pI ((k1 : Nat) : Int))] [(c105e2 p0), (1104, ob0 (mapOf vi (vi 0) (s1.set (c105e1 p0 k1).id r68)))] [] [(1104, .mp (vi 0) (updI s1.has (c105e1 p0 k1).id true) (updI (fun j => vi (s1.get j)) (c105e1 p0 k1).id (vi r68)))] (an (domain_threadedSpec p0.tree (c105e1 p0 k1).group r68 hr68) tv) (by kernel_rfl) .nil (.cons rfl (map_set r68 rfl) .nil) ?_
     exact bD (s1.set (c105e1 p0 k1).id r68) hm .refl
    ·intro h67 hm
     refine Sk ?_
     exact bD s1 hm Conv.t0
  ·intro h66
   have hge1 : ¬ k1 < p0.tasks.length := by have := of_decide_eq_false h66; omega
   have hm := he1 hge1
   unfold Fits_threadedD1 at hm
   refine DW.exit ?_
   refine joinQ_exit ?_
   refine KQ_exit ?_
   refine blockQ_exit ?_
   show DW _ _ _ _ _
   refine Sq (Sq (RD hnt (nn 4 []) [15, 16, 17, 18] [(36, .p (slTask p0.tasks)), (37, pI ((p0.tasks.length : Nat) : Int)), (38, pI 0)] [] [] tv ?_))
   refine Bk ?_
   obtain ⟨hc8, hm⟩ := go1 hm
   refine DW.rangeO (fun (k8 : Nat) (s8 : Unit) => mkSt [(1, rr 1008), (3, .mref 1104 0), (36, .p (slTask p0.tasks)), (37, pI ((p0.tasks.length : Nat) : Int)), (38, pI ((k8 : Nat) : Int))] [(c105e2 p0), (1104, ob0 (mapOf vi (vi 0) s1))]) dTask hm Conv.eqK ?_
   intro k8 s8 n8 hk8 hs8 he8
   refine Sq (RD hnt (.no :: []) [] [(39, pB (decide (((k8 : Nat) : Int) < ((p0.tasks.length : Nat) : Int))))] [] [] tv ?_)
   refine Sq (condK (decide (((k8 : Nat) : Int) < ((p0.tasks.length : Nat) : Int))) ?_ ?_)
   ·intro h99
    have hlt8 : k8 < p0.tasks.length := by have := of_decide_eq_true h99; omega
    have hm := hs8 hlt8
    unfold Fits_threadedL8 at hm
    refine Sk ?_
    refine Sq (Bk ?_)
    refine Sq (RD hnt (nn 4 []) [39] [(7, rr 1056)] [] [(1056, bx (pm (encTask (p0.tasks.getD k8 (default : Task)))))] (an (nn0 k8) (an (ltc hlt8) tv)) ?_)
    obtain ⟨r100, hr100, hm⟩ := bo hm
    refine Sq (RD hnt (nn 4 (o133 [] true r100 :: nn 5 [])) [7] [(51, pB (r100 != (s1.get (p0.tasks.getD k8 (default : Task)).process)))] [1056] [] (an (domain_threadedSpec p0.tree (p0.tasks.getD k8 (default : Task)).group r100 hr100) (an (rfl : vi 0 = vi 0) tv)) ?_)
    refine condM hm ?_ ?_
    ·intro h101 hm
     refine Sq (RK hnt (.no :: []) [(2, pB false)] [] tv ?_)
     obtain rfl := sj hm
     exact DW.ret (retK [] [] (pB false))
    ·intro h101 hm
     refine Sk ?_
     refine DW.done ?_
     show DW _ _ _ _ _
     refine RD hnt (nn 2 []) [51] [(38, pI (w64 (((k8 : Nat) : Int) + 1)))] [] [] tv ?_
     exact jD () ⟨hlt8, hm⟩ (Conv.tp [(38, pI (w64 (((k8 : Nat) : Int) + 1)))] [] (by kernel_rfl) (.cons rfl (.of_eq (congrArg pI (w64_succ hlt8 hc8))) .nil) .nil)
   ·intro h99
    have hge8 : ¬ k8 < p0.tasks.length := by have := of_decide_eq_false h99; omega
    have hm := he8 hge8
    unfold Fits_threadedD8 at hm
    refine DW.exit ?_
    refine joinQ_exit ?_
    refine KQ_exit ?_
    refine blockQ_exit ?_
    show DW _ _ _ _ _
    refine Sq (Sq (RD hnt (nn 5 []) [3, 36, 37, 38, 39] [(55, .p (slNode p0.tree.nodes)), (56, pI ((p0.tree.nodes.length : Nat) : Int)), (57, pI 0)] [1104] [] tv ?_))
    refine Bk ?_
    obtain ⟨hc11, hm⟩ := go1 hm
    refine DW.rangeO (fun (k11 : Nat) (s11 : Unit) => mkSt [(1, rr 1008), (55, .p (slNode p0.tree.nodes)), (56, pI ((p0.tree.nodes.length : Nat) : Int)), (57, pI ((k11 : Nat) : Int))] [(c105e2 p0)]) dNode hm Conv.eqK ?_
    intro k11 s11 n11 hk11 hs11 he11
    refine Sq (RD hnt (.no :: []) [] [(58, pB (decide (((k11 : Nat) : Int) < ((p0.tree.nodes.length : Nat) : Int))))] [] [] tv ?_)
    refine Sq (condK (decide (((k11 : Nat) : Int) < ((p0.tree.nodes.length : Nat) : Int))) ?_ ?_)
    ·intro h110
     have hlt11 : k11 < p0.tree.nodes.length := by have := of_decide_eq_true h110; omega
     have hm := hs11 hlt11
     unfold Fits_threadedL11 at hm
     refine Sk ?_
     refine Sq (Bk ?_)
     refine Sq (RD hnt (nn 4 []) [58] [(9, rr 1072)] [] [(1072, bx (pm (encNode (p0.tree.nodes.getD k11 (default : Node)))))] (an (nn0 k11) (an (ltc hlt11) tv)) ?_)
     obtain ⟨r111, hr111, hm⟩ := bo hm
     refine Sq (RD hnt (nn 2 (o134 [] true r111 :: .no :: [])) [9] [(64, pB (!r111))] [1072] [] (an (fits_threadedSpec p0 (p0.tree.nodes.getD k11 (default : Node)) r111 hr111) tv) ?_)
     refine condM hm ?_ ?_
     ·intro h112 hm
      refine Sq (RK hnt (.no :: []) [(2, pB false)] [] tv ?_)
      obtain rfl := sj hm
      exact DW.ret (retK [] [] (pB false))
     ·intro h112 hm
      refine Sk ?_
      refine DW.done ?_
      show DW _ _ _ _ _
      refine RD hnt (nn 2 []) [64] [(57, pI (w64 (((k11 : Nat) : Int) + 1)))] [] [] tv ?_
      exact jD () ⟨hlt11, hm⟩ (Conv.tp [(57, pI (w64 (((k11 : Nat) : Int) + 1)))] [] (by kernel_rfl) (.cons rfl (.of_eq (congrArg pI (w64_succ hlt11 hc11))) .nil) .nil)
    ·intro h110
     have hge11 : ¬ k11 < p0.tree.nodes.length := by have := of_decide_eq_false h110; omega
     have hm := he11 hge11
     unfold Fits_threadedD11 at hm
     refine DW.exit ?_
     refine joinQ_exit ?_
     refine KQ_exit ?_
     refine blockQ_exit ?_
     show DW _ _ _ _ _
     refine Sq (RK hnt (.no :: []) [(2, pB true)] [] tv ?_)
     obtain rfl := sj hm
     exact DW.ret (retK [] [] (pB true))
abbrev o105 (ks : List Nat) (b : Bool) (RES : Bool) : Orc := .call 160 ks b (pB RES) [] []

theorem admits_threadedSpec (p0 : Hierarchy) (p1 : Int) (RES : Int) (hm : admits_threaded p0 p1 = some RES) : Spec Tryz.prog 161 [.p (.agg (encHierarchy p0)), pI p1] [] (pI RES) [] [] := by
 unfold admits_threaded at hm
 refine SO Tryz.func161 rfl rfl [(0, .p (.agg (encHierarchy p0))), (1, pI p1)] [] ?_
 intro cx hnt
 refine Sq (RK hnt (nn 2 []) [(1, pI p1), (2, rr 1016)] [(1016, bx (pm (encHierarchy p0)))] tv ?_)
 obtain ⟨r1, hr1, hm⟩ := bo hm
 refine Sq (RD hnt (nn 3 (o70 [] true r1 :: nn 6 [])) [] [(5, rr 1040), (6, pB r1.2)] [] [(1040, bx (pm (encNode r1.1)))] (an (Find_forestSpec p0.tree p1 r1 hr1) tv) ?_)
 refine Sq (Bk ?_)
 refine Sq (RD hnt (nn 3 []) [6] [(14, pB (!r1.2))] [] [] tv ?_)
 refine condM hm ?_ ?_
 ·intro h2 hm
  refine Sq (RK hnt (.no :: []) [(4, pI 4)] [] tv ?_)
  obtain rfl := sj hm
  exact DW.ret (retK [] [] (pI 4))
 ·intro h2 hm
  refine Sq ?_
  refine Jn (ι := Bool) (fun (y1 : Bool) => mkSt [(1, pI p1), (5, rr 1040), (17, pB y1)] [(1040, bx (pm (encNode r1.1)))]) (fun y1 => (admits_threadedJ1 p1 r1) y1 = some RES) ?_ ?_
  ·intro y1 hm
   unfold admits_threadedJ1 at hm
   refine condM hm ?_ ?_
   ·intro h5 hm
    refine Sq (RK hnt (.no :: []) [(4, pI 10)] [] tv ?_)
    obtain rfl := sj hm
    exact DW.ret (retK [] [] (pI 10))
   ·intro h5 hm
    refine Sq (DW.regJ (sl2 := [(27, pB ((p1 != 1) && ((kand .i64 r1.1.control 6) != 0)))]) (ob2 := []) ?_ ?_)
    ·rcases bt (p1 != 1) with h6 | h6
     ·exact RT hnt (nn 7 (pT :: .no :: [])) [(27, pB ((kand .i64 r1.1.control 6) != 0))] (an5 h6 tv) (by kernel_rfl) (.cons rfl (.of_eq (by rw [h6]; try rfl)) .nil)
     ·exact RT hnt (nn 3 (sk 4 (pF :: .no :: []))) [(27, pB false)] (an5 h6 tv) (by kernel_rfl) (.cons rfl (.of_eq (by rw [h6]; try rfl)) .nil)
    ·refine condM hm ?_ ?_
     ·intro h7 hm
      refine Sq (RK hnt (.no :: []) [(4, pI 6)] [] tv ?_)
      obtain rfl := sj hm
      exact DW.ret (retK [] [] (pI 6))
     ·intro h7 hm
      refine Sk ?_
      refine DW.done ?_
      show DW _ _ _ _ _
      refine Sq (RK hnt (.no :: []) [(4, pI 0)] [] tv ?_)
      obtain rfl := sj hm
      exact DW.ret (retK [] [] (pI 0))
  ·rcases bt (r1.1.kind != 1) with h3 | h3
   ·replace hm := if_t h3 hm
    obtain ⟨r4, hr4, hm⟩ := bo hm
    refine RD hnt (nn 7 (o135 [] true r4 :: pT :: .no :: [])) [2, 14] [(17, pB r4)] [1016] [] (an4 h3 (an (invalid_threadedSpec p0.tree p1 r4 hr4) (an h3 tv))) ?_
    exact jD r4 hm Conv.eqK
   ·replace hm := if_f h3 hm
    refine RD hnt (nn 4 (sk 4 (pF :: .no :: []))) [2, 14] [(17, pB false)] [1016] [] (an5 h3 tv) ?_
    exact jD false hm Conv.eqK
abbrev o136 (ks : List Nat) (b : Bool) (RES : Int) : Orc := .call 161 ks b (pI RES) [] []

theorem Admits_threadedSpec (p0 : Hierarchy) (p1 : Int) (RES : Int) (hm : Admits_threaded p0 p1 = some RES) : Spec Tryz.prog 126 [.p (.agg (encHierarchy p0)), pI p1] [] (pI RES) [] [] := by
 unfold Admits_threaded at hm
 refine SO Tryz.func126 rfl rfl [(0, .p (.agg (encHierarchy p0))), (1, pI p1)] [] ?_
 intro cx hnt
 refine Sq (RK hnt (nn 2 []) [(1, pI p1), (2, rr 1016)] [(1016, bx (pm (encHierarchy p0)))] tv ?_)
 obtain ⟨r1, hr1, hm⟩ := bo hm
 refine Sq (Sq (RD hnt (.no :: o105 [] true r1 :: .no :: []) [] [(7, pB (!r1))] [] [] (an (Fits_threadedSpec p0 r1 hr1) tv) ?_))
 refine condM hm ?_ ?_
 ·intro h2 hm
  refine Sq (RK hnt (.no :: []) [(4, pI 1)] [] tv ?_)
  obtain rfl := sj hm
  exact DW.ret (retK [] [] (pI 1))
 ·intro h2 hm
  refine Sk ?_
  obtain ⟨r3, hr3, hm⟩ := bo hm
  refine Sq (RK hnt (nn 2 (o136 [] true r3 :: .no :: [])) [(4, pI r3)] [] (an (admits_threadedSpec p0 p1 r3 hr3) tv) ?_)
  obtain rfl := sj hm
  exact DW.ret (retK [] [] (pI r3))
abbrev o104 (ks : List Nat) (b : Bool) (RES : Int) : Orc := .call 126 ks b (pI RES) [] []

abbrev c137e1 : Nat × Obj := (1048, bx [.p (.sl .nil 0 0 (fun _ => [])), pI 0, .p (.sl .nil 0 0 (fun _ => [])), pI 0])
theorem Spawn_memberSpec (p0 : Hierarchy) (p1 : Int) (p2 : Int) (RES : Hierarchy × Int × Int) (hm : Spawn_member p0 p1 p2 = some RES) : Spec Tryz.prog 45 [.p (.agg (encHierarchy p0)), pI p1, pI p2] [] (.tup [.agg [ow 0 RES.1.tree.nodes.length, pI RES.1.tree.next, ow 1 RES.1.tasks.length, pI RES.1.next], pI RES.2.1, pI RES.2.2]) [] [roNode RES.1.tree.nodes, roTask RES.1.tasks] := by
 unfold Spawn_member at hm
 refine SO Tryz.func45 rfl rfl [(0, .p (.agg (encHierarchy p0))), (1, pI p1), (2, pI p2)] [] ?_
 intro cx hnt
 refine Sq (RD hnt (nn 4 []) [0] [(3, rr 1024), (6, rr 1048)] [] [(1024, bx (pm (encHierarchy p0))), (c137e1)] tv ?_)
 obtain ⟨r1, hr1, hm⟩ := bo hm
 refine Sq (Sq ?_)
 refine Jn (ι := Bool) (fun (y1 : Bool) => mkSt [(1, pI p1), (2, pI p2), (3, rr 1024), (6, rr 1048), (19, pB y1)] [(1024, bx (pm (encHierarchy p0))), (c137e1)]) (fun y1 => (Spawn_memberJ1 p0 p1 p2) y1 = some RES) ?_ ?_
 ·intro y1 hm
  unfold Spawn_memberJ1 at hm
  refine condM hm ?_ ?_
  ·intro h4 hm
   refine Sq (RD hnt (nn 4 []) [1, 2, 3, 19] [(7, pI 0), (8, pI 1)] [1024] [] tv ?_)
   refine DW.cv [] [] [] [(1048, bx [ow 100000 0, pI 0, ow 100001 0, pI 0]), (100000, ob0 (roNode [])), (100001, ob0 (roTask []))] (Conv.ads [(.o 1048 0, 100000, 6, elems encNode dNode []), (.o 1048 2, 100001, 4, elems encTask dTask [])]) ?_
   obtain rfl := sj hm
   exact DW.ret (retK [roNode [], roTask []] [100000, 100001] (.tup [.agg [ow 0 0, pI 0, ow 1 0, pI 0], pI 0, pI 1]))
  ·intro h4 hm
   refine Sk ?_
   obtain ⟨r5, hr5, hm⟩ := bo hm
   refine Sq (Sq (RD hnt (nn 3 (o44 [] true r5 :: .no :: [])) [19] [(25, pB (decide (r5 < 0)))] [] [] (an (At_forestSpec p0.tree p1 r5 hr5) tv) ?_))
   refine condM hm ?_ ?_
   ·intro h6 hm
    refine Sq (RD hnt (nn 4 []) [1, 2, 3, 25] [(7, pI 0), (8, pI 4)] [1024] [] tv ?_)
    refine DW.cv [] [] [] [(1048, bx [ow 100000 0, pI 0, ow 100001 0, pI 0]), (100000, ob0 (roNode [])), (100001, ob0 (roTask []))] (Conv.ads [(.o 1048 0, 100000, 6, elems encNode dNode []), (.o 1048 2, 100001, 4, elems encTask dTask [])]) ?_
    obtain rfl := sj hm
    exact DW.ret (retK [roNode [], roTask []] [100000, 100001] (.tup [.agg [ow 0 0, pI 0, ow 1 0, pI 0], pI 0, pI 4]))
   ·intro h6 hm
    refine Sk ?_
    obtain ⟨r7, hr7, hm⟩ := bo hm
    refine Sq (RK hnt (nn 4 (o63 [] true r7 :: nn 6 [])) [(6, rr 1048), (7, pI r7.2.1), (8, pI r7.2.2)] [(1048, bx [ow 1248 r7.1.tree.nodes.length, pI r7.1.tree.next, ow 1249 r7.1.tasks.length, pI r7.1.next]), (1248, ob0 (roNode r7.1.tree.nodes)), (1249, ob0 (roTask r7.1.tasks))] (an (add_memberSpec p0 ({ id := 0, process := 0, group := p1, user := p2 } : Task) r7 hr7) tv) ?_)
    obtain rfl := sj hm
    exact DW.ret (retK [roNode r7.1.tree.nodes, roTask r7.1.tasks] [1248, 1249] (.tup [.agg [ow 0 r7.1.tree.nodes.length, pI r7.1.tree.next, ow 1 r7.1.tasks.length, pI r7.1.next], pI r7.2.1, pI r7.2.2]))
 ·rcases bt (!r1) with h2 | h2
  ·replace hm := if_t h2 hm
   refine RD hnt (.no :: o33 [] true r1 :: nn 2 (sk 2 (pT :: .no :: sk 2 (pT :: [])))) [] [(19, pB true)] [] [] (an (Check_memberSpec p0 r1 hr1) (an3 h2 (an3 tt tv))) ?_
   exact jD true hm Conv.eqK
  ·replace hm := if_f h2 hm
   rcases bt (decide (p2 < 0)) with h3 | h3
   ·replace hm := if_t h3 hm
    refine RD hnt (.no :: o33 [] true r1 :: nn 4 (pF :: .no :: sk 2 (pT :: []))) [] [(19, pB true)] [] [] (an (Check_memberSpec p0 r1 hr1) (an3 h2 (an3 h3 tv))) ?_
    exact jD true hm Conv.eqK
   ·replace hm := if_f h3 hm
    refine RD hnt (.no :: o33 [] true r1 :: nn 4 (pF :: nn 3 (pF :: []))) [] [(19, pB (decide (p2 > 1048576)))] [] [] (an (Check_memberSpec p0 r1 hr1) (an3 h2 (an3 h3 tv))) ?_
    exact jD (decide (p2 > 1048576)) hm Conv.eqK
abbrev o137 (ks : List Nat) (b : Bool) (RES : Hierarchy × Int × Int) : Orc := .call 45 ks b (.tup [.agg [ow 0 RES.1.tree.nodes.length, pI RES.1.tree.next, ow 1 RES.1.tasks.length, pI RES.1.next], pI RES.2.1, pI RES.2.2]) [] [roNode RES.1.tree.nodes, roTask RES.1.tasks]

theorem Spawn_pidsSpec (p0 : Hierarchy) (p1 : List Count) (p2 : Int) (p3 : Int) (RES : Hierarchy × (List Count) × Int × Int) (hm : Spawn_pids p0 p1 p2 p3 = some RES) : Spec Tryz.prog 73 [.p (.agg (encHierarchy p0)), .p (slCount p1), pI p2, pI p3] [] (.tup [.p (.agg (encHierarchy RES.1)), ow 0 RES.2.1.length, pI RES.2.2.1, pI RES.2.2.2]) [] [roCount RES.2.1] := by
 unfold Spawn_pids at hm
 refine SO Tryz.func73 rfl rfl [(0, .p (.agg (encHierarchy p0))), (1, .p (slCount p1)), (2, pI p2), (3, pI p3)] [] ?_
 intro cx hnt
 refine Sq (RD hnt (nn 5 []) [0] [(4, rr 1032), (8, rr 1064)] [] [(1032, bx (pm (encHierarchy p0))), (1064, bx [.p (.sl .nil 0 0 (fun _ => [])), pI 0, .p (.sl .nil 0 0 (fun _ => [])), pI 0])] tv ?_)
 obtain ⟨r1, hr1, hm⟩ := bo hm
 refine Sq (Sq (RD hnt (nn 2 (o57 [] true r1 :: .no :: [])) [] [(19, pB (!r1))] [] [] (an (Check_pidsSpec p0 p1 r1 hr1) tv) ?_))
 refine condM hm ?_ ?_
 ·intro h2 hm
  obtain ⟨r3, hr3, hm⟩ := bo hm
  refine Sq (RK hnt (o61 [] true r3 :: nn 8 []) [(8, rr 1064), (9, ow 1162 r3.2.1.length), (10, pI r3.2.2.1), (11, pI r3.2.2.2)] [(1064, bx [ow 1160 r3.1.tree.nodes.length, pI r3.1.tree.next, ow 1161 r3.1.tasks.length, pI r3.1.next]), (1160, ob0 (roNode r3.1.tree.nodes)), (1161, ob0 (roTask r3.1.tasks)), (1162, ob0 (roCount r3.2.1))] (an (refuse_pidsSpec 1 r3 hr3) tv) ?_)
  obtain rfl := sj hm
  exact DW.ret (retK [roCount r3.2.1] [1162] (.tup [.p (.agg (encHierarchy r3.1)), ow 0 r3.2.1.length, pI r3.2.2.1, pI r3.2.2.2]))
 ·intro h2 hm
  refine Sk ?_
  obtain ⟨r4, hr4, hm⟩ := bo hm
  refine Sq (Sq (RD hnt (nn 2 (o104 [] true r4 :: .no :: [])) [19] [(12, pI r4)] [] [] (an (Admits_threadedSpec p0 p2 r4 hr4) tv) ?_))
  refine Sq (RD hnt (nn 2 []) [] [(29, pB (r4 != 0))] [] [] tv ?_)
  refine condM hm ?_ ?_
  ·intro h5 hm
   obtain ⟨r6, hr6, hm⟩ := bo hm
   refine Sq (RK hnt (.no :: o61 [] true r6 :: nn 8 []) [(8, rr 1064), (9, ow 1250 r6.2.1.length), (10, pI r6.2.2.1), (11, pI r6.2.2.2)] [(1064, bx [ow 1248 r6.1.tree.nodes.length, pI r6.1.tree.next, ow 1249 r6.1.tasks.length, pI r6.1.next]), (1248, ob0 (roNode r6.1.tree.nodes)), (1249, ob0 (roTask r6.1.tasks)), (1250, ob0 (roCount r6.2.1))] (an (refuse_pidsSpec r4 r6 hr6) tv) ?_)
   obtain rfl := sj hm
   exact DW.ret (retK [roCount r6.2.1] [1250] (.tup [.p (.agg (encHierarchy r6.1)), ow 0 r6.2.1.length, pI r6.2.2.1, pI r6.2.2.2]))
  ·intro h5 hm
   refine Sk ?_
   obtain ⟨r7, hr7, hm⟩ := bo hm
   refine Sq (RD hnt (nn 3 (o137 [] true r7 :: nn 8 [])) [3, 12, 29] [(13, rr 1104), (14, pI r7.2.1), (15, pI r7.2.2)] [] [(1104, bx [ow 1320 r7.1.tree.nodes.length, pI r7.1.tree.next, ow 1321 r7.1.tasks.length, pI r7.1.next]), (1320, ob0 (roNode r7.1.tree.nodes)), (1321, ob0 (roTask r7.1.tasks))] (an (Spawn_memberSpec p0 p2 p3 r7 hr7) tv) ?_)
   refine Sq (DW.cv [] [] [1320] [(1104, bx [.p (slNode r7.1.tree.nodes), pI r7.1.tree.next, ow 1321 r7.1.tasks.length, pI r7.1.next])] (Conv.frz [1320]) ?_)
   refine DW.cv [] [] [1321] [(1104, bx (pm (encHierarchy r7.1)))] (Conv.frz [1321]) ?_
   obtain ⟨r10, hr10, hm⟩ := bo hm
   refine RK hnt (nn 6 (o67 [] true r10 :: nn 8 [])) [(8, rr 1064), (9, ow 1400 r10.2.1.length), (10, pI r10.2.2.1), (11, pI r10.2.2.2)] [(1064, bx (pm (encHierarchy r10.1))), (1400, ob0 (roCount r10.2.1))] (an (grown_pidsSpec p0 r7.1 p1 p2 r7.2.1 r7.2.2 r10 hr10) tv) ?_
   obtain rfl := sj hm
   exact DW.ret (retK [roCount r10.2.1] [1400] (.tup [.p (.agg (encHierarchy r10.1)), ow 0 r10.2.1.length, pI r10.2.2.1, pI r10.2.2.2]))
abbrev o103 (ks : List Nat) (b : Bool) (RES : Hierarchy × (List Count) × Int × Int) : Orc := .call 73 ks b (.tup [.p (.agg (encHierarchy RES.1)), ow 0 RES.2.1.length, pI RES.2.2.1, pI RES.2.2.2]) [] [roCount RES.2.1]

theorem limit_ref10Spec (p0 : Int) (RES : Bool) (hm : limit_ref10 p0 = some RES) : Spec Tryz.prog 94 [pI p0] [] (pB RES) [] [] := by
 unfold limit_ref10 at hm
 refine SO Tryz.func94 rfl rfl [(0, pI p0)] [] ?_
 intro cx hnt
 refine Sq (RK hnt (.no :: []) [(0, pI p0)] [] tv ?_)
 refine Sq (DW.regJ (sl2 := [(2, pB ((p0 == 4611686018427387904) || ((decide (p0 ≥ 0)) && (decide (p0 ≤ 1099511627776)))))]) (ob2 := []) ?_ ?_)
 ·rcases bt (p0 == 4611686018427387904) with h1 | h1
  ·exact RT hnt (nn 3 (sk 6 (pT :: .no :: []))) [(2, pB true)] (an5 h1 tv) (by kernel_rfl) (.cons rfl (.of_eq (by rw [h1]; try rfl)) .nil)
  ·rcases bt (decide (p0 ≥ 0)) with h2 | h2
   ·exact RT hnt (nn 8 (pT :: pF :: .no :: [])) [(2, pB (decide (p0 ≤ 1099511627776)))] (an3 h1 (an2 h2 (an h1 (an h2 (an h1 tv))))) (by kernel_rfl) (.cons rfl (.of_eq (by rw [h1, h2]; try rfl)) .nil)
   ·exact RT hnt (nn 6 (sk 2 (pF :: pF :: .no :: []))) [(2, pB false)] (an3 h1 (an2 h2 (an h1 (an h2 (an h1 tv))))) (by kernel_rfl) (.cons rfl (.of_eq (by rw [h1, h2]; try rfl)) .nil)
 ·refine DW.ret ?_
  obtain rfl := sj hm
  exact retK [] [] (pB ((p0 == 4611686018427387904) || ((decide (p0 ≥ 0)) && (decide (p0 ≤ 1099511627776)))))
abbrev o140 (ks : List Nat) (b : Bool) (RES : Bool) : Orc := .call 94 ks b (pB RES) [] []

abbrev c139e1 (p1 : List Count) (k1 : Nat) := (p1.getD k1 (default : Count))
theorem Check_ref10Spec (p0 : Hierarchy) (p1 : List Count) (RES : Bool) (hm : Check_ref10 p0 p1 = some RES) : Spec Tryz.prog 32 [.p (.agg (encHierarchy p0)), .p (slCount p1)] [] (pB RES) [] [] := by
 unfold Check_ref10 at hm
 refine SO Tryz.func32 rfl rfl [(0, .p (.agg (encHierarchy p0))), (1, .p (slCount p1))] [] ?_
 intro cx hnt
 refine Sq (RD hnt (nn 2 []) [0] [(2, rr 1016)] [] [(1016, bx (pm (encHierarchy p0)))] tv ?_)
 obtain ⟨r1, hr1, hm⟩ := bo hm
 refine Sq (Sq ?_)
 refine Jn (ι := Bool) (fun (y1 : Bool) => mkSt [(1, .p (slCount p1)), (2, rr 1016), (18, pB y1)] [(1016, bx (pm (encHierarchy p0)))]) (fun y1 => (Check_ref10J1 p0 p1) y1 = some RES) ?_ ?_
 ·intro y1 hm
  unfold Check_ref10J1 at hm
  refine condM hm ?_ ?_
  ·intro h3 hm
   refine Sq (RK hnt (.no :: []) [(4, pB false)] [] tv ?_)
   obtain rfl := sj hm
   exact DW.ret (retK [] [] (pB false))
  ·intro h3 hm
   refine Sk ?_
   refine Sq (Sq (RD hnt (.no :: []) [18] [(5, pI 0)] [] [] tv ?_))
   refine Bk ?_
   obtain ⟨hc1, hm⟩ := go1 hm
   refine DW.rangeO (fun (k1 : Nat) (s1 : Unit) => mkSt [(1, .p (slCount p1)), (2, rr 1016), (5, pI ((k1 : Nat) : Int))] [(1016, bx (pm (encHierarchy p0)))]) dCount hm Conv.eqK ?_
   intro k1 s1 n1 hk1 hs1 he1
   refine Sq (Sq (RD hnt (nn 4 []) [] [(22, pB (decide (((k1 : Nat) : Int) < ((p1.length : Nat) : Int))))] [] [] tv ?_))
   refine condK (decide (((k1 : Nat) : Int) < ((p1.length : Nat) : Int))) ?_ ?_
   ·intro h28
    have hlt1 : k1 < p1.length := by have := of_decide_eq_true h28; omega
    have hm := hs1 hlt1
    unfold Check_ref10L1 at hm
    refine Sk ?_
    refine Sq (Bk ?_)
    refine Sq (RD hnt (nn 6 []) [22] [(6, rr 1048)] [] [(1048, bx (pm (encCount (c139e1 p1 k1))))] (an (nn0 k1) (an (ltc hlt1) tv)) ?_)
    obtain ⟨g29, hm⟩ := go1 hm
    refine Sq ?_
    refine Jn (ι := Bool) (fun (y4 : Bool) => mkSt [(1, .p (slCount p1)), (2, rr 1016), (5, pI ((k1 : Nat) : Int)), (75, pB y4)] [(1016, bx (pm (encHierarchy p0)))]) (fun y4 => (Check_ref10J4 n1) y4 = some RES) ?_ ?_
    ·intro y4 hm
     unfold Check_ref10J4 at hm
     refine condM hm ?_ ?_
     ·intro h38 hm
      refine Sq (RK hnt (.no :: []) [(4, pB false)] [] tv ?_)
      obtain rfl := sj hm
      exact DW.ret (retK [] [] (pB false))
     ·intro h38 hm
      refine Sk ?_
      refine DW.done ?_
      show DW _ _ _ _ _
      refine RD hnt (nn 3 []) [75] [(5, pI (w64 (((k1 : Nat) : Int) + 1)))] [] [] tv ?_
      exact jD () ⟨hlt1, hm⟩ (Conv.tp [(5, pI (w64 (((k1 : Nat) : Int) + 1)))] [] (by kernel_rfl) (.cons rfl (.of_eq (congrArg pI (w64_succ hlt1 hc1))) .nil) .nil)
    ·rcases bt ((c139e1 p1 k1).group != (p0.tree.nodes.getD k1 dNode).id) with h30 | h30
     ·replace hm := if_t h30 hm
      refine RD hnt (nn 11 (sk 7 (pT :: .no :: sk 4 (pT :: .no :: sk 5 (pT :: .no :: sk 3 (pT :: .no :: sk 3 (pT :: .no :: sk 3 (pT :: [])))))))) [6] [(75, pB true)] [1048] [] (an (nn0 k1) (an (ltc g29) (an2 h30 (an6 h30 (an5 tt (an6 tt (an6 tt (an6 tt tv)))))))) ?_
      exact jD true hm Conv.eqK
     ·replace hm := if_f h30 hm
      obtain ⟨r31, hr31, hm⟩ := bo hm
      rcases bt ((c139e1 p1 k1).now != r31) with h32 | h32
      ·replace hm := if_t h32 hm
       refine RD hnt (nn 16 (o99 [] true r31 :: .no :: pF :: .no :: sk 4 (pT :: .no :: sk 5 (pT :: .no :: sk 3 (pT :: .no :: sk 3 (pT :: .no :: sk 3 (pT :: []))))))) [6] [(75, pB true)] [1048] [] (an (nn0 k1) (an (ltc g29) (an6 h30 (an (Count_ref6Spec p0 (c139e1 p1 k1).group r31 hr31) (an2 h30 (an5 h32 (an6 tt (an6 tt (an6 tt tv))))))))) ?_
       exact jD true hm Conv.eqK
      ·replace hm := if_f h32 hm
       obtain ⟨r33, hr33, hm⟩ := bo hm
       rcases bt (!r33) with h34 | h34
       ·replace hm := if_t h34 hm
        refine RD hnt (nn 16 (o99 [] true r31 :: .no :: pF :: nn 3 (o140 [] true r33 :: .no :: pF :: .no :: sk 5 (pT :: .no :: sk 3 (pT :: .no :: sk 3 (pT :: .no :: sk 3 (pT :: []))))))) [6] [(75, pB true)] [1048] [] (an (nn0 k1) (an (ltc g29) (an6 h30 (an (Count_ref6Spec p0 (c139e1 p1 k1).group r31 hr31) (an2 h30 (an3 h32 (an (limit_ref10Spec (c139e1 p1 k1).limit r33 hr33) (an2 h32 (an6 h34 (an6 tt (an6 tt tv))))))))))) ?_
        exact jD true hm Conv.eqK
       ·replace hm := if_f h34 hm
        rcases bt (decide ((c139e1 p1 k1).peak < (c139e1 p1 k1).now)) with h35 | h35
        ·replace hm := if_t h35 hm
         refine RD hnt (nn 16 (o99 [] true r31 :: .no :: pF :: nn 3 (o140 [] true r33 :: .no :: pF :: nn 6 (pF :: .no :: sk 3 (pT :: .no :: sk 3 (pT :: .no :: sk 3 (pT :: []))))))) [6] [(75, pB true)] [1048] [] (an (nn0 k1) (an (ltc g29) (an6 h30 (an (Count_ref6Spec p0 (c139e1 p1 k1).group r31 hr31) (an2 h30 (an3 h32 (an (limit_ref10Spec (c139e1 p1 k1).limit r33 hr33) (an2 h32 (an6 h34 (an4 h35 (an2 tt (an6 tt tv)))))))))))) ?_
         exact jD true hm Conv.eqK
        ·replace hm := if_f h35 hm
         rcases bt (decide ((c139e1 p1 k1).peak > 128)) with h36 | h36
         ·replace hm := if_t h36 hm
          refine RD hnt (nn 16 (o99 [] true r31 :: .no :: pF :: nn 3 (o140 [] true r33 :: .no :: pF :: nn 6 (pF :: nn 4 (pF :: .no :: sk 3 (pT :: .no :: sk 3 (pT :: []))))))) [6] [(75, pB true)] [1048] [] (an (nn0 k1) (an (ltc g29) (an6 h30 (an (Count_ref6Spec p0 (c139e1 p1 k1).group r31 hr31) (an2 h30 (an3 h32 (an (limit_ref10Spec (c139e1 p1 k1).limit r33 hr33) (an2 h32 (an6 h34 (an4 h35 (an4 h36 (an4 tt tv)))))))))))) ?_
          exact jD true hm Conv.eqK
         ·replace hm := if_f h36 hm
          rcases bt (decide ((c139e1 p1 k1).events < 0)) with h37 | h37
          ·replace hm := if_t h37 hm
           refine RD hnt (nn 16 (o99 [] true r31 :: .no :: pF :: nn 3 (o140 [] true r33 :: .no :: pF :: nn 6 (pF :: nn 4 (pF :: nn 4 (pF :: .no :: sk 3 (pT :: []))))))) [6] [(75, pB true)] [1048] [] (an (nn0 k1) (an (ltc g29) (an6 h30 (an (Count_ref6Spec p0 (c139e1 p1 k1).group r31 hr31) (an2 h30 (an3 h32 (an (limit_ref10Spec (c139e1 p1 k1).limit r33 hr33) (an2 h32 (an6 h34 (an4 h35 (an4 h36 (an4 h37 tv)))))))))))) ?_
           exact jD true hm Conv.eqK
          ·replace hm := if_f h37 hm
           refine RD hnt (nn 16 (o99 [] true r31 :: .no :: pF :: nn 3 (o140 [] true r33 :: .no :: pF :: nn 6 (pF :: nn 4 (pF :: nn 4 (pF :: nn 4 (pF :: []))))))) [6] [(75, pB (decide ((c139e1 p1 k1).events > 1099511627776)))] [1048] [] (an (nn0 k1) (an (ltc g29) (an6 h30 (an (Count_ref6Spec p0 (c139e1 p1 k1).group r31 hr31) (an2 h30 (an3 h32 (an (limit_ref10Spec (c139e1 p1 k1).limit r33 hr33) (an2 h32 (an6 h34 (an4 h35 (an4 h36 (an4 h37 tv)))))))))))) ?_
           exact jD (decide ((c139e1 p1 k1).events > 1099511627776)) hm Conv.eqK
   ·intro h28
    have hge1 : ¬ k1 < p1.length := by have := of_decide_eq_false h28; omega
    have hm := he1 hge1
    unfold Check_ref10D1 at hm
    refine DW.exit ?_
    refine joinQ_exit ?_
    refine KQ_exit ?_
    refine blockQ_exit ?_
    show DW _ _ _ _ _
    refine Sq (RK hnt (.no :: []) [(4, pB true)] [] tv ?_)
    obtain rfl := sj hm
    exact DW.ret (retK [] [] (pB true))
 ·rcases bt (!r1) with h2 | h2
  ·replace hm := if_t h2 hm
   refine RD hnt (.no :: o9 [] true r1 :: nn 2 (sk 7 (pT :: []))) [] [(18, pB true)] [] [] (an (Check_ref6Spec p0 r1 hr1) (an2 h2 (an6 h2 tv))) ?_
   exact jD true hm Conv.eqK
  ·replace hm := if_f h2 hm
   refine RD hnt (.no :: o9 [] true r1 :: nn 9 (pF :: [])) [] [(18, pB (((p1.length : Nat) : Int) != ((p0.tree.nodes.length : Nat) : Int)))] [] [] (an (Check_ref6Spec p0 r1 hr1) (an2 h2 (an6 h2 tv))) ?_
   exact jD (((p1.length : Nat) : Int) != ((p0.tree.nodes.length : Nat) : Int)) hm Conv.eqK
abbrev o139 (ks : List Nat) (b : Bool) (RES : Bool) : Orc := .call 32 ks b (pB RES) [] []

theorem Room_ref10Spec (p0 : Hierarchy) (p1 : List Count) (p2 : Int) (RES : Int) (hm : Room_ref10 p0 p1 p2 = some RES) : Spec Tryz.prog 39 [.p (.agg (encHierarchy p0)), .p (slCount p1), pI p2] [] (pI RES) [] [] := by
 unfold Room_ref10 at hm
 refine SO Tryz.func39 rfl rfl [(0, .p (.agg (encHierarchy p0))), (1, .p (slCount p1)), (2, pI p2)] [] ?_
 intro cx hnt
 refine Sq (RD hnt (nn 2 []) [0] [(3, rr 1024)] [] [(1024, bx (pm (encHierarchy p0)))] tv ?_)
 obtain ⟨r1, hr1, hm⟩ := bo hm
 refine Sq (Sq ?_)
 refine Jn (ι := Bool) (fun (y1 : Bool) => mkSt [(1, .p (slCount p1)), (2, pI p2), (3, rr 1024), (22, pB y1)] [(1024, bx (pm (encHierarchy p0)))]) (fun y1 => (Room_ref10J1 p0 p1 p2) y1 = some RES) ?_ ?_
 ·intro y1 hm
  unfold Room_ref10J1 at hm
  refine condM hm ?_ ?_
  ·intro h4 hm
   refine Sq (RK hnt (.no :: []) [(6, pI 0)] [] tv ?_)
   obtain rfl := sj hm
   exact DW.ret (retK [] [] (pI 0))
  ·intro h4 hm
   refine Sk ?_
   refine Sq (RD hnt (.no :: []) [22] [(7, pI 128)] [] [] tv ?_)
   obtain ⟨r5, hr5, hm⟩ := bo hm
   refine Sq (RD hnt (nn 3 (o22 [] true r5 :: .no :: [])) [2, 3] [(8, ow 1208 r5.length)] [1024] [(1208, ob0 (roI r5))] (an (Ancestors_ref5Spec p0.tree p2 r5 hr5) tv) ?_)
   refine Sq (Sq (RD hnt (.no :: []) [] [(9, pI 0)] [] [] tv ?_))
   refine Bk ?_
   obtain ⟨hc1, hm⟩ := go1 hm
   refine DW.rangeO (fun (k1 : Nat) (s1 : Int) => mkSt [(1, .p (slCount p1)), (7, pI s1), (8, ow 1208 r5.length), (9, pI ((k1 : Nat) : Int))] [(1208, ob0 (roI r5))]) 0 hm Conv.eqK ?_
   intro k1 s1 n1 hk1 hs1 he1
   refine Sq (Sq (RD hnt (nn 4 []) [] [(30, pB (decide (((k1 : Nat) : Int) < ((r5.length : Nat) : Int))))] [] [] tv ?_))
   refine condK (decide (((k1 : Nat) : Int) < ((r5.length : Nat) : Int))) ?_ ?_
   ·intro h14
    have hlt1 : k1 < r5.length := by have := of_decide_eq_true h14; omega
    have hm := hs1 hlt1
    unfold Room_ref10L1 at hm
    refine Sk ?_
    refine Sq (Bk ?_)
    obtain ⟨r15, hr15, hm⟩ := bo hm
    refine Sq (RD hnt (nn 5 (o98 [] true r15 :: nn 6 [])) [30] [(10, rr 1080)] [] [(1080, bx (pm (encCount r15.1)))] (an (nn0 k1) (an (ltc hlt1) (an (by omega : k1 < r5.length) (an (Get_ref10Spec p1 (r5.getD k1 0) r15 hr15) tv)))) ?_)
    refine RD hnt (nn 8 []) [10] [(7, pI (minI s1 (w64 (r15.1.limit - r15.1.now))))] [1080] [] tv ?_
    refine DW.done ?_
    show DW _ _ _ _ _
    refine RD hnt (nn 3 []) [] [(9, pI (w64 (((k1 : Nat) : Int) + 1)))] [] [] tv ?_
    exact jD (minI s1 (w64 (r15.1.limit - r15.1.now))) ⟨hlt1, hm⟩ (Conv.tp [(9, pI (w64 (((k1 : Nat) : Int) + 1)))] [] (by kernel_rfl) (.cons rfl (.of_eq (congrArg pI (w64_succ hlt1 hc1))) .nil) .nil)
   ·intro h14
    have hge1 : ¬ k1 < r5.length := by have := of_decide_eq_false h14; omega
    have hm := he1 hge1
    unfold Room_ref10D1 at hm
    refine DW.exit ?_
    refine joinQ_exit ?_
    refine KQ_exit ?_
    refine blockQ_exit ?_
    show DW _ _ _ _ _
    refine Sq (RK hnt (nn 3 []) [(6, pI (maxI s1 0))] [] tv ?_)
    obtain rfl := sj hm
    exact DW.ret (retK [] [] (pI (maxI s1 0)))
 ·rcases bt (!r1) with h2 | h2
  ·replace hm := if_t h2 hm
   refine RD hnt (nn 2 (o139 [] true r1 :: nn 2 (sk 5 (pT :: [])))) [] [(22, pB true)] [] [] (an (Check_ref10Spec p0 p1 r1 hr1) (an6 h2 tv)) ?_
   exact jD true hm Conv.eqK
  ·replace hm := if_f h2 hm
   obtain ⟨r3, hr3, hm⟩ := bo hm
   refine RD hnt (nn 2 (o139 [] true r1 :: nn 5 (o15 [] true r3 :: .no :: pF :: []))) [] [(22, pB (!r3))] [] [] (an (Check_ref10Spec p0 p1 r1 hr1) (an4 h2 (an (Has_ref5Spec p0.tree p2 r3 hr3) (an2 h2 tv)))) ?_
   exact jD (!r3) hm Conv.eqK
abbrev o142 (ks : List Nat) (b : Bool) (RES : Int) : Orc := .call 39 ks b (pI RES) [] []

abbrev c143e1 (p1 : List Count) (k4 : Nat) := ({ group := (p1.getD k4 (default : Count)).group, now := (p1.getD k4 (default : Count)).now, limit := (p1.getD k4 (default : Count)).limit, peak := (p1.getD k4 (default : Count)).peak, events := (minI (w64 ((p1.getD k4 (default : Count)).events + 1)) 1099511627776) } : Count)
abbrev c143e2 (p1 : List Count) (k4 : Nat) := (updF (elCount p1) k4 [vi (p1.getD k4 (default : Count)).group, vi (p1.getD k4 (default : Count)).now, vi (p1.getD k4 (default : Count)).limit, vi (p1.getD k4 (default : Count)).peak, vi (minI (w64 ((p1.getD k4 (default : Count)).events + 1)) 1099511627776)])
theorem Refuse_ref10Spec (p0 : Hierarchy) (p1 : List Count) (p2 : Int) (p3 : Int) (RES : (List Count) × Int) (hm : Refuse_ref10 p0 p1 p2 p3 = some RES) : Spec Tryz.prog 37 [.p (.agg (encHierarchy p0)), .p (slCount p1), pI p2, pI p3] [] (.tup [ow 0 RES.1.length, pI RES.2]) [] [roCount RES.1] := by
 unfold Refuse_ref10 at hm
 refine SO Tryz.func37 rfl rfl [(0, .p (.agg (encHierarchy p0))), (1, .p (slCount p1)), (2, pI p2), (3, pI p3)] [] ?_
 intro cx hnt
 refine Sq (RD hnt (nn 3 []) [0] [(4, rr 1032)] [] [(1032, bx (pm (encHierarchy p0)))] tv ?_)
 obtain ⟨r1, hr1, hm⟩ := bo hm
 refine Sq (Sq (RD hnt (nn 2 (o139 [] true r1 :: .no :: [])) [] [(18, pB (!r1))] [] [] (an (Check_ref10Spec p0 p1 r1 hr1) tv) ?_))
 refine condM hm ?_ ?_
 ·intro h2 hm
  refine Sq (RK hnt (nn 2 []) [(8, .p (.sl .nil 0 0 (fun _ => []))), (9, pI 0)] [] tv ?_)
  refine DW.cv [] [(8, ow 100000 0)] [] [(100000, ob0 (roCount []))] (Conv.ads [(.s 8, 100000, 5, elems encCount dCount [])]) ?_
  obtain rfl := sj hm
  exact DW.ret (retK [roCount []] [100000] (.tup [ow 0 0, pI 0]))
 ·intro h2 hm
  refine Sk ?_
  obtain ⟨g3, hm⟩ := go1 hm
  refine Sq (RN hnt (nn 3 []) [(2, pI p2), (3, pI p3), (4, rr 1032), (10, ow 1160 p1.length)] [(1032, bx (pm (encHierarchy p0))), (1160, ob0 (roCount p1))] [] [(1160, .row 5 p1.length (elCount p1))] (an (by omega : p1.length * 40 ≤ 140737488355328) tv) (by kernel_rfl) .nil (.cons rfl (BLe.typed RowIs.elems) .nil) ?_)
  obtain ⟨r4, hr4, hm⟩ := bo hm
  refine Sq (RD hnt (nn 3 (o22 [] true r4 :: .no :: [])) [2, 4] [(11, ow 1192 r4.length)] [1032] [(1192, ob0 (roI r4))] (an (Ancestors_ref5Spec p0.tree p2 r4 hr4) tv) ?_)
  refine Sq (Sq (RD hnt (.no :: []) [] [(12, pI 0)] [] [] tv ?_))
  refine Bk ?_
  obtain ⟨hc1, hm⟩ := go1 hm
  refine DW.rangeO (fun (k1 : Nat) (s1 : Unit) => mkSt [(3, pI p3), (10, ow 1160 p1.length), (11, ow 1192 r4.length), (12, pI ((k1 : Nat) : Int))] [(1160, ob0 (roCount p1)), (1192, ob0 (roI r4))]) 0 hm Conv.eqK ?_
  intro k1 s1 n1 hk1 hs1 he1
  refine Sq (Sq (RD hnt (nn 4 []) [] [(28, pB (decide (((k1 : Nat) : Int) < ((r4.length : Nat) : Int))))] [] [] tv ?_))
  refine condK (decide (((k1 : Nat) : Int) < ((r4.length : Nat) : Int))) ?_ ?_
  ·intro h71
   have hlt1 : k1 < r4.length := by have := of_decide_eq_true h71; omega
   have hm := hs1 hlt1
   unfold Refuse_ref10L1 at hm
   refine Sk ?_
   refine Sq (Bk ?_)
   refine Sq (RD hnt (.no :: []) [28] [(13, pI 0)] [] [] tv ?_)
   refine Bk ?_
   obtain ⟨hc4, hm⟩ := go1 hm
   refine DW.rangeO (fun (k4 : Nat) (s4 : Unit) => mkSt [(3, pI p3), (10, ow 1160 p1.length), (11, ow 1192 r4.length), (12, pI ((k1 : Nat) : Int)), (13, pI ((k4 : Nat) : Int))] [(1160, ob0 (roCount p1)), (1192, ob0 (roI r4))]) dCount hm Conv.eqK ?_
   intro k4 s4 n4 hk4 hs4 he4
   refine Sq (Sq (RD hnt (nn 4 []) [] [(34, pB (decide (((k4 : Nat) : Int) < ((p1.length : Nat) : Int))))] [] [] tv ?_))
   refine condK (decide (((k4 : Nat) : Int) < ((p1.length : Nat) : Int))) ?_ ?_
   ·intro h92
    have hlt4 : k4 < p1.length := by have := of_decide_eq_true h92; omega
    have hm := hs4 hlt4
    unfold Refuse_ref10L4 at hm
    refine Sk ?_
    refine Sq (Bk ?_)
    refine Sq (RD hnt (nn 4 []) [34] [(14, .eref 1160 0 k4 0)] [] [] (an (nn0 k4) (an (ltc hlt4) tv)) ?_)
    refine Sq (DW.regJ (sl2 := [(3, pI p3), (10, ow 1160 p1.length), (11, ow 1192 r4.length), (12, pI ((k1 : Nat) : Int)), (13, pI ((k4 : Nat) : Int)), (14, .eref 1160 0 k4 0), (61, pB (((p1.getD k4 (default : Count)).group == (r4.getD k1 0)) && (decide ((w64 ((p1.getD k4 (default : Count)).limit - (p1.getD k4 (default : Count)).now)) < p3))))]) (ob2 := [(1160, ob0 (roCount p1)), (1192, ob0 (roI r4))]) ?_ ?_)
    ·rcases bt ((p1.getD k4 (default : Count)).group == (r4.getD k1 0)) with h93 | h93
     ·exact RT hnt (nn 21 (pT :: [])) [(61, pB (decide ((w64 ((p1.getD k4 (default : Count)).limit - (p1.getD k4 (default : Count)).now)) < p3)))] (an (by omega : k4 < p1.length) (an (nn0 k1) (an (ltc hlt1) (an (by omega : k1 < r4.length) (an4 h93 (an (by omega : k4 < p1.length) (an4 h93 (an (by omega : k4 < p1.length) (an4 h93 tv))))))))) (by kernel_rfl) (.cons rfl (.of_eq (by rw [h93]; try rfl)) .nil)
     ·exact RT hnt (nn 10 (sk 11 (pF :: []))) [(61, pB false)] (an (by omega : k4 < p1.length) (an (nn0 k1) (an (ltc hlt1) (an (by omega : k1 < r4.length) (an6 h93 (an6 h93 tv)))))) (by kernel_rfl) (.cons rfl (.of_eq (by rw [h93]; try rfl)) .nil)
    ·refine condM hm ?_ ?_
     ·intro h94 hm
      refine Sq (RN hnt (nn 10 []) [(10, ow 1160 (p1.set k4 (c143e1 p1 k4)).length), (14, .eref 1160 0 k4 0)] [(1160, ob0 (roCount (p1.set k4 (c143e1 p1 k4))))] [(10, ow 1160 p1.length)] [(1160, .row 5 p1.length (c143e2 p1 k4))] (an (by omega : k4 < p1.length) (an (by omega : k4 < p1.length) tv)) (by kernel_rfl) (.cons rfl (MLe.ownLen (enc := encCount) (d := dCount) (f := (c143e2 p1 k4)) (RowIs.upd RowIs.elems (c143e1 p1 k4) rfl)) .nil) (.cons rfl (BLe.typed (RowIs.upd RowIs.elems (c143e1 p1 k4) rfl)) .nil) ?_)
      obtain ⟨g95, hm⟩ := go1 hm
      refine Sq (RD hnt (nn 7 []) [10, 14] [(8, ow 1160 (p1.set k4 (c143e1 p1 k4)).length), (9, pI ((p1.set k4 (c143e1 p1 k4)).getD k4 dCount).group)] [] [] (an g95 tv) ?_)
      obtain rfl := sj hm
      exact DW.ret (retK [roCount (p1.set k4 (c143e1 p1 k4))] [1160] (.tup [ow 0 (p1.set k4 (c143e1 p1 k4)).length, pI ((p1.set k4 (c143e1 p1 k4)).getD k4 dCount).group]))
     ·intro h94 hm
      refine Sk ?_
      refine DW.done ?_
      show DW _ _ _ _ _
      refine RD hnt (nn 3 []) [14, 61] [(13, pI (w64 (((k4 : Nat) : Int) + 1)))] [] [] tv ?_
      exact jD () ⟨hlt4, hm⟩ (Conv.tp [(13, pI (w64 (((k4 : Nat) : Int) + 1)))] [] (by kernel_rfl) (.cons rfl (.of_eq (congrArg pI (w64_succ hlt4 hc4))) .nil) .nil)
   ·intro h92
    have hge4 : ¬ k4 < p1.length := by have := of_decide_eq_false h92; omega
    have hm := he4 hge4
    unfold Refuse_ref10D4 at hm
    refine DW.exit ?_
    refine joinQ_exit ?_
    refine KQ_exit ?_
    refine blockQ_exit ?_
    show DW _ _ _ _ _
    refine DW.done ?_
    show DW _ _ _ _ _
    refine RD hnt (nn 3 []) [13, 34] [(12, pI (w64 (((k1 : Nat) : Int) + 1)))] [] [] tv ?_
    exact jD () ⟨hlt1, hm⟩ (Conv.tp [(12, pI (w64 (((k1 : Nat) : Int) + 1)))] [] (by kernel_rfl) (.cons rfl (.of_eq (congrArg pI (w64_succ hlt1 hc1))) .nil) .nil)
  ·intro h71
   have hge1 : ¬ k1 < r4.length := by have := of_decide_eq_false h71; omega
   have hm := he1 hge1
   unfold Refuse_ref10D1 at hm
   refine DW.exit ?_
   refine joinQ_exit ?_
   refine KQ_exit ?_
   refine blockQ_exit ?_
   show DW _ _ _ _ _
   refine Sq (RK hnt (nn 3 []) [(8, ow 1160 p1.length), (9, pI 0)] [(1160, ob0 (roCount p1))] tv ?_)
   obtain rfl := sj hm
   exact DW.ret (retK [roCount p1] [1160] (.tup [ow 0 p1.length, pI 0]))
abbrev o143 (ks : List Nat) (b : Bool) (RES : (List Count) × Int) : Orc := .call 37 ks b (.tup [ow 0 RES.1.length, pI RES.2]) [] [roCount RES.1]

abbrev c144e1 (s3 : List Count) (s1 : (List Count) × Int) (p3 : Int) := (s3.set (Int.toNat s1.2) ({ group := (s3.getD (Int.toNat s1.2) dCount).group, now := (w64 ((s3.getD (Int.toNat s1.2) dCount).now + p3)), limit := (s3.getD (Int.toNat s1.2) dCount).limit, peak := (s3.getD (Int.toNat s1.2) dCount).peak, events := (s3.getD (Int.toNat s1.2) dCount).events } : Count))
abbrev c144e2 (s3 : List Count) (s1 : (List Count) × Int) (p3 : Int) := ({ group := ((c144e1 s3 s1 p3).getD (Int.toNat s1.2) dCount).group, now := ((c144e1 s3 s1 p3).getD (Int.toNat s1.2) dCount).now, limit := ((c144e1 s3 s1 p3).getD (Int.toNat s1.2) dCount).limit, peak := (maxI ((c144e1 s3 s1 p3).getD (Int.toNat s1.2) dCount).peak ((c144e1 s3 s1 p3).getD (Int.toNat s1.2) dCount).now), events := ((c144e1 s3 s1 p3).getD (Int.toNat s1.2) dCount).events } : Count)
abbrev c144e3 (s3 : List Count) (s1 : (List Count) × Int) := (s3.getD (Int.toNat s1.2) dCount)
abbrev c144e4 (s3 : List Count) (s1 : (List Count) × Int) (p3 : Int) := (updF (elCount (c144e1 s3 s1 p3)) (Int.toNat s1.2) [vi ((c144e1 s3 s1 p3).getD (Int.toNat s1.2) dCount).group, vi ((c144e1 s3 s1 p3).getD (Int.toNat s1.2) dCount).now, vi ((c144e1 s3 s1 p3).getD (Int.toNat s1.2) dCount).limit, vi (maxI ((c144e1 s3 s1 p3).getD (Int.toNat s1.2) dCount).peak ((c144e1 s3 s1 p3).getD (Int.toNat s1.2) dCount).now), vi ((c144e1 s3 s1 p3).getD (Int.toNat s1.2) dCount).events])
abbrev c144e5 (s3 : List Count) (s1 : (List Count) × Int) (p3 : Int) := ({ group := (c144e3 s3 s1).group, now := (w64 ((c144e3 s3 s1).now + p3)), limit := (c144e3 s3 s1).limit, peak := (c144e3 s3 s1).peak, events := (c144e3 s3 s1).events } : Count)
abbrev c144e6 (s3 : List Count) (s1 : (List Count) × Int) (p3 : Int) := (updF (elCount s3) (Int.toNat s1.2) [vi (c144e3 s3 s1).group, vi (w64 ((c144e3 s3 s1).now + p3)), vi (c144e3 s3 s1).limit, vi (c144e3 s3 s1).peak, vi (c144e3 s3 s1).events])
theorem Charge_ref10Spec (p0 : Hierarchy) (p1 : List Count) (p2 : Int) (p3 : Int) (RES : (List Count) × Int) (hm : Charge_ref10 p0 p1 p2 p3 = some RES) : Spec Tryz.prog 36 [.p (.agg (encHierarchy p0)), .p (slCount p1), pI p2, pI p3] [] (.tup [ow 0 RES.1.length, pI RES.2]) [] [roCount RES.1] := by
 unfold Charge_ref10 at hm
 refine SO Tryz.func36 rfl rfl [(0, .p (.agg (encHierarchy p0))), (1, .p (slCount p1)), (2, pI p2), (3, pI p3)] [] ?_
 intro cx hnt
 refine Sq (RD hnt (nn 3 []) [0] [(4, rr 1032)] [] [(1032, bx (pm (encHierarchy p0)))] tv ?_)
 refine Sq (Bk ?_)
 obtain ⟨r1, hr1, hm⟩ := bo hm
 refine Sq ?_
 refine Jn (ι := Bool) (fun (y1 : Bool) => mkSt [(1, .p (slCount p1)), (2, pI p2), (3, pI p3), (4, rr 1032), (14, pB y1)] [(1032, bx (pm (encHierarchy p0)))]) (fun y1 => (Charge_ref10J1 p0 p1 p2 p3) y1 = some RES) ?_ ?_
 ·intro y1 hm
  unfold Charge_ref10J1 at hm
  refine condM hm ?_ ?_
  ·intro h4 hm
   refine Sq (RK hnt (nn 2 []) [(8, .p (.sl .nil 0 0 (fun _ => []))), (9, pI 1)] [] tv ?_)
   refine DW.cv [] [(8, ow 100000 0)] [] [(100000, ob0 (roCount []))] (Conv.ads [(.s 8, 100000, 5, elems encCount dCount [])]) ?_
   obtain rfl := sj hm
   exact DW.ret (retK [roCount []] [100000] (.tup [ow 0 0, pI 1]))
  ·intro h4 hm
   obtain ⟨r5, hr5, hm⟩ := bo hm
   refine Sq (RD hnt (nn 3 (o15 [] true r5 :: nn 2 [])) [14] [(27, pB (!r5))] [] [] (an (Has_ref5Spec p0.tree p2 r5 hr5) tv) ?_)
   refine condM hm ?_ ?_
   ·intro h6 hm
    refine Sq (RK hnt (nn 2 []) [(8, .p (.sl .nil 0 0 (fun _ => []))), (9, pI 4)] [] tv ?_)
    refine DW.cv [] [(8, ow 100000 0)] [] [(100000, ob0 (roCount []))] (Conv.ads [(.s 8, 100000, 5, elems encCount dCount [])]) ?_
    obtain rfl := sj hm
    exact DW.ret (retK [roCount []] [100000] (.tup [ow 0 0, pI 4]))
   ·intro h6 hm
    obtain ⟨r7, hr7, hm⟩ := bo hm
    refine Sq (RD hnt (nn 3 (o142 [] true r7 :: nn 3 [])) [27] [(33, pB (decide (r7 < p3)))] [] [] (an (Room_ref10Spec p0 p1 p2 r7 hr7) tv) ?_)
    refine condM hm ?_ ?_
    ·intro h8 hm
     refine Sq (RK hnt (nn 2 []) [(8, .p (.sl .nil 0 0 (fun _ => []))), (9, pI 11)] [] tv ?_)
     refine DW.cv [] [(8, ow 100000 0)] [] [(100000, ob0 (roCount []))] (Conv.ads [(.s 8, 100000, 5, elems encCount dCount [])]) ?_
     obtain rfl := sj hm
     exact DW.ret (retK [roCount []] [100000] (.tup [ow 0 0, pI 11]))
    ·intro h8 hm
     refine Sk ?_
     refine DW.done ?_
     show DW _ _ _ _ _
     obtain ⟨g9, hm⟩ := go1 hm
     refine Sq (RN hnt (nn 3 []) [(2, pI p2), (3, pI p3), (4, rr 1032), (10, ow 1328 p1.length)] [(1032, bx (pm (encHierarchy p0))), (1328, ob0 (roCount p1))] [] [(1328, .row 5 p1.length (elCount p1))] (an (by omega : p1.length * 40 ≤ 140737488355328) tv) (by kernel_rfl) .nil (.cons rfl (BLe.typed RowIs.elems) .nil) ?_)
     obtain ⟨r10, hr10, hm⟩ := bo hm
     refine Sq (RD hnt (nn 3 (o22 [] true r10 :: .no :: [])) [2, 4] [(11, ow 1360 r10.length)] [1032] [(1360, ob0 (roI r10))] (an (Ancestors_ref5Spec p0.tree p2 r10 hr10) tv) ?_)
     refine Sq (Sq (RD hnt (.no :: []) [] [(12, pI 0)] [] [] tv ?_))
     refine Bk ?_
     refine DW.whileO (fun (s1 : (List Count) × Int) => mkSt [(3, pI p3), (10, ow 1328 s1.1.length), (11, ow 1360 r10.length), (12, pI s1.2)] [(1328, ob0 (roCount s1.1)), (1360, ob0 (roI r10))]) hm Conv.eqK ?_
     intro s1 n1 hm
     unfold Charge_ref10L1 at hm
     refine Sq (Sq (RD hnt (nn 4 []) [] [(49, pB (decide (s1.2 < ((s1.1.length : Nat) : Int))))] [] [] tv ?_))
     refine condM hm ?_ ?_
     ·intro h58 hm
      refine Sk ?_
      refine Sq (Bk ?_)
      refine Sq (RD hnt (.no :: []) [49] [(13, pI 0)] [] [] tv ?_)
      refine Bk ?_
      obtain ⟨hc3, hm⟩ := go1 hm
      refine DW.rangeO (fun (k3 : Nat) (s3 : List Count) => mkSt [(3, pI p3), (10, ow 1328 s3.length), (11, ow 1360 r10.length), (12, pI s1.2), (13, pI ((k3 : Nat) : Int))] [(1328, ob0 (roCount s3)), (1360, ob0 (roI r10))]) 0 hm Conv.eqK ?_
      intro k3 s3 n3 hk3 hs3 he3
      refine Sq (Sq (RD hnt (nn 4 []) [] [(55, pB (decide (((k3 : Nat) : Int) < ((r10.length : Nat) : Int))))] [] [] tv ?_))
      refine condK (decide (((k3 : Nat) : Int) < ((r10.length : Nat) : Int))) ?_ ?_
      ·intro h91
       have hlt3 : k3 < r10.length := by have := of_decide_eq_true h91; omega
       have hm := hs3 hlt3
       unfold Charge_ref10L3 at hm
       refine Sk ?_
       refine Sq ?_
       refine Jn (ι := List Count) (fun (y7 : List Count) => mkSt [(3, pI p3), (10, ow 1328 y7.length), (11, ow 1360 r10.length), (12, pI s1.2), (13, pI ((k3 : Nat) : Int))] [(1328, ob0 (roCount y7)), (1360, ob0 (roI r10))]) (fun y7 => (Charge_ref10J7 n3) y7 = some RES) ?_ ?_
       ·intro y7 hm
        unfold Charge_ref10J7 at hm
        refine RD hnt (nn 3 []) [] [(13, pI (w64 (((k3 : Nat) : Int) + 1)))] [] [] tv ?_
        exact jD y7 ⟨hlt3, hm⟩ (Conv.tp [(13, pI (w64 (((k3 : Nat) : Int) + 1)))] [] (by kernel_rfl) (.cons rfl (.of_eq (congrArg pI (w64_succ hlt3 hc3))) .nil) .nil)
       ·refine Bk ?_
        obtain ⟨g92, g93, hm⟩ := go2 hm
        refine Sq (RD hnt (nn 10 []) [55] [(67, pB ((c144e3 s3 s1).group == (r10.getD k3 0)))] [] [] (an g92.1 (an g92.2 (an g93 (an (nn0 k3) (an (ltc hlt3) (an (by omega : k3 < r10.length) tv)))))) ?_)
        refine condM hm ?_ ?_
        ·intro h94 hm
         obtain ⟨g95, g96, g97, g98, hm⟩ := go4 hm
         refine Sq (RN hnt (nn 10 []) [(3, pI p3), (10, ow 1328 (c144e1 s3 s1 p3).length), (11, ow 1360 r10.length), (12, pI s1.2), (13, pI ((k3 : Nat) : Int))] [(1328, ob0 (roCount (c144e1 s3 s1 p3))), (1360, ob0 (roI r10))] [(10, ow 1328 s3.length)] [(1328, .row 5 s3.length (c144e6 s3 s1 p3))] (an g95.1 (an g95.2 (an g96 (an g97.1 (an g97.2 (an g98 tv)))))) (by kernel_rfl) (.cons rfl (MLe.ownLen (enc := encCount) (d := dCount) (f := (c144e6 s3 s1 p3)) (RowIs.upd RowIs.elems (c144e5 s3 s1 p3) rfl)) .nil) (.cons rfl (BLe.typed (RowIs.upd RowIs.elems (c144e5 s3 s1 p3) rfl)) .nil) ?_)
         obtain ⟨g99, g100, g101, g102, hm⟩ := go4 hm
         obtain ⟨g103, g104, hm⟩ := go2 hm
         refine RN hnt (nn 16 []) [(3, pI p3), (10, ow 1328 ((c144e1 s3 s1 p3).set (Int.toNat s1.2) (c144e2 s3 s1 p3)).length), (11, ow 1360 r10.length), (12, pI s1.2), (13, pI ((k3 : Nat) : Int))] [(1328, ob0 (roCount ((c144e1 s3 s1 p3).set (Int.toNat s1.2) (c144e2 s3 s1 p3)))), (1360, ob0 (roI r10))] [(10, ow 1328 (c144e1 s3 s1 p3).length)] [(1328, .row 5 (c144e1 s3 s1 p3).length (c144e4 s3 s1 p3))] (an g99.1 (an g99.2 (an g100 (an g101.1 (an g101.2 (an g102 (an g103.1 (an g103.2 (an g104 tv))))))))) (by kernel_rfl) (.cons rfl (MLe.ownLen (enc := encCount) (d := dCount) (f := (c144e4 s3 s1 p3)) (RowIs.upd RowIs.elems (c144e2 s3 s1 p3) rfl)) .nil) (.cons rfl (BLe.typed (RowIs.upd RowIs.elems (c144e2 s3 s1 p3) rfl)) .nil) ?_
         exact bD ((c144e1 s3 s1 p3).set (Int.toNat s1.2) (c144e2 s3 s1 p3)) hm .refl
        ·intro h94 hm
         refine Sk ?_
         exact bD s3 hm Conv.t0
      ·intro h91
       have hge3 : ¬ k3 < r10.length := by have := of_decide_eq_false h91; omega
       have hm := he3 hge3
       unfold Charge_ref10D3 at hm
       refine DW.exit ?_
       refine joinQ_exit ?_
       refine KQ_exit ?_
       refine blockQ_exit ?_
       show DW _ _ _ _ _
       refine DW.done ?_
       show DW _ _ _ _ _
       refine RD hnt (nn 3 []) [13, 55] [(12, pI (w64 (s1.2 + 1)))] [] [] tv ?_
       exact jD (s3, (w64 (s1.2 + 1))) hm Conv.eqK
     ·intro h58 hm
      refine DW.exit ?_
      refine joinQ_exit ?_
      refine KQ_exit ?_
      refine blockQ_exit ?_
      show DW _ _ _ _ _
      refine Sq (RK hnt (nn 3 []) [(8, ow 1328 s1.1.length), (9, pI 0)] [(1328, ob0 (roCount s1.1))] tv ?_)
      obtain rfl := sj hm
      exact DW.ret (retK [roCount s1.1] [1328] (.tup [ow 0 s1.1.length, pI 0]))
 ·rcases bt (!r1) with h2 | h2
  ·replace hm := if_t h2 hm
   refine RD hnt (nn 2 (o139 [] true r1 :: nn 2 (sk 2 (pT :: .no :: sk 2 (pT :: .no :: []))))) [] [(14, pB true)] [] [] (an (Check_ref10Spec p0 p1 r1 hr1) (an3 h2 (an3 tt tv))) ?_
   exact jD true hm Conv.eqK
  ·replace hm := if_f h2 hm
   rcases bt (decide (p3 < 0)) with h3 | h3
   ·replace hm := if_t h3 hm
    refine RD hnt (nn 2 (o139 [] true r1 :: nn 4 (pF :: .no :: sk 2 (pT :: .no :: [])))) [] [(14, pB true)] [] [] (an (Check_ref10Spec p0 p1 r1 hr1) (an3 h2 (an3 h3 tv))) ?_
    exact jD true hm Conv.eqK
   ·replace hm := if_f h3 hm
    refine RD hnt (nn 2 (o139 [] true r1 :: nn 4 (pF :: nn 3 (pF :: .no :: [])))) [] [(14, pB (decide (p3 > 128)))] [] [] (an (Check_ref10Spec p0 p1 r1 hr1) (an3 h2 (an3 h3 tv))) ?_
    exact jD (decide (p3 > 128)) hm Conv.eqK
abbrev o144 (ks : List Nat) (b : Bool) (RES : (List Count) × Int) : Orc := .call 36 ks b (.tup [ow 0 RES.1.length, pI RES.2]) [] [roCount RES.1]

abbrev c141e1 : Nat × Body := (1096, .box [.p (.sl .nil 0 0 (fun _ => [])), pI 0, .p (.sl .nil 0 0 (fun _ => [])), pI 0])
abbrev c141e2 : Nat × Obj := (1096, bx [.p (.sl .nil 0 0 (fun _ => [])), pI 0, .p (.sl .nil 0 0 (fun _ => [])), pI 0])
theorem fork_ref10Spec (p0 : Hierarchy) (p1 : List Count) (p2 : Int) (p3 : Hierarchy) (p4 : Int) (p5 : Int) (RES : Hierarchy × (List Count) × Int × Int) (hm : fork_ref10 p0 p1 p2 p3 p4 p5 = some RES) : Spec Tryz.prog 128 [.p (.agg (encHierarchy p0)), .p (slCount p1), pI p2, .p (.agg (encHierarchy p3)), pI p4, pI p5] [] (.tup [.p (.agg (encHierarchy RES.1)), ow 0 RES.2.1.length, pI RES.2.2.1, pI RES.2.2.2]) [] [roCount RES.2.1] := by
 unfold fork_ref10 at hm
 refine SO Tryz.func128 rfl rfl [(0, .p (.agg (encHierarchy p0))), (1, .p (slCount p1)), (2, pI p2), (3, .p (.agg (encHierarchy p3))), (4, pI p4), (5, pI p5)] [] ?_
 intro cx hnt
 refine Sq (RD hnt (nn 6 []) [0, 3] [(6, rr 1048), (9, rr 1072), (12, rr 1096)] [] [(1048, bx (pm (encHierarchy p0))), (1072, bx (pm (encHierarchy p3))), (c141e2)] tv ?_)
 refine Sq (Sq (RD hnt (nn 2 []) [] [(21, pB (p5 != 0))] [] [] tv ?_))
 refine condM hm ?_ ?_
 ·intro h1 hm
  refine Sq (RD hnt (nn 6 []) [1, 2, 4, 5, 6, 9, 21] [(13, .p (.sl .nil 0 0 (fun _ => []))), (14, pI 0), (15, pI p5)] [1048, 1072] [] tv ?_)
  refine DW.conv (τ := mkSt [(12, rr 1096), (13, ow 100000 0), (14, pI 0), (15, pI p5)] [(1096, bx [.p (slNode []), pI 0, .p (slTask []), pI 0]), (100000, ob0 (roCount []))]) (Conv.trans (τ := mkSt [(12, rr 1096), (13, ow 100000 0), (14, pI 0), (15, pI p5)] [(c141e2), (100000, ob0 (roCount []))]) (Conv.ads [(.s 13, 100000, 5, elems encCount dCount [])]) (Conv.tp [] [(c141e1)] (by kernel_rfl) .nil (.cons rfl (.box (.cons MLe.nilL (.cons .rfl (.cons MLe.nilL (.cons .rfl .nil))))) .nil))) ?_
  obtain rfl := sj hm
  exact DW.ret (retK [roCount []] [100000] (.tup [.p (.agg [slNode [], vi 0, slTask [], vi 0]), ow 0 0, pI 0, pI p5]))
 ·intro h1 hm
  refine Sk ?_
  obtain ⟨r2, hr2, hm⟩ := bo hm
  refine Sq (Sq (RD hnt (nn 3 (o142 [] true r2 :: .no :: [])) [5, 21] [(28, pB (decide (r2 < 1)))] [] [] (an (Room_ref10Spec p0 p1 p2 r2 hr2) tv) ?_))
  refine condM hm ?_ ?_
  ·intro h3 hm
   obtain ⟨r4, hr4, hm⟩ := bo hm
   refine Sq (RD hnt (nn 3 (o143 [] true r4 :: nn 5 [])) [1, 2, 4, 6, 9, 28] [(16, ow 1264 r4.1.length)] [1048, 1072] [(1264, ob0 (roCount r4.1))] (an (Refuse_ref10Spec p0 p1 p2 1 r4 hr4) tv) ?_)
   refine Sq (RD hnt (nn 6 []) [16] [(13, ow 1264 r4.1.length), (14, pI 0), (15, pI 11)] [] [] tv ?_)
   refine DW.conv (τ := mkSt [(12, rr 1096), (13, ow 1264 r4.1.length), (14, pI 0), (15, pI 11)] [(1096, bx [.p (slNode []), pI 0, .p (slTask []), pI 0]), (1264, ob0 (roCount r4.1))]) (Conv.tp [] [(c141e1)] (by kernel_rfl) .nil (.cons rfl (.box (.cons MLe.nilL (.cons .rfl (.cons MLe.nilL (.cons .rfl .nil))))) .nil)) ?_
   obtain rfl := sj hm
   exact DW.ret (retK [roCount r4.1] [1264] (.tup [.p (.agg [slNode [], vi 0, slTask [], vi 0]), ow 0 r4.1.length, pI 0, pI 11]))
  ·intro h3 hm
   refine Sk ?_
   obtain ⟨r5, hr5, hm⟩ := bo hm
   refine Sq (RD hnt (nn 3 (o144 [] true r5 :: nn 5 [])) [1, 2, 6, 28] [(18, ow 1336 r5.1.length)] [1048] [(1336, ob0 (roCount r5.1))] (an (Charge_ref10Spec p0 p1 p2 1 r5 hr5) tv) ?_)
   refine Sq (RD hnt (nn 7 []) [4, 9, 18] [(13, ow 1336 r5.1.length), (14, pI p4), (15, pI 0)] [1072] [(1096, bx (pm (encHierarchy p3)))] tv ?_)
   obtain rfl := sj hm
   exact DW.ret (retK [roCount r5.1] [1336] (.tup [.p (.agg (encHierarchy p3)), ow 0 r5.1.length, pI p4, pI 0]))
abbrev o141 (ks : List Nat) (b : Bool) (RES : Hierarchy × (List Count) × Int × Int) : Orc := .call 128 ks b (.tup [.p (.agg (encHierarchy RES.1)), ow 0 RES.2.1.length, pI RES.2.2.1, pI RES.2.2.2]) [] [roCount RES.2.1]

abbrev c138e1 : Nat × Obj := (1064, bx [.p (.sl .nil 0 0 (fun _ => [])), pI 0, .p (.sl .nil 0 0 (fun _ => [])), pI 0])
abbrev c138e2 : Nat × Body := (1064, .box [.p (.sl .nil 0 0 (fun _ => [])), pI 0, .p (.sl .nil 0 0 (fun _ => [])), pI 0])
theorem Spawn_ref10Spec (p0 : Hierarchy) (p1 : List Count) (p2 : Int) (p3 : Int) (RES : Hierarchy × (List Count) × Int × Int) (hm : Spawn_ref10 p0 p1 p2 p3 = some RES) : Spec Tryz.prog 74 [.p (.agg (encHierarchy p0)), .p (slCount p1), pI p2, pI p3] [] (.tup [.p (.agg (encHierarchy RES.1)), ow 0 RES.2.1.length, pI RES.2.2.1, pI RES.2.2.2]) [] [roCount RES.2.1] := by
 unfold Spawn_ref10 at hm
 refine SO Tryz.func74 rfl rfl [(0, .p (.agg (encHierarchy p0))), (1, .p (slCount p1)), (2, pI p2), (3, pI p3)] [] ?_
 intro cx hnt
 refine Sq (RD hnt (nn 5 []) [0] [(4, rr 1032), (8, rr 1064)] [] [(1032, bx (pm (encHierarchy p0))), (c138e1)] tv ?_)
 obtain ⟨r1, hr1, hm⟩ := bo hm
 refine Sq (Sq (RD hnt (nn 2 (o139 [] true r1 :: .no :: [])) [] [(19, pB (!r1))] [] [] (an (Check_ref10Spec p0 p1 r1 hr1) tv) ?_))
 refine condM hm ?_ ?_
 ·intro h2 hm
  refine Sq (RD hnt (nn 5 []) [1, 2, 3, 4, 19] [(9, .p (.sl .nil 0 0 (fun _ => []))), (10, pI 0), (11, pI 1)] [1032] [] tv ?_)
  refine DW.conv (τ := mkSt [(8, rr 1064), (9, ow 100000 0), (10, pI 0), (11, pI 1)] [(1064, bx [.p (slNode []), pI 0, .p (slTask []), pI 0]), (100000, ob0 (roCount []))]) (Conv.trans (τ := mkSt [(8, rr 1064), (9, ow 100000 0), (10, pI 0), (11, pI 1)] [(c138e1), (100000, ob0 (roCount []))]) (Conv.ads [(.s 9, 100000, 5, elems encCount dCount [])]) (Conv.tp [] [(c138e2)] (by kernel_rfl) .nil (.cons rfl (.box (.cons MLe.nilL (.cons .rfl (.cons MLe.nilL (.cons .rfl .nil))))) .nil))) ?_
  obtain rfl := sj hm
  exact DW.ret (retK [roCount []] [100000] (.tup [.p (.agg [slNode [], vi 0, slTask [], vi 0]), ow 0 0, pI 0, pI 1]))
 ·intro h2 hm
  refine Sk ?_
  obtain ⟨r3, hr3, hm⟩ := bo hm
  refine Sq (Sq (RD hnt (nn 2 (o89 [] true r3 :: .no :: [])) [19] [(12, pI r3)] [] [] (an (Admits_ref8Spec p0 p2 r3 hr3) tv) ?_))
  refine Sq (RD hnt (nn 2 []) [] [(25, pB (r3 != 0))] [] [] tv ?_)
  refine condM hm ?_ ?_
  ·intro h4 hm
   refine Sq (RD hnt (nn 6 []) [1, 2, 3, 4, 12, 25] [(9, .p (.sl .nil 0 0 (fun _ => []))), (10, pI 0), (11, pI r3)] [1032] [] tv ?_)
   refine DW.conv (τ := mkSt [(8, rr 1064), (9, ow 100000 0), (10, pI 0), (11, pI r3)] [(1064, bx [.p (slNode []), pI 0, .p (slTask []), pI 0]), (100000, ob0 (roCount []))]) (Conv.trans (τ := mkSt [(8, rr 1064), (9, ow 100000 0), (10, pI 0), (11, pI r3)] [(c138e1), (100000, ob0 (roCount []))]) (Conv.ads [(.s 9, 100000, 5, elems encCount dCount [])]) (Conv.tp [] [(c138e2)] (by kernel_rfl) .nil (.cons rfl (.box (.cons MLe.nilL (.cons .rfl (.cons MLe.nilL (.cons .rfl .nil))))) .nil))) ?_
   obtain rfl := sj hm
   exact DW.ret (retK [roCount []] [100000] (.tup [.p (.agg [slNode [], vi 0, slTask [], vi 0]), ow 0 0, pI 0, pI r3]))
  ·intro h4 hm
   refine Sk ?_
   obtain ⟨r5, hr5, hm⟩ := bo hm
   refine Sq (RD hnt (nn 3 (o29 [] true r5 :: nn 8 [])) [3, 12, 25] [(13, rr 1104), (14, pI r5.2.1), (15, pI r5.2.2)] [] [(1104, bx [ow 1256 r5.1.tree.nodes.length, pI r5.1.tree.next, ow 1257 r5.1.tasks.length, pI r5.1.next]), (1256, ob0 (roNode r5.1.tree.nodes)), (1257, ob0 (roTask r5.1.tasks))] (an (Spawn_ref6Spec p0 p2 p3 r5 hr5) tv) ?_)
   refine Sq (DW.cv [] [] [1256] [(1104, bx [.p (slNode r5.1.tree.nodes), pI r5.1.tree.next, ow 1257 r5.1.tasks.length, pI r5.1.next])] (Conv.frz [1256]) ?_)
   refine DW.cv [] [] [1257] [(1104, bx (pm (encHierarchy r5.1)))] (Conv.frz [1257]) ?_
   obtain ⟨r8, hr8, hm⟩ := bo hm
   refine RK hnt (nn 6 (o141 [] true r8 :: nn 8 [])) [(8, rr 1064), (9, ow 1336 r8.2.1.length), (10, pI r8.2.2.1), (11, pI r8.2.2.2)] [(1064, bx (pm (encHierarchy r8.1))), (1336, ob0 (roCount r8.2.1))] (an (fork_ref10Spec p0 p1 p2 r5.1 r5.2.1 r5.2.2 r8 hr8) tv) ?_
   obtain rfl := sj hm
   exact DW.ret (retK [roCount r8.2.1] [1336] (.tup [.p (.agg (encHierarchy r8.1)), ow 0 r8.2.1.length, pI r8.2.2.1, pI r8.2.2.2]))
abbrev o138 (ks : List Nat) (b : Bool) (RES : Hierarchy × (List Count) × Int × Int) : Orc := .call 74 ks b (.tup [.p (.agg (encHierarchy RES.1)), ow 0 RES.2.1.length, pI RES.2.2.1, pI RES.2.2.2]) [] [roCount RES.2.1]

theorem Same_ref5Spec (p0 : Tree) (p1 : Tree) (RES : Bool) (hm : Same_ref5 p0 p1 = some RES) : Spec Tryz.prog 118 [.p (.agg (encTree p0)), .p (.agg (encTree p1))] [] (pB RES) [] [] := by
 unfold Same_ref5 at hm
 refine SO Tryz.func118 rfl rfl [(0, .p (.agg (encTree p0))), (1, .p (.agg (encTree p1)))] [] ?_
 intro cx hnt
 refine Sq (RK hnt (nn 3 []) [(2, rr 1016), (3, rr 1024)] [(1016, bx (pm (encTree p0))), (1024, bx (pm (encTree p1)))] tv ?_)
 refine Sq (Sq (DW.regJ (sl2 := [(2, rr 1016), (3, rr 1024), (19, pB ((((p0.nodes.length : Nat) : Int) != ((p1.nodes.length : Nat) : Int)) || (p0.next != p1.next)))]) (ob2 := [(1016, bx (pm (encTree p0))), (1024, bx (pm (encTree p1)))]) ?_ ?_))
 ·rcases bt (((p0.nodes.length : Nat) : Int) != ((p1.nodes.length : Nat) : Int)) with h1 | h1
  ·exact RT hnt (nn 8 (sk 5 (pT :: []))) [(19, pB true)] (an6 h1 tv) (by kernel_rfl) (.cons rfl (.of_eq (by rw [h1]; try rfl)) .nil)
  ·exact RT hnt (nn 13 (pF :: [])) [(19, pB (p0.next != p1.next))] (an6 h1 tv) (by kernel_rfl) (.cons rfl (.of_eq (by rw [h1]; try rfl)) .nil)
 ·refine condM hm ?_ ?_
  ·intro h2 hm
   refine Sq (RK hnt (.no :: []) [(4, pB false)] [] tv ?_)
   obtain rfl := sj hm
   exact DW.ret (retK [] [] (pB false))
  ·intro h2 hm
   refine Sk ?_
   refine Sq (Sq (RD hnt (.no :: []) [19] [(5, pI 0)] [] [] tv ?_))
   refine Bk ?_
   obtain ⟨hc1, hm⟩ := go1 hm
   refine DW.rangeO (fun (k1 : Nat) (s1 : Unit) => mkSt [(2, rr 1016), (3, rr 1024), (5, pI ((k1 : Nat) : Int))] [(1016, bx (pm (encTree p0))), (1024, bx (pm (encTree p1)))]) dNode hm Conv.eqK ?_
   intro k1 s1 n1 hk1 hs1 he1
   refine Sq (Sq (RD hnt (nn 5 []) [] [(24, pB (decide (((k1 : Nat) : Int) < ((p0.nodes.length : Nat) : Int))))] [] [] tv ?_))
   refine condK (decide (((k1 : Nat) : Int) < ((p0.nodes.length : Nat) : Int))) ?_ ?_
   ·intro h11
    have hlt1 : k1 < p0.nodes.length := by have := of_decide_eq_true h11; omega
    have hm := hs1 hlt1
    unfold Same_ref5L1 at hm
    refine Sk ?_
    refine Sq (Bk ?_)
    obtain ⟨g12, hm⟩ := go1 hm
    refine Sq (RD hnt (nn 11 []) [24] [(37, pB (!(eqNode (p0.nodes.getD k1 (default : Node)) (p1.nodes.getD k1 dNode))))] [] [] (an (nn0 k1) (an (ltc hlt1) (an (nn0 k1) (an (ltc g12) tv)))) ?_)
    refine condM hm ?_ ?_
    ·intro h13 hm
     refine Sq (RK hnt (.no :: []) [(4, pB false)] [] tv ?_)
     obtain rfl := sj hm
     exact DW.ret (retK [] [] (pB false))
    ·intro h13 hm
     refine Sk ?_
     refine DW.done ?_
     show DW _ _ _ _ _
     refine RD hnt (nn 3 []) [37] [(5, pI (w64 (((k1 : Nat) : Int) + 1)))] [] [] tv ?_
     exact jD () ⟨hlt1, hm⟩ (Conv.tp [(5, pI (w64 (((k1 : Nat) : Int) + 1)))] [] (by kernel_rfl) (.cons rfl (.of_eq (congrArg pI (w64_succ hlt1 hc1))) .nil) .nil)
   ·intro h11
    have hge1 : ¬ k1 < p0.nodes.length := by have := of_decide_eq_false h11; omega
    have hm := he1 hge1
    unfold Same_ref5D1 at hm
    refine DW.exit ?_
    refine joinQ_exit ?_
    refine KQ_exit ?_
    refine blockQ_exit ?_
    show DW _ _ _ _ _
    refine Sq (RK hnt (.no :: []) [(4, pB true)] [] tv ?_)
    obtain rfl := sj hm
    exact DW.ret (retK [] [] (pB true))
abbrev o146 (ks : List Nat) (b : Bool) (RES : Bool) : Orc := .call 118 ks b (pB RES) [] []

theorem Same_ref6Spec (p0 : Hierarchy) (p1 : Hierarchy) (RES : Bool) (hm : Same_ref6 p0 p1 = some RES) : Spec Tryz.prog 62 [.p (.agg (encHierarchy p0)), .p (.agg (encHierarchy p1))] [] (pB RES) [] [] := by
 unfold Same_ref6 at hm
 refine SO Tryz.func62 rfl rfl [(0, .p (.agg (encHierarchy p0))), (1, .p (.agg (encHierarchy p1)))] [] ?_
 intro cx hnt
 refine Sq (RK hnt (nn 3 []) [(2, rr 1016), (3, rr 1024)] [(1016, bx (pm (encHierarchy p0))), (1024, bx (pm (encHierarchy p1)))] tv ?_)
 obtain ⟨r1, hr1, hm⟩ := bo hm
 refine Sq (Sq ?_)
 refine Jn (ι := Bool) (fun (y1 : Bool) => mkSt [(2, rr 1016), (3, rr 1024), (27, pB y1)] [(1016, bx (pm (encHierarchy p0))), (1024, bx (pm (encHierarchy p1)))]) (fun y1 => (Same_ref6J1 p0 p1) y1 = some RES) ?_ ?_
 ·intro y1 hm
  unfold Same_ref6J1 at hm
  refine condM hm ?_ ?_
  ·intro h4 hm
   refine Sq (RK hnt (.no :: []) [(4, pB false)] [] tv ?_)
   obtain rfl := sj hm
   exact DW.ret (retK [] [] (pB false))
  ·intro h4 hm
   refine Sk ?_
   refine Sq (Sq (RD hnt (.no :: []) [27] [(5, pI 0)] [] [] tv ?_))
   refine Bk ?_
   obtain ⟨hc1, hm⟩ := go1 hm
   refine DW.rangeO (fun (k1 : Nat) (s1 : Unit) => mkSt [(2, rr 1016), (3, rr 1024), (5, pI ((k1 : Nat) : Int))] [(1016, bx (pm (encHierarchy p0))), (1024, bx (pm (encHierarchy p1)))]) dTask hm Conv.eqK ?_
   intro k1 s1 n1 hk1 hs1 he1
   refine Sq (Sq (RD hnt (nn 5 []) [] [(32, pB (decide (((k1 : Nat) : Int) < ((p0.tasks.length : Nat) : Int))))] [] [] tv ?_))
   refine condK (decide (((k1 : Nat) : Int) < ((p0.tasks.length : Nat) : Int))) ?_ ?_
   ·intro h13
    have hlt1 : k1 < p0.tasks.length := by have := of_decide_eq_true h13; omega
    have hm := hs1 hlt1
    unfold Same_ref6L1 at hm
    refine Sk ?_
    refine Sq (Bk ?_)
    obtain ⟨g14, hm⟩ := go1 hm
    refine Sq (RD hnt (nn 11 []) [32] [(45, pB (!(eqTask (p0.tasks.getD k1 (default : Task)) (p1.tasks.getD k1 dTask))))] [] [] (an (nn0 k1) (an (ltc hlt1) (an (nn0 k1) (an (ltc g14) tv)))) ?_)
    refine condM hm ?_ ?_
    ·intro h15 hm
     refine Sq (RK hnt (.no :: []) [(4, pB false)] [] tv ?_)
     obtain rfl := sj hm
     exact DW.ret (retK [] [] (pB false))
    ·intro h15 hm
     refine Sk ?_
     refine DW.done ?_
     show DW _ _ _ _ _
     refine RD hnt (nn 3 []) [45] [(5, pI (w64 (((k1 : Nat) : Int) + 1)))] [] [] tv ?_
     exact jD () ⟨hlt1, hm⟩ (Conv.tp [(5, pI (w64 (((k1 : Nat) : Int) + 1)))] [] (by kernel_rfl) (.cons rfl (.of_eq (congrArg pI (w64_succ hlt1 hc1))) .nil) .nil)
   ·intro h13
    have hge1 : ¬ k1 < p0.tasks.length := by have := of_decide_eq_false h13; omega
    have hm := he1 hge1
    unfold Same_ref6D1 at hm
    refine DW.exit ?_
    refine joinQ_exit ?_
    refine KQ_exit ?_
    refine blockQ_exit ?_
    show DW _ _ _ _ _
    refine Sq (RK hnt (.no :: []) [(4, pB true)] [] tv ?_)
    obtain rfl := sj hm
    exact DW.ret (retK [] [] (pB true))
 ·rcases bt (!r1) with h2 | h2
  ·replace hm := if_t h2 hm
   refine RD hnt (nn 4 (o146 [] true r1 :: nn 2 (sk 7 (pT :: .no :: sk 5 (pT :: []))))) [] [(27, pB true)] [] [] (an (Same_ref5Spec p0.tree p1.tree r1 hr1) (an2 h2 (an6 h2 (an6 tt tv)))) ?_
   exact jD true hm Conv.eqK
  ·replace hm := if_f h2 hm
   rcases bt (((p0.tasks.length : Nat) : Int) != ((p1.tasks.length : Nat) : Int)) with h3 | h3
   ·replace hm := if_t h3 hm
    refine RD hnt (nn 4 (o146 [] true r1 :: nn 9 (pF :: .no :: sk 5 (pT :: [])))) [] [(27, pB true)] [] [] (an (Same_ref5Spec p0.tree p1.tree r1 hr1) (an2 h2 (an6 h2 (an6 h3 tv)))) ?_
    exact jD true hm Conv.eqK
   ·replace hm := if_f h3 hm
    refine RD hnt (nn 4 (o146 [] true r1 :: nn 9 (pF :: nn 6 (pF :: [])))) [] [(27, pB (p0.next != p1.next))] [] [] (an (Same_ref5Spec p0.tree p1.tree r1 hr1) (an2 h2 (an6 h2 (an6 h3 tv)))) ?_
    exact jD (p0.next != p1.next) hm Conv.eqK
abbrev o145 (ks : List Nat) (b : Bool) (RES : Bool) : Orc := .call 62 ks b (pB RES) [] []

theorem Same_ref10Spec (p0 : List Count) (p1 : List Count) (RES : Bool) (hm : Same_ref10 p0 p1 = some RES) : Spec Tryz.prog 38 [.p (slCount p0), .p (slCount p1)] [] (pB RES) [] [] := by
 unfold Same_ref10 at hm
 refine SO Tryz.func38 rfl rfl [(0, .p (slCount p0)), (1, .p (slCount p1))] [] ?_
 intro cx hnt
 refine Sq (RD hnt (.no :: []) [] [] [] [] tv ?_)
 refine Sq (Sq (RD hnt (nn 5 []) [] [(10, pB (((p0.length : Nat) : Int) != ((p1.length : Nat) : Int)))] [] [] tv ?_))
 refine condM hm ?_ ?_
 ·intro h1 hm
  refine Sq (RK hnt (.no :: []) [(4, pB false)] [] tv ?_)
  obtain rfl := sj hm
  exact DW.ret (retK [] [] (pB false))
 ·intro h1 hm
  refine Sk ?_
  refine Sq (Sq (RD hnt (.no :: []) [10] [(5, pI 0)] [] [] tv ?_))
  refine Bk ?_
  obtain ⟨hc1, hm⟩ := go1 hm
  refine DW.rangeO (fun (k1 : Nat) (s1 : Unit) => mkSt [(0, .p (slCount p0)), (1, .p (slCount p1)), (5, pI ((k1 : Nat) : Int))] []) dCount hm Conv.eqK ?_
  intro k1 s1 n1 hk1 hs1 he1
  refine Sq (Sq (RD hnt (nn 4 []) [] [(14, pB (decide (((k1 : Nat) : Int) < ((p0.length : Nat) : Int))))] [] [] tv ?_))
  refine condK (decide (((k1 : Nat) : Int) < ((p0.length : Nat) : Int))) ?_ ?_
  ·intro h10
   have hlt1 : k1 < p0.length := by have := of_decide_eq_true h10; omega
   have hm := hs1 hlt1
   unfold Same_ref10L1 at hm
   refine Sk ?_
   refine Sq (Bk ?_)
   obtain ⟨g11, hm⟩ := go1 hm
   refine Sq (RD hnt (nn 9 []) [14] [(25, pB (!(eqCount (p0.getD k1 (default : Count)) (p1.getD k1 dCount))))] [] [] (an (nn0 k1) (an (ltc hlt1) (an (nn0 k1) (an (ltc g11) tv)))) ?_)
   refine condM hm ?_ ?_
   ·intro h12 hm
    refine Sq (RK hnt (.no :: []) [(4, pB false)] [] tv ?_)
    obtain rfl := sj hm
    exact DW.ret (retK [] [] (pB false))
   ·intro h12 hm
    refine Sk ?_
    refine DW.done ?_
    show DW _ _ _ _ _
    refine RD hnt (nn 3 []) [25] [(5, pI (w64 (((k1 : Nat) : Int) + 1)))] [] [] tv ?_
    exact jD () ⟨hlt1, hm⟩ (Conv.tp [(5, pI (w64 (((k1 : Nat) : Int) + 1)))] [] (by kernel_rfl) (.cons rfl (.of_eq (congrArg pI (w64_succ hlt1 hc1))) .nil) .nil)
  ·intro h10
   have hge1 : ¬ k1 < p0.length := by have := of_decide_eq_false h10; omega
   have hm := he1 hge1
   unfold Same_ref10D1 at hm
   refine DW.exit ?_
   refine joinQ_exit ?_
   refine KQ_exit ?_
   refine blockQ_exit ?_
   show DW _ _ _ _ _
   refine Sq (RK hnt (.no :: []) [(4, pB true)] [] tv ?_)
   obtain rfl := sj hm
   exact DW.ret (retK [] [] (pB true))
abbrev o147 (ks : List Nat) (b : Bool) (RES : Bool) : Orc := .call 38 ks b (pB RES) [] []

abbrev c148e1 : Nat × Obj := (1048, bx [.p (.sl .nil 0 0 (fun _ => [])), pI 0, .p (.sl .nil 0 0 (fun _ => [])), pI 0])
theorem Clone_ref10Spec (p0 : Hierarchy) (p1 : List Count) (p2 : Int) (RES : Hierarchy × (List Count) × Int × Int) (hm : Clone_ref10 p0 p1 p2 = some RES) : Spec Tryz.prog 76 [.p (.agg (encHierarchy p0)), .p (slCount p1), pI p2] [] (.tup [.p (.agg (encHierarchy RES.1)), ow 0 RES.2.1.length, pI RES.2.2.1, pI RES.2.2.2]) [] [roCount RES.2.1] := by
 unfold Clone_ref10 at hm
 refine SO Tryz.func76 rfl rfl [(0, .p (.agg (encHierarchy p0))), (1, .p (slCount p1)), (2, pI p2)] [] ?_
 intro cx hnt
 refine Sq (RD hnt (nn 5 []) [0] [(3, rr 1024), (6, rr 1048)] [] [(1024, bx (pm (encHierarchy p0))), (c148e1)] tv ?_)
 obtain ⟨r1, hr1, hm⟩ := bo hm
 refine Sq (Sq (RD hnt (nn 2 (o139 [] true r1 :: .no :: [])) [] [(18, pB (!r1))] [] [] (an (Check_ref10Spec p0 p1 r1 hr1) tv) ?_))
 refine condM hm ?_ ?_
 ·intro h2 hm
  refine Sq (RD hnt (nn 5 []) [1, 2, 3, 18] [(7, .p (.sl .nil 0 0 (fun _ => []))), (8, pI 0), (9, pI 1)] [1024] [] tv ?_)
  refine DW.conv (τ := mkSt [(6, rr 1048), (7, ow 100000 0), (8, pI 0), (9, pI 1)] [(1048, bx [.p (slNode []), pI 0, .p (slTask []), pI 0]), (100000, ob0 (roCount []))]) (Conv.trans (τ := mkSt [(6, rr 1048), (7, ow 100000 0), (8, pI 0), (9, pI 1)] [(c148e1), (100000, ob0 (roCount []))]) (Conv.ads [(.s 7, 100000, 5, elems encCount dCount [])]) (Conv.tp [] [(1048, .box [.p (.sl .nil 0 0 (fun _ => [])), pI 0, .p (.sl .nil 0 0 (fun _ => [])), pI 0])] (by kernel_rfl) .nil (.cons rfl (.box (.cons MLe.nilL (.cons .rfl (.cons MLe.nilL (.cons .rfl .nil))))) .nil))) ?_
  obtain rfl := sj hm
  exact DW.ret (retK [roCount []] [100000] (.tup [.p (.agg [slNode [], vi 0, slTask [], vi 0]), ow 0 0, pI 0, pI 1]))
 ·intro h2 hm
  refine Sk ?_
  obtain ⟨r3, hr3, hm⟩ := bo hm
  refine Sq (RD hnt (nn 2 (o20 [] true r3 :: nn 6 [])) [18] [(10, rr 1080)] [] [(1080, bx (pm (encTask r3.1)))] (an (Find_ref6Spec p0 p2 r3 hr3) tv) ?_)
  obtain ⟨r4, hr4, hm⟩ := bo hm
  refine Sq (RD hnt (nn 2 (o91 [] true r4 :: nn 8 [])) [2] [(12, rr 1096), (13, pI r4.2.1), (14, pI r4.2.2)] [] [(1096, bx [ow 1232 r4.1.tree.nodes.length, pI r4.1.tree.next, ow 1233 r4.1.tasks.length, pI r4.1.next]), (1232, ob0 (roNode r4.1.tree.nodes)), (1233, ob0 (roTask r4.1.tasks))] (an (Clone_ref6Spec p0 p2 r4 hr4) tv) ?_)
  refine Sq (DW.cv [] [] [1232] [(1096, bx [.p (slNode r4.1.tree.nodes), pI r4.1.tree.next, ow 1233 r4.1.tasks.length, pI r4.1.next])] (Conv.frz [1232]) ?_)
  refine DW.cv [] [] [1233] [(1096, bx (pm (encHierarchy r4.1)))] (Conv.frz [1233]) ?_
  obtain ⟨r7, hr7, hm⟩ := bo hm
  refine RK hnt (nn 7 (o141 [] true r7 :: nn 8 [])) [(6, rr 1048), (7, ow 1320 r7.2.1.length), (8, pI r7.2.2.1), (9, pI r7.2.2.2)] [(1048, bx (pm (encHierarchy r7.1))), (1320, ob0 (roCount r7.2.1))] (an (fork_ref10Spec p0 p1 r3.1.group r4.1 r4.2.1 r4.2.2 r7 hr7) tv) ?_
  obtain rfl := sj hm
  exact DW.ret (retK [roCount r7.2.1] [1320] (.tup [.p (.agg (encHierarchy r7.1)), ow 0 r7.2.1.length, pI r7.2.2.1, pI r7.2.2.2]))
abbrev o148 (ks : List Nat) (b : Bool) (RES : Hierarchy × (List Count) × Int × Int) : Orc := .call 76 ks b (.tup [.p (.agg (encHierarchy RES.1)), ow 0 RES.2.1.length, pI RES.2.2.1, pI RES.2.2.2]) [] [roCount RES.2.1]
end Go.Dm


/- Go functions compute their models, printed by a program. -/
namespace Go.Dm
open Go.Proofs
set_option linter.unusedVariables false
abbrev c1e1 (r6 : (List Count) × Dice) (r8 : (List Count) × Dice) : Nat × Obj := (1296, ob0 (rowOf 1 (encSl 5 encCount dCount) [] [r6.1, r8.1]))
abbrev c1e2 (r5 : Hierarchy × Dice) : Nat × Obj := (1048, bx (pm (encHierarchy r5.1)))
theorem PidsForks_law10Spec (p0 : List Int) (p1 : Int) (RES : Bool) (hm : PidsForks_law10 p0 p1 = some RES) : Spec Tryz.prog 12 [.p (slI p0), pI p1] [] (pB RES) [] [] := by
 unfold PidsForks_law10 at hm
 refine SO Tryz.func12 rfl rfl [(0, .p (slI p0)), (1, pI p1)] [] ?_
 intro cx hnt
 refine Sq (RD hnt (.no :: []) [] [] [] [] tv ?_)
 obtain ⟨r1, hr1, hm⟩ := bo hm
 refine Sq (Sq (RD hnt (.no :: o2 [] true r1 :: .no :: []) [] [(24, pB (!r1))] [] [] (an (Light_madeSpec p0 r1 hr1) tv) ?_))
 refine condM hm ?_ ?_
 ·intro h2 hm
  obtain ⟨r3, hr3, hm⟩ := bo hm
  refine Sq (RK hnt (o3 [] true r3 :: .no :: []) [(4, pB r3)] [] (an (sane_law10Spec r3 hr3) tv) ?_)
  obtain rfl := sj hm
  exact DW.ret (retK [] [] (pB r3))
 ·intro h2 hm
  refine Sk ?_
  obtain ⟨r4, hr4, hm⟩ := bo hm
  refine Sq (RK hnt (.no :: o74 [] true r4 :: .no :: []) [(1, pI p1), (5, rr 1216)] [(1216, bx (pm (encDice r4)))] (an (Roll_madeSpec p0 r4 hr4) tv) ?_)
  obtain ⟨r5, hr5, hm⟩ := bo hm
  refine Sq (RD hnt (.no :: o75 [1216] true r5 :: nn 2 []) [] [(6, rr 1048)] [] [(c1e2 r5), (1216, bx (pm (encDice r5.2)))] (an (Hierarchy_Dice_madeSpec r4 6 8 r5 hr5) (an tv tv)) ?_)
  obtain ⟨r6, hr6, hm⟩ := bo hm
  refine Sq (RD hnt (nn 2 (o95 [1216] true r6 :: .no :: [])) [] [(7, ow 1256 r6.1.length)] [] [(1216, bx (pm (encDice r6.2))), (1256, ob0 (roCount r6.1))] (an (counts_law10Spec r5.2 r5.1 r6 hr6) (an tv tv)) ?_)
  refine Sq (Sq (DW.cv [] [(7, .p (slCount r6.1))] [1256] [] (Conv.frz [1256]) ?_))
  obtain ⟨r8, hr8, hm⟩ := bo hm
  refine RN hnt (nn 3 (o102 [1216] true r8 :: nn 3 [])) [(1, pI p1), (5, rr 1216), (6, rr 1048), (37, ow 1296 [r6.1, r8.1].length), (38, pI 2), (39, pI 0)] [(c1e2 r5), (1216, bx (pm (encDice r8.2))), (c1e1 r6 r8)] [(37, ow 1296 2)] [(1296, .row 1 2 (cut 1 [slCount r6.1, slCount r8.1]))] (an (odd_law10Spec r6.2 r6.1 r8 hr8) (an tv tv)) (by kernel_rfl) (.cons rfl (MLe.ownLen (enc := (encSl 5 encCount dCount)) (d := []) (f := (cut 1 [slCount r6.1, slCount r8.1])) (RowIs.lit (enc := (encSl 5 encCount dCount)) (d := []) (n := 2) (f := (cut 1 [slCount r6.1, slCount r8.1])) [r6.1, r8.1] rfl (fun | 0, _ => rfl | 1, _ => rfl | n + 2, h => absurd h (by omega)))) .nil) (.cons rfl (BLe.typed (RowIs.lit (enc := (encSl 5 encCount dCount)) (d := []) (n := 2) (f := (cut 1 [slCount r6.1, slCount r8.1])) [r6.1, r8.1] rfl (fun | 0, _ => rfl | 1, _ => rfl | n + 2, h => absurd h (by omega)))) .nil) ?_
  refine Bk ?_
  obtain ⟨hc1, hm⟩ := go1 hm
  refine DW.rangeO (fun (k1 : Nat) (s1 : Dice) => mkSt [(1, pI p1), (5, rr 1216), (6, rr 1048), (37, ow 1296 [r6.1, r8.1].length), (38, pI 2), (39, pI ((k1 : Nat) : Int))] [(c1e2 r5), (1216, bx (pm (encDice s1))), (c1e1 r6 r8)]) [] hm .refl ?_
  intro k1 s1 n1 hk1 hs1 he1
  refine Sq (RD hnt (.no :: []) [] [(40, pB (decide (((k1 : Nat) : Int) < 2)))] [] [] tv ?_)
  refine Sq (condK (decide (((k1 : Nat) : Int) < 2)) ?_ ?_)
  ·intro h173
   have hlt1 : k1 < [r6.1, r8.1].length := by have := of_decide_eq_true h173; have hL : [r6.1, r8.1].length = 2 := rfl; omega
   have hm := hs1 hlt1
   unfold PidsForks_law10L1 at hm
   refine Sk ?_
   refine Sq (Bk ?_)
   refine Sq (RD hnt (nn 3 []) [40] [(9, .p (slCount ([r6.1, r8.1].getD k1 [])))] [] [] (an (nn0 k1) (an (ltc hlt1) (an (by omega : k1 < [r6.1, r8.1].length) tv))) ?_)
   refine Sq (RD hnt (.no :: []) [] [(10, pI 0)] [] [] tv ?_)
   refine Bk ?_
   refine DW.forO (fun (k4 : Int) (s4 : Dice) => mkSt [(1, pI p1), (5, rr 1216), (6, rr 1048), (9, .p (slCount ([r6.1, r8.1].getD k1 []))), (10, pI k4), (37, ow 1296 [r6.1, r8.1].length), (38, pI 2), (39, pI ((k1 : Nat) : Int))] [(c1e2 r5), (1216, bx (pm (encDice s4))), (c1e1 r6 r8)]) (lo := 0) (hi := 3) hm Conv.eqK ?_
   intro k4 s4 n4 hk4 hs4 he4
   refine Sq (Sq (RD hnt (nn 2 []) [] [(44, pB (decide (k4 < 3)))] [] [] tv ?_))
   refine condK (decide (k4 < 3)) ?_ ?_
   ·intro h226
    have hlt4 : k4 < 3 := by have := of_decide_eq_true h226; omega
    have hm := hs4 hlt4
    unfold PidsForks_law10L4 at hm
    refine Sk ?_
    refine Sq (Bk ?_)
    obtain ⟨r231, hr231, hm⟩ := bo hm
    obtain ⟨r232, hr232, hm⟩ := bo hm
    obtain ⟨r233, hr233, hm⟩ := bo hm
    obtain ⟨g234, g235, hm⟩ := go2 hm
    refine Sq (RD hnt (nn 3 (o82 [1216] true r231 :: nn 2 (o90 [1216] true r232 :: .no :: .asR (ow 1440 [p1, 0, 1].length) [p1, 0, 1].length (elems encI 0 [p1, 0, 1]) :: .no :: o77 [1216] true r233 :: nn 5 []))) [44] [(11, pI r231.1), (12, pI r232.1), (13, pI ([p1, 0, 1].getD (Int.toNat r233.1) 0))] [] [(1216, bx (pm (encDice r233.2)))] (an (Group_Dice_madeSpec s4 r5.1.tree r231 hr231) (an tv (an (Task_Dice_madeSpec r231.2 r5.1 r232 hr232) (an tv (an (congrArg (MV.own 1440 0 0) (RowIs.asP (enc := encI) (d := 0) (L := [p1, 0, 1]) (RowIs.lit (enc := encI) (d := 0) (n := 3) (f := (cut 1 [vi p1, vi 0, vi 1])) [p1, 0, 1] rfl (fun | 0, _ => rfl | 1, _ => rfl | 2, _ => rfl | n + 3, h => absurd h (by omega)))).1) (an (RowIs.asP (enc := encI) (d := 0) (L := [p1, 0, 1]) (RowIs.lit (enc := encI) (d := 0) (n := 3) (f := (cut 1 [vi p1, vi 0, vi 1])) [p1, 0, 1] rfl (fun | 0, _ => rfl | 1, _ => rfl | 2, _ => rfl | n + 3, h => absurd h (by omega)))) (an (Next_Dice_madeSpec r232.2 3 r233 hr233) (an tv (an g234.1 (an g234.2 (an g235 tv))))))))))) ?_)
    obtain ⟨r236, hr236, hm⟩ := bo hm
    refine Sq (RD hnt (nn 4 (o103 [] true r236 :: nn 10 [])) [] [(14, rr 1112), (15, ow 1520 r236.2.1.length), (16, pI r236.2.2.1), (17, pI r236.2.2.2)] [] [(1112, bx (pm (encHierarchy r236.1))), (1520, ob0 (roCount r236.2.1))] (an (Spawn_pidsSpec r5.1 ([r6.1, r8.1].getD k1 []) r231.1 ([p1, 0, 1].getD (Int.toNat r233.1) 0) r236 hr236) tv) ?_)
    obtain ⟨r237, hr237, hm⟩ := bo hm
    refine Sq (RD hnt (nn 4 (o138 [] true r237 :: nn 10 [])) [11, 13] [(18, rr 1144), (19, ow 1600 r237.2.1.length), (20, pI r237.2.2.1), (21, pI r237.2.2.2)] [] [(1144, bx (pm (encHierarchy r237.1))), (1600, ob0 (roCount r237.2.1))] (an (Spawn_ref10Spec r5.1 ([r6.1, r8.1].getD k1 []) r231.1 ([p1, 0, 1].getD (Int.toNat r233.1) 0) r237 hr237) tv) ?_)
    refine Sq (Sq ?_)
    refine Jn (ι := Bool) (fun (y17 : Bool) => mkSt [(1, pI p1), (5, rr 1216), (6, rr 1048), (9, .p (slCount ([r6.1, r8.1].getD k1 []))), (10, pI k4), (12, pI r232.1), (14, rr 1112), (18, rr 1144), (37, ow 1296 [r6.1, r8.1].length), (38, pI 2), (39, pI ((k1 : Nat) : Int)), (99, pB y17)] [(c1e2 r5), (1112, bx (pm (encHierarchy r236.1))), (1144, bx (pm (encHierarchy r237.1))), (1216, bx (pm (encDice r233.2))), (c1e1 r6 r8)]) (fun y17 => (PidsForks_law10J17 r5 ([r6.1, r8.1].getD k1 []) n4 r232 r233) y17 = some RES) ?_ ?_
    ·intro y17 hm
     unfold PidsForks_law10J17 at hm
     refine condM hm ?_ ?_
     ·intro h243 hm
      refine Sq (RK hnt (.no :: []) [(4, pB false)] [] tv ?_)
      obtain rfl := sj hm
      exact DW.ret (retK [] [] (pB false))
     ·intro h243 hm
      refine Sk ?_
      obtain ⟨r244, hr244, hm⟩ := bo hm
      refine Sq (RD hnt (nn 3 (o60 [] true r244 :: nn 9 [])) [99] [(15, ow 1832 r244.2.1.length), (16, pI r244.2.2.1), (17, pI r244.2.2.2)] [] [(1112, bx (pm (encHierarchy r244.1))), (1832, ob0 (roCount r244.2.1))] (an (Clone_pidsSpec r5.1 ([r6.1, r8.1].getD k1 []) r232.1 r244 hr244) tv) ?_)
      obtain ⟨r245, hr245, hm⟩ := bo hm
      refine Sq (RD hnt (nn 3 (o148 [] true r245 :: nn 9 [])) [12] [(19, ow 1904 r245.2.1.length), (20, pI r245.2.2.1), (21, pI r245.2.2.2)] [] [(1144, bx (pm (encHierarchy r245.1))), (1904, ob0 (roCount r245.2.1))] (an (Clone_ref10Spec r5.1 ([r6.1, r8.1].getD k1 []) r232.1 r245 hr245) tv) ?_)
      refine Sq ?_
      refine Jn (ι := Bool) (fun (y18 : Bool) => mkSt [(1, pI p1), (5, rr 1216), (6, rr 1048), (9, .p (slCount ([r6.1, r8.1].getD k1 []))), (10, pI k4), (37, ow 1296 [r6.1, r8.1].length), (38, pI 2), (39, pI ((k1 : Nat) : Int)), (137, pB y18)] [(c1e2 r5), (1216, bx (pm (encDice r233.2))), (c1e1 r6 r8)]) (fun y18 => (PidsForks_law10J18 n4 r233) y18 = some RES) ?_ ?_
      ·intro y18 hm
       unfold PidsForks_law10J18 at hm
       refine condM hm ?_ ?_
       ·intro h251 hm
        refine Sq (RK hnt (.no :: []) [(4, pB false)] [] tv ?_)
        obtain rfl := sj hm
        exact DW.ret (retK [] [] (pB false))
       ·intro h251 hm
        refine Sk ?_
        refine DW.done ?_
        show DW _ _ _ _ _
        refine RD hnt (nn 3 []) [137] [(10, pI (w64 (k4 + 1)))] [] [] tv ?_
        exact jD r233.2 ⟨hlt4, hm⟩ (Conv.tp [(10, pI (w64 (k4 + 1)))] [] (by kernel_rfl) (.cons rfl (.of_eq (congrArg pI (w64_for (lo := 0) (hi := 3) (by omega) hk4 hlt4 (by omega)))) .nil) .nil)
      ·rcases bt (r244.2.2.1 != r245.2.2.1) with h246 | h246
       ·replace hm := if_t h246 hm
        refine RD hnt (nn 4 (sk 3 (pT :: .no :: sk 4 (pT :: .no :: sk 4 (pT :: []))))) [14, 15, 16, 17, 18, 19, 20, 21] [(137, pB true)] [1112, 1144, 1832, 1904] [] (an4 h246 (an4 tt (an6 tt tv))) ?_
        exact jD true hm Conv.eqK
       ·replace hm := if_f h246 hm
        rcases bt (r244.2.2.2 != r245.2.2.2) with h247 | h247
        ·replace hm := if_t h247 hm
         refine RD hnt (nn 7 (pF :: .no :: sk 4 (pT :: .no :: sk 4 (pT :: [])))) [14, 15, 16, 17, 18, 19, 20, 21] [(137, pB true)] [1112, 1144, 1832, 1904] [] (an4 h246 (an5 h247 (an5 tt tv))) ?_
         exact jD true hm Conv.eqK
        ·replace hm := if_f h247 hm
         obtain ⟨r248, hr248, hm⟩ := bo hm
         rcases bt (!r248) with h249 | h249
         ·replace hm := if_t h249 hm
          refine RD hnt (nn 7 (pF :: nn 3 (o145 [] true r248 :: .no :: pF :: .no :: sk 4 (pT :: [])))) [14, 15, 16, 17, 18, 19, 20, 21] [(137, pB true)] [1112, 1144, 1832, 1904] [] (an4 h246 (an3 h247 (an (Same_ref6Spec r244.1 r245.1 r248 hr248) (an2 h247 (an5 h249 tv))))) ?_
          exact jD true hm Conv.eqK
         ·replace hm := if_f h249 hm
          obtain ⟨r250, hr250, hm⟩ := bo hm
          refine RD hnt (nn 7 (pF :: nn 3 (o145 [] true r248 :: .no :: pF :: nn 3 (o147 [] true r250 :: .no :: pF :: [])))) [14, 15, 16, 17, 18, 19, 20, 21] [(137, pB (!r250))] [1112, 1144, 1832, 1904] [] (an4 h246 (an3 h247 (an (Same_ref6Spec r244.1 r245.1 r248 hr248) (an2 h247 (an3 h249 (an (Same_ref10Spec r244.2.1 r245.2.1 r250 hr250) (an2 h249 tv))))))) ?_
          exact jD (!r250) hm Conv.eqK
    ·rcases bt (r236.2.2.1 != r237.2.2.1) with h238 | h238
     ·replace hm := if_t h238 hm
      refine RD hnt (nn 4 (sk 3 (pT :: .no :: sk 4 (pT :: .no :: sk 4 (pT :: []))))) [15, 16, 17, 19, 20, 21] [(99, pB true)] [1520, 1600] [] (an4 h238 (an4 tt (an6 tt tv))) ?_
      exact jD true hm Conv.eqK
     ·replace hm := if_f h238 hm
      rcases bt (r236.2.2.2 != r237.2.2.2) with h239 | h239
      ·replace hm := if_t h239 hm
       refine RD hnt (nn 7 (pF :: .no :: sk 4 (pT :: .no :: sk 4 (pT :: [])))) [15, 16, 17, 19, 20, 21] [(99, pB true)] [1520, 1600] [] (an4 h238 (an5 h239 (an5 tt tv))) ?_
       exact jD true hm Conv.eqK
      ·replace hm := if_f h239 hm
       obtain ⟨r240, hr240, hm⟩ := bo hm
       rcases bt (!r240) with h241 | h241
       ·replace hm := if_t h241 hm
        refine RD hnt (nn 7 (pF :: nn 3 (o145 [] true r240 :: .no :: pF :: .no :: sk 4 (pT :: [])))) [15, 16, 17, 19, 20, 21] [(99, pB true)] [1520, 1600] [] (an4 h238 (an3 h239 (an (Same_ref6Spec r236.1 r237.1 r240 hr240) (an2 h239 (an5 h241 tv))))) ?_
        exact jD true hm Conv.eqK
       ·replace hm := if_f h241 hm
        obtain ⟨r242, hr242, hm⟩ := bo hm
        refine RD hnt (nn 7 (pF :: nn 3 (o145 [] true r240 :: .no :: pF :: nn 3 (o147 [] true r242 :: .no :: pF :: [])))) [15, 16, 17, 19, 20, 21] [(99, pB (!r242))] [1520, 1600] [] (an4 h238 (an3 h239 (an (Same_ref6Spec r236.1 r237.1 r240 hr240) (an2 h239 (an3 h241 (an (Same_ref10Spec r236.2.1 r237.2.1 r242 hr242) (an2 h241 tv))))))) ?_
        exact jD (!r242) hm Conv.eqK
   ·intro h226
    have hge4 : ¬ k4 < 3 := by have := of_decide_eq_false h226; omega
    have hm := he4 hge4
    unfold PidsForks_law10D4 at hm
    refine DW.exit ?_
    refine joinQ_exit ?_
    refine KQ_exit ?_
    refine blockQ_exit ?_
    show DW _ _ _ _ _
    refine DW.done ?_
    show DW _ _ _ _ _
    refine RD hnt (nn 2 []) [9, 10, 44] [(39, pI (w64 (((k1 : Nat) : Int) + 1)))] [] [] tv ?_
    exact jD s4 ⟨hlt1, hm⟩ (Conv.tp [(39, pI (w64 (((k1 : Nat) : Int) + 1)))] [] (by kernel_rfl) (.cons rfl (.of_eq (congrArg pI (w64_succ hlt1 hc1))) .nil) .nil)
  ·intro h173
   have hge1 : ¬ k1 < [r6.1, r8.1].length := by have := of_decide_eq_false h173; have hL : [r6.1, r8.1].length = 2 := rfl; omega
   have hm := he1 hge1
   unfold PidsForks_law10D1 at hm
   refine DW.exit ?_
   refine joinQ_exit ?_
   refine KQ_exit ?_
   refine blockQ_exit ?_
   show DW _ _ _ _ _
   obtain ⟨r252, hr252, hm⟩ := bo hm
   refine Sq (RK hnt (o3 [] true r252 :: .no :: []) [(4, pB r252)] [] (an (sane_law10Spec r252 hr252) tv) ?_)
   obtain rfl := sj hm
   exact DW.ret (retK [] [] (pB r252))
abbrev o1 (ks : List Nat) (b : Bool) (RES : Bool) : Orc := .call 12 ks b (pB RES) [] []
end Go.Dm

