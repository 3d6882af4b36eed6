/- Go functions compute their models, printed by a program. -/
import Derived.Test.YtdckdjkjjmadeaaGreatMemberSumsA4
set_option linter.unusedVariables false
set_option linter.unusedSimpArgs false
namespace Go.Dm
open Go.Proofs
set_option linter.unusedVariables false
abbrev c101e1 (s15 : (List Int) × Int) := (s15.1.getD (Int.toNat (w64 (s15.2 - 1))) 0)
abbrev c101e2 (s1 : (List Int) × Int) (s12 : Int) := (updF (updF (elI s1.1) (Int.toNat s12) [vi (s1.1.getD (Int.toNat (w64 (s12 - 1))) 0)]) (Int.toNat (w64 (s12 - 1))) (setRange ((updF (elI s1.1) (Int.toNat s12) [vi (s1.1.getD (Int.toNat (w64 (s12 - 1))) 0)]) (Int.toNat (w64 (s12 - 1)))) 0 [vi (s1.1.getD (Int.toNat s12) 0)]))
abbrev c101e3 (s16 : List Int) (k16 : Int) := (updF (updF (elI s16) (Int.toNat k16) [vi (s16.getD (Int.toNat (w64 (k16 - 1))) 0)]) (Int.toNat (w64 (k16 - 1))) (setRange ((updF (elI s16) (Int.toNat k16) [vi (s16.getD (Int.toNat (w64 (k16 - 1))) 0)]) (Int.toNat (w64 (k16 - 1)))) 0 [vi (s16.getD (Int.toNat k16) 0)]))
abbrev c101e4 (s1 : (List Int) × Int) (s12 : Int) := ((s1.1.set (Int.toNat s12) (s1.1.getD (Int.toNat (w64 (s12 - 1))) 0)).set (Int.toNat (w64 (s12 - 1))) (s1.1.getD (Int.toNat s12) 0))
abbrev c101e5 (s16 : List Int) (k16 : Int) := ((s16.set (Int.toNat k16) (s16.getD (Int.toNat (w64 (k16 - 1))) 0)).set (Int.toNat (w64 (k16 - 1))) (s16.getD (Int.toNat k16) 0))
abbrev c101e6 (s15 : (List Int) × Int) := (updF (updF (elI s15.1) (Int.toNat s15.2) [vi (c101e1 s15)]) (Int.toNat (w64 (s15.2 - 1))) (setRange ((updF (elI s15.1) (Int.toNat s15.2) [vi (c101e1 s15)]) (Int.toNat (w64 (s15.2 - 1)))) 0 [vi (s15.1.getD (Int.toNat s15.2) 0)]))
abbrev c101e7 (s15 : (List Int) × Int) := ((s15.1.set (Int.toNat s15.2) (c101e1 s15)).set (Int.toNat (w64 (s15.2 - 1))) (s15.1.getD (Int.toNat s15.2) 0))
theorem partialInsertionSortOrdered_slices_intSpec (p0 : List Int) (p1 : Int) (p2 : Int) (RES : Bool × (List Int)) (hm : partialInsertionSortOrdered_slices_int p0 p1 p2 = some RES) : Spec Tryz.prog 182 [ow 0 p0.length, pI p1, pI p2] [roI p0] (pB RES.1) [roI RES.2] [] := by
 unfold partialInsertionSortOrdered_slices_int at hm
 refine SO Tryz.func182 rfl rfl [(0, ow 0 p0.length), (1, pI p1), (2, pI p2)] [(0, ob0 (roI p0))] ?_
 intro cx hnt
 refine Sq (RD hnt (.no :: []) [] [] [] [] tv ?_)
 refine Sq (RD hnt (nn 3 []) [] [(7, pI (w64 (p1 + 1)))] [] [] tv ?_)
 refine Sq (Sq (RD hnt (.no :: []) [] [(8, pI 0)] [] [] tv ?_))
 refine Bk ?_
 refine DW.forO (fun (k1 : Int) (s1 : (List Int) × Int) => mkSt [(0, ow 0 s1.1.length), (1, pI p1), (2, pI p2), (7, pI s1.2), (8, pI k1)] [(0, ob0 (roI s1.1))]) (lo := 0) (hi := 5) hm Conv.eqK ?_
 intro k1 s1 n1 hk1 hs1 he1
 refine Sq (Sq (RD hnt (nn 2 []) [] [(14, pB (decide (k1 < 5)))] [] [] tv ?_))
 refine condK (decide (k1 < 5)) ?_ ?_
 ·intro h391
  have hlt1 : k1 < 5 := by have := of_decide_eq_true h391; omega
  have hm := hs1 hlt1
  unfold partialInsertionSortOrdered_slices_intL1 at hm
  refine Sk ?_
  refine Sq ?_
  refine Jn (ι := (List Int) × Int) (fun (y11 : (List Int) × Int) => mkSt [(0, ow 0 y11.1.length), (1, pI p1), (2, pI p2), (7, pI y11.2), (8, pI k1)] [(0, ob0 (roI y11.1))]) (fun y11 => (partialInsertionSortOrdered_slices_intJ11 n1) y11 = some RES) ?_ ?_
  ·intro y11 hm
   unfold partialInsertionSortOrdered_slices_intJ11 at hm
   refine RD hnt (nn 3 []) [] [(8, pI (w64 (k1 + 1)))] [] [] tv ?_
   exact jD (y11.1, y11.2) ⟨hlt1, hm⟩ (Conv.tp [(8, pI (w64 (k1 + 1)))] [] (by kernel_rfl) (.cons rfl (.of_eq (congrArg pI (w64_for (lo := 0) (hi := 5) (by omega) hk1 hlt1 (by omega)))) .nil) .nil)
  ·refine Bk ?_
   refine Sq (Bk ?_)
   refine DW.whileO (fun (s12 : Int) => mkSt [(0, ow 0 s1.1.length), (1, pI p1), (2, pI p2), (7, pI s12), (8, pI k1)] [(0, ob0 (roI s1.1))]) hm Conv.t0 ?_
   intro s12 n12 hm
   unfold partialInsertionSortOrdered_slices_intL12 at hm
   refine Sq (Sq ?_)
   refine Jn (ι := Bool) (fun (y14 : Bool) => mkSt [(0, ow 0 s1.1.length), (1, pI p1), (2, pI p2), (7, pI s12), (8, pI k1), (32, pB y14)] [(0, ob0 (roI s1.1))]) (fun y14 => (partialInsertionSortOrdered_slices_intJ14 p1 p2 s1 n1 s12 n12) y14 = some RES) ?_ ?_
   ·intro y14 hm
    unfold partialInsertionSortOrdered_slices_intJ14 at hm
    refine condM hm ?_ ?_
    ·intro h492 hm
     refine Sk ?_
     refine Bk ?_
     refine RD hnt (nn 3 []) [32] [(7, pI (w64 (s12 + 1)))] [] [] tv ?_
     refine DW.done ?_
     show DW _ _ _ _ _
     exact jD (w64 (s12 + 1)) hm Conv.eqK
    ·intro h492 hm
     refine DW.exit ?_
     refine joinQ_exit ?_
     refine KQ_exit ?_
     refine blockQ_exit ?_
     show DW _ _ _ _ _
     refine Sq (Sq (RD hnt (nn 3 []) [32] [(37, pB (s12 == p2))] [] [] tv ?_))
     refine condM hm ?_ ?_
     ·intro h493 hm
      refine Sq (RK hnt (.no :: []) [(6, pB true)] [(0, ob0 (roI s1.1))] tv ?_)
      obtain rfl := sj hm
      exact DW.ret (retK [roI s1.1] [] (pB true))
     ·intro h493 hm
      refine Sk ?_
      refine Sq (Sq (RD hnt (nn 4 []) [37] [(41, pB (decide ((w64 (p2 - p1)) < 50)))] [] [] tv ?_))
      refine condM hm ?_ ?_
      ·intro h494 hm
       refine Sq (RK hnt (.no :: []) [(6, pB false)] [(0, ob0 (roI s1.1))] tv ?_)
       obtain rfl := sj hm
       exact DW.ret (retK [roI s1.1] [] (pB false))
      ·intro h494 hm
       refine Sk ?_
       obtain ⟨g495, g496, g497, g498, hm⟩ := go4 hm
       obtain ⟨g499, g500, g501, g502, hm⟩ := go4 hm
       refine Sq (RN hnt (nn 18 []) [(0, ow 0 (c101e4 s1 s12).length), (1, pI p1), (2, pI p2), (7, pI s12), (8, pI k1)] [(0, ob0 (roI (c101e4 s1 s12)))] [(0, ow 0 s1.1.length)] [(0, .row 1 s1.1.length (c101e2 s1 s12))] (an g495.1 (an g495.2 (an g496 (an g497.1 (an g497.2 (an g498 (an g499.1 (an g499.2 (an g500 (an g501.1 (an g501.2 (an g502 tv)))))))))))) (by kernel_rfl) (.cons rfl (MLe.ownLen (enc := encI) (d := 0) (f := (c101e2 s1 s12)) (RowIs.updR (RowIs.upd RowIs.elems (s1.1.getD (Int.toNat (w64 (s12 - 1))) 0) rfl) (by omega) (s1.1.getD (Int.toNat s12) 0) rfl)) .nil) (.cons rfl (BLe.typed (RowIs.updR (RowIs.upd RowIs.elems (s1.1.getD (Int.toNat (w64 (s12 - 1))) 0) rfl) (by omega) (s1.1.getD (Int.toNat s12) 0) rfl)) .nil) ?_)
       refine Sq (Sq (RD hnt (nn 4 []) [] [(61, pB (decide ((w64 (s12 - p1)) ≥ 2)))] [] [] tv ?_))
       refine Jn (ι := List Int) (fun (y15 : List Int) => mkSt [(0, ow 0 y15.length), (1, pI p1), (2, pI p2), (7, pI s12), (8, pI k1)] [(0, ob0 (roI y15))]) (fun y15 => (partialInsertionSortOrdered_slices_intJ15 p2 n1 s12) y15 = some RES) ?_ ?_
       ·intro y15 hm
        unfold partialInsertionSortOrdered_slices_intJ15 at hm
        refine Sq (RD hnt (nn 4 []) [] [(98, pB (decide ((w64 (p2 - s12)) ≥ 2)))] [] [] tv ?_)
        refine condM hm ?_ ?_
        ·intro h534 hm
         refine Sq (RD hnt (nn 3 []) [98] [(10, pI (w64 (s12 + 1)))] [] [] tv ?_)
         refine Bk ?_
         obtain ⟨hc16, hm⟩ := go1 hm
         refine DW.forO (fun (k16 : Int) (s16 : List Int) => mkSt [(0, ow 0 s16.length), (1, pI p1), (2, pI p2), (7, pI s12), (8, pI k1), (10, pI k16)] [(0, ob0 (roI s16))]) (lo := (w64 (s12 + 1))) (hi := p2) hm Conv.eqK ?_
         intro k16 s16 n16 hk16 hs16 he16
         refine Sq (Sq (RD hnt (nn 3 []) [] [(103, pB (decide (k16 < p2)))] [] [] tv ?_))
         refine condK (decide (k16 < p2)) ?_ ?_
         ·intro h565
          have hlt16 : k16 < p2 := by have := of_decide_eq_true h565; omega
          have hm := hs16 hlt16
          unfold partialInsertionSortOrdered_slices_intL16 at hm
          refine Sk ?_
          refine Sq (Bk ?_)
          obtain ⟨g566, g567, g568, g569, hm⟩ := go4 hm
          obtain ⟨r570, hr570, hm⟩ := bo hm
          refine Sq (Sq (RD hnt (nn 9 (o92 [] true r570 :: .no :: [])) [103] [(116, pB (!r570))] [] [] (an g566.1 (an g566.2 (an g567 (an g568.1 (an g568.2 (an g569 (an (Less_cmp_intSpec (s16.getD (Int.toNat k16) 0) (s16.getD (Int.toNat (w64 (k16 - 1))) 0) r570 hr570) tv))))))) ?_))
          refine condM hm ?_ ?_
          ·intro h571 hm
           refine DW.exit ?_
           refine blockQ_other (by decide) ?_
           refine KQ_exit ?_
           refine joinQ_exit ?_
           refine KQ_exit ?_
           refine blockQ_exit ?_
           show DW _ _ _ _ _
           exact bD (s16, s12) hm Conv.t0
          ·intro h571 hm
           refine Sk ?_
           obtain ⟨g572, g573, g574, g575, hm⟩ := go4 hm
           obtain ⟨g576, g577, g578, g579, hm⟩ := go4 hm
           refine RN hnt (nn 18 []) [(0, ow 0 (c101e5 s16 k16).length), (1, pI p1), (2, pI p2), (7, pI s12), (8, pI k1), (10, pI k16)] [(0, ob0 (roI (c101e5 s16 k16)))] [(0, ow 0 s16.length)] [(0, .row 1 s16.length (c101e3 s16 k16))] (an g572.1 (an g572.2 (an g573 (an g574.1 (an g574.2 (an g575 (an g576.1 (an g576.2 (an g577 (an g578.1 (an g578.2 (an g579 tv)))))))))))) (by kernel_rfl) (.cons rfl (MLe.ownLen (enc := encI) (d := 0) (f := (c101e3 s16 k16)) (RowIs.updR (RowIs.upd RowIs.elems (s16.getD (Int.toNat (w64 (k16 - 1))) 0) rfl) (by omega) (s16.getD (Int.toNat k16) 0) rfl)) .nil) (.cons rfl (BLe.typed (RowIs.updR (RowIs.upd RowIs.elems (s16.getD (Int.toNat (w64 (k16 - 1))) 0) rfl) (by omega) (s16.getD (Int.toNat k16) 0) rfl)) .nil) ?_
           refine DW.done ?_
           show DW _ _ _ _ _
           refine RD hnt (nn 3 []) [] [(10, pI (w64 (k16 + 1)))] [] [] tv ?_
           exact jD (c101e5 s16 k16) ⟨hlt16, hm⟩ (Conv.tp [(10, pI (w64 (k16 + 1)))] [] (by kernel_rfl) (.cons rfl (.of_eq (congrArg pI (w64_for (lo := (w64 (s12 + 1))) (hi := p2) (by omega) hk16 hlt16 (by omega)))) .nil) .nil)
         ·intro h565
          have hge16 : ¬ k16 < p2 := by have := of_decide_eq_false h565; omega
          have hm := he16 hge16
          unfold partialInsertionSortOrdered_slices_intD16 at hm
          refine DW.exit ?_
          refine joinQ_exit ?_
          refine KQ_exit ?_
          refine blockQ_exit ?_
          show DW _ _ _ _ _
          exact bD (s16, s12) hm Conv.t0
        ·intro h534 hm
         refine Sk ?_
         exact bD (y15, s12) hm Conv.t0
       ·refine condM hm ?_ ?_
        ·intro h503 hm
         refine Sq (RD hnt (nn 3 []) [61] [(9, pI (w64 (s12 - 1)))] [] [] tv ?_)
         refine Bk ?_
         refine DW.whileO (fun (s15 : (List Int) × Int) => mkSt [(0, ow 0 s15.1.length), (1, pI p1), (2, pI p2), (7, pI s12), (8, pI k1), (9, pI s15.2)] [(0, ob0 (roI s15.1))]) hm Conv.eqK ?_
         intro s15 n15 hm
         unfold partialInsertionSortOrdered_slices_intL15 at hm
         refine Sq (Sq (RD hnt (nn 2 []) [] [(65, pB (decide (s15.2 ≥ 1)))] [] [] tv ?_))
         refine condM hm ?_ ?_
         ·intro h519 hm
          refine Sk ?_
          refine Sq (Bk ?_)
          obtain ⟨g520, g521, g522, g523, hm⟩ := go4 hm
          obtain ⟨r524, hr524, hm⟩ := bo hm
          refine Sq (Sq (RD hnt (nn 9 (o92 [] true r524 :: .no :: [])) [65] [(78, pB (!r524))] [] [] (an g520.1 (an g520.2 (an g521 (an g522.1 (an g522.2 (an g523 (an (Less_cmp_intSpec (s15.1.getD (Int.toNat s15.2) 0) (c101e1 s15) r524 hr524) tv))))))) ?_))
          refine condM hm ?_ ?_
          ·intro h525 hm
           refine DW.exit ?_
           refine blockQ_other (by decide) ?_
           refine KQ_exit ?_
           refine joinQ_exit ?_
           refine KQ_exit ?_
           refine blockQ_exit ?_
           show DW _ _ _ _ _
           exact jD s15.1 hm Conv.t0
          ·intro h525 hm
           refine Sk ?_
           obtain ⟨g526, g527, g528, g529, hm⟩ := go4 hm
           obtain ⟨g530, g531, g532, g533, hm⟩ := go4 hm
           refine RN hnt (nn 18 []) [(0, ow 0 (c101e7 s15).length), (1, pI p1), (2, pI p2), (7, pI s12), (8, pI k1), (9, pI s15.2)] [(0, ob0 (roI (c101e7 s15)))] [(0, ow 0 s15.1.length)] [(0, .row 1 s15.1.length (c101e6 s15))] (an g526.1 (an g526.2 (an g527 (an g528.1 (an g528.2 (an g529 (an g530.1 (an g530.2 (an g531 (an g532.1 (an g532.2 (an g533 tv)))))))))))) (by kernel_rfl) (.cons rfl (MLe.ownLen (enc := encI) (d := 0) (f := (c101e6 s15)) (RowIs.updR (RowIs.upd RowIs.elems (c101e1 s15) rfl) (by omega) (s15.1.getD (Int.toNat s15.2) 0) rfl)) .nil) (.cons rfl (BLe.typed (RowIs.updR (RowIs.upd RowIs.elems (c101e1 s15) rfl) (by omega) (s15.1.getD (Int.toNat s15.2) 0) rfl)) .nil) ?_
           refine DW.done ?_
           show DW _ _ _ _ _
           refine RD hnt (nn 3 []) [] [(9, pI (w64 (s15.2 - 1)))] [] [] tv ?_
           exact jD ((c101e7 s15), (w64 (s15.2 - 1))) hm Conv.eqK
         ·intro h519 hm
          refine DW.exit ?_
          refine joinQ_exit ?_
          refine KQ_exit ?_
          refine blockQ_exit ?_
          show DW _ _ _ _ _
          exact jD s15.1 hm Conv.t0
        ·intro h503 hm
         refine Sk ?_
         exact jD (c101e4 s1 s12) hm Conv.t0
   ·rcases bt (decide (s12 < p2)) with h486 | h486
    ·replace hm := if_t h486 hm
     obtain ⟨g487, g488, g489, g490, hm⟩ := go4 hm
     obtain ⟨r491, hr491, hm⟩ := bo hm
     refine RD hnt (nn 13 (o92 [] true r491 :: .no :: pT :: [])) [] [(32, pB (!r491))] [] [] (an3 h486 (an g487.1 (an g487.2 (an h486 (an g488 (an4 h486 (an g489.1 (an g489.2 (an h486 (an g490 (an h486 (an (Less_cmp_intSpec (s1.1.getD (Int.toNat s12) 0) (s1.1.getD (Int.toNat (w64 (s12 - 1))) 0) r491 hr491) (an2 h486 tv))))))))))))) ?_
     exact jD (!r491) hm Conv.eqK
    ·replace hm := if_f h486 hm
     refine RD hnt (nn 4 (sk 11 (pF :: []))) [] [(32, pB false)] [] [] (an6 h486 (an6 h486 tv)) ?_
     exact jD false hm Conv.eqK
 ·intro h391
  have hge1 : ¬ k1 < 5 := by have := of_decide_eq_false h391; omega
  have hm := he1 hge1
  unfold partialInsertionSortOrdered_slices_intD1 at hm
  refine DW.exit ?_
  refine joinQ_exit ?_
  refine KQ_exit ?_
  refine blockQ_exit ?_
  show DW _ _ _ _ _
  refine Sq (RK hnt (.no :: []) [(6, pB false)] [(0, ob0 (roI s1.1))] tv ?_)
  obtain rfl := sj hm
  exact DW.ret (retK [roI s1.1] [] (pB false))
abbrev o101 (ks : List Nat) (b : Bool) (RES : Bool × (List Int)) : Orc := .call 182 ks b (pB RES.1) [roI RES.2] []

abbrev c102e1 (p0 : List Int) (p1 : Int) (p3 : Int) := (updF (updF (elI p0) (Int.toNat p1) [vi (p0.getD (Int.toNat p3) 0)]) (Int.toNat p3) (setRange ((updF (elI p0) (Int.toNat p1) [vi (p0.getD (Int.toNat p3) 0)]) (Int.toNat p3)) 0 [vi (p0.getD (Int.toNat p1) 0)]))
abbrev c102e2 (s1 : (List Int) × Int × Int) (s5 : Int) (s7 : Int) := (updF (updF (elI s1.1) (Int.toNat s5) [vi (s1.1.getD (Int.toNat s7) 0)]) (Int.toNat s7) (setRange ((updF (elI s1.1) (Int.toNat s5) [vi (s1.1.getD (Int.toNat s7) 0)]) (Int.toNat s7)) 0 [vi (s1.1.getD (Int.toNat s5) 0)]))
abbrev c102e3 (s1 : (List Int) × Int × Int) (s5 : Int) (s7 : Int) := ((s1.1.set (Int.toNat s5) (s1.1.getD (Int.toNat s7) 0)).set (Int.toNat s7) (s1.1.getD (Int.toNat s5) 0))
theorem partitionEqualOrdered_slices_intSpec (p0 : List Int) (p1 : Int) (p2 : Int) (p3 : Int) (RES : Int × (List Int)) (hm : partitionEqualOrdered_slices_int p0 p1 p2 p3 = some RES) : Spec Tryz.prog 184 [ow 0 p0.length, pI p1, pI p2, pI p3] [roI p0] (pI RES.1) [roI RES.2] [] := by
 unfold partitionEqualOrdered_slices_int at hm
 refine SO Tryz.func184 rfl rfl [(0, ow 0 p0.length), (1, pI p1), (2, pI p2), (3, pI p3)] [(0, ob0 (roI p0))] ?_
 intro cx hnt
 refine Sq (RD hnt (.no :: []) [] [] [] [] tv ?_)
 obtain ⟨g1, g2, g3, g4, hm⟩ := go4 hm
 obtain ⟨g5, g6, g7, g8, hm⟩ := go4 hm
 refine Sq (RN hnt (nn 16 []) [(0, ow 0 ((p0.set (Int.toNat p1) (p0.getD (Int.toNat p3) 0)).set (Int.toNat p3) (p0.getD (Int.toNat p1) 0)).length), (1, pI p1), (2, pI p2)] [(0, ob0 (roI ((p0.set (Int.toNat p1) (p0.getD (Int.toNat p3) 0)).set (Int.toNat p3) (p0.getD (Int.toNat p1) 0))))] [(0, ow 0 p0.length)] [(0, .row 1 p0.length (c102e1 p0 p1 p3))] (an g1.1 (an g1.2 (an g2 (an g3.1 (an g3.2 (an g4 (an g5.1 (an g5.2 (an g6 (an g7.1 (an g7.2 (an g8 tv)))))))))))) (by kernel_rfl) (.cons rfl (MLe.ownLen (enc := encI) (d := 0) (f := (c102e1 p0 p1 p3)) (RowIs.updR (RowIs.upd RowIs.elems (p0.getD (Int.toNat p3) 0) rfl) (by omega) (p0.getD (Int.toNat p1) 0) rfl)) .nil) (.cons rfl (BLe.typed (RowIs.updR (RowIs.upd RowIs.elems (p0.getD (Int.toNat p3) 0) rfl) (by omega) (p0.getD (Int.toNat p1) 0) rfl)) .nil) ?_)
 refine Sq (RD hnt (nn 6 []) [2] [(9, pI (w64 (p1 + 1))), (10, pI (w64 (p2 - 1)))] [] [] tv ?_)
 refine Sq (Bk ?_)
 refine DW.whileO (fun (s1 : (List Int) × Int × Int) => mkSt [(0, ow 0 s1.1.length), (1, pI p1), (9, pI s1.2.2), (10, pI s1.2.1)] [(0, ob0 (roI s1.1))]) hm Conv.eqK ?_
 intro s1 n1 hm
 unfold partitionEqualOrdered_slices_intL1 at hm
 refine Bk ?_
 refine Sq (Bk ?_)
 refine DW.whileO (fun (s5 : Int) => mkSt [(0, ow 0 s1.1.length), (1, pI p1), (9, pI s5), (10, pI s1.2.1)] [(0, ob0 (roI s1.1))]) hm .refl ?_
 intro s5 n5 hm
 unfold partitionEqualOrdered_slices_intL5 at hm
 refine Sq (Sq ?_)
 refine Jn (ι := Bool) (fun (y10 : Bool) => mkSt [(0, ow 0 s1.1.length), (1, pI p1), (9, pI s5), (10, pI s1.2.1), (43, pB y10)] [(0, ob0 (roI s1.1))]) (fun y10 => (partitionEqualOrdered_slices_intJ10 p1 s1 n1 s5 n5) y10 = some RES) ?_ ?_
 ·intro y10 hm
  unfold partitionEqualOrdered_slices_intJ10 at hm
  refine condM hm ?_ ?_
  ·intro h156 hm
   refine Sk ?_
   refine Bk ?_
   refine RD hnt (nn 3 []) [43] [(9, pI (w64 (s5 + 1)))] [] [] tv ?_
   refine DW.done ?_
   show DW _ _ _ _ _
   exact jD (w64 (s5 + 1)) hm Conv.eqK
  ·intro h156 hm
   refine DW.exit ?_
   refine joinQ_exit ?_
   refine KQ_exit ?_
   refine blockQ_exit ?_
   show DW _ _ _ _ _
   refine Sq (Bk ?_)
   refine DW.whileO (fun (s7 : Int) => mkSt [(0, ow 0 s1.1.length), (1, pI p1), (9, pI s5), (10, pI s7)] [(0, ob0 (roI s1.1))]) hm Conv.t0 ?_
   intro s7 n7 hm
   unfold partitionEqualOrdered_slices_intL7 at hm
   refine Sq (Sq ?_)
   refine Jn (ι := Bool) (fun (y12 : Bool) => mkSt [(0, ow 0 s1.1.length), (1, pI p1), (9, pI s5), (10, pI s7), (59, pB y12)] [(0, ob0 (roI s1.1))]) (fun y12 => (partitionEqualOrdered_slices_intJ12 s1 n1 s5 s7 n7) y12 = some RES) ?_ ?_
   ·intro y12 hm
    unfold partitionEqualOrdered_slices_intJ12 at hm
    refine condM hm ?_ ?_
    ·intro h179 hm
     refine Sk ?_
     refine Bk ?_
     refine RD hnt (nn 3 []) [59] [(10, pI (w64 (s7 - 1)))] [] [] tv ?_
     refine DW.done ?_
     show DW _ _ _ _ _
     exact jD (w64 (s7 - 1)) hm Conv.eqK
    ·intro h179 hm
     refine DW.exit ?_
     refine joinQ_exit ?_
     refine KQ_exit ?_
     refine blockQ_exit ?_
     show DW _ _ _ _ _
     refine Sq (Sq (RD hnt (nn 3 []) [59] [(64, pB (decide (s5 > s7)))] [] [] tv ?_))
     refine condM hm ?_ ?_
     ·intro h180 hm
      refine DW.exit ?_
      refine blockQ_other (by decide) ?_
      refine KQ_exit ?_
      refine joinQ_exit ?_
      refine KQ_exit ?_
      refine blockQ_exit ?_
      show DW _ _ _ _ _
      refine Sq (RK hnt (nn 2 []) [(8, pI s5)] [(0, ob0 (roI s1.1))] tv ?_)
      obtain rfl := sj hm
      exact DW.ret (retK [roI s1.1] [] (pI s5))
     ·intro h180 hm
      refine Sk ?_
      obtain ⟨g181, g182, g183, g184, hm⟩ := go4 hm
      obtain ⟨g185, g186, g187, g188, hm⟩ := go4 hm
      refine Sq (RN hnt (nn 16 []) [(0, ow 0 (c102e3 s1 s5 s7).length), (1, pI p1), (9, pI s5), (10, pI s7)] [(0, ob0 (roI (c102e3 s1 s5 s7)))] [(0, ow 0 s1.1.length)] [(0, .row 1 s1.1.length (c102e2 s1 s5 s7))] (an g181.1 (an g181.2 (an g182 (an g183.1 (an g183.2 (an g184 (an g185.1 (an g185.2 (an g186 (an g187.1 (an g187.2 (an g188 tv)))))))))))) (by kernel_rfl) (.cons rfl (MLe.ownLen (enc := encI) (d := 0) (f := (c102e2 s1 s5 s7)) (RowIs.updR (RowIs.upd RowIs.elems (s1.1.getD (Int.toNat s7) 0) rfl) (by omega) (s1.1.getD (Int.toNat s5) 0) rfl)) .nil) (.cons rfl (BLe.typed (RowIs.updR (RowIs.upd RowIs.elems (s1.1.getD (Int.toNat s7) 0) rfl) (by omega) (s1.1.getD (Int.toNat s5) 0) rfl)) .nil) ?_)
      refine Sq (RD hnt (nn 3 []) [] [(9, pI (w64 (s5 + 1)))] [] [] tv ?_)
      refine RD hnt (nn 3 []) [] [(10, pI (w64 (s7 - 1)))] [] [] tv ?_
      refine DW.done ?_
      show DW _ _ _ _ _
      exact jD ((c102e3 s1 s5 s7), (w64 (s7 - 1)), (w64 (s5 + 1))) hm Conv.eqK
   ·rcases bt (decide (s5 ≤ s7)) with h173 | h173
    ·replace hm := if_t h173 hm
     obtain ⟨g174, g175, g176, g177, hm⟩ := go4 hm
     obtain ⟨r178, hr178, hm⟩ := bo hm
     refine RD hnt (nn 12 (o92 [] true r178 :: pT :: [])) [] [(59, pB r178)] [] [] (an3 h173 (an g174.1 (an g174.2 (an h173 (an g175 (an3 h173 (an g176.1 (an g176.2 (an h173 (an g177 (an h173 (an (Less_cmp_intSpec (s1.1.getD (Int.toNat p1) 0) (s1.1.getD (Int.toNat s7) 0) r178 hr178) (an h173 tv))))))))))))) ?_
     exact jD r178 hm Conv.eqK
    ·replace hm := if_f h173 hm
     refine RD hnt (nn 4 (sk 9 (pF :: []))) [] [(59, pB false)] [] [] (an4 h173 (an6 h173 tv)) ?_
     exact jD false hm Conv.eqK
 ·rcases bt (decide (s5 ≤ s1.2.1)) with h150 | h150
  ·replace hm := if_t h150 hm
   obtain ⟨g151, g152, g153, g154, hm⟩ := go4 hm
   obtain ⟨r155, hr155, hm⟩ := bo hm
   refine RD hnt (nn 12 (o92 [] true r155 :: .no :: pT :: [])) [] [(43, pB (!r155))] [] [] (an3 h150 (an g151.1 (an g151.2 (an h150 (an g152 (an3 h150 (an g153.1 (an g153.2 (an h150 (an g154 (an h150 (an (Less_cmp_intSpec (s1.1.getD (Int.toNat p1) 0) (s1.1.getD (Int.toNat s5) 0) r155 hr155) (an2 h150 tv))))))))))))) ?_
   exact jD (!r155) hm Conv.eqK
  ·replace hm := if_f h150 hm
   refine RD hnt (nn 4 (sk 10 (pF :: []))) [] [(43, pB false)] [] [] (an5 h150 (an6 h150 tv)) ?_
   exact jD false hm Conv.eqK
abbrev o102 (ks : List Nat) (b : Bool) (RES : Int × (List Int)) : Orc := .call 184 ks b (pI RES.1) [roI RES.2] []

abbrev c103e1 (p0 : List Int) (p1 : Int) (p3 : Int) := ((p0.set (Int.toNat p1) (p0.getD (Int.toNat p3) 0)).set (Int.toNat p3) (p0.getD (Int.toNat p1) 0))
abbrev c103e2 (p0 : List Int) (p1 : Int) (p3 : Int) (s1 : Int) (s17 : Int) := (updF (updF (elI (c103e1 p0 p1 p3)) (Int.toNat s1) [vi ((c103e1 p0 p1 p3).getD (Int.toNat s17) 0)]) (Int.toNat s17) (setRange ((updF (elI (c103e1 p0 p1 p3)) (Int.toNat s1) [vi ((c103e1 p0 p1 p3).getD (Int.toNat s17) 0)]) (Int.toNat s17)) 0 [vi ((c103e1 p0 p1 p3).getD (Int.toNat s1) 0)]))
abbrev c103e3 (p0 : List Int) (p1 : Int) (p3 : Int) := (updF (updF (elI p0) (Int.toNat p1) [vi (p0.getD (Int.toNat p3) 0)]) (Int.toNat p3) (setRange ((updF (elI p0) (Int.toNat p1) [vi (p0.getD (Int.toNat p3) 0)]) (Int.toNat p3)) 0 [vi (p0.getD (Int.toNat p1) 0)]))
abbrev c103e4 (s25 : (List Int) × Int × Int) (s29 : Int) (s31 : Int) := (updF (updF (elI s25.1) (Int.toNat s29) [vi (s25.1.getD (Int.toNat s31) 0)]) (Int.toNat s31) (setRange ((updF (elI s25.1) (Int.toNat s29) [vi (s25.1.getD (Int.toNat s31) 0)]) (Int.toNat s31)) 0 [vi (s25.1.getD (Int.toNat s29) 0)]))
abbrev c103e5 (s25 : (List Int) × Int × Int) (s29 : Int) (s31 : Int) := ((s25.1.set (Int.toNat s29) (s25.1.getD (Int.toNat s31) 0)).set (Int.toNat s31) (s25.1.getD (Int.toNat s29) 0))
theorem partitionOrdered_slices_intSpec (p0 : List Int) (p1 : Int) (p2 : Int) (p3 : Int) (RES : Int × Bool × (List Int)) (hm : partitionOrdered_slices_int p0 p1 p2 p3 = some RES) : Spec Tryz.prog 185 [ow 0 p0.length, pI p1, pI p2, pI p3] [roI p0] (.p (.tup [vi RES.1, vb RES.2.1])) [roI RES.2.2] [] := by
 unfold partitionOrdered_slices_int at hm
 refine SO Tryz.func185 rfl rfl [(0, ow 0 p0.length), (1, pI p1), (2, pI p2), (3, pI p3)] [(0, ob0 (roI p0))] ?_
 intro cx hnt
 refine Sq (RD hnt (nn 2 []) [] [] [] [] tv ?_)
 obtain ⟨g1, g2, g3, g4, hm⟩ := go4 hm
 obtain ⟨g5, g6, g7, g8, hm⟩ := go4 hm
 refine Sq (RN hnt (nn 16 []) [(0, ow 0 (c103e1 p0 p1 p3).length), (1, pI p1), (2, pI p2)] [(0, ob0 (roI (c103e1 p0 p1 p3)))] [(0, ow 0 p0.length)] [(0, .row 1 p0.length (c103e3 p0 p1 p3))] (an g1.1 (an g1.2 (an g2 (an g3.1 (an g3.2 (an g4 (an g5.1 (an g5.2 (an g6 (an g7.1 (an g7.2 (an g8 tv)))))))))))) (by kernel_rfl) (.cons rfl (MLe.ownLen (enc := encI) (d := 0) (f := (c103e3 p0 p1 p3)) (RowIs.updR (RowIs.upd RowIs.elems (p0.getD (Int.toNat p3) 0) rfl) (by omega) (p0.getD (Int.toNat p1) 0) rfl)) .nil) (.cons rfl (BLe.typed (RowIs.updR (RowIs.upd RowIs.elems (p0.getD (Int.toNat p3) 0) rfl) (by omega) (p0.getD (Int.toNat p1) 0) rfl)) .nil) ?_)
 refine Sq (RD hnt (nn 6 []) [2] [(10, pI (w64 (p1 + 1))), (11, pI (w64 (p2 - 1)))] [] [] tv ?_)
 refine Sq (Bk ?_)
 refine DW.whileO (fun (s1 : Int) => mkSt [(0, ow 0 (c103e1 p0 p1 p3).length), (1, pI p1), (10, pI s1), (11, pI (w64 (p2 - 1)))] [(0, ob0 (roI (c103e1 p0 p1 p3)))]) hm Conv.eqK ?_
 intro s1 n1 hm
 unfold partitionOrdered_slices_intL1 at hm
 refine Sq (Sq ?_)
 refine Jn (ι := Bool) (fun (y28 : Bool) => mkSt [(0, ow 0 (c103e1 p0 p1 p3).length), (1, pI p1), (10, pI s1), (11, pI (w64 (p2 - 1))), (43, pB y28)] [(0, ob0 (roI (c103e1 p0 p1 p3)))]) (fun y28 => (partitionOrdered_slices_intJ28 p0 p1 p2 p3 s1 n1) y28 = some RES) ?_ ?_
 ·intro y28 hm
  unfold partitionOrdered_slices_intJ28 at hm
  refine condM hm ?_ ?_
  ·intro h588 hm
   refine Sk ?_
   refine Bk ?_
   refine RD hnt (nn 3 []) [43] [(10, pI (w64 (s1 + 1)))] [] [] tv ?_
   refine DW.done ?_
   show DW _ _ _ _ _
   exact jD (w64 (s1 + 1)) hm Conv.eqK
  ·intro h588 hm
   refine DW.exit ?_
   refine joinQ_exit ?_
   refine KQ_exit ?_
   refine blockQ_exit ?_
   show DW _ _ _ _ _
   refine Sq (Bk ?_)
   refine DW.whileO (fun (s17 : Int) => mkSt [(0, ow 0 (c103e1 p0 p1 p3).length), (1, pI p1), (10, pI s1), (11, pI s17)] [(0, ob0 (roI (c103e1 p0 p1 p3)))]) hm Conv.t0 ?_
   intro s17 n17 hm
   unfold partitionOrdered_slices_intL17 at hm
   refine Sq (Sq ?_)
   refine Jn (ι := Bool) (fun (y42 : Bool) => mkSt [(0, ow 0 (c103e1 p0 p1 p3).length), (1, pI p1), (10, pI s1), (11, pI s17), (60, pB y42)] [(0, ob0 (roI (c103e1 p0 p1 p3)))]) (fun y42 => (partitionOrdered_slices_intJ42 p0 p1 p3 s1 s17 n17) y42 = some RES) ?_ ?_
   ·intro y42 hm
    unfold partitionOrdered_slices_intJ42 at hm
    refine condM hm ?_ ?_
    ·intro h875 hm
     refine Sk ?_
     refine Bk ?_
     refine RD hnt (nn 3 []) [60] [(11, pI (w64 (s17 - 1)))] [] [] tv ?_
     refine DW.done ?_
     show DW _ _ _ _ _
     exact jD (w64 (s17 - 1)) hm Conv.eqK
    ·intro h875 hm
     refine DW.exit ?_
     refine joinQ_exit ?_
     refine KQ_exit ?_
     refine blockQ_exit ?_
     show DW _ _ _ _ _
     refine Sq (Sq (RD hnt (nn 3 []) [60] [(65, pB (decide (s1 > s17)))] [] [] tv ?_))
     refine condM hm ?_ ?_
     ·intro h876 hm
      obtain ⟨g877, g878, g879, g880, hm⟩ := go4 hm
      obtain ⟨g881, g882, g883, g884, hm⟩ := go4 hm
      refine Sq (RN hnt (nn 16 []) [(11, pI s17)] [(0, ob0 (roI (((c103e1 p0 p1 p3).set (Int.toNat s17) ((c103e1 p0 p1 p3).getD (Int.toNat p1) 0)).set (Int.toNat p1) ((c103e1 p0 p1 p3).getD (Int.toNat s17) 0))))] [] [(0, .row 1 (c103e1 p0 p1 p3).length (updF (updF (elI (c103e1 p0 p1 p3)) (Int.toNat s17) [vi ((c103e1 p0 p1 p3).getD (Int.toNat p1) 0)]) (Int.toNat p1) (setRange ((updF (elI (c103e1 p0 p1 p3)) (Int.toNat s17) [vi ((c103e1 p0 p1 p3).getD (Int.toNat p1) 0)]) (Int.toNat p1)) 0 [vi ((c103e1 p0 p1 p3).getD (Int.toNat s17) 0)])))] (an g877.1 (an g877.2 (an g878 (an g879.1 (an g879.2 (an g880 (an g881.1 (an g881.2 (an g882 (an g883.1 (an g883.2 (an g884 tv)))))))))))) (by kernel_rfl) .nil (.cons rfl (BLe.typed (RowIs.updR (RowIs.upd RowIs.elems ((c103e1 p0 p1 p3).getD (Int.toNat p1) 0) rfl) (by omega) ((c103e1 p0 p1 p3).getD (Int.toNat s17) 0) rfl)) .nil) ?_)
      refine Sq (RD hnt (nn 3 []) [11] [(8, pI s17), (9, pB true)] [] [] tv ?_)
      obtain rfl := sj hm
      exact DW.ret (retK [roI (((c103e1 p0 p1 p3).set (Int.toNat s17) ((c103e1 p0 p1 p3).getD (Int.toNat p1) 0)).set (Int.toNat p1) ((c103e1 p0 p1 p3).getD (Int.toNat s17) 0))] [] (.p (.tup [vi s17, vb true])))
     ·intro h876 hm
      refine Sk ?_
      obtain ⟨g885, g886, g887, g888, hm⟩ := go4 hm
      obtain ⟨g889, g890, g891, g892, hm⟩ := go4 hm
      refine Sq (RN hnt (nn 16 []) [(0, ow 0 (((c103e1 p0 p1 p3).set (Int.toNat s1) ((c103e1 p0 p1 p3).getD (Int.toNat s17) 0)).set (Int.toNat s17) ((c103e1 p0 p1 p3).getD (Int.toNat s1) 0)).length), (1, pI p1), (10, pI s1), (11, pI s17)] [(0, ob0 (roI (((c103e1 p0 p1 p3).set (Int.toNat s1) ((c103e1 p0 p1 p3).getD (Int.toNat s17) 0)).set (Int.toNat s17) ((c103e1 p0 p1 p3).getD (Int.toNat s1) 0))))] [(0, ow 0 (c103e1 p0 p1 p3).length)] [(0, .row 1 (c103e1 p0 p1 p3).length (c103e2 p0 p1 p3 s1 s17))] (an g885.1 (an g885.2 (an g886 (an g887.1 (an g887.2 (an g888 (an g889.1 (an g889.2 (an g890 (an g891.1 (an g891.2 (an g892 tv)))))))))))) (by kernel_rfl) (.cons rfl (MLe.ownLen (enc := encI) (d := 0) (f := (c103e2 p0 p1 p3 s1 s17)) (RowIs.updR (RowIs.upd RowIs.elems ((c103e1 p0 p1 p3).getD (Int.toNat s17) 0) rfl) (by omega) ((c103e1 p0 p1 p3).getD (Int.toNat s1) 0) rfl)) .nil) (.cons rfl (BLe.typed (RowIs.updR (RowIs.upd RowIs.elems ((c103e1 p0 p1 p3).getD (Int.toNat s17) 0) rfl) (by omega) ((c103e1 p0 p1 p3).getD (Int.toNat s1) 0) rfl)) .nil) ?_)
      refine Sq (RD hnt (nn 3 []) [] [(10, pI (w64 (s1 + 1)))] [] [] tv ?_)
      refine Sq (RD hnt (nn 3 []) [] [(11, pI (w64 (s17 - 1)))] [] [] tv ?_)
      refine Sq (Bk ?_)
      refine DW.whileO (fun (s25 : (List Int) × Int × Int) => mkSt [(0, ow 0 s25.1.length), (1, pI p1), (10, pI s25.2.1), (11, pI s25.2.2)] [(0, ob0 (roI s25.1))]) hm Conv.eqK ?_
      intro s25 n25 hm
      unfold partitionOrdered_slices_intL25 at hm
      refine Bk ?_
      refine Sq (Bk ?_)
      refine DW.whileO (fun (s29 : Int) => mkSt [(0, ow 0 s25.1.length), (1, pI p1), (10, pI s29), (11, pI s25.2.2)] [(0, ob0 (roI s25.1))]) hm .refl ?_
      intro s29 n29 hm
      unfold partitionOrdered_slices_intL29 at hm
      refine Sq (Sq ?_)
      refine Jn (ι := Bool) (fun (y52 : Bool) => mkSt [(0, ow 0 s25.1.length), (1, pI p1), (10, pI s29), (11, pI s25.2.2), (112, pB y52)] [(0, ob0 (roI s25.1))]) (fun y52 => (partitionOrdered_slices_intJ52 p1 s25 n25 s29 n29) y52 = some RES) ?_ ?_
      ·intro y52 hm
       unfold partitionOrdered_slices_intJ52 at hm
       refine condM hm ?_ ?_
       ·intro h1088 hm
        refine Sk ?_
        refine Bk ?_
        refine RD hnt (nn 3 []) [112] [(10, pI (w64 (s29 + 1)))] [] [] tv ?_
        refine DW.done ?_
        show DW _ _ _ _ _
        exact jD (w64 (s29 + 1)) hm Conv.eqK
       ·intro h1088 hm
        refine DW.exit ?_
        refine joinQ_exit ?_
        refine KQ_exit ?_
        refine blockQ_exit ?_
        show DW _ _ _ _ _
        refine Sq (Bk ?_)
        refine DW.whileO (fun (s31 : Int) => mkSt [(0, ow 0 s25.1.length), (1, pI p1), (10, pI s29), (11, pI s31)] [(0, ob0 (roI s25.1))]) hm Conv.t0 ?_
        intro s31 n31 hm
        unfold partitionOrdered_slices_intL31 at hm
        refine Sq (Sq ?_)
        refine Jn (ι := Bool) (fun (y54 : Bool) => mkSt [(0, ow 0 s25.1.length), (1, pI p1), (10, pI s29), (11, pI s31), (129, pB y54)] [(0, ob0 (roI s25.1))]) (fun y54 => (partitionOrdered_slices_intJ54 p1 s25 n25 s29 s31 n31) y54 = some RES) ?_ ?_
        ·intro y54 hm
         unfold partitionOrdered_slices_intJ54 at hm
         refine condM hm ?_ ?_
         ·intro h1119 hm
          refine Sk ?_
          refine Bk ?_
          refine RD hnt (nn 3 []) [129] [(11, pI (w64 (s31 - 1)))] [] [] tv ?_
          refine DW.done ?_
          show DW _ _ _ _ _
          exact jD (w64 (s31 - 1)) hm Conv.eqK
         ·intro h1119 hm
          refine DW.exit ?_
          refine joinQ_exit ?_
          refine KQ_exit ?_
          refine blockQ_exit ?_
          show DW _ _ _ _ _
          refine Sq (Sq (RD hnt (nn 3 []) [129] [(134, pB (decide (s29 > s31)))] [] [] tv ?_))
          refine condM hm ?_ ?_
          ·intro h1120 hm
           refine DW.exit ?_
           refine blockQ_other (by decide) ?_
           refine KQ_exit ?_
           refine joinQ_exit ?_
           refine KQ_exit ?_
           refine blockQ_exit ?_
           show DW _ _ _ _ _
           obtain ⟨g1121, g1122, g1123, g1124, hm⟩ := go4 hm
           obtain ⟨g1125, g1126, g1127, g1128, hm⟩ := go4 hm
           refine Sq (RN hnt (nn 16 []) [(11, pI s31)] [(0, ob0 (roI ((s25.1.set (Int.toNat s31) (s25.1.getD (Int.toNat p1) 0)).set (Int.toNat p1) (s25.1.getD (Int.toNat s31) 0))))] [] [(0, .row 1 s25.1.length (updF (updF (elI s25.1) (Int.toNat s31) [vi (s25.1.getD (Int.toNat p1) 0)]) (Int.toNat p1) (setRange ((updF (elI s25.1) (Int.toNat s31) [vi (s25.1.getD (Int.toNat p1) 0)]) (Int.toNat p1)) 0 [vi (s25.1.getD (Int.toNat s31) 0)])))] (an g1121.1 (an g1121.2 (an g1122 (an g1123.1 (an g1123.2 (an g1124 (an g1125.1 (an g1125.2 (an g1126 (an g1127.1 (an g1127.2 (an g1128 tv)))))))))))) (by kernel_rfl) .nil (.cons rfl (BLe.typed (RowIs.updR (RowIs.upd RowIs.elems (s25.1.getD (Int.toNat p1) 0) rfl) (by omega) (s25.1.getD (Int.toNat s31) 0) rfl)) .nil) ?_)
           refine Sq (RD hnt (nn 3 []) [11] [(8, pI s31), (9, pB false)] [] [] tv ?_)
           obtain rfl := sj hm
           exact DW.ret (retK [roI ((s25.1.set (Int.toNat s31) (s25.1.getD (Int.toNat p1) 0)).set (Int.toNat p1) (s25.1.getD (Int.toNat s31) 0))] [] (.p (.tup [vi s31, vb false])))
          ·intro h1120 hm
           refine Sk ?_
           obtain ⟨g1129, g1130, g1131, g1132, hm⟩ := go4 hm
           obtain ⟨g1133, g1134, g1135, g1136, hm⟩ := go4 hm
           refine Sq (RN hnt (nn 16 []) [(0, ow 0 (c103e5 s25 s29 s31).length), (1, pI p1), (10, pI s29), (11, pI s31)] [(0, ob0 (roI (c103e5 s25 s29 s31)))] [(0, ow 0 s25.1.length)] [(0, .row 1 s25.1.length (c103e4 s25 s29 s31))] (an g1129.1 (an g1129.2 (an g1130 (an g1131.1 (an g1131.2 (an g1132 (an g1133.1 (an g1133.2 (an g1134 (an g1135.1 (an g1135.2 (an g1136 tv)))))))))))) (by kernel_rfl) (.cons rfl (MLe.ownLen (enc := encI) (d := 0) (f := (c103e4 s25 s29 s31)) (RowIs.updR (RowIs.upd RowIs.elems (s25.1.getD (Int.toNat s31) 0) rfl) (by omega) (s25.1.getD (Int.toNat s29) 0) rfl)) .nil) (.cons rfl (BLe.typed (RowIs.updR (RowIs.upd RowIs.elems (s25.1.getD (Int.toNat s31) 0) rfl) (by omega) (s25.1.getD (Int.toNat s29) 0) rfl)) .nil) ?_)
           refine Sq (RD hnt (nn 3 []) [] [(10, pI (w64 (s29 + 1)))] [] [] tv ?_)
           refine RD hnt (nn 3 []) [] [(11, pI (w64 (s31 - 1)))] [] [] tv ?_
           refine DW.done ?_
           show DW _ _ _ _ _
           exact jD ((c103e5 s25 s29 s31), (w64 (s29 + 1)), (w64 (s31 - 1))) hm Conv.eqK
        ·rcases bt (decide (s29 ≤ s31)) with h1113 | h1113
         ·replace hm := if_t h1113 hm
          obtain ⟨g1114, g1115, g1116, g1117, hm⟩ := go4 hm
          obtain ⟨r1118, hr1118, hm⟩ := bo hm
          refine RD hnt (nn 12 (o92 [] true r1118 :: .no :: pT :: [])) [] [(129, pB (!r1118))] [] [] (an3 h1113 (an g1114.1 (an g1114.2 (an h1113 (an g1115 (an3 h1113 (an g1116.1 (an g1116.2 (an h1113 (an g1117 (an h1113 (an (Less_cmp_intSpec (s25.1.getD (Int.toNat s31) 0) (s25.1.getD (Int.toNat p1) 0) r1118 hr1118) (an2 h1113 tv))))))))))))) ?_
          exact jD (!r1118) hm Conv.eqK
         ·replace hm := if_f h1113 hm
          refine RD hnt (nn 4 (sk 10 (pF :: []))) [] [(129, pB false)] [] [] (an5 h1113 (an6 h1113 tv)) ?_
          exact jD false hm Conv.eqK
      ·rcases bt (decide (s29 ≤ s25.2.2)) with h1082 | h1082
       ·replace hm := if_t h1082 hm
        obtain ⟨g1083, g1084, g1085, g1086, hm⟩ := go4 hm
        obtain ⟨r1087, hr1087, hm⟩ := bo hm
        refine RD hnt (nn 12 (o92 [] true r1087 :: pT :: [])) [] [(112, pB r1087)] [] [] (an3 h1082 (an g1083.1 (an g1083.2 (an h1082 (an g1084 (an3 h1082 (an g1085.1 (an g1085.2 (an h1082 (an g1086 (an h1082 (an (Less_cmp_intSpec (s25.1.getD (Int.toNat s29) 0) (s25.1.getD (Int.toNat p1) 0) r1087 hr1087) (an h1082 tv))))))))))))) ?_
        exact jD r1087 hm Conv.eqK
       ·replace hm := if_f h1082 hm
        refine RD hnt (nn 4 (sk 9 (pF :: []))) [] [(112, pB false)] [] [] (an4 h1082 (an6 h1082 tv)) ?_
        exact jD false hm Conv.eqK
   ·rcases bt (decide (s1 ≤ s17)) with h869 | h869
    ·replace hm := if_t h869 hm
     obtain ⟨g870, g871, g872, g873, hm⟩ := go4 hm
     obtain ⟨r874, hr874, hm⟩ := bo hm
     refine RD hnt (nn 12 (o92 [] true r874 :: .no :: pT :: [])) [] [(60, pB (!r874))] [] [] (an3 h869 (an g870.1 (an g870.2 (an h869 (an g871 (an3 h869 (an g872.1 (an g872.2 (an h869 (an g873 (an h869 (an (Less_cmp_intSpec ((c103e1 p0 p1 p3).getD (Int.toNat s17) 0) ((c103e1 p0 p1 p3).getD (Int.toNat p1) 0) r874 hr874) (an2 h869 tv))))))))))))) ?_
     exact jD (!r874) hm Conv.eqK
    ·replace hm := if_f h869 hm
     refine RD hnt (nn 4 (sk 10 (pF :: []))) [] [(60, pB false)] [] [] (an5 h869 (an6 h869 tv)) ?_
     exact jD false hm Conv.eqK
 ·rcases bt (decide (s1 ≤ (w64 (p2 - 1)))) with h582 | h582
  ·replace hm := if_t h582 hm
   obtain ⟨g583, g584, g585, g586, hm⟩ := go4 hm
   obtain ⟨r587, hr587, hm⟩ := bo hm
   refine RD hnt (nn 12 (o92 [] true r587 :: pT :: [])) [] [(43, pB r587)] [] [] (an3 h582 (an g583.1 (an g583.2 (an h582 (an g584 (an3 h582 (an g585.1 (an g585.2 (an h582 (an g586 (an h582 (an (Less_cmp_intSpec ((c103e1 p0 p1 p3).getD (Int.toNat s1) 0) ((c103e1 p0 p1 p3).getD (Int.toNat p1) 0) r587 hr587) (an h582 tv))))))))))))) ?_
   exact jD r587 hm Conv.eqK
  ·replace hm := if_f h582 hm
   refine RD hnt (nn 4 (sk 9 (pF :: []))) [] [(43, pB false)] [] [] (an4 h582 (an6 h582 tv)) ?_
   exact jD false hm Conv.eqK
abbrev o103 (ks : List Nat) (b : Bool) (RES : Int × Bool × (List Int)) : Orc := .call 185 ks b (.p (.tup [vi RES.1, vb RES.2.1])) [roI RES.2.2] []

theorem nextPowerOfTwo_slicesSpec (p0 : Int) (RES : Int) (hm : nextPowerOfTwo_slices p0 = some RES) : Spec Tryz.prog 191 [pI p0] [] (.p (vk .u64 RES)) [] [] := by
 unfold nextPowerOfTwo_slices at hm
 refine SO Tryz.func191 rfl rfl [(0, pI p0)] [] ?_
 intro cx hnt
 refine Sq (RK hnt (.no :: []) [(0, pI p0)] [] tv ?_)
 obtain ⟨r1, hr1, hm⟩ := bo hm
 obtain ⟨g2, hm⟩ := go1 hm
 refine Sq (RK hnt (nn 2 (o88 [] true r1 :: nn 2 [])) [(2, .p (vk .u64 (kshl .u64 1 r1)))] [] (an (Len_bitsSpec (IntKind.u64.wrap p0) r1 hr1) (an g2 tv)) ?_)
 obtain rfl := sj hm
 exact DW.ret (retK [] [] (.p (vk .u64 (kshl .u64 1 r1))))
abbrev o105 (ks : List Nat) (b : Bool) (RES : Int) : Orc := .call 191 ks b (.p (vk .u64 RES)) [] []

theorem Next_xorshift_slicesSpec (p0 : Int) (RES : Int × Int) (hm : Next_xorshift_slices p0 = some RES) : Spec Tryz.prog 192 [rr 0] [.box [.p (vk .u64 p0)]] (.p (vk .u64 RES.1)) [.box [.p (vk .u64 RES.2)]] [] := by
 unfold Next_xorshift_slices at hm
 refine SO Tryz.func192 rfl rfl [(0, rr 0)] [(0, bx [.p (vk .u64 p0)])] ?_
 intro cx hnt
 refine Sq (RD hnt (.no :: []) [] [] [] [] tv ?_)
 refine Sq (RK hnt (nn 10 []) [(0, rr 0)] [(0, bx [.p (vk .u64 (kxor .u64 p0 (kshl .u64 p0 13)))])] (an (by decide : (0 : Int) ≤ 13) tv) ?_)
 refine Sq (RK hnt (nn 10 []) [(0, rr 0)] [(0, bx [.p (vk .u64 (kxor .u64 (kxor .u64 p0 (kshl .u64 p0 13)) (kshr .u64 (kxor .u64 p0 (kshl .u64 p0 13)) 7)))])] (an (by decide : (0 : Int) ≤ 7) tv) ?_)
 refine Sq (RK hnt (nn 10 []) [(0, rr 0)] [(0, bx [.p (vk .u64 (kxor .u64 (kxor .u64 (kxor .u64 p0 (kshl .u64 p0 13)) (kshr .u64 (kxor .u64 p0 (kshl .u64 p0 13)) 7)) (kshl .u64 (kxor .u64 (kxor .u64 p0 (kshl .u64 p0 13)) (kshr .u64 (kxor .u64 p0 (kshl .u64 p0 13)) 7)) 17)))])] (an (by decide : (0 : Int) ≤ 17) tv) ?_)
 refine Sq (RD hnt (nn 4 []) [0] [(2, .p (vk .u64 (kxor .u64 (kxor .u64 (kxor .u64 p0 (kshl .u64 p0 13)) (kshr .u64 (kxor .u64 p0 (kshl .u64 p0 13)) 7)) (kshl .u64 (kxor .u64 (kxor .u64 p0 (kshl .u64 p0 13)) (kshr .u64 (kxor .u64 p0 (kshl .u64 p0 13)) 7)) 17))))] [] [] tv ?_)
 obtain rfl := sj hm
 exact DW.ret (retK [.box [.p (vk .u64 (kxor .u64 (kxor .u64 (kxor .u64 p0 (kshl .u64 p0 13)) (kshr .u64 (kxor .u64 p0 (kshl .u64 p0 13)) 7)) (kshl .u64 (kxor .u64 (kxor .u64 p0 (kshl .u64 p0 13)) (kshr .u64 (kxor .u64 p0 (kshl .u64 p0 13)) 7)) 17)))]] [] (.p (vk .u64 (kxor .u64 (kxor .u64 (kxor .u64 p0 (kshl .u64 p0 13)) (kshr .u64 (kxor .u64 p0 (kshl .u64 p0 13)) 7)) (kshl .u64 (kxor .u64 (kxor .u64 p0 (kshl .u64 p0 13)) (kshr .u64 (kxor .u64 p0 (kshl .u64 p0 13)) 7)) 17)))))
abbrev o106 (ks : List Nat) (b : Bool) (RES : Int × Int) : Orc := .call 192 ks b (.p (vk .u64 RES.1)) [.box [.p (vk .u64 RES.2)]] []

abbrev c104e1 (s1 : (List Int) × Int × Int) (p1 : Int) (y2 : Int) := (updF (updF (elI s1.1) (Int.toNat s1.2.2) [vi (s1.1.getD (Int.toNat (w64 (p1 + y2))) 0)]) (Int.toNat (w64 (p1 + y2))) (setRange ((updF (elI s1.1) (Int.toNat s1.2.2) [vi (s1.1.getD (Int.toNat (w64 (p1 + y2))) 0)]) (Int.toNat (w64 (p1 + y2)))) 0 [vi (s1.1.getD (Int.toNat s1.2.2) 0)]))
abbrev c104e2 (s1 : (List Int) × Int × Int) (p1 : Int) (y2 : Int) := ((s1.1.set (Int.toNat s1.2.2) (s1.1.getD (Int.toNat (w64 (p1 + y2))) 0)).set (Int.toNat (w64 (p1 + y2))) (s1.1.getD (Int.toNat s1.2.2) 0))
abbrev c104e3 (r15 : Int × Int) (r2 : Int) := (w64 (kand .u64 r15.1 (IntKind.u64.wrap (r2 - 1))))
theorem breakPatternsOrdered_slices_intSpec (p0 : List Int) (p1 : Int) (p2 : Int) (RES : List Int) (hm : breakPatternsOrdered_slices_int p0 p1 p2 = some RES) : Spec Tryz.prog 179 [ow 0 p0.length, pI p1, pI p2] [roI p0] (.p (.tup [])) [roI RES] [] := by
 unfold breakPatternsOrdered_slices_int at hm
 refine SO Tryz.func179 rfl rfl [(0, ow 0 p0.length), (1, pI p1), (2, pI p2)] [(0, ob0 (roI p0))] ?_
 intro cx hnt
 refine Sq (RD hnt (nn 4 []) [2] [(6, pI (w64 (p2 - p1)))] [] [] tv ?_)
 refine Sq (RD hnt (nn 2 []) [] [(15, pB (decide ((w64 (p2 - p1)) ≥ 8)))] [] [] tv ?_)
 refine condM hm ?_ ?_
 ·intro h1 hm
  refine Sq (RD hnt (nn 4 []) [15] [(7, rr 1056)] [] [(1056, bx [.p (vk .u64 (IntKind.u64.wrap (w64 (p2 - p1))))])] tv ?_)
  obtain ⟨r2, hr2, hm⟩ := bo hm
  refine Sq (RD hnt (.no :: o105 [] true r2 :: .no :: []) [] [(8, .p (vk .u64 r2))] [] [] (an (nextPowerOfTwo_slicesSpec (w64 (p2 - p1)) r2 hr2) tv) ?_)
  refine Sq (RD hnt (nn 7 []) [] [(9, pI (w64 ((w64 (p1 + (w64 ((w64 (Int.tdiv (w64 (p2 - p1)) 4)) * 2)))) - 1)))] [] [] (an (by decide : (4 : Int) ≠ 0) tv) ?_)
  refine Bk ?_
  refine DW.whileO (fun (s1 : (List Int) × Int × Int) => mkSt [(0, ow 0 s1.1.length), (1, pI p1), (6, pI (w64 (p2 - p1))), (7, rr 1056), (8, .p (vk .u64 r2)), (9, pI s1.2.2)] [(0, ob0 (roI s1.1)), (1056, bx [.p (vk .u64 s1.2.1)])]) hm Conv.eqK ?_
  intro s1 n1 hm
  unfold breakPatternsOrdered_slices_intL1 at hm
  refine Sq (Sq (RD hnt (nn 8 []) [] [(33, pB (decide (s1.2.2 ≤ (w64 ((w64 (p1 + (w64 ((w64 (Int.tdiv (w64 (p2 - p1)) 4)) * 2)))) + 1)))))] [] [] (an (by decide : (4 : Int) ≠ 0) tv) ?_))
  refine condM hm ?_ ?_
  ·intro h14 hm
   refine Sk ?_
   refine Sq (Bk ?_)
   obtain ⟨r15, hr15, hm⟩ := bo hm
   refine Sq (RD hnt (o106 [1056] true r15 :: nn 5 []) [33] [(10, pI (c104e3 r15 r2))] [] [(1056, bx [.p (vk .u64 r15.2)])] (an (Next_xorshift_slicesSpec s1.2.1 r15 hr15) (an tv tv)) ?_)
   refine Sq (Sq (RD hnt (nn 3 []) [] [(43, pB (decide ((c104e3 r15 r2) ≥ (w64 (p2 - p1)))))] [] [] tv ?_))
   refine Jn (ι := Int) (fun (y2 : Int) => mkSt [(0, ow 0 s1.1.length), (1, pI p1), (6, pI (w64 (p2 - p1))), (7, rr 1056), (8, .p (vk .u64 r2)), (9, pI s1.2.2), (10, pI y2)] [(0, ob0 (roI s1.1)), (1056, bx [.p (vk .u64 r15.2)])]) (fun y2 => (breakPatternsOrdered_slices_intJ2 p1 s1 n1 r15) y2 = some RES) ?_ ?_
   ·intro y2 hm
    unfold breakPatternsOrdered_slices_intJ2 at hm
    obtain ⟨g17, g18, g19, g20, hm⟩ := go4 hm
    obtain ⟨g21, g22, g23, g24, hm⟩ := go4 hm
    refine RN hnt (nn 20 []) [(0, ow 0 (c104e2 s1 p1 y2).length), (1, pI p1), (6, pI (w64 (p2 - p1))), (7, rr 1056), (8, .p (vk .u64 r2)), (9, pI s1.2.2)] [(0, ob0 (roI (c104e2 s1 p1 y2))), (1056, bx [.p (vk .u64 r15.2)])] [(0, ow 0 s1.1.length)] [(0, .row 1 s1.1.length (c104e1 s1 p1 y2))] (an g17.1 (an g17.2 (an g18 (an g19.1 (an g19.2 (an g20 (an g21.1 (an g21.2 (an g22 (an g23.1 (an g23.2 (an g24 tv)))))))))))) (by kernel_rfl) (.cons rfl (MLe.ownLen (enc := encI) (d := 0) (f := (c104e1 s1 p1 y2)) (RowIs.updR (RowIs.upd RowIs.elems (s1.1.getD (Int.toNat (w64 (p1 + y2))) 0) rfl) (by omega) (s1.1.getD (Int.toNat s1.2.2) 0) rfl)) .nil) (.cons rfl (BLe.typed (RowIs.updR (RowIs.upd RowIs.elems (s1.1.getD (Int.toNat (w64 (p1 + y2))) 0) rfl) (by omega) (s1.1.getD (Int.toNat s1.2.2) 0) rfl)) .nil) ?_
    refine DW.done ?_
    show DW _ _ _ _ _
    refine RD hnt (nn 3 []) [] [(9, pI (w64 (s1.2.2 + 1)))] [] [] tv ?_
    exact jD ((c104e2 s1 p1 y2), r15.2, (w64 (s1.2.2 + 1))) hm Conv.eqK
   ·refine condM hm ?_ ?_
    ·intro h16 hm
     refine RD hnt (nn 4 []) [43] [(10, pI (w64 ((c104e3 r15 r2) - (w64 (p2 - p1)))))] [] [] tv ?_
     exact jD (w64 ((c104e3 r15 r2) - (w64 (p2 - p1)))) hm Conv.eqK
    ·intro h16 hm
     refine Sk ?_
     exact jD (c104e3 r15 r2) hm Conv.t0
  ·intro h14 hm
   refine DW.exit ?_
   refine joinQ_exit ?_
   refine KQ_exit ?_
   refine blockQ_exit ?_
   show DW _ _ _ _ _
   refine DW.done ?_
   obtain rfl := sj hm
   exact endK [roI s1.1] [] (.p (.tup []))
 ·intro h1 hm
  refine Sk ?_
  refine DW.done ?_
  obtain rfl := sj hm
  exact endK [roI p0] [] (.p (.tup []))
abbrev o104 (ks : List Nat) (b : Bool) (RES : List Int) : Orc := .call 179 ks b (.p (.tup [])) [roI RES] []

abbrev c90e1 (s1 : (List Int) × Int × Int × Int × Bool × Bool) : Nat × MV := (10, pI (w64 (s1.2.2.1 - s1.2.1)))
abbrev c90e2 (s1 : (List Int) × Int × Int × Int × Bool × Bool) := (w64 (Int.tdiv (w64 (s1.2.2.1 - s1.2.1)) 8))
theorem pdqsortOrdered_slices_intBSpec (rec : (List Int) → Int → Int → Int → Option (List Int)) (ih : ∀ (p0 : List Int) (p1 : Int) (p2 : Int) (p3 : Int) (RES : List Int), rec p0 p1 p2 p3 = some RES → Spec Tryz.prog 168 [ow 0 p0.length, pI p1, pI p2, pI p3] [roI p0] (.p (.tup [])) [roI RES] []) (p0 : List Int) (p1 : Int) (p2 : Int) (p3 : Int) (RES : List Int) (hm : pdqsortOrdered_slices_intB rec p0 p1 p2 p3 = some RES) : Spec Tryz.prog 168 [ow 0 p0.length, pI p1, pI p2, pI p3] [roI p0] (.p (.tup [])) [roI RES] [] := by
 unfold pdqsortOrdered_slices_intB at hm
 refine SO Tryz.func168 rfl rfl [(0, ow 0 p0.length), (1, pI p1), (2, pI p2), (3, pI p3)] [(0, ob0 (roI p0))] ?_
 intro cx hnt
 refine Sq (RD hnt (.no :: []) [] [(8, pB true)] [] [] tv ?_)
 refine Sq (RD hnt (.no :: []) [] [(9, pB true)] [] [] tv ?_)
 refine Bk ?_
 refine DW.whileO (fun (s1 : (List Int) × Int × Int × Int × Bool × Bool) => mkSt [(0, ow 0 s1.1.length), (1, pI s1.2.1), (2, pI s1.2.2.1), (3, pI s1.2.2.2.1), (8, pB s1.2.2.2.2.1), (9, pB s1.2.2.2.2.2)] [(0, ob0 (roI s1.1))]) hm Conv.eqK ?_
 intro s1 n1 hm
 unfold pdqsortOrdered_slices_intL1 at hm
 refine Bk ?_
 refine Sq (RD hnt (nn 4 []) [] [(c90e1 s1)] [] [] tv ?_)
 refine Sq (Sq (RD hnt (nn 2 []) [] [(23, pB (decide ((w64 (s1.2.2.1 - s1.2.1)) ≤ 12)))] [] [] tv ?_))
 refine condM hm ?_ ?_
 ·intro h66 hm
  obtain ⟨r67, hr67, hm⟩ := bo hm
  obtain ⟨g68, hm⟩ := go1 hm
  refine Sq (RK hnt (nn 3 (o91 [0] true r67 :: [])) [] [(0, ob0 (roI r67))] (an (insertionSortOrdered_slices_intSpec s1.1 s1.2.1 s1.2.2.1 r67 hr67) (an (⟨rfl, g68⟩ : Body.same (roI s1.1) (roI r67)) tv)) ?_)
  obtain rfl := sj hm
  exact DW.ret (retK [roI r67] [] (.p (.tup [])))
 ·intro h66 hm
  refine Sk ?_
  refine Sq (Sq (RD hnt (nn 2 []) [23] [(29, pB (s1.2.2.2.1 == 0))] [] [] tv ?_))
  refine condM hm ?_ ?_
  ·intro h69 hm
   obtain ⟨r70, hr70, hm⟩ := bo hm
   obtain ⟨g71, hm⟩ := go1 hm
   refine Sq (RK hnt (nn 3 (o94 [0] true r70 :: [])) [] [(0, ob0 (roI r70))] (an (heapSortOrdered_slices_intSpec s1.1 s1.2.1 s1.2.2.1 r70 hr70) (an (⟨rfl, g71⟩ : Body.same (roI s1.1) (roI r70)) tv)) ?_)
   obtain rfl := sj hm
   exact DW.ret (retK [roI r70] [] (.p (.tup [])))
  ·intro h69 hm
   refine Sk ?_
   refine Sq (Sq (RD hnt (nn 2 []) [29] [(35, pB (!s1.2.2.2.2.1))] [] [] tv ?_))
   refine Jn (ι := (List Int) × Int) (fun (y8 : (List Int) × Int) => mkSt [(0, ow 0 y8.1.length), (1, pI s1.2.1), (2, pI s1.2.2.1), (3, pI y8.2), (8, pB s1.2.2.2.2.1), (9, pB s1.2.2.2.2.2), (c90e1 s1)] [(0, ob0 (roI y8.1))]) (fun y8 => (pdqsortOrdered_slices_intJ8 rec s1 n1) y8 = some RES) ?_ ?_
   ·intro y8 hm
    unfold pdqsortOrdered_slices_intJ8 at hm
    obtain ⟨r75, hr75, hm⟩ := bo hm
    refine Sq (RD hnt (nn 3 (o96 [] true r75 :: nn 5 [])) [] [(11, pI r75.1), (12, pI r75.2)] [] [] (an (choosePivotOrdered_slices_intSpec y8.1 s1.2.1 s1.2.2.1 r75 hr75) tv) ?_)
    refine Sq (Sq (RD hnt (nn 2 []) [] [(50, pB (r75.2 == 2))] [] [] tv ?_))
    refine Jn (ι := (List Int) × Int × Int) (fun (y9 : (List Int) × Int × Int) => mkSt [(0, ow 0 y9.1.length), (1, pI s1.2.1), (2, pI s1.2.2.1), (3, pI y8.2), (8, pB s1.2.2.2.2.1), (9, pB s1.2.2.2.2.2), (c90e1 s1), (11, pI y9.2.1), (12, pI y9.2.2)] [(0, ob0 (roI y9.1))]) (fun y9 => (pdqsortOrdered_slices_intJ9 rec s1 n1 y8) y9 = some RES) ?_ ?_
    ·intro y9 hm
     unfold pdqsortOrdered_slices_intJ9 at hm
     refine Sq (Sq (DW.regJ (sl2 := [(0, ow 0 y9.1.length), (1, pI s1.2.1), (2, pI s1.2.2.1), (3, pI y8.2), (8, pB s1.2.2.2.2.1), (9, pB s1.2.2.2.2.2), (c90e1 s1), (11, pI y9.2.1), (68, pB ((s1.2.2.2.2.1 && s1.2.2.2.2.2) && (y9.2.2 == 1)))]) (ob2 := [(0, ob0 (roI y9.1))]) ?_ ?_))
     ·rcases bt s1.2.2.2.2.1 with h79 | h79
      ·rcases bt s1.2.2.2.2.2 with h80 | h80
       ·exact RT hnt (nn 3 (pT :: nn 3 (pT :: []))) [(68, pB (y9.2.2 == 1))] (an2 h79 (an3 h80 tv)) (by kernel_rfl) (.cons rfl (.of_eq (by rw [h79, h80]; try rfl)) .nil)
       ·exact RT hnt (nn 3 (pT :: .no :: sk 2 (pF :: []))) [(68, pB false)] (an2 h79 (an3 h80 tv)) (by kernel_rfl) (.cons rfl (.of_eq (by rw [h79, h80]; try rfl)) .nil)
      ·exact RT hnt (nn 2 (.skip :: pF :: .no :: sk 2 (pF :: []))) [(68, pB false)] (an2 h79 (an3 ff tv)) (by kernel_rfl) (.cons rfl (.of_eq (by rw [h79]; try rfl)) .nil)
     ·refine Jn (ι := List Int) (fun (y10 : List Int) => mkSt [(0, ow 0 y10.length), (1, pI s1.2.1), (2, pI s1.2.2.1), (3, pI y8.2), (8, pB s1.2.2.2.2.1), (9, pB s1.2.2.2.2.2), (c90e1 s1), (11, pI y9.2.1)] [(0, ob0 (roI y10))]) (fun y10 => (pdqsortOrdered_slices_intJ10 rec s1 n1 y8 y9) y10 = some RES) ?_ ?_
      ·intro y10 hm
       unfold pdqsortOrdered_slices_intJ10 at hm
       refine Sq (Sq ?_)
       refine Jn (ι := Bool) (fun (y11 : Bool) => mkSt [(0, ow 0 y10.length), (1, pI s1.2.1), (2, pI s1.2.2.1), (3, pI y8.2), (8, pB s1.2.2.2.2.1), (9, pB s1.2.2.2.2.2), (c90e1 s1), (11, pI y9.2.1), (87, pB y11)] [(0, ob0 (roI y10))]) (fun y11 => (pdqsortOrdered_slices_intJ11 rec s1 n1 y8 y9 y10) y11 = some RES) ?_ ?_
       ·intro y11 hm
        unfold pdqsortOrdered_slices_intJ11 at hm
        refine condM hm ?_ ?_
        ·intro h91 hm
         obtain ⟨r92, hr92, hm⟩ := bo hm
         obtain ⟨g93, hm⟩ := go1 hm
         refine Sq (RN hnt (nn 4 (o102 [0] true r92 :: .no :: [])) [(0, ow 0 r92.2.length), (2, pI s1.2.2.1), (3, pI y8.2), (8, pB s1.2.2.2.2.1), (9, pB s1.2.2.2.2.2), (13, pI r92.1)] [(0, ob0 (roI r92.2))] [(0, ow 0 y10.length)] [] (an (partitionEqualOrdered_slices_intSpec y10 s1.2.1 s1.2.2.1 y9.2.1 r92 hr92) (an (⟨rfl, g93⟩ : Body.same (roI y10) (roI r92.2)) tv)) (by kernel_rfl) (.cons rfl (MLe.of_eq (congrArg (MV.own 0 0 0) g93)) .nil) .nil ?_)
         refine Sq (RD hnt (nn 2 []) [13] [(1, pI r92.1)] [] [] tv ?_)
         refine DW.exit ?_
         refine blockQ_exit ?_
         show DW _ _ _ _ _
         exact jD (r92.2, r92.1, s1.2.2.1, y8.2, s1.2.2.2.2.1, s1.2.2.2.2.2) hm Conv.eqK
        ·intro h91 hm
         refine Sk ?_
         obtain ⟨r94, hr94, hm⟩ := bo hm
         obtain ⟨g95, hm⟩ := go1 hm
         refine Sq (RN hnt (nn 4 (o103 [0] true r94 :: nn 5 [])) [(0, ow 0 r94.2.2.length), (1, pI s1.2.1), (2, pI s1.2.2.1), (3, pI y8.2), (c90e1 s1), (14, pI r94.1), (15, pB r94.2.1)] [(0, ob0 (roI r94.2.2))] [(0, ow 0 y10.length)] [] (an (partitionOrdered_slices_intSpec y10 s1.2.1 s1.2.2.1 y9.2.1 r94 hr94) (an (⟨rfl, g95⟩ : Body.same (roI y10) (roI r94.2.2)) tv)) (by kernel_rfl) (.cons rfl (MLe.of_eq (congrArg (MV.own 0 0 0) g95)) .nil) .nil ?_)
         refine Sq (RD hnt (nn 2 []) [15] [(9, pB r94.2.1)] [] [] tv ?_)
         refine Sq (RD hnt (nn 8 []) [] [(16, pI (w64 (r94.1 - s1.2.1))), (17, pI (w64 (s1.2.2.1 - r94.1)))] [] [] tv ?_)
         refine Sq (RD hnt (nn 3 []) [10] [(18, pI (c90e2 s1))] [] [] (an (by decide : (8 : Int) ≠ 0) tv) ?_)
         refine Sq (RD hnt (nn 3 []) [] [(113, pB (decide ((w64 (r94.1 - s1.2.1)) < (w64 (s1.2.2.1 - r94.1)))))] [] [] tv ?_)
         refine condM hm ?_ ?_
         ·intro h96 hm
          refine Sq (RD hnt (nn 4 []) [16, 17, 18, 113] [(8, pB (decide ((w64 (r94.1 - s1.2.1)) ≥ (c90e2 s1))))] [] [] tv ?_)
          obtain ⟨r97, hr97, hm⟩ := bo hm
          obtain ⟨g98, hm⟩ := go1 hm
          refine Sq (RN hnt (nn 4 (.call 168 [0] true (.p (.tup [])) [roI r97] [] :: [])) [(0, ow 0 r97.length), (2, pI s1.2.2.1), (3, pI y8.2), (8, pB (decide ((w64 (r94.1 - s1.2.1)) ≥ (c90e2 s1)))), (9, pB r94.2.1), (14, pI r94.1)] [(0, ob0 (roI r97))] [(0, ow 0 r94.2.2.length)] [] (an (ih r94.2.2 s1.2.1 r94.1 y8.2 r97 hr97) (an (⟨rfl, g98⟩ : Body.same (roI r94.2.2) (roI r97)) tv)) (by kernel_rfl) (.cons rfl (MLe.of_eq (congrArg (MV.own 0 0 0) g98)) .nil) .nil ?_)
          refine RD hnt (nn 3 []) [14] [(1, pI (w64 (r94.1 + 1)))] [] [] tv ?_
          refine DW.done ?_
          show DW _ _ _ _ _
          exact jD (r97, (w64 (r94.1 + 1)), s1.2.2.1, y8.2, (decide ((w64 (r94.1 - s1.2.1)) ≥ (c90e2 s1))), r94.2.1) hm Conv.eqK
         ·intro h96 hm
          refine Sq (RD hnt (nn 4 []) [16, 17, 18, 113] [(8, pB (decide ((w64 (s1.2.2.1 - r94.1)) ≥ (c90e2 s1))))] [] [] tv ?_)
          obtain ⟨r99, hr99, hm⟩ := bo hm
          obtain ⟨g100, hm⟩ := go1 hm
          refine Sq (RN hnt (nn 5 (.call 168 [0] true (.p (.tup [])) [roI r99] [] :: [])) [(0, ow 0 r99.length), (1, pI s1.2.1), (3, pI y8.2), (8, pB (decide ((w64 (s1.2.2.1 - r94.1)) ≥ (c90e2 s1)))), (9, pB r94.2.1), (14, pI r94.1)] [(0, ob0 (roI r99))] [(0, ow 0 r94.2.2.length)] [] (an (ih r94.2.2 (w64 (r94.1 + 1)) s1.2.2.1 y8.2 r99 hr99) (an (⟨rfl, g100⟩ : Body.same (roI r94.2.2) (roI r99)) tv)) (by kernel_rfl) (.cons rfl (MLe.of_eq (congrArg (MV.own 0 0 0) g100)) .nil) .nil ?_)
          refine RD hnt (nn 2 []) [14] [(2, pI r94.1)] [] [] tv ?_
          refine DW.done ?_
          show DW _ _ _ _ _
          exact jD (r99, s1.2.1, r94.1, y8.2, (decide ((w64 (s1.2.2.1 - r94.1)) ≥ (c90e2 s1))), r94.2.1) hm Conv.eqK
       ·rcases bt (decide (s1.2.1 > 0)) with h85 | h85
        ·replace hm := if_t h85 hm
         obtain ⟨g86, g87, g88, g89, hm⟩ := go4 hm
         obtain ⟨r90, hr90, hm⟩ := bo hm
         refine RD hnt (nn 12 (o92 [] true r90 :: .no :: pT :: [])) [] [(87, pB (!r90))] [] [] (an4 h85 (an g86.1 (an g86.2 (an h85 (an g87 (an3 h85 (an g88.1 (an g88.2 (an h85 (an g89 (an h85 (an (Less_cmp_intSpec (y10.getD (Int.toNat (w64 (s1.2.1 - 1))) 0) (y10.getD (Int.toNat y9.2.1) 0) r90 hr90) (an2 h85 tv))))))))))))) ?_
         exact jD (!r90) hm Conv.eqK
        ·replace hm := if_f h85 hm
         refine RD hnt (nn 3 (sk 11 (pF :: []))) [] [(87, pB false)] [] [] (an6 h85 (an6 h85 tv)) ?_
         exact jD false hm Conv.eqK
      ·refine condM hm ?_ ?_
       ·intro h81 hm
        obtain ⟨r82, hr82, hm⟩ := bo hm
        obtain ⟨g83, hm⟩ := go1 hm
        refine Sq (RN hnt (nn 3 (o101 [0] true r82 :: [])) [(0, ow 0 r82.2.length), (1, pI s1.2.1), (2, pI s1.2.2.1), (3, pI y8.2), (8, pB s1.2.2.2.2.1), (9, pB s1.2.2.2.2.2), (c90e1 s1), (11, pI y9.2.1), (72, pB r82.1)] [(0, ob0 (roI r82.2))] [(0, ow 0 y9.1.length)] [] (an (partialInsertionSortOrdered_slices_intSpec y9.1 s1.2.1 s1.2.2.1 r82 hr82) (an (⟨rfl, g83⟩ : Body.same (roI y9.1) (roI r82.2)) tv)) (by kernel_rfl) (.cons rfl (MLe.of_eq (congrArg (MV.own 0 0 0) g83)) .nil) .nil ?_)
        refine condM hm ?_ ?_
        ·intro h84 hm
         obtain rfl := sj hm
         exact DW.ret (retK [roI r82.2] [] (.p (.tup [])))
        ·intro h84 hm
         refine Sk ?_
         exact jD r82.2 hm Conv.t0
       ·intro h81 hm
        refine Sk ?_
        exact jD y9.1 hm Conv.t0
    ·refine condM hm ?_ ?_
     ·intro h76 hm
      obtain ⟨r77, hr77, hm⟩ := bo hm
      obtain ⟨g78, hm⟩ := go1 hm
      refine Sq (RN hnt (nn 3 (o100 [0] true r77 :: [])) [(0, ow 0 r77.length), (1, pI s1.2.1), (2, pI s1.2.2.1), (3, pI y8.2), (8, pB s1.2.2.2.2.1), (9, pB s1.2.2.2.2.2), (c90e1 s1), (11, pI r75.1)] [(0, ob0 (roI r77))] [(0, ow 0 y8.1.length)] [] (an (reverseRangeOrdered_slices_intSpec y8.1 s1.2.1 s1.2.2.1 r77 hr77) (an (⟨rfl, g78⟩ : Body.same (roI y8.1) (roI r77)) tv)) (by kernel_rfl) (.cons rfl (MLe.of_eq (congrArg (MV.own 0 0 0) g78)) .nil) .nil ?_)
      refine Sq (RD hnt (nn 7 []) [] [(11, pI (w64 ((w64 (s1.2.2.1 - 1)) - (w64 (r75.1 - s1.2.1)))))] [] [] tv ?_)
      refine RD hnt (.no :: []) [] [(12, pI 1)] [] [] tv ?_
      exact jD (r77, (w64 ((w64 (s1.2.2.1 - 1)) - (w64 (r75.1 - s1.2.1)))), 1) hm Conv.eqK
     ·intro h76 hm
      refine Sk ?_
      exact jD (y8.1, r75.1, r75.2) hm Conv.t0
   ·refine condM hm ?_ ?_
    ·intro h72 hm
     obtain ⟨r73, hr73, hm⟩ := bo hm
     obtain ⟨g74, hm⟩ := go1 hm
     refine Sq (RN hnt (nn 3 (o104 [0] true r73 :: [])) [(0, ow 0 r73.length), (1, pI s1.2.1), (2, pI s1.2.2.1), (3, pI s1.2.2.2.1), (8, pB s1.2.2.2.2.1), (9, pB s1.2.2.2.2.2), (c90e1 s1)] [(0, ob0 (roI r73))] [(0, ow 0 s1.1.length)] [] (an (breakPatternsOrdered_slices_intSpec s1.1 s1.2.1 s1.2.2.1 r73 hr73) (an (⟨rfl, g74⟩ : Body.same (roI s1.1) (roI r73)) tv)) (by kernel_rfl) (.cons rfl (MLe.of_eq (congrArg (MV.own 0 0 0) g74)) .nil) .nil ?_)
     refine RD hnt (nn 3 []) [] [(3, pI (w64 (s1.2.2.2.1 - 1)))] [] [] tv ?_
     exact jD (r73, (w64 (s1.2.2.2.1 - 1))) hm Conv.eqK
    ·intro h72 hm
     refine Sk ?_
     exact jD (s1.1, s1.2.2.2.1) hm Conv.t0
theorem pdqsortOrdered_slices_intFSpec : ∀ (n : Nat) (p0 : List Int) (p1 : Int) (p2 : Int) (p3 : Int) (RES : List Int), pdqsortOrdered_slices_intF n p0 p1 p2 p3 = some RES → Spec Tryz.prog 168 [ow 0 p0.length, pI p1, pI p2, pI p3] [roI p0] (.p (.tup [])) [roI RES] []
  | 0, p0, p1, p2, p3, RES, hm => by simp [pdqsortOrdered_slices_intF] at hm
  | n + 1, p0, p1, p2, p3, RES, hm => pdqsortOrdered_slices_intBSpec (pdqsortOrdered_slices_intF n) (pdqsortOrdered_slices_intFSpec n) p0 p1 p2 p3 RES hm
theorem pdqsortOrdered_slices_intSpec (p0 : List Int) (p1 : Int) (p2 : Int) (p3 : Int) (RES : List Int) (hm : pdqsortOrdered_slices_int p0 p1 p2 p3 = some RES) : Spec Tryz.prog 168 [ow 0 p0.length, pI p1, pI p2, pI p3] [roI p0] (.p (.tup [])) [roI RES] [] := pdqsortOrdered_slices_intFSpec FUEL p0 p1 p2 p3 RES hm
abbrev o90 (ks : List Nat) (b : Bool) (RES : List Int) : Orc := .call 168 ks b (.p (.tup [])) [roI RES] []

theorem Sort_slices_intSpec (p0 : List Int) (RES : List Int) (hm : Sort_slices_int p0 = some RES) : Spec Tryz.prog 155 [ow 0 p0.length] [roI p0] (.p (.tup [])) [roI RES] [] := by
 unfold Sort_slices_int at hm
 refine SO Tryz.func155 rfl rfl [(0, ow 0 p0.length)] [(0, ob0 (roI p0))] ?_
 intro cx hnt
 refine Sq (RD hnt (nn 3 []) [] [(2, pI ((p0.length : Nat) : Int))] [] [] tv ?_)
 obtain ⟨r1, hr1, hm⟩ := bo hm
 obtain ⟨r2, hr2, hm⟩ := bo hm
 obtain ⟨g3, hm⟩ := go1 hm
 refine RK hnt (nn 4 (o88 [] true r1 :: o90 [0] true r2 :: [])) [] [(0, ob0 (roI r2))] (an (Len_bitsSpec (IntKind.u64.wrap ((p0.length : Nat) : Int)) r1 hr1) (an (pdqsortOrdered_slices_intSpec p0 0 ((p0.length : Nat) : Int) r1 r2 hr2) (an (⟨rfl, g3⟩ : Body.same (roI p0) (roI r2)) tv))) ?_
 refine DW.done ?_
 obtain rfl := sj hm
 exact endK [roI r2] [] (.p (.tup []))
abbrev o87 (ks : List Nat) (b : Bool) (RES : List Int) : Orc := .call 155 ks b (.p (.tup [])) [roI RES] []

abbrev c107e1 (s4 : (List Int) × Int) (k1 : Int) (k4 : Int) := (s4.1.getD (addN (Int.toNat k1) (Int.toNat k4)) 0)
abbrev c107e2 (k1 : Int) (p0 : List Int) : Nat × MV := (4, .own 0 0 (Int.toNat k1) (subN p0.length (Int.toNat k1)))
abbrev c107e3 (s4 : (List Int) × Int) := (fillL s4.1 (Int.toNat s4.2) (subN s4.1.length (Int.toNat s4.2)) 0)
theorem Compact_slices_intSpec (p0 : List Int) (RES : Nat × (List Int)) (hm : Compact_slices_int p0 = some RES) : Spec Tryz.prog 156 [ow 0 p0.length] [roI p0] (ow 0 RES.1) [roI RES.2] [] := by
 unfold Compact_slices_int at hm
 refine SO Tryz.func156 rfl rfl [(0, ow 0 p0.length)] [(0, ob0 (roI p0))] ?_
 intro cx hnt
 refine Sq (RD hnt (.no :: []) [] [] [] [] tv ?_)
 refine Sq (Sq (RD hnt (nn 3 []) [] [(8, pB (decide (((p0.length : Nat) : Int) < 2)))] [] [] tv ?_))
 refine condM hm ?_ ?_
 ·intro h1 hm
  refine Sq (RK hnt (nn 2 []) [(2, ow 0 p0.length)] [(0, ob0 (roI p0))] tv ?_)
  obtain rfl := sj hm
  exact DW.ret (retK [roI p0] [] (ow 0 p0.length))
 ·intro h1 hm
  refine Sk ?_
  refine Sq (Sq (RD hnt (.no :: []) [8] [(3, pI 1)] [] [] tv ?_))
  refine Bk ?_
  obtain ⟨hc1, hm⟩ := go1 hm
  refine DW.forO (fun (k1 : Int) (s1 : Unit) => mkSt [(0, ow 0 p0.length), (3, pI k1)] [(0, ob0 (roI p0))]) (lo := 1) (hi := ((p0.length : Nat) : Int)) hm Conv.eqK ?_
  intro k1 s1 n1 hk1 hs1 he1
  refine Sq (Sq (RD hnt (nn 4 []) [] [(13, pB (decide (k1 < ((p0.length : Nat) : Int))))] [] [] tv ?_))
  refine condK (decide (k1 < ((p0.length : Nat) : Int))) ?_ ?_
  ·intro h94
   have hlt1 : k1 < ((p0.length : Nat) : Int) := by have := of_decide_eq_true h94; omega
   have hm := hs1 hlt1
   unfold Compact_slices_intL1 at hm
   refine Sk ?_
   refine Sq (Bk ?_)
   obtain ⟨g95, g96, g97, g98, hm⟩ := go4 hm
   refine Sq (RD hnt (nn 10 []) [13] [(25, pB ((p0.getD (Int.toNat k1) 0) == (p0.getD (Int.toNat (w64 (k1 - 1))) 0)))] [] [] (an g95.1 (an g95.2 (an g96 (an g97.1 (an g97.2 (an g98 tv)))))) ?_)
   refine condM hm ?_ ?_
   ·intro h99 hm
    obtain ⟨g100, hm⟩ := go1 hm
    refine Sq (RD hnt (nn 4 []) [25] [(c107e2 k1 p0)] [] [] (an (by omega : (0 : Int) ≤ k1) (an (by omega : k1 ≤ ((p0.length : Nat) : Int)) (an (by omega : ((p0.length : Nat) : Int) ≤ ((p0.length : Nat) : Int)) tv))) ?_)
    refine Sq (Sq (RD hnt (.no :: []) [] [(5, pI 1)] [] [] tv ?_))
    refine Bk ?_
    obtain ⟨hc4, hm⟩ := go1 hm
    refine DW.forO (fun (k4 : Int) (s4 : (List Int) × Int) => mkSt [(0, ow 0 s4.1.length), (3, pI s4.2), (c107e2 k1 p0), (5, pI k4)] [(0, ob0 (roI s4.1))]) (lo := 1) (hi := (((subN p0.length (Int.toNat k1)) : Nat) : Int)) hm Conv.eqK ?_
    intro k4 s4 n4 hk4 hs4 he4
    refine Sq (Sq (RD hnt (nn 4 []) [] [(32, pB (decide (k4 < (((subN p0.length (Int.toNat k1)) : Nat) : Int))))] [] [] tv ?_))
    refine condK (decide (k4 < (((subN p0.length (Int.toNat k1)) : Nat) : Int))) ?_ ?_
    ·intro h127
     have hlt4 : k4 < (((subN p0.length (Int.toNat k1)) : Nat) : Int) := by have := of_decide_eq_true h127; omega
     have hm := hs4 hlt4
     unfold Compact_slices_intL4 at hm
     refine Sk ?_
     refine Sq ?_
     refine Jn (ι := (List Int) × Int) (fun (y9 : (List Int) × Int) => mkSt [(0, ow 0 y9.1.length), (3, pI y9.2), (c107e2 k1 p0), (5, pI k4)] [(0, ob0 (roI y9.1))]) (fun y9 => (Compact_slices_intJ9 n4) y9 = some RES) ?_ ?_
     ·intro y9 hm
      unfold Compact_slices_intJ9 at hm
      refine RD hnt (nn 3 []) [] [(5, pI (w64 (k4 + 1)))] [] [] tv ?_
      exact jD (y9.1, y9.2) ⟨hlt4, hm⟩ (Conv.tp [(5, pI (w64 (k4 + 1)))] [] (by kernel_rfl) (.cons rfl (.of_eq (congrArg pI (w64_for (lo := 1) (hi := (((subN p0.length (Int.toNat k1)) : Nat) : Int)) (by omega) hk4 hlt4 (by omega)))) .nil) .nil)
     ·refine Bk ?_
      obtain ⟨g128, g129, g130, g131, hm⟩ := go4 hm
      refine Sq (RD hnt (nn 10 []) [32] [(44, pB ((c107e1 s4 k1 k4) != (s4.1.getD (addN (Int.toNat k1) (Int.toNat (w64 (k4 - 1)))) 0)))] [] [] (an g128.1 (an g128.2 (an g129 (an g130.1 (an g130.2 (an g131 tv)))))) ?_)
      refine condM hm ?_ ?_
      ·intro h132 hm
       obtain ⟨g133, g134, g135, g136, hm⟩ := go4 hm
       refine Sq (RN hnt (nn 8 []) [(0, ow 0 (s4.1.set (Int.toNat s4.2) (c107e1 s4 k1 k4)).length), (3, pI s4.2), (c107e2 k1 p0), (5, pI k4)] [(0, ob0 (roI (s4.1.set (Int.toNat s4.2) (c107e1 s4 k1 k4))))] [(0, ow 0 s4.1.length)] [(0, .row 1 s4.1.length (updF (elI s4.1) (Int.toNat s4.2) [vi (c107e1 s4 k1 k4)]))] (an g133.1 (an g133.2 (an g134 (an g135.1 (an g135.2 (an g136 tv)))))) (by kernel_rfl) (.cons rfl (MLe.ownLen (enc := encI) (d := 0) (f := (updF (elI s4.1) (Int.toNat s4.2) [vi (c107e1 s4 k1 k4)])) (RowIs.upd RowIs.elems (c107e1 s4 k1 k4) rfl)) .nil) (.cons rfl (BLe.typed (RowIs.upd RowIs.elems (c107e1 s4 k1 k4) rfl)) .nil) ?_)
       refine RD hnt (nn 3 []) [] [(3, pI (w64 (s4.2 + 1)))] [] [] tv ?_
       exact bD ((s4.1.set (Int.toNat s4.2) (c107e1 s4 k1 k4)), (w64 (s4.2 + 1))) hm Conv.eqK
      ·intro h132 hm
       refine Sk ?_
       exact bD (s4.1, s4.2) hm Conv.t0
    ·intro h127
     have hge4 : ¬ k4 < (((subN p0.length (Int.toNat k1)) : Nat) : Int) := by have := of_decide_eq_false h127; omega
     have hm := he4 hge4
     unfold Compact_slices_intD4 at hm
     refine DW.exit ?_
     refine joinQ_exit ?_
     refine KQ_exit ?_
     refine blockQ_exit ?_
     show DW _ _ _ _ _
     obtain ⟨g137, g138, hm⟩ := go2 hm
     refine Sq (RN hnt (nn 4 []) [(0, ow 0 (c107e3 s4).length), (3, pI s4.2)] [(0, ob0 (roI (c107e3 s4)))] [(0, ow 0 s4.1.length)] [(0, .row 1 s4.1.length (overF (elI s4.1) (Int.toNat s4.2) (subN s4.1.length (Int.toNat s4.2)) (fun _ => [vi 0])))] (an (by omega : (0 : Int) ≤ s4.2) (an (by omega : s4.2 ≤ ((s4.1.length : Nat) : Int)) (an (by omega : ((s4.1.length : Nat) : Int) ≤ ((s4.1.length : Nat) : Int)) (an g138 tv)))) (by kernel_rfl) (.cons rfl (MLe.ownLen (enc := encI) (d := 0) (f := (overF (elI s4.1) (Int.toNat s4.2) (subN s4.1.length (Int.toNat s4.2)) (fun _ => [vi 0]))) (RowIs.fill RowIs.elems 0 rfl (by first | exact g138 | omega))) .nil) (.cons rfl (BLe.typed (RowIs.fill RowIs.elems 0 rfl (by first | exact g138 | omega))) .nil) ?_)
     obtain ⟨g139, hm⟩ := go1 hm
     refine Sq (RD hnt (nn 4 []) [0, 3] [(2, ow 0 (Int.toNat s4.2))] [] [] (an (by omega : (0 : Int) ≤ 0) (an (by omega : (0 : Int) ≤ s4.2) (an (by omega : s4.2 ≤ (((fillL s4.1 (Int.toNat s4.2) (subN s4.1.length (Int.toNat s4.2)) 0).length : Nat) : Int)) tv))) ?_)
     obtain rfl := sj hm
     exact DW.ret (retK [roI (c107e3 s4)] [] (ow 0 (Int.toNat s4.2)))
   ·intro h99 hm
    refine Sk ?_
    refine DW.done ?_
    show DW _ _ _ _ _
    refine RD hnt (nn 3 []) [25] [(3, pI (w64 (k1 + 1)))] [] [] tv ?_
    exact jD () ⟨hlt1, hm⟩ (Conv.tp [(3, pI (w64 (k1 + 1)))] [] (by kernel_rfl) (.cons rfl (.of_eq (congrArg pI (w64_for (lo := 1) (hi := ((p0.length : Nat) : Int)) (by omega) hk1 hlt1 (by omega)))) .nil) .nil)
  ·intro h94
   have hge1 : ¬ k1 < ((p0.length : Nat) : Int) := by have := of_decide_eq_false h94; omega
   have hm := he1 hge1
   unfold Compact_slices_intD1 at hm
   refine DW.exit ?_
   refine joinQ_exit ?_
   refine KQ_exit ?_
   refine blockQ_exit ?_
   show DW _ _ _ _ _
   refine Sq (RK hnt (nn 2 []) [(2, ow 0 p0.length)] [(0, ob0 (roI p0))] tv ?_)
   obtain rfl := sj hm
   exact DW.ret (retK [roI p0] [] (ow 0 p0.length))
abbrev o107 (ks : List Nat) (b : Bool) (RES : Nat × (List Int)) : Orc := .call 156 ks b (ow 0 RES.1) [roI RES.2] []

abbrev c84e1 (p0 : Hierarchy) : Nat × MV := (12, pI ((p0.tasks.length : Nat) : Int))
theorem Those_crewQTasksFa_crewQID_crewSpec (p0 : Hierarchy) (p1c0 : Int) (RES : List Int) (hm : Those_crewQTasksFa_crewQID_crew p0 p1c0 = some RES) : Spec Tryz.prog 112 [.p (.agg (encHierarchy p0)), .fn 151 [rr 0], .p (.fn 148 [])] [.box [pI p1c0]] (.p (slI RES)) [.box [pI p1c0]] [] := by
 unfold Those_crewQTasksFa_crewQID_crew at hm
 refine SO Tryz.func112 rfl rfl [(0, .p (.agg (encHierarchy p0))), (1, .fn 151 [rr 0]), (2, .p (.fn 148 []))] [(0, bx [pI p1c0])] ?_
 intro cx hnt
 refine Sq (RD hnt (nn 2 []) [0] [(3, rr 1024)] [] [(1024, bx (pm (encHierarchy p0)))] tv ?_)
 refine Sq (RD hnt (.no :: []) [] [(7, .p (.sl .nil 0 0 (fun _ => [])))] [] [] tv ?_)
 refine Sq (Sq (RD hnt (nn 4 []) [3] [(11, .p (slTask p0.tasks)), (c84e1 p0), (13, pI 0)] [1024] [] tv ?_))
 refine Bk ?_
 obtain ⟨hc1, hm⟩ := go1 hm
 refine DW.rangeO (fun (k1 : Nat) (s1 : List Int) => mkSt [(1, .fn 151 [rr 0]), (2, .p (.fn 148 [])), (7, ow 1200 s1.length), (11, .p (slTask p0.tasks)), (c84e1 p0), (13, pI ((k1 : Nat) : Int))] [(0, bx [pI p1c0]), (1200, ob0 (roI s1))]) dTask hm (Conv.ads [(.s 7, 1200, 1, elems encI 0 [])]) ?_
 intro k1 s1 n1 hk1 hs1 he1
 refine Sq (RD hnt (.no :: []) [] [(14, pB (decide (((k1 : Nat) : Int) < ((p0.tasks.length : Nat) : Int))))] [] [] tv ?_)
 refine Sq (condK (decide (((k1 : Nat) : Int) < ((p0.tasks.length : Nat) : Int))) ?_ ?_)
 ·intro h22
  have hlt1 : k1 < p0.tasks.length := by have := of_decide_eq_true h22; omega
  have hm := hs1 hlt1
  unfold Those_crewQTasksFa_crewQID_crewL1 at hm
  refine Sk ?_
  refine Sq ?_
  refine Jn (ι := List Int) (fun (y3 : List Int) => mkSt [(1, .fn 151 [rr 0]), (2, .p (.fn 148 [])), (7, ow 1200 y3.length), (11, .p (slTask p0.tasks)), (c84e1 p0), (13, pI ((k1 : Nat) : Int))] [(0, bx [pI p1c0]), (1200, ob0 (roI y3))]) (fun y3 => (Those_crewQTasksFa_crewQID_crewJ3 n1) y3 = some RES) ?_ ?_
  ·intro y3 hm
   unfold Those_crewQTasksFa_crewQID_crewJ3 at hm
   refine RD hnt (nn 2 []) [] [(13, pI (w64 (((k1 : Nat) : Int) + 1)))] [] [] tv ?_
   exact jD y3 ⟨hlt1, hm⟩ (Conv.tp [(13, pI (w64 (((k1 : Nat) : Int) + 1)))] [] (by kernel_rfl) (.cons rfl (.of_eq (congrArg pI (w64_succ hlt1 hc1))) .nil) .nil)
  ·refine Bk ?_
   refine Sq (RD hnt (nn 4 []) [14] [(9, rr 1072)] [] [(1072, bx (pm (encTask (p0.tasks.getD k1 (default : Task)))))] (an (nn0 k1) (an (ltc hlt1) tv)) ?_)
   obtain ⟨r23, hr23, hm⟩ := bo hm
   refine Sq (RD hnt (nn 2 (.call 151 [0] true (pB r23) [.box [pI p1c0]] [] :: [])) [] [(19, pB r23)] [] [] (an (TasksFa_crewSpec (p0.tasks.getD k1 (default : Task)) p1c0 r23 hr23) (an tv tv)) ?_)
   refine condM hm ?_ ?_
   ·intro h24 hm
    obtain ⟨r25, hr25, hm⟩ := bo hm
    obtain ⟨g26, hm⟩ := go1 hm
    refine RN hnt (nn 3 (o86 [] true r25 :: nn 3 [])) [(1, .fn 151 [rr 0]), (2, .p (.fn 148 [])), (7, ow 1200 (s1 ++ [r25]).length), (11, .p (slTask p0.tasks)), (c84e1 p0), (13, pI ((k1 : Nat) : Int))] [(0, bx [pI p1c0]), (1200, ob0 (roI (s1 ++ [r25])))] [(7, ow 1200 (s1.length + 1))] [(1200, .row 1 (s1.length + 1) (catF s1.length (elI s1) (cut 1 [vi r25])))] (an (ID_crewSpec (p0.tasks.getD k1 (default : Task)) r25 hr25) (an (by omega : (s1.length + 1) * 8 ≤ 140737488355328) tv)) (by kernel_rfl) (.cons rfl (MLe.ownLen (enc := encI) (d := 0) (f := (catF s1.length (elI s1) (cut 1 [vi r25]))) (RowIs.cat RowIs.elems (RowIs.lit (enc := encI) (d := 0) (n := 1) (f := (cut 1 [vi r25])) [r25] rfl (fun | 0, _ => rfl | n + 1, h => absurd h (by omega))))) .nil) (.cons rfl (BLe.typed (RowIs.cat RowIs.elems (RowIs.lit (enc := encI) (d := 0) (n := 1) (f := (cut 1 [vi r25])) [r25] rfl (fun | 0, _ => rfl | n + 1, h => absurd h (by omega))))) .nil) ?_
    exact bD (s1 ++ [r25]) hm .refl
   ·intro h24 hm
    refine Sk ?_
    exact bD s1 hm Conv.t0
 ·intro h22
  have hge1 : ¬ k1 < p0.tasks.length := by have := of_decide_eq_false h22; omega
  have hm := he1 hge1
  unfold Those_crewQTasksFa_crewQID_crewD1 at hm
  refine DW.exit ?_
  refine joinQ_exit ?_
  refine KQ_exit ?_
  refine blockQ_exit ?_
  show DW _ _ _ _ _
  obtain ⟨r27, hr27, hm⟩ := bo hm
  obtain ⟨g28, hm⟩ := go1 hm
  refine Sq (RN hnt (.no :: o87 [1200] true r27 :: []) [(7, ow 1200 r27.length)] [(0, bx [pI p1c0]), (1200, ob0 (roI r27))] [(7, ow 1200 s1.length)] [] (an (Sort_slices_intSpec s1 r27 hr27) (an (⟨rfl, g28⟩ : Body.same (roI s1) (roI r27)) tv)) (by kernel_rfl) (.cons rfl (MLe.of_eq (congrArg (MV.own 1200 0 0) g28)) .nil) .nil ?_)
  obtain ⟨r29, hr29, hm⟩ := bo hm
  obtain ⟨g30, g31, hm⟩ := go2 hm
  refine Sq (RD hnt (.no :: o107 [1200] true r29 :: .no :: []) [7] [(6, ow 1200 r29.1)] [] [(1200, ob0 (roI r29.2))] (an (Compact_slices_intSpec r27 r29 hr29) (an (⟨rfl, g30⟩ : Body.same (roI r27) (roI r29.2)) tv)) ?_)
  refine DW.conv (τ := mkSt [(6, .p (slI (r29.2.take r29.1)))] [(0, bx [pI p1c0])]) (Conv.trans (τ := mkSt [(6, .p (.sl .unk 1 r29.1 (elI r29.2)))] [(0, bx [pI p1c0])]) (Conv.frz [1200]) (Conv.tp [(6, .p (.sl .unk 1 r29.1 (elI r29.2)))] [] (by kernel_rfl) (.cons rfl (MLe.typed (RowIs.take RowIs.elems (by first | omega | (simp only [subN_eq, addN_eq] at *; omega)))) .nil) .nil)) ?_
  obtain rfl := sj hm
  exact DW.ret (retK [.box [pI p1c0]] [] (.p (slI (r29.2.take r29.1))))

theorem Tasks_crewSpec (p0 : Hierarchy) (p1 : Int) (RES : List Int) (hm : Tasks_crew p0 p1 = some RES) : Spec Tryz.prog 103 [.p (.agg (encHierarchy p0)), pI p1] [] (.p (slI RES)) [] [] := by
 unfold Tasks_crew at hm
 refine SO Tryz.func103 rfl rfl [(0, .p (.agg (encHierarchy p0))), (1, pI p1)] [] ?_
 intro cx hnt
 refine Sq (RK hnt (nn 3 []) [(2, rr 1016), (3, rr 1024)] [(1016, bx (pm (encHierarchy p0))), (1024, bx [pI p1])] tv ?_)
 obtain ⟨r1, hr1, hm⟩ := bo hm
 refine Sq (RK hnt (nn 2 (.call 112 [1024] true (.p (slI r1)) [.box [pI p1]] [] :: .no :: [])) [(4, .p (slI r1))] [] (an (Those_crewQTasksFa_crewQID_crewSpec p0 p1 r1 hr1) (an tv tv)) ?_)
 obtain rfl := sj hm
 exact DW.ret (retK [] [] (.p (slI r1)))
abbrev o83 (ks : List Nat) (b : Bool) (RES : List Int) : Orc := .call 103 ks b (.p (slI RES)) [] []

abbrev c78e1 : Nat × Body := (1032, .box [.p (.sl .nil 0 0 (fun _ => [])), pI 0, ow 100000 0, pI 0])
abbrev c78e2 : Nat × Obj := (1032, bx [.p (.sl .nil 0 0 (fun _ => [])), pI 0, ow 100000 0, pI 0])
abbrev c78e3 : Nat × Obj := (1032, bx [.p (slNode []), pI 0, ow 100000 0, pI 0])
theorem Remove_memberSpec (p0 : Hierarchy) (p1 : Int) (RES : Hierarchy × Int) (hm : Remove_member p0 p1 = some RES) : Spec Tryz.prog 71 [.p (.agg (encHierarchy p0)), pI p1] [] (.tup [.agg [.p (slNode RES.1.tree.nodes), pI RES.1.tree.next, ow 0 RES.1.tasks.length, pI RES.1.next], pI RES.2]) [] [roTask RES.1.tasks] := by
 unfold Remove_member at hm
 refine SO Tryz.func71 rfl rfl [(0, .p (.agg (encHierarchy p0))), (1, pI p1)] [] ?_
 intro cx hnt
 refine Sq (RK hnt (nn 3 []) [(1, pI p1), (2, rr 1016), (4, rr 1032)] [(1016, bx (pm (encHierarchy p0))), (1032, bx [.p (.sl .nil 0 0 (fun _ => [])), pI 0, .p (.sl .nil 0 0 (fun _ => [])), pI 0])] tv ?_)
 obtain ⟨r1, hr1, hm⟩ := bo hm
 refine Sq (Sq (RD hnt (.no :: o7 [] true r1 :: .no :: []) [] [(11, pB (!r1))] [] [] (an (Check_memberSpec p0 r1 hr1) tv) ?_))
 refine condM hm ?_ ?_
 ·intro h2 hm
  refine Sq (RD hnt (nn 3 []) [1, 2, 11] [(5, pI 1)] [1016] [] tv ?_)
  refine DW.conv (τ := mkSt [(4, rr 1032), (5, pI 1)] [(c78e3), (100000, ob0 (roTask []))]) (Conv.trans (τ := mkSt [(4, rr 1032), (5, pI 1)] [(c78e2), (100000, ob0 (roTask []))]) (Conv.ads [(.o 1032 2, 100000, 4, elems encTask dTask [])]) (Conv.tp [] [(c78e1)] (by kernel_rfl) .nil (.cons rfl (.box (.cons MLe.nilL (.cons .rfl (.cons .rfl (.cons .rfl .nil))))) .nil))) ?_
  obtain rfl := sj hm
  exact DW.ret (retK [roTask []] [100000] (.tup [.agg [.p (slNode []), pI 0, ow 0 0, pI 0], pI 1]))
 ·intro h2 hm
  refine Sk ?_
  obtain ⟨r3, hr3, hm⟩ := bo hm
  refine Sq (RD hnt (nn 3 (o79 [] true r3 :: nn 6 [])) [11] [(6, rr 1048), (7, pI r3.2)] [] [(1048, bx (pm (encTree r3.1)))] (an (Remove_treeSpec p0.tree p1 r3 hr3) tv) ?_)
  refine Sq (Sq (RD hnt (nn 2 []) [] [(21, pB (r3.2 != 0))] [] [] tv ?_))
  refine condM hm ?_ ?_
  ·intro h4 hm
   refine Sq (RD hnt (nn 4 []) [1, 2, 6, 7, 21] [(5, pI r3.2)] [1016, 1048] [] tv ?_)
   refine DW.conv (τ := mkSt [(4, rr 1032), (5, pI r3.2)] [(c78e3), (100000, ob0 (roTask []))]) (Conv.trans (τ := mkSt [(4, rr 1032), (5, pI r3.2)] [(c78e2), (100000, ob0 (roTask []))]) (Conv.ads [(.o 1032 2, 100000, 4, elems encTask dTask [])]) (Conv.tp [] [(c78e1)] (by kernel_rfl) .nil (.cons rfl (.box (.cons MLe.nilL (.cons .rfl (.cons .rfl (.cons .rfl .nil))))) .nil))) ?_
   obtain rfl := sj hm
   exact DW.ret (retK [roTask []] [100000] (.tup [.agg [.p (slNode []), pI 0, ow 0 0, pI 0], pI r3.2]))
  ·intro h4 hm
   refine Sk ?_
   obtain ⟨r5, hr5, hm⟩ := bo hm
   refine Sq (Sq (RD hnt (nn 2 (o83 [] true r5 :: nn 2 [])) [1, 7, 21] [(28, pB (decide (((r5.length : Nat) : Int) > 0)))] [] [] (an (Tasks_crewSpec p0 p1 r5 hr5) tv) ?_))
   refine condM hm ?_ ?_
   ·intro h6 hm
    refine Sq (RD hnt (nn 3 []) [2, 6, 28] [(5, pI 6)] [1016, 1048] [] tv ?_)
    refine DW.conv (τ := mkSt [(4, rr 1032), (5, pI 6)] [(c78e3), (100000, ob0 (roTask []))]) (Conv.trans (τ := mkSt [(4, rr 1032), (5, pI 6)] [(c78e2), (100000, ob0 (roTask []))]) (Conv.ads [(.o 1032 2, 100000, 4, elems encTask dTask [])]) (Conv.tp [] [(c78e1)] (by kernel_rfl) .nil (.cons rfl (.box (.cons MLe.nilL (.cons .rfl (.cons .rfl (.cons .rfl .nil))))) .nil))) ?_
    obtain rfl := sj hm
    exact DW.ret (retK [roTask []] [100000] (.tup [.agg [.p (slNode []), pI 0, ow 0 0, pI 0], pI 6]))
   ·intro h6 hm
    refine Sk ?_
    obtain ⟨r7, hr7, hm⟩ := bo hm
    refine Sq (RD hnt (.no :: o22 [] true r7 :: nn 2 []) [2, 28] [(8, rr 1064)] [1016] [(1064, bx [ow 1248 r7.tree.nodes.length, pI r7.tree.next, ow 1249 r7.tasks.length, pI r7.next]), (1248, ob0 (roNode r7.tree.nodes)), (1249, ob0 (roTask r7.tasks))] (an (Copy_crewSpec p0 r7 hr7) tv) ?_)
    refine Sq (RD hnt (nn 3 []) [6] [] [1048, 1248] [(1064, bx [.p (slNode r3.1.nodes), pI r3.1.next, ow 1249 r7.tasks.length, pI r7.next])] tv ?_)
    refine Sq (RD hnt (nn 3 []) [8] [(5, pI 0)] [1064] [(1032, bx [.p (slNode r3.1.nodes), pI r3.1.next, ow 1249 r7.tasks.length, pI r7.next])] tv ?_)
    obtain rfl := sj hm
    exact DW.ret (retK [roTask r7.tasks] [1249] (.tup [.agg [.p (slNode r3.1.nodes), pI r3.1.next, ow 0 r7.tasks.length, pI r7.next], pI 0]))
abbrev o78 (ks : List Nat) (b : Bool) (RES : Hierarchy × Int) : Orc := .call 71 ks b (.tup [.agg [.p (slNode RES.1.tree.nodes), pI RES.1.tree.next, ow 0 RES.1.tasks.length, pI RES.1.next], pI RES.2]) [] [roTask RES.1.tasks]

theorem checked_memberSpec (p0 : Hierarchy) (RES : Hierarchy) (hm : checked_member p0 = some RES) : Spec Tryz.prog 100 [.p (.agg (encHierarchy p0))] [] (.p (.agg (encHierarchy RES))) [] [] := by
 unfold checked_member at hm
 refine SO Tryz.func100 rfl rfl [(0, .p (.agg (encHierarchy p0)))] [] ?_
 intro cx hnt
 refine Sq (RK hnt (nn 2 []) [(1, rr 1008), (2, rr 1016)] [(1008, bx (pm (encHierarchy p0))), (1016, bx [.p (.sl .nil 0 0 (fun _ => [])), pI 0, .p (.sl .nil 0 0 (fun _ => [])), pI 0])] tv ?_)
 obtain ⟨r1, hr1, hm⟩ := bo hm
 refine Sq (Sq (RD hnt (.no :: o7 [] true r1 :: .no :: []) [] [(5, pB (!r1))] [] [] (an (Check_memberSpec p0 r1 hr1) tv) ?_))
 refine condM hm ?_ ?_
 ·intro h2 hm
  refine Sq (RD hnt (nn 2 []) [1, 5] [] [1008] [] tv ?_)
  refine DW.conv (τ := mkSt [(2, rr 1016)] [(1016, bx [.p (slNode []), pI 0, .p (slTask []), pI 0])]) (Conv.tp [] [(1016, .box [.p (.sl .nil 0 0 (fun _ => [])), pI 0, .p (.sl .nil 0 0 (fun _ => [])), pI 0])] (by kernel_rfl) .nil (.cons rfl (.box (.cons MLe.nilL (.cons .rfl (.cons MLe.nilL (.cons .rfl .nil))))) .nil)) ?_
  obtain rfl := sj hm
  exact DW.ret (retK [] [] (.p (.agg [slNode [], vi 0, slTask [], vi 0])))
 ·intro h2 hm
  refine Sk ?_
  refine Sq (RK hnt (nn 2 []) [(2, rr 1016)] [(1016, bx (pm (encHierarchy p0)))] tv ?_)
  obtain rfl := sj hm
  exact DW.ret (retK [] [] (.p (.agg (encHierarchy p0))))
abbrev o109 (ks : List Nat) (b : Bool) (RES : Hierarchy) : Orc := .call 100 ks b (.p (.agg (encHierarchy RES))) [] []

theorem Tasks_memberSpec (p0 : Hierarchy) (p1 : Int) (RES : List Int) (hm : Tasks_member p0 p1 = some RES) : Spec Tryz.prog 46 [.p (.agg (encHierarchy p0)), pI p1] [] (.p (slI RES)) [] [] := by
 unfold Tasks_member at hm
 refine SO Tryz.func46 rfl rfl [(0, .p (.agg (encHierarchy p0))), (1, pI p1)] [] ?_
 intro cx hnt
 refine Sq (RK hnt (nn 2 []) [(1, pI p1), (2, rr 1016)] [(1016, bx (pm (encHierarchy p0)))] tv ?_)
 obtain ⟨r1, hr1, hm⟩ := bo hm
 obtain ⟨r2, hr2, hm⟩ := bo hm
 refine Sq (RK hnt (.no :: o109 [] true r1 :: .no :: o83 [] true r2 :: .no :: []) [(4, .p (slI r2))] [] (an (checked_memberSpec p0 r1 hr1) (an (Tasks_crewSpec r1 p1 r2 hr2) tv)) ?_)
 obtain rfl := sj hm
 exact DW.ret (retK [] [] (.p (slI r2)))
abbrev o108 (ks : List Nat) (b : Bool) (RES : List Int) : Orc := .call 46 ks b (.p (slI RES)) [] []

abbrev c112e1 (p0 : Tree) : Nat × Obj := (1016, bx (pm (encTree p0)))
theorem Subtree_forestSpec (p0 : Tree) (p1 : Int) (RES : List Int) (hm : Subtree_forest p0 p1 = some RES) : Spec Tryz.prog 141 [.p (.agg (encTree p0)), pI p1] [] (ow 0 RES.length) [] [roI RES] := by
 unfold Subtree_forest at hm
 refine SO Tryz.func141 rfl rfl [(0, .p (.agg (encTree p0))), (1, pI p1)] [] ?_
 intro cx hnt
 refine Sq (RK hnt (nn 2 []) [(1, pI p1), (2, rr 1016)] [(c112e1 p0)] tv ?_)
 obtain ⟨r1, hr1, hm⟩ := bo hm
 refine Sq (Sq (RD hnt (nn 2 (o18 [] true r1 :: .no :: [])) [] [(10, pB (decide (r1 < 0)))] [] [] (an (At_forestSpec p0 p1 r1 hr1) tv) ?_))
 refine condM hm ?_ ?_
 ·intro h2 hm
  refine Sq (RK hnt (.no :: []) [(4, .p (.sl .nil 0 0 (fun _ => [])))] [] tv ?_)
  refine DW.cv [] [(4, ow 100000 0)] [] [(100000, ob0 (roI []))] (Conv.ads [(.s 4, 100000, 1, elems encI 0 [])]) ?_
  obtain rfl := sj hm
  exact DW.ret (retK [roI []] [100000] (ow 0 0))
 ·intro h2 hm
  refine Sk ?_
  refine Sq (RD hnt (.no :: []) [10] [(5, .p (.sl .nil 0 0 (fun _ => [])))] [] [] tv ?_)
  refine Sq (Sq (RN hnt (nn 3 []) [(2, rr 1016), (5, .p (.sl .nil 0 0 (fun _ => []))), (6, ow 1096 [p1].length)] [(c112e1 p0), (1096, ob0 (roI [p1]))] [(6, ow 1096 1)] [(1096, .row 1 1 (cut 1 [vi p1]))] tv (by kernel_rfl) (.cons rfl (MLe.ownLen (enc := encI) (d := 0) (f := (cut 1 [vi p1])) (RowIs.lit (enc := encI) (d := 0) (n := 1) (f := (cut 1 [vi p1])) [p1] rfl (fun | 0, _ => rfl | n + 1, h => absurd h (by omega)))) .nil) (.cons rfl (BLe.typed (RowIs.lit (enc := encI) (d := 0) (n := 1) (f := (cut 1 [vi p1])) [p1] rfl (fun | 0, _ => rfl | n + 1, h => absurd h (by omega)))) .nil) ?_))
  refine Bk ?_
  refine DW.whileO (fun (s1 : (List Int) × (List Int)) => mkSt [(2, rr 1016), (5, ow 1232 s1.1.length), (6, .p (slI s1.2))] [(c112e1 p0), (1232, ob0 (roI s1.1))]) hm (Conv.trans (τ := mkSt [(2, rr 1016), (5, .p (.sl .nil 0 0 (fun _ => []))), (6, .p (slI [p1]))] [(c112e1 p0)]) (Conv.frz [1096]) (Conv.ads [(.s 5, 1232, 1, elems encI 0 [])])) ?_
  intro s1 n1 hm
  unfold Subtree_forestL1 at hm
  refine Sq (Sq (DW.regJ (sl2 := [(2, rr 1016), (5, ow 1232 s1.1.length), (6, .p (slI s1.2)), (23, pB ((decide (((s1.2.length : Nat) : Int) > 0)) && (decide (((s1.1.length : Nat) : Int) < ((p0.nodes.length : Nat) : Int)))))]) (ob2 := [(c112e1 p0), (1232, ob0 (roI s1.1))]) ?_ ?_))
  ·rcases bt (decide (((s1.2.length : Nat) : Int) > 0)) with h12 | h12
   ·exact RT hnt (nn 10 (pT :: [])) [(23, pB (decide (((s1.1.length : Nat) : Int) < ((p0.nodes.length : Nat) : Int))))] (an h12 (an6 h12 tv)) (by kernel_rfl) (.cons rfl (.of_eq (by rw [h12]; try rfl)) .nil)
   ·exact RT hnt (nn 4 (sk 6 (pF :: []))) [(23, pB false)] (an h12 (an6 h12 tv)) (by kernel_rfl) (.cons rfl (.of_eq (by rw [h12]; try rfl)) .nil)
  ·refine condM hm ?_ ?_
   ·intro h13 hm
    refine Sk ?_
    refine Bk ?_
    obtain ⟨g14, g15, hm⟩ := go2 hm
    refine Sq (RN hnt (nn 7 []) [(2, rr 1016), (5, ow 1232 (s1.1 ++ [(s1.2.getD 0 0)]).length), (6, .p (slI s1.2))] [(c112e1 p0), (1232, ob0 (roI (s1.1 ++ [(s1.2.getD 0 0)])))] [(5, ow 1232 (s1.1.length + 1))] [(1232, .row 1 (s1.1.length + 1) (catF s1.1.length (elI s1.1) (cut 1 [vi (s1.2.getD 0 0)])))] (an (nn0 0) (an (ltc g14) (an (by omega : (s1.1.length + 1) * 8 ≤ 140737488355328) tv))) (by kernel_rfl) (.cons rfl (MLe.ownLen (enc := encI) (d := 0) (f := (catF s1.1.length (elI s1.1) (cut 1 [vi (s1.2.getD 0 0)]))) (RowIs.cat RowIs.elems (RowIs.lit (enc := encI) (d := 0) (n := 1) (f := (cut 1 [vi (s1.2.getD 0 0)])) [(s1.2.getD 0 0)] rfl (fun | 0, _ => rfl | n + 1, h => absurd h (by omega))))) .nil) (.cons rfl (BLe.typed (RowIs.cat RowIs.elems (RowIs.lit (enc := encI) (d := 0) (n := 1) (f := (cut 1 [vi (s1.2.getD 0 0)])) [(s1.2.getD 0 0)] rfl (fun | 0, _ => rfl | n + 1, h => absurd h (by omega))))) .nil) ?_)
    obtain ⟨g16, hm⟩ := go1 hm
    obtain ⟨r17, hr17, hm⟩ := bo hm
    obtain ⟨g18, g19, hm⟩ := go2 hm
    refine RN hnt (nn 4 (o80 [] true r17 :: nn 4 [])) [(2, rr 1016), (5, ow 1232 (s1.1 ++ [(s1.2.getD 0 0)]).length), (6, ow 1272 (r17 ++ (s1.2.drop 1)).length)] [(c112e1 p0), (1232, ob0 (roI (s1.1 ++ [(s1.2.getD 0 0)]))), (1272, ob0 (roI (r17 ++ (s1.2.drop 1))))] [(6, ow 1272 (r17.length + (subN s1.2.length 1)))] [(1272, .row 1 (r17.length + (subN s1.2.length 1)) (catF r17.length (elI r17) (shF 1 (elI s1.2))))] (an (nn0 0) (an (ltc g16) (an (Children_forestSpec p0 (s1.2.getD 0 0) r17 hr17) (an (by omega : (0 : Int) ≤ 1) (an (by omega : 1 ≤ ((s1.2.length : Nat) : Int)) (an (by omega : ((s1.2.length : Nat) : Int) ≤ ((s1.2.length : Nat) : Int)) (an (by omega : (r17.length + (subN s1.2.length 1)) * 8 ≤ 140737488355328) tv))))))) (by kernel_rfl) (.cons rfl (MLe.ownLen (enc := encI) (d := 0) (f := (catF r17.length (elI r17) (shF 1 (elI s1.2)))) (RowIs.cat RowIs.elems (RowIs.elems.drop (subN_eq _ _) (by omega)))) .nil) (.cons rfl (BLe.typed (RowIs.cat RowIs.elems (RowIs.elems.drop (subN_eq _ _) (by omega)))) .nil) ?_
    refine DW.done ?_
    show DW _ _ _ _ _
    exact jD ((s1.1 ++ [(s1.2.getD 0 0)]), (r17 ++ (s1.2.drop 1))) hm (Conv.frz [1272])
   ·intro h13 hm
    refine DW.exit ?_
    refine joinQ_exit ?_
    refine KQ_exit ?_
    refine blockQ_exit ?_
    show DW _ _ _ _ _
    refine Sq (RK hnt (nn 2 []) [(4, ow 1232 s1.1.length)] [(1232, ob0 (roI s1.1))] tv ?_)
    obtain rfl := sj hm
    exact DW.ret (retK [roI s1.1] [1232] (ow 0 s1.1.length))
abbrev o112 (ks : List Nat) (b : Bool) (RES : List Int) : Orc := .call 141 ks b (ow 0 RES.length) [] [roI RES]

theorem Index_slices_intSpec (p0 : List Int) (p1 : Int) (RES : Int) (hm : Index_slices_int p0 p1 = some RES) : Spec Tryz.prog 166 [.p (slI p0), pI p1] [] (pI RES) [] [] := by
 unfold Index_slices_int at hm
 refine SO Tryz.func166 rfl rfl [(0, .p (slI p0)), (1, pI p1)] [] ?_
 intro cx hnt
 refine Sq (RD hnt (.no :: []) [] [] [] [] tv ?_)
 refine Sq (Sq (RD hnt (nn 3 []) [] [(7, pI ((p0.length : Nat) : Int)), (8, pI 0)] [] [] tv ?_))
 refine Bk ?_
 obtain ⟨hc1, hm⟩ := go1 hm
 refine DW.rangeO (fun (k1 : Nat) (s1 : Unit) => mkSt [(0, .p (slI p0)), (1, pI p1), (7, pI ((p0.length : Nat) : Int)), (8, pI ((k1 : Nat) : Int))] []) 0 hm Conv.eqK ?_
 intro k1 s1 n1 hk1 hs1 he1
 refine Sq (RD hnt (.no :: []) [] [(9, pB (decide (((k1 : Nat) : Int) < ((p0.length : Nat) : Int))))] [] [] tv ?_)
 refine Sq (condK (decide (((k1 : Nat) : Int) < ((p0.length : Nat) : Int))) ?_ ?_)
 ·intro h7
  have hlt1 : k1 < p0.length := by have := of_decide_eq_true h7; omega
  have hm := hs1 hlt1
  unfold Index_slices_intL1 at hm
  refine Sk ?_
  refine Sq (Bk ?_)
  refine Sq (RD hnt (nn 2 []) [9] [(5, pI ((k1 : Nat) : Int))] [] [] tv ?_)
  refine Sq (RD hnt (nn 6 []) [] [(16, pB (p1 == (p0.getD k1 0)))] [] [] (an (nn0 k1) (an (ltc hlt1) tv)) ?_)
  refine condM hm ?_ ?_
  ·intro h8 hm
   refine Sq (RK hnt (nn 2 []) [(4, pI ((k1 : Nat) : Int))] [] tv ?_)
   obtain rfl := sj hm
   exact DW.ret (retK [] [] (pI ((k1 : Nat) : Int)))
  ·intro h8 hm
   refine Sk ?_
   refine DW.done ?_
   show DW _ _ _ _ _
   refine RD hnt (nn 2 []) [5, 16] [(8, pI (w64 (((k1 : Nat) : Int) + 1)))] [] [] tv ?_
   exact jD () ⟨hlt1, hm⟩ (Conv.tp [(8, pI (w64 (((k1 : Nat) : Int) + 1)))] [] (by kernel_rfl) (.cons rfl (.of_eq (congrArg pI (w64_succ hlt1 hc1))) .nil) .nil)
 ·intro h7
  have hge1 : ¬ k1 < p0.length := by have := of_decide_eq_false h7; omega
  have hm := he1 hge1
  unfold Index_slices_intD1 at hm
  refine DW.exit ?_
  refine joinQ_exit ?_
  refine KQ_exit ?_
  refine blockQ_exit ?_
  show DW _ _ _ _ _
  refine Sq (RK hnt (.no :: []) [(4, pI (-1))] [] tv ?_)
  obtain rfl := sj hm
  exact DW.ret (retK [] [] (pI (-1)))
abbrev o114 (ks : List Nat) (b : Bool) (RES : Int) : Orc := .call 166 ks b (pI RES) [] []

theorem Contains_slices_intSpec (p0 : List Int) (p1 : Int) (RES : Bool) (hm : Contains_slices_int p0 p1 = some RES) : Spec Tryz.prog 142 [.p (slI p0), pI p1] [] (pB RES) [] [] := by
 unfold Contains_slices_int at hm
 refine SO Tryz.func142 rfl rfl [(0, .p (slI p0)), (1, pI p1)] [] ?_
 intro cx hnt
 refine Sq (RD hnt (.no :: []) [] [] [] [] tv ?_)
 obtain ⟨r1, hr1, hm⟩ := bo hm
 refine Sq (RK hnt (nn 2 (o114 [] true r1 :: nn 2 [])) [(4, pB (decide (r1 ≥ 0)))] [] (an (Index_slices_intSpec p0 p1 r1 hr1) tv) ?_)
 obtain rfl := sj hm
 exact DW.ret (retK [] [] (pB (decide (r1 ≥ 0))))
abbrev o113 (ks : List Nat) (b : Bool) (RES : Bool) : Orc := .call 142 ks b (pB RES) [] []

theorem Count_crewSpec (p0 : Hierarchy) (p1 : Int) (RES : Int) (hm : Count_crew p0 p1 = some RES) : Spec Tryz.prog 91 [.p (.agg (encHierarchy p0)), pI p1] [] (pI RES) [] [] := by
 unfold Count_crew at hm
 refine SO Tryz.func91 rfl rfl [(0, .p (.agg (encHierarchy p0))), (1, pI p1)] [] ?_
 intro cx hnt
 refine Sq (RK hnt (nn 2 []) [(1, pI p1), (2, rr 1016)] [(1016, bx (pm (encHierarchy p0)))] tv ?_)
 obtain ⟨r1, hr1, hm⟩ := bo hm
 refine Sq (RD hnt (nn 3 (o112 [] true r1 :: .no :: [])) [1] [(5, ow 1096 r1.length)] [] [(1096, ob0 (roI r1))] (an (Subtree_forestSpec p0.tree p1 r1 hr1) tv) ?_)
 refine Sq (RD hnt (.no :: []) [] [(6, pI 0)] [] [] tv ?_)
 refine Sq (Sq (RD hnt (nn 4 []) [2] [(14, .p (slTask p0.tasks)), (15, pI ((p0.tasks.length : Nat) : Int)), (16, pI 0)] [1016] [] tv ?_))
 refine Bk ?_
 obtain ⟨hc1, hm⟩ := go1 hm
 refine DW.rangeO (fun (k1 : Nat) (s1 : Int) => mkSt [(5, ow 1096 r1.length), (6, pI s1), (14, .p (slTask p0.tasks)), (15, pI ((p0.tasks.length : Nat) : Int)), (16, pI ((k1 : Nat) : Int))] [(1096, ob0 (roI r1))]) dTask hm Conv.eqK ?_
 intro k1 s1 n1 hk1 hs1 he1
 refine Sq (RD hnt (.no :: []) [] [(17, pB (decide (((k1 : Nat) : Int) < ((p0.tasks.length : Nat) : Int))))] [] [] tv ?_)
 refine Sq (condK (decide (((k1 : Nat) : Int) < ((p0.tasks.length : Nat) : Int))) ?_ ?_)
 ·intro h10
  have hlt1 : k1 < p0.tasks.length := by have := of_decide_eq_true h10; omega
  have hm := hs1 hlt1
  unfold Count_crewL1 at hm
  refine Sk ?_
  refine Sq ?_
  refine Jn (ι := Int) (fun (y3 : Int) => mkSt [(5, ow 1096 r1.length), (6, pI y3), (14, .p (slTask p0.tasks)), (15, pI ((p0.tasks.length : Nat) : Int)), (16, pI ((k1 : Nat) : Int))] [(1096, ob0 (roI r1))]) (fun y3 => (Count_crewJ3 n1) y3 = some RES) ?_ ?_
  ·intro y3 hm
   unfold Count_crewJ3 at hm
   refine RD hnt (nn 2 []) [] [(16, pI (w64 (((k1 : Nat) : Int) + 1)))] [] [] tv ?_
   exact jD y3 ⟨hlt1, hm⟩ (Conv.tp [(16, pI (w64 (((k1 : Nat) : Int) + 1)))] [] (by kernel_rfl) (.cons rfl (.of_eq (congrArg pI (w64_succ hlt1 hc1))) .nil) .nil)
  ·refine Bk ?_
   refine Sq (RD hnt (nn 4 []) [17] [(8, rr 1064)] [] [(1064, bx (pm (encTask (p0.tasks.getD k1 (default : Task)))))] (an (nn0 k1) (an (ltc hlt1) tv)) ?_)
   obtain ⟨r11, hr11, hm⟩ := bo hm
   refine Sq (RD hnt (nn 3 (o113 [] true r11 :: [])) [8] [(23, pB r11)] [1064] [] (an (Contains_slices_intSpec r1 (p0.tasks.getD k1 (default : Task)).group r11 hr11) tv) ?_)
   refine condM hm ?_ ?_
   ·intro h12 hm
    refine RD hnt (nn 3 []) [23] [(6, pI (w64 (s1 + 1)))] [] [] tv ?_
    exact bD (w64 (s1 + 1)) hm Conv.eqK
   ·intro h12 hm
    refine Sk ?_
    exact bD s1 hm Conv.t0
 ·intro h10
  have hge1 : ¬ k1 < p0.tasks.length := by have := of_decide_eq_false h10; omega
  have hm := he1 hge1
  unfold Count_crewD1 at hm
  refine DW.exit ?_
  refine joinQ_exit ?_
  refine KQ_exit ?_
  refine blockQ_exit ?_
  show DW _ _ _ _ _
  refine Sq (RK hnt (nn 2 []) [(4, pI s1)] [] tv ?_)
  obtain rfl := sj hm
  exact DW.ret (retK [] [] (pI s1))
abbrev o111 (ks : List Nat) (b : Bool) (RES : Int) : Orc := .call 91 ks b (pI RES) [] []

theorem Count_memberSpec (p0 : Hierarchy) (p1 : Int) (RES : Int) (hm : Count_member p0 p1 = some RES) : Spec Tryz.prog 58 [.p (.agg (encHierarchy p0)), pI p1] [] (pI RES) [] [] := by
 unfold Count_member at hm
 refine SO Tryz.func58 rfl rfl [(0, .p (.agg (encHierarchy p0))), (1, pI p1)] [] ?_
 intro cx hnt
 refine Sq (RK hnt (nn 2 []) [(1, pI p1), (2, rr 1016)] [(1016, bx (pm (encHierarchy p0)))] tv ?_)
 obtain ⟨r1, hr1, hm⟩ := bo hm
 obtain ⟨r2, hr2, hm⟩ := bo hm
 refine Sq (RK hnt (.no :: o109 [] true r1 :: .no :: o111 [] true r2 :: .no :: []) [(4, pI r2)] [] (an (checked_memberSpec p0 r1 hr1) (an (Count_crewSpec r1 p1 r2 hr2) tv)) ?_)
 obtain rfl := sj hm
 exact DW.ret (retK [] [] (pI r2))
abbrev o110 (ks : List Nat) (b : Bool) (RES : Int) : Orc := .call 58 ks b (pI RES) [] []

theorem Populated_memberSpec (p0 : Hierarchy) (p1 : Int) (RES : Bool) (hm : Populated_member p0 p1 = some RES) : Spec Tryz.prog 60 [.p (.agg (encHierarchy p0)), pI p1] [] (pB RES) [] [] := by
 unfold Populated_member at hm
 refine SO Tryz.func60 rfl rfl [(0, .p (.agg (encHierarchy p0))), (1, pI p1)] [] ?_
 intro cx hnt
 refine Sq (RK hnt (nn 2 []) [(1, pI p1), (2, rr 1016)] [(1016, bx (pm (encHierarchy p0)))] tv ?_)
 obtain ⟨r1, hr1, hm⟩ := bo hm
 refine Sq (RK hnt (nn 2 (o110 [] true r1 :: nn 2 [])) [(4, pB (decide (r1 > 0)))] [] (an (Count_memberSpec p0 p1 r1 hr1) tv) ?_)
 obtain rfl := sj hm
 exact DW.ret (retK [] [] (pB (decide (r1 > 0))))
abbrev o115 (ks : List Nat) (b : Bool) (RES : Bool) : Orc := .call 60 ks b (pB RES) [] []

abbrev c1e1 (s1 : Hierarchy × Dice) (k10 : Nat) := (s1.1.tree.nodes.getD k10 (default : Node))
abbrev c1e2 (s1 : Hierarchy × Dice) : Nat × Obj := (1032, bx (pm (encHierarchy s1.1)))
abbrev c1e3 (s1 : Hierarchy × Dice) : Nat × MV := (95, pI ((s1.1.tree.nodes.length : Nat) : Int))
theorem MemberSums_law6Spec (p0 : List Int) (RES : Bool) (hm : MemberSums_law6 p0 = some RES) : Spec Tryz.prog 11 [.p (slI p0)] [] (pB RES) [] [] := by
 unfold MemberSums_law6 at hm
 refine SO Tryz.func11 rfl rfl [(0, .p (slI p0))] [] ?_
 intro cx hnt
 refine Sq (RK hnt (.no :: []) [(0, .p (slI p0))] [] tv ?_)
 obtain ⟨r1, hr1, hm⟩ := bo hm
 refine Sq (Sq (RD hnt (.no :: o2 [] true r1 :: .no :: []) [] [(15, pB (!r1))] [] [] (an (Light_madeSpec p0 r1 hr1) tv) ?_))
 refine condM hm ?_ ?_
 ·intro h2 hm
  obtain ⟨r3, hr3, hm⟩ := bo hm
  refine Sq (RK hnt (o3 [] true r3 :: .no :: []) [(2, pB r3)] [] (an (sane_law6Spec r3 hr3) tv) ?_)
  obtain rfl := sj hm
  exact DW.ret (retK [] [] (pB r3))
 ·intro h2 hm
  refine Sk ?_
  obtain ⟨r4, hr4, hm⟩ := bo hm
  refine Sq (RK hnt (.no :: o30 [] true r4 :: .no :: []) [(3, rr 1144)] [(1144, bx (pm (encDice r4)))] (an (Roll_madeSpec p0 r4 hr4) tv) ?_)
  obtain ⟨r5, hr5, hm⟩ := bo hm
  refine Sq (RK hnt (.no :: o31 [1144] true r5 :: nn 2 []) [(3, rr 1144), (4, rr 1032)] [(1032, bx (pm (encHierarchy r5.1))), (1144, bx (pm (encDice r5.2)))] (an (Hierarchy_Dice_madeSpec r4 7 10 r5 hr5) (an tv tv)) ?_)
  refine Sq (Sq (RD hnt (.no :: []) [] [(5, pI 0)] [] [] tv ?_))
  refine Bk ?_
  refine DW.forO (fun (k1 : Int) (s1 : Hierarchy × Dice) => mkSt [(3, rr 1144), (4, rr 1032), (5, pI k1)] [(c1e2 s1), (1144, bx (pm (encDice s1.2)))]) (lo := 0) (hi := 4) hm Conv.eqK ?_
  intro k1 s1 n1 hk1 hs1 he1
  refine Sq (Sq (RD hnt (nn 2 []) [] [(22, pB (decide (k1 < 4)))] [] [] tv ?_))
  refine condK (decide (k1 < 4)) ?_ ?_
  ·intro h220
   have hlt1 : k1 < 4 := by have := of_decide_eq_true h220; omega
   have hm := hs1 hlt1
   unfold MemberSums_law6L1 at hm
   refine Sk ?_
   refine Sq ?_
   refine Jn (ι := Hierarchy × Dice) (fun (y29 : Hierarchy × Dice) => mkSt [(3, rr 1144), (4, rr 1032), (5, pI k1)] [(1032, bx (pm (encHierarchy y29.1))), (1144, bx (pm (encDice y29.2)))]) (fun y29 => (MemberSums_law6J29 n1) y29 = some RES) ?_ ?_
   ·intro y29 hm
    unfold MemberSums_law6J29 at hm
    refine RD hnt (nn 3 []) [] [(5, pI (w64 (k1 + 1)))] [] [] tv ?_
    exact jD (y29.1, y29.2) ⟨hlt1, hm⟩ (Conv.tp [(5, pI (w64 (k1 + 1)))] [] (by kernel_rfl) (.cons rfl (.of_eq (congrArg pI (w64_for (lo := 0) (hi := 4) (by omega) hk1 hlt1 (by omega)))) .nil) .nil)
   ·refine Bk ?_
    refine Sq (RD hnt (nn 4 []) [22] [(6, rr 1048), (7, pI 0)] [] [(1048, bx (pm (encHierarchy s1.1)))] tv ?_)
    obtain ⟨r221, hr221, hm⟩ := bo hm
    refine Sq (Sq (RD hnt (.no :: o35 [1144] true r221 :: []) [] [(27, pI r221.1)] [] [(1144, bx (pm (encDice r221.2)))] (an (Next_Dice_madeSpec s1.2 5 r221 hr221) (an tv tv)) ?_))
    refine Jn (ι := Hierarchy × Dice × Int) (fun (y30 : Hierarchy × Dice × Int) => mkSt [(3, rr 1144), (4, rr 1032), (5, pI k1), (6, rr 1048), (7, pI y30.2.2)] [(c1e2 s1), (1048, bx (pm (encHierarchy y30.1))), (1144, bx (pm (encDice y30.2.1)))]) (fun y30 => (MemberSums_law6J30 s1 n1) y30 = some RES) ?_ ?_
    ·intro y30 hm
     unfold MemberSums_law6J30 at hm
     refine Sq (Sq (RD hnt (nn 2 []) [7] [(87, pB (y30.2.2 != 0))] [] [] tv ?_))
     refine condM hm ?_ ?_
     ·intro h238 hm
      refine DW.exit ?_
      exact blockQ_exit (joinKQ (s1.1, y30.2.1) hm Conv.t0)
     ·intro h238 hm
      refine Sk ?_
      refine Sq (RD hnt (nn 2 []) [6, 87] [] [1048] [(1032, bx (pm (encHierarchy y30.1)))] tv ?_)
      obtain ⟨r239, hr239, hm⟩ := bo hm
      refine Sq (RD hnt (.no :: o56 [] true r239 :: .no :: []) [] [(91, pB (!r239))] [] [] (an (Check_ref6Spec y30.1 r239 hr239) tv) ?_)
      refine condM hm ?_ ?_
      ·intro h240 hm
       refine Sq (RK hnt (.no :: []) [(2, pB false)] [] tv ?_)
       obtain rfl := sj hm
       exact DW.ret (retK [] [] (pB false))
      ·intro h240 hm
       refine Sk ?_
       exact bD (y30.1, y30.2.1) hm Conv.t0
    ·refine Bk ?_
     refine Sq (RD hnt (nn 2 []) [] [(28, pB (r221.1 == 0))] [] [] tv ?_)
     refine condM hm ?_ ?_
     ·intro h222 hm
      obtain ⟨r223, hr223, hm⟩ := bo hm
      obtain ⟨r224, hr224, hm⟩ := bo hm
      refine RD hnt (nn 4 (o51 [1144] true r223 :: o6 [] true r224 :: nn 6 [])) [27, 28] [(7, pI r224.2.2)] [] [(1048, bx [ow 1288 r224.1.tree.nodes.length, pI r224.1.tree.next, ow 1289 r224.1.tasks.length, pI r224.1.next]), (1144, bx (pm (encDice r223.2))), (1288, ob0 (roNode r224.1.tree.nodes)), (1289, ob0 (roTask r224.1.tasks))] (an (Group_Dice_madeSpec r221.2 s1.1.tree r223 hr223) (an tv (an (Spawn_memberSpec s1.1 r223.1 1 r224 hr224) tv))) ?_
      exact bD (r224.1, r223.2, r224.2.2) hm (Conv.frz [1288, 1289])
     ·intro h222 hm
      refine Sq (RD hnt (nn 2 []) [28] [(40, pB (r221.1 == 1))] [] [] tv ?_)
      refine condM hm ?_ ?_
      ·intro h225 hm
       obtain ⟨r226, hr226, hm⟩ := bo hm
       obtain ⟨r227, hr227, hm⟩ := bo hm
       refine RD hnt (nn 3 (o72 [1144] true r226 :: o25 [] true r227 :: nn 6 [])) [27, 40] [(7, pI r227.2.2)] [] [(1048, bx [ow 1376 r227.1.tree.nodes.length, pI r227.1.tree.next, ow 1377 r227.1.tasks.length, pI r227.1.next]), (1144, bx (pm (encDice r226.2))), (1376, ob0 (roNode r227.1.tree.nodes)), (1377, ob0 (roTask r227.1.tasks))] (an (Task_Dice_madeSpec r221.2 s1.1 r226 hr226) (an tv (an (Clone_memberSpec s1.1 r226.1 r227 hr227) tv))) ?_
       exact bD (r227.1, r226.2, r227.2.2) hm (Conv.frz [1376, 1377])
      ·intro h225 hm
       refine Sq (RD hnt (nn 2 []) [40] [(51, pB (r221.1 == 2))] [] [] tv ?_)
       refine condM hm ?_ ?_
       ·intro h228 hm
        obtain ⟨r229, hr229, hm⟩ := bo hm
        obtain ⟨r230, hr230, hm⟩ := bo hm
        refine RD hnt (nn 3 (o72 [1144] true r229 :: o26 [] true r230 :: nn 5 [])) [27, 51] [(7, pI r230.2)] [] [(1048, bx [ow 1464 r230.1.tree.nodes.length, pI r230.1.tree.next, .p (slTask r230.1.tasks), pI r230.1.next]), (1144, bx (pm (encDice r229.2))), (1464, ob0 (roNode r230.1.tree.nodes))] (an (Task_Dice_madeSpec r221.2 s1.1 r229 hr229) (an tv (an (Exit_memberSpec s1.1 r229.1 r230 hr230) tv))) ?_
        exact bD (r230.1, r229.2, r230.2) hm (Conv.frz [1464])
       ·intro h228 hm
        refine Sq (RD hnt (nn 2 []) [51] [(61, pB (r221.1 == 3))] [] [] tv ?_)
        refine condM hm ?_ ?_
        ·intro h231 hm
         obtain ⟨r232, hr232, hm⟩ := bo hm
         obtain ⟨r233, hr233, hm⟩ := bo hm
         obtain ⟨r234, hr234, hm⟩ := bo hm
         refine RD hnt (nn 3 (o72 [1144] true r232 :: nn 3 (o51 [1144] true r233 :: o77 [] true r234 :: nn 5 []))) [27, 61] [(7, pI r234.2)] [] [(1048, bx [ow 1576 r234.1.tree.nodes.length, pI r234.1.tree.next, ow 1577 r234.1.tasks.length, pI r234.1.next]), (1144, bx (pm (encDice r233.2))), (1576, ob0 (roNode r234.1.tree.nodes)), (1577, ob0 (roTask r234.1.tasks))] (an (Task_Dice_madeSpec r221.2 s1.1 r232 hr232) (an tv (an (Group_Dice_madeSpec r232.2 s1.1.tree r233 hr233) (an tv (an (Place_memberSpec s1.1 r232.1 r233.1 r234 hr234) tv))))) ?_
         exact bD (r234.1, r233.2, r234.2) hm (Conv.frz [1576, 1577])
        ·intro h231 hm
         refine Sq (RD hnt (nn 2 []) [27, 61] [(75, pB (r221.1 == 4))] [] [] tv ?_)
         refine condM hm ?_ ?_
         ·intro h235 hm
          obtain ⟨r236, hr236, hm⟩ := bo hm
          obtain ⟨r237, hr237, hm⟩ := bo hm
          refine RK hnt (nn 4 (o51 [1144] true r236 :: o78 [] true r237 :: nn 5 [])) [(3, rr 1144), (4, rr 1032), (5, pI k1), (6, rr 1048), (7, pI r237.2)] [(c1e2 s1), (1048, bx [.p (slNode r237.1.tree.nodes), pI r237.1.tree.next, ow 1664 r237.1.tasks.length, pI r237.1.next]), (1144, bx (pm (encDice r236.2))), (1664, ob0 (roTask r237.1.tasks))] (an (Group_Dice_madeSpec r221.2 s1.1.tree r236 hr236) (an tv (an (Remove_memberSpec s1.1 r236.1 r237 hr237) tv))) ?_
          exact bD (r237.1, r236.2, r237.2) hm (Conv.frz [1664])
         ·intro h235 hm
          refine Sk ?_
          exact bD (s1.1, r221.2, 0) hm Conv.t0
  ·intro h220
   have hge1 : ¬ k1 < 4 := by have := of_decide_eq_false h220; omega
   have hm := he1 hge1
   unfold MemberSums_law6D1 at hm
   refine DW.exit ?_
   refine joinQ_exit ?_
   refine KQ_exit ?_
   refine blockQ_exit ?_
   show DW _ _ _ _ _
   refine Sq (Sq (RD hnt (nn 5 []) [3, 5, 22] [(c1e3 s1), (96, pI 0)] [1144] [] tv ?_))
   refine Bk ?_
   obtain ⟨hc10, hm⟩ := go1 hm
   refine DW.rangeO (fun (k10 : Nat) (s10 : Unit) => mkSt [(4, rr 1032), (c1e3 s1), (96, pI ((k10 : Nat) : Int))] [(c1e2 s1)]) dNode hm Conv.eqK ?_
   intro k10 s10 n10 hk10 hs10 he10
   refine Sq (RD hnt (.no :: []) [] [(97, pB (decide (((k10 : Nat) : Int) < ((s1.1.tree.nodes.length : Nat) : Int))))] [] [] tv ?_)
   refine Sq (condK (decide (((k10 : Nat) : Int) < ((s1.1.tree.nodes.length : Nat) : Int))) ?_ ?_)
   ·intro h299
    have hlt10 : k10 < s1.1.tree.nodes.length := by have := of_decide_eq_true h299; omega
    have hm := hs10 hlt10
    unfold MemberSums_law6L10 at hm
    refine Sk ?_
    refine Sq (Bk ?_)
    refine Sq (RD hnt (nn 2 []) [97] [(8, pI ((k10 : Nat) : Int))] [] [] tv ?_)
    refine Sq (RD hnt (nn 8 []) [8] [(9, pI (c1e1 s1 k10).id)] [] [] (an (nn0 k10) (an (ltc hlt10) tv)) ?_)
    obtain ⟨r300, hr300, hm⟩ := bo hm
    refine Sq (RD hnt (nn 2 (o108 [] true r300 :: nn 2 [])) [] [(10, pI ((r300.length : Nat) : Int))] [] [] (an (Tasks_memberSpec s1.1 (c1e1 s1 k10).id r300 hr300) tv) ?_)
    obtain ⟨r301, hr301, hm⟩ := bo hm
    refine Sq (Sq (RD hnt (nn 3 (o49 [] true r301 :: nn 2 [])) [] [(113, ow 1904 r301.length), (114, pI ((r301.length : Nat) : Int)), (115, pI 0)] [] [(1904, ob0 (roI r301))] (an (Children_ref5Spec s1.1.tree (c1e1 s1 k10).id r301 hr301) tv) ?_))
    refine Bk ?_
    obtain ⟨hc13, hm⟩ := go1 hm
    refine DW.rangeO (fun (k13 : Nat) (s13 : Int) => mkSt [(4, rr 1032), (9, pI (c1e1 s1 k10).id), (10, pI s13), (c1e3 s1), (96, pI ((k10 : Nat) : Int)), (113, ow 1904 r301.length), (114, pI ((r301.length : Nat) : Int)), (115, pI ((k13 : Nat) : Int))] [(c1e2 s1), (1904, ob0 (roI r301))]) 0 hm Conv.eqK ?_
    intro k13 s13 n13 hk13 hs13 he13
    refine Sq (RD hnt (.no :: []) [] [(116, pB (decide (((k13 : Nat) : Int) < ((r301.length : Nat) : Int))))] [] [] tv ?_)
    refine Sq (condK (decide (((k13 : Nat) : Int) < ((r301.length : Nat) : Int))) ?_ ?_)
    ·intro h318
     have hlt13 : k13 < r301.length := by have := of_decide_eq_true h318; omega
     have hm := hs13 hlt13
     unfold MemberSums_law6L13 at hm
     refine Sk ?_
     refine Sq (Bk ?_)
     refine Sq (RD hnt (nn 3 []) [116] [(12, pI (r301.getD k13 0))] [] [] (an (nn0 k13) (an (ltc hlt13) (an (by omega : k13 < r301.length) tv))) ?_)
     obtain ⟨r319, hr319, hm⟩ := bo hm
     refine RD hnt (nn 3 (o110 [] true r319 :: nn 2 [])) [12] [(10, pI (w64 (s13 + r319)))] [] [] (an (Count_memberSpec s1.1 (r301.getD k13 0) r319 hr319) tv) ?_
     refine DW.done ?_
     show DW _ _ _ _ _
     refine RD hnt (nn 2 []) [] [(115, pI (w64 (((k13 : Nat) : Int) + 1)))] [] [] tv ?_
     exact jD (w64 (s13 + r319)) ⟨hlt13, hm⟩ (Conv.tp [(115, pI (w64 (((k13 : Nat) : Int) + 1)))] [] (by kernel_rfl) (.cons rfl (.of_eq (congrArg pI (w64_succ hlt13 hc13))) .nil) .nil)
    ·intro h318
     have hge13 : ¬ k13 < r301.length := by have := of_decide_eq_false h318; omega
     have hm := he13 hge13
     unfold MemberSums_law6D13 at hm
     refine DW.exit ?_
     refine joinQ_exit ?_
     refine KQ_exit ?_
     refine blockQ_exit ?_
     show DW _ _ _ _ _
     obtain ⟨r320, hr320, hm⟩ := bo hm
     refine Sq ?_
     refine Jn (ι := Bool) (fun (y41 : Bool) => mkSt [(4, rr 1032), (c1e3 s1), (96, pI ((k10 : Nat) : Int)), (137, pB y41)] [(c1e2 s1)]) (fun y41 => (MemberSums_law6J41 n10) y41 = some RES) ?_ ?_
     ·intro y41 hm
      unfold MemberSums_law6J41 at hm
      refine condM hm ?_ ?_
      ·intro h323 hm
       refine Sq (RK hnt (.no :: []) [(2, pB false)] [] tv ?_)
       obtain rfl := sj hm
       exact DW.ret (retK [] [] (pB false))
      ·intro h323 hm
       refine Sk ?_
       refine DW.done ?_
       show DW _ _ _ _ _
       refine RD hnt (nn 2 []) [137] [(96, pI (w64 (((k10 : Nat) : Int) + 1)))] [] [] tv ?_
       exact jD () ⟨hlt10, hm⟩ (Conv.tp [(96, pI (w64 (((k10 : Nat) : Int) + 1)))] [] (by kernel_rfl) (.cons rfl (.of_eq (congrArg pI (w64_succ hlt10 hc10))) .nil) .nil)
     ·rcases bt (s13 != r320) with h321 | h321
      ·replace hm := if_t h321 hm
       refine RD hnt (nn 3 (o110 [] true r320 :: nn 2 (sk 6 (pT :: [])))) [9, 10, 113, 114, 115, 116] [(137, pB true)] [1904] [] (an (Count_memberSpec s1.1 (c1e1 s1 k10).id r320 hr320) (an h321 (an6 h321 tv))) ?_
       exact jD true hm Conv.eqK
      ·replace hm := if_f h321 hm
       obtain ⟨r322, hr322, hm⟩ := bo hm
       refine RD hnt (nn 3 (o110 [] true r320 :: nn 4 (o115 [] true r322 :: nn 3 (pF :: [])))) [9, 10, 113, 114, 115, 116] [(137, pB (r322 != (decide (s13 > 0))))] [1904] [] (an (Count_memberSpec s1.1 (c1e1 s1 k10).id r320 hr320) (an3 h321 (an (Populated_memberSpec s1.1 (c1e1 s1 k10).id r322 hr322) (an4 h321 tv)))) ?_
       exact jD (r322 != (decide (s13 > 0))) hm Conv.eqK
   ·intro h299
    have hge10 : ¬ k10 < s1.1.tree.nodes.length := by have := of_decide_eq_false h299; omega
    have hm := he10 hge10
    unfold MemberSums_law6D10 at hm
    refine DW.exit ?_
    refine joinQ_exit ?_
    refine KQ_exit ?_
    refine blockQ_exit ?_
    show DW _ _ _ _ _
    obtain ⟨r324, hr324, hm⟩ := bo hm
    refine Sq ?_
    refine Jn (ι := Bool) (fun (y42 : Bool) => mkSt [(2, pB y42)] []) (fun y42 => MemberSums_law6J42 y42 = some RES) ?_ ?_
    ·intro y42 hm
     unfold MemberSums_law6J42 at hm
     obtain rfl := sj hm
     exact DW.ret (retK [] [] (pB y42))
    ·rcases bt (r324 == ((s1.1.tasks.length : Nat) : Int)) with h325 | h325
     ·replace hm := if_t h325 hm
      obtain ⟨r326, hr326, hm⟩ := bo hm
      refine RK hnt (.no :: o110 [] true r324 :: nn 5 (o3 [] true r326 :: pT :: .no :: [])) [(2, pB r326)] [] (an (Count_memberSpec s1.1 1 r324 hr324) (an h325 (an (sane_law6Spec r326 hr326) (an h325 tv)))) ?_
      exact jD r326 hm .refl
     ·replace hm := if_f h325 hm
      refine RK hnt (.no :: o110 [] true r324 :: nn 5 (.skip :: pF :: .no :: [])) [(2, pB false)] [] (an (Count_memberSpec s1.1 1 r324 hr324) (an2 h325 tv)) ?_
      exact jD false hm .refl
abbrev o1 (ks : List Nat) (b : Bool) (RES : Bool) : Orc := .call 11 ks b (pB RES) [] []
end Go.Dm

