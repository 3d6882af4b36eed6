/- Texts of the proof of ThreadedCreates: the data machine, the models of the Go functions, their contracts. -/
import Derived.Test.YthklkmlhjfjgeaaGreatThreadedCreatesA3
set_option linter.unusedVariables false
set_option linter.unusedSimpArgs false
/- Go functions compute their models, printed by a program. -/
namespace Go.Dm
open Go.Proofs
set_option linter.unusedVariables false
abbrev c45e1 (p0 : List Int) (p1 : Int) (p3 : Int) := ((p0.set (Int.toNat p1) (p0.getD (Int.toNat p3) 0)).set (Int.toNat p3) (p0.getD (Int.toNat p1) 0))
abbrev c45e2 (p0 : List Int) (p1 : Int) (p3 : Int) (s1 : Int) (s17 : Int) := (updF (updF (elI (c45e1 p0 p1 p3)) (Int.toNat s1) [vi ((c45e1 p0 p1 p3).getD (Int.toNat s17) 0)]) (Int.toNat s17) (setRange ((updF (elI (c45e1 p0 p1 p3)) (Int.toNat s1) [vi ((c45e1 p0 p1 p3).getD (Int.toNat s17) 0)]) (Int.toNat s17)) 0 [vi ((c45e1 p0 p1 p3).getD (Int.toNat s1) 0)]))
abbrev c45e3 (p0 : List Int) (p1 : Int) (p3 : Int) := (updF (updF (elI p0) (Int.toNat p1) [vi (p0.getD (Int.toNat p3) 0)]) (Int.toNat p3) (setRange ((updF (elI p0) (Int.toNat p1) [vi (p0.getD (Int.toNat p3) 0)]) (Int.toNat p3)) 0 [vi (p0.getD (Int.toNat p1) 0)]))
abbrev c45e4 (s25 : (List Int) × Int × Int) (s29 : Int) (s31 : Int) := (updF (updF (elI s25.1) (Int.toNat s29) [vi (s25.1.getD (Int.toNat s31) 0)]) (Int.toNat s31) (setRange ((updF (elI s25.1) (Int.toNat s29) [vi (s25.1.getD (Int.toNat s31) 0)]) (Int.toNat s31)) 0 [vi (s25.1.getD (Int.toNat s29) 0)]))
abbrev c45e5 (s25 : (List Int) × Int × Int) (s29 : Int) (s31 : Int) := ((s25.1.set (Int.toNat s29) (s25.1.getD (Int.toNat s31) 0)).set (Int.toNat s31) (s25.1.getD (Int.toNat s29) 0))
theorem partitionOrdered_slices_intSpec (p0 : List Int) (p1 : Int) (p2 : Int) (p3 : Int) (RES : Int × Bool × (List Int)) (hm : partitionOrdered_slices_int p0 p1 p2 p3 = some RES) : Spec Tryz.prog 182 [ow 0 p0.length, pI p1, pI p2, pI p3] [roI p0] (.p (.tup [vi RES.1, vb RES.2.1])) [roI RES.2.2] [] := by
 unfold partitionOrdered_slices_int at hm
 refine SO Tryz.func182 rfl rfl [(0, ow 0 p0.length), (1, pI p1), (2, pI p2), (3, pI p3)] [(0, ob0 (roI p0))] ?_
 intro cx hnt
 refine Sq (RD hnt (nn 2 []) [] [] [] [] tv ?_)
 obtain ⟨g1, g2, g3, g4, hm⟩ := go4 hm
 obtain ⟨g5, g6, g7, g8, hm⟩ := go4 hm
 refine Sq (RN hnt (nn 16 []) [(0, ow 0 (c45e1 p0 p1 p3).length), (1, pI p1), (2, pI p2)] [(0, ob0 (roI (c45e1 p0 p1 p3)))] [(0, ow 0 p0.length)] [(0, .row 1 p0.length (c45e3 p0 p1 p3))] (an g1.1 (an g1.2 (an g2 (an g3.1 (an g3.2 (an g4 (an g5.1 (an g5.2 (an g6 (an g7.1 (an g7.2 (an g8 tv)))))))))))) (by kernel_rfl) (.cons rfl (MLe.ownLen (enc := encI) (d := 0) (f := (c45e3 p0 p1 p3)) (RowIs.updR (RowIs.upd RowIs.elems (p0.getD (Int.toNat p3) 0) rfl) (by omega) (p0.getD (Int.toNat p1) 0) rfl)) .nil) (.cons rfl (BLe.typed (RowIs.updR (RowIs.upd RowIs.elems (p0.getD (Int.toNat p3) 0) rfl) (by omega) (p0.getD (Int.toNat p1) 0) rfl)) .nil) ?_)
 refine Sq (RD hnt (nn 6 []) [2] [(10, pI (w64 (p1 + 1))), (11, pI (w64 (p2 - 1)))] [] [] tv ?_)
 refine Sq (Bk ?_)
 refine DW.whileO (fun (s1 : Int) => mkSt [(0, ow 0 (c45e1 p0 p1 p3).length), (1, pI p1), (10, pI s1), (11, pI (w64 (p2 - 1)))] [(0, ob0 (roI (c45e1 p0 p1 p3)))]) hm Conv.eqK ?_
 intro s1 n1 hm
 unfold partitionOrdered_slices_intL1 at hm
 refine Sq (Sq ?_)
 refine Jn (ι := Bool) (fun (y28 : Bool) => mkSt [(0, ow 0 (c45e1 p0 p1 p3).length), (1, pI p1), (10, pI s1), (11, pI (w64 (p2 - 1))), (43, pB y28)] [(0, ob0 (roI (c45e1 p0 p1 p3)))]) (fun y28 => (partitionOrdered_slices_intJ28 p0 p1 p2 p3 s1 n1) y28 = some RES) ?_ ?_
 ·intro y28 hm
  unfold partitionOrdered_slices_intJ28 at hm
  refine condM hm ?_ ?_
  ·intro h588 hm
   refine Sk ?_
   refine Bk ?_
   refine RD hnt (nn 3 []) [43] [(10, pI (w64 (s1 + 1)))] [] [] tv ?_
   refine DW.done ?_
   show DW _ _ _ _ _
   exact jD (w64 (s1 + 1)) hm Conv.eqK
  ·intro h588 hm
   refine DW.exit ?_
   refine joinQ_exit ?_
   refine KQ_exit ?_
   refine blockQ_exit ?_
   show DW _ _ _ _ _
   refine Sq (Bk ?_)
   refine DW.whileO (fun (s17 : Int) => mkSt [(0, ow 0 (c45e1 p0 p1 p3).length), (1, pI p1), (10, pI s1), (11, pI s17)] [(0, ob0 (roI (c45e1 p0 p1 p3)))]) hm Conv.t0 ?_
   intro s17 n17 hm
   unfold partitionOrdered_slices_intL17 at hm
   refine Sq (Sq ?_)
   refine Jn (ι := Bool) (fun (y42 : Bool) => mkSt [(0, ow 0 (c45e1 p0 p1 p3).length), (1, pI p1), (10, pI s1), (11, pI s17), (60, pB y42)] [(0, ob0 (roI (c45e1 p0 p1 p3)))]) (fun y42 => (partitionOrdered_slices_intJ42 p0 p1 p3 s1 s17 n17) y42 = some RES) ?_ ?_
   ·intro y42 hm
    unfold partitionOrdered_slices_intJ42 at hm
    refine condM hm ?_ ?_
    ·intro h875 hm
     refine Sk ?_
     refine Bk ?_
     refine RD hnt (nn 3 []) [60] [(11, pI (w64 (s17 - 1)))] [] [] tv ?_
     refine DW.done ?_
     show DW _ _ _ _ _
     exact jD (w64 (s17 - 1)) hm Conv.eqK
    ·intro h875 hm
     refine DW.exit ?_
     refine joinQ_exit ?_
     refine KQ_exit ?_
     refine blockQ_exit ?_
     show DW _ _ _ _ _
     refine Sq (Sq (RD hnt (nn 3 []) [60] [(65, pB (decide (s1 > s17)))] [] [] tv ?_))
     refine condM hm ?_ ?_
     ·intro h876 hm
      obtain ⟨g877, g878, g879, g880, hm⟩ := go4 hm
      obtain ⟨g881, g882, g883, g884, hm⟩ := go4 hm
      refine Sq (RN hnt (nn 16 []) [(11, pI s17)] [(0, ob0 (roI (((c45e1 p0 p1 p3).set (Int.toNat s17) ((c45e1 p0 p1 p3).getD (Int.toNat p1) 0)).set (Int.toNat p1) ((c45e1 p0 p1 p3).getD (Int.toNat s17) 0))))] [] [(0, .row 1 (c45e1 p0 p1 p3).length (updF (updF (elI (c45e1 p0 p1 p3)) (Int.toNat s17) [vi ((c45e1 p0 p1 p3).getD (Int.toNat p1) 0)]) (Int.toNat p1) (setRange ((updF (elI (c45e1 p0 p1 p3)) (Int.toNat s17) [vi ((c45e1 p0 p1 p3).getD (Int.toNat p1) 0)]) (Int.toNat p1)) 0 [vi ((c45e1 p0 p1 p3).getD (Int.toNat s17) 0)])))] (an g877.1 (an g877.2 (an g878 (an g879.1 (an g879.2 (an g880 (an g881.1 (an g881.2 (an g882 (an g883.1 (an g883.2 (an g884 tv)))))))))))) (by kernel_rfl) .nil (.cons rfl (BLe.typed (RowIs.updR (RowIs.upd RowIs.elems ((c45e1 p0 p1 p3).getD (Int.toNat p1) 0) rfl) (by omega) ((c45e1 p0 p1 p3).getD (Int.toNat s17) 0) rfl)) .nil) ?_)
      refine Sq (RD hnt (nn 3 []) [11] [(8, pI s17), (9, pB true)] [] [] tv ?_)
      obtain rfl := sj hm
      exact DW.ret (retK [roI (((c45e1 p0 p1 p3).set (Int.toNat s17) ((c45e1 p0 p1 p3).getD (Int.toNat p1) 0)).set (Int.toNat p1) ((c45e1 p0 p1 p3).getD (Int.toNat s17) 0))] [] (.p (.tup [vi s17, vb true])))
     ·intro h876 hm
      refine Sk ?_
      obtain ⟨g885, g886, g887, g888, hm⟩ := go4 hm
      obtain ⟨g889, g890, g891, g892, hm⟩ := go4 hm
      refine Sq (RN hnt (nn 16 []) [(0, ow 0 (((c45e1 p0 p1 p3).set (Int.toNat s1) ((c45e1 p0 p1 p3).getD (Int.toNat s17) 0)).set (Int.toNat s17) ((c45e1 p0 p1 p3).getD (Int.toNat s1) 0)).length), (1, pI p1), (10, pI s1), (11, pI s17)] [(0, ob0 (roI (((c45e1 p0 p1 p3).set (Int.toNat s1) ((c45e1 p0 p1 p3).getD (Int.toNat s17) 0)).set (Int.toNat s17) ((c45e1 p0 p1 p3).getD (Int.toNat s1) 0))))] [(0, ow 0 (c45e1 p0 p1 p3).length)] [(0, .row 1 (c45e1 p0 p1 p3).length (c45e2 p0 p1 p3 s1 s17))] (an g885.1 (an g885.2 (an g886 (an g887.1 (an g887.2 (an g888 (an g889.1 (an g889.2 (an g890 (an g891.1 (an g891.2 (an g892 tv)))))))))))) (by kernel_rfl) (.cons rfl (MLe.ownLen (enc := encI) (d := 0) (f := (c45e2 p0 p1 p3 s1 s17)) (RowIs.updR (RowIs.upd RowIs.elems ((c45e1 p0 p1 p3).getD (Int.toNat s17) 0) rfl) (by omega) ((c45e1 p0 p1 p3).getD (Int.toNat s1) 0) rfl)) .nil) (.cons rfl (BLe.typed (RowIs.updR (RowIs.upd RowIs.elems ((c45e1 p0 p1 p3).getD (Int.toNat s17) 0) rfl) (by omega) ((c45e1 p0 p1 p3).getD (Int.toNat s1) 0) rfl)) .nil) ?_)
      refine Sq (RD hnt (nn 3 []) [] [(10, pI (w64 (s1 + 1)))] [] [] tv ?_)
      refine Sq (RD hnt (nn 3 []) [] [(11, pI (w64 (s17 - 1)))] [] [] tv ?_)
      refine Sq (Bk ?_)
      refine DW.whileO (fun (s25 : (List Int) × Int × Int) => mkSt [(0, ow 0 s25.1.length), (1, pI p1), (10, pI s25.2.1), (11, pI s25.2.2)] [(0, ob0 (roI s25.1))]) hm Conv.eqK ?_
      intro s25 n25 hm
      unfold partitionOrdered_slices_intL25 at hm
      refine Bk ?_
      refine Sq (Bk ?_)
      refine DW.whileO (fun (s29 : Int) => mkSt [(0, ow 0 s25.1.length), (1, pI p1), (10, pI s29), (11, pI s25.2.2)] [(0, ob0 (roI s25.1))]) hm .refl ?_
      intro s29 n29 hm
      unfold partitionOrdered_slices_intL29 at hm
      refine Sq (Sq ?_)
      refine Jn (ι := Bool) (fun (y52 : Bool) => mkSt [(0, ow 0 s25.1.length), (1, pI p1), (10, pI s29), (11, pI s25.2.2), (112, pB y52)] [(0, ob0 (roI s25.1))]) (fun y52 => (partitionOrdered_slices_intJ52 p1 s25 n25 s29 n29) y52 = some RES) ?_ ?_
      ·intro y52 hm
       unfold partitionOrdered_slices_intJ52 at hm
       refine condM hm ?_ ?_
       ·intro h1088 hm
        refine Sk ?_
        refine Bk ?_
        refine RD hnt (nn 3 []) [112] [(10, pI (w64 (s29 + 1)))] [] [] tv ?_
        refine DW.done ?_
        show DW _ _ _ _ _
        exact jD (w64 (s29 + 1)) hm Conv.eqK
       ·intro h1088 hm
        refine DW.exit ?_
        refine joinQ_exit ?_
        refine KQ_exit ?_
        refine blockQ_exit ?_
        show DW _ _ _ _ _
        refine Sq (Bk ?_)
        refine DW.whileO (fun (s31 : Int) => mkSt [(0, ow 0 s25.1.length), (1, pI p1), (10, pI s29), (11, pI s31)] [(0, ob0 (roI s25.1))]) hm Conv.t0 ?_
        intro s31 n31 hm
        unfold partitionOrdered_slices_intL31 at hm
        refine Sq (Sq ?_)
        refine Jn (ι := Bool) (fun (y54 : Bool) => mkSt [(0, ow 0 s25.1.length), (1, pI p1), (10, pI s29), (11, pI s31), (129, pB y54)] [(0, ob0 (roI s25.1))]) (fun y54 => (partitionOrdered_slices_intJ54 p1 s25 n25 s29 s31 n31) y54 = some RES) ?_ ?_
        ·intro y54 hm
         unfold partitionOrdered_slices_intJ54 at hm
         refine condM hm ?_ ?_
         ·intro h1119 hm
          refine Sk ?_
          refine Bk ?_
          refine RD hnt (nn 3 []) [129] [(11, pI (w64 (s31 - 1)))] [] [] tv ?_
          refine DW.done ?_
          show DW _ _ _ _ _
          exact jD (w64 (s31 - 1)) hm Conv.eqK
         ·intro h1119 hm
          refine DW.exit ?_
          refine joinQ_exit ?_
          refine KQ_exit ?_
          refine blockQ_exit ?_
          show DW _ _ _ _ _
          refine Sq (Sq (RD hnt (nn 3 []) [129] [(134, pB (decide (s29 > s31)))] [] [] tv ?_))
          refine condM hm ?_ ?_
          ·intro h1120 hm
           refine DW.exit ?_
           refine blockQ_other (by decide) ?_
           refine KQ_exit ?_
           refine joinQ_exit ?_
           refine KQ_exit ?_
           refine blockQ_exit ?_
           show DW _ _ _ _ _
           obtain ⟨g1121, g1122, g1123, g1124, hm⟩ := go4 hm
           obtain ⟨g1125, g1126, g1127, g1128, hm⟩ := go4 hm
           refine Sq (RN hnt (nn 16 []) [(11, pI s31)] [(0, ob0 (roI ((s25.1.set (Int.toNat s31) (s25.1.getD (Int.toNat p1) 0)).set (Int.toNat p1) (s25.1.getD (Int.toNat s31) 0))))] [] [(0, .row 1 s25.1.length (updF (updF (elI s25.1) (Int.toNat s31) [vi (s25.1.getD (Int.toNat p1) 0)]) (Int.toNat p1) (setRange ((updF (elI s25.1) (Int.toNat s31) [vi (s25.1.getD (Int.toNat p1) 0)]) (Int.toNat p1)) 0 [vi (s25.1.getD (Int.toNat s31) 0)])))] (an g1121.1 (an g1121.2 (an g1122 (an g1123.1 (an g1123.2 (an g1124 (an g1125.1 (an g1125.2 (an g1126 (an g1127.1 (an g1127.2 (an g1128 tv)))))))))))) (by kernel_rfl) .nil (.cons rfl (BLe.typed (RowIs.updR (RowIs.upd RowIs.elems (s25.1.getD (Int.toNat p1) 0) rfl) (by omega) (s25.1.getD (Int.toNat s31) 0) rfl)) .nil) ?_)
           refine Sq (RD hnt (nn 3 []) [11] [(8, pI s31), (9, pB false)] [] [] tv ?_)
           obtain rfl := sj hm
           exact DW.ret (retK [roI ((s25.1.set (Int.toNat s31) (s25.1.getD (Int.toNat p1) 0)).set (Int.toNat p1) (s25.1.getD (Int.toNat s31) 0))] [] (.p (.tup [vi s31, vb false])))
          ·intro h1120 hm
           refine Sk ?_
           obtain ⟨g1129, g1130, g1131, g1132, hm⟩ := go4 hm
           obtain ⟨g1133, g1134, g1135, g1136, hm⟩ := go4 hm
           refine Sq (RN hnt (nn 16 []) [(0, ow 0 (c45e5 s25 s29 s31).length), (1, pI p1), (10, pI s29), (11, pI s31)] [(0, ob0 (roI (c45e5 s25 s29 s31)))] [(0, ow 0 s25.1.length)] [(0, .row 1 s25.1.length (c45e4 s25 s29 s31))] (an g1129.1 (an g1129.2 (an g1130 (an g1131.1 (an g1131.2 (an g1132 (an g1133.1 (an g1133.2 (an g1134 (an g1135.1 (an g1135.2 (an g1136 tv)))))))))))) (by kernel_rfl) (.cons rfl (MLe.ownLen (enc := encI) (d := 0) (f := (c45e4 s25 s29 s31)) (RowIs.updR (RowIs.upd RowIs.elems (s25.1.getD (Int.toNat s31) 0) rfl) (by omega) (s25.1.getD (Int.toNat s29) 0) rfl)) .nil) (.cons rfl (BLe.typed (RowIs.updR (RowIs.upd RowIs.elems (s25.1.getD (Int.toNat s31) 0) rfl) (by omega) (s25.1.getD (Int.toNat s29) 0) rfl)) .nil) ?_)
           refine Sq (RD hnt (nn 3 []) [] [(10, pI (w64 (s29 + 1)))] [] [] tv ?_)
           refine RD hnt (nn 3 []) [] [(11, pI (w64 (s31 - 1)))] [] [] tv ?_
           refine DW.done ?_
           show DW _ _ _ _ _
           exact jD ((c45e5 s25 s29 s31), (w64 (s29 + 1)), (w64 (s31 - 1))) hm Conv.eqK
        ·rcases bt (decide (s29 ≤ s31)) with h1113 | h1113
         ·replace hm := if_t h1113 hm
          obtain ⟨g1114, g1115, g1116, g1117, hm⟩ := go4 hm
          obtain ⟨r1118, hr1118, hm⟩ := bo hm
          refine RD hnt (nn 12 (o34 [] true r1118 :: .no :: pT :: [])) [] [(129, pB (!r1118))] [] [] (an3 h1113 (an g1114.1 (an g1114.2 (an h1113 (an g1115 (an3 h1113 (an g1116.1 (an g1116.2 (an h1113 (an g1117 (an h1113 (an (Less_cmp_intSpec (s25.1.getD (Int.toNat s31) 0) (s25.1.getD (Int.toNat p1) 0) r1118 hr1118) (an2 h1113 tv))))))))))))) ?_
          exact jD (!r1118) hm Conv.eqK
         ·replace hm := if_f h1113 hm
          refine RD hnt (nn 4 (sk 10 (pF :: []))) [] [(129, pB false)] [] [] (an5 h1113 (an6 h1113 tv)) ?_
          exact jD false hm Conv.eqK
      ·rcases bt (decide (s29 ≤ s25.2.2)) with h1082 | h1082
       ·replace hm := if_t h1082 hm
        obtain ⟨g1083, g1084, g1085, g1086, hm⟩ := go4 hm
        obtain ⟨r1087, hr1087, hm⟩ := bo hm
        refine RD hnt (nn 12 (o34 [] true r1087 :: pT :: [])) [] [(112, pB r1087)] [] [] (an3 h1082 (an g1083.1 (an g1083.2 (an h1082 (an g1084 (an3 h1082 (an g1085.1 (an g1085.2 (an h1082 (an g1086 (an h1082 (an (Less_cmp_intSpec (s25.1.getD (Int.toNat s29) 0) (s25.1.getD (Int.toNat p1) 0) r1087 hr1087) (an h1082 tv))))))))))))) ?_
        exact jD r1087 hm Conv.eqK
       ·replace hm := if_f h1082 hm
        refine RD hnt (nn 4 (sk 9 (pF :: []))) [] [(112, pB false)] [] [] (an4 h1082 (an6 h1082 tv)) ?_
        exact jD false hm Conv.eqK
   ·rcases bt (decide (s1 ≤ s17)) with h869 | h869
    ·replace hm := if_t h869 hm
     obtain ⟨g870, g871, g872, g873, hm⟩ := go4 hm
     obtain ⟨r874, hr874, hm⟩ := bo hm
     refine RD hnt (nn 12 (o34 [] true r874 :: .no :: pT :: [])) [] [(60, pB (!r874))] [] [] (an3 h869 (an g870.1 (an g870.2 (an h869 (an g871 (an3 h869 (an g872.1 (an g872.2 (an h869 (an g873 (an h869 (an (Less_cmp_intSpec ((c45e1 p0 p1 p3).getD (Int.toNat s17) 0) ((c45e1 p0 p1 p3).getD (Int.toNat p1) 0) r874 hr874) (an2 h869 tv))))))))))))) ?_
     exact jD (!r874) hm Conv.eqK
    ·replace hm := if_f h869 hm
     refine RD hnt (nn 4 (sk 10 (pF :: []))) [] [(60, pB false)] [] [] (an5 h869 (an6 h869 tv)) ?_
     exact jD false hm Conv.eqK
 ·rcases bt (decide (s1 ≤ (w64 (p2 - 1)))) with h582 | h582
  ·replace hm := if_t h582 hm
   obtain ⟨g583, g584, g585, g586, hm⟩ := go4 hm
   obtain ⟨r587, hr587, hm⟩ := bo hm
   refine RD hnt (nn 12 (o34 [] true r587 :: pT :: [])) [] [(43, pB r587)] [] [] (an3 h582 (an g583.1 (an g583.2 (an h582 (an g584 (an3 h582 (an g585.1 (an g585.2 (an h582 (an g586 (an h582 (an (Less_cmp_intSpec ((c45e1 p0 p1 p3).getD (Int.toNat s1) 0) ((c45e1 p0 p1 p3).getD (Int.toNat p1) 0) r587 hr587) (an h582 tv))))))))))))) ?_
   exact jD r587 hm Conv.eqK
  ·replace hm := if_f h582 hm
   refine RD hnt (nn 4 (sk 9 (pF :: []))) [] [(43, pB false)] [] [] (an4 h582 (an6 h582 tv)) ?_
   exact jD false hm Conv.eqK
abbrev o45 (ks : List Nat) (b : Bool) (RES : Int × Bool × (List Int)) : Orc := .call 182 ks b (.p (.tup [vi RES.1, vb RES.2.1])) [roI RES.2.2] []

theorem nextPowerOfTwo_slicesSpec (p0 : Int) (RES : Int) (hm : nextPowerOfTwo_slices p0 = some RES) : Spec Tryz.prog 186 [pI p0] [] (.p (vk .u64 RES)) [] [] := by
 unfold nextPowerOfTwo_slices at hm
 refine SO Tryz.func186 rfl rfl [(0, pI p0)] [] ?_
 intro cx hnt
 refine Sq (RK hnt (.no :: []) [(0, pI p0)] [] tv ?_)
 obtain ⟨r1, hr1, hm⟩ := bo hm
 obtain ⟨g2, hm⟩ := go1 hm
 refine Sq (RK hnt (nn 2 (o30 [] true r1 :: nn 2 [])) [(2, .p (vk .u64 (kshl .u64 1 r1)))] [] (an (Len_bitsSpec (IntKind.u64.wrap p0) r1 hr1) (an g2 tv)) ?_)
 obtain rfl := sj hm
 exact DW.ret (retK [] [] (.p (vk .u64 (kshl .u64 1 r1))))
abbrev o47 (ks : List Nat) (b : Bool) (RES : Int) : Orc := .call 186 ks b (.p (vk .u64 RES)) [] []

theorem Next_xorshift_slicesSpec (p0 : Int) (RES : Int × Int) (hm : Next_xorshift_slices p0 = some RES) : Spec Tryz.prog 187 [rr 0] [.box [.p (vk .u64 p0)]] (.p (vk .u64 RES.1)) [.box [.p (vk .u64 RES.2)]] [] := by
 unfold Next_xorshift_slices at hm
 refine SO Tryz.func187 rfl rfl [(0, rr 0)] [(0, bx [.p (vk .u64 p0)])] ?_
 intro cx hnt
 refine Sq (RD hnt (.no :: []) [] [] [] [] tv ?_)
 refine Sq (RK hnt (nn 10 []) [(0, rr 0)] [(0, bx [.p (vk .u64 (kxor .u64 p0 (kshl .u64 p0 13)))])] (an (by decide : (0 : Int) ≤ 13) tv) ?_)
 refine Sq (RK hnt (nn 10 []) [(0, rr 0)] [(0, bx [.p (vk .u64 (kxor .u64 (kxor .u64 p0 (kshl .u64 p0 13)) (kshr .u64 (kxor .u64 p0 (kshl .u64 p0 13)) 7)))])] (an (by decide : (0 : Int) ≤ 7) tv) ?_)
 refine Sq (RK hnt (nn 10 []) [(0, rr 0)] [(0, bx [.p (vk .u64 (kxor .u64 (kxor .u64 (kxor .u64 p0 (kshl .u64 p0 13)) (kshr .u64 (kxor .u64 p0 (kshl .u64 p0 13)) 7)) (kshl .u64 (kxor .u64 (kxor .u64 p0 (kshl .u64 p0 13)) (kshr .u64 (kxor .u64 p0 (kshl .u64 p0 13)) 7)) 17)))])] (an (by decide : (0 : Int) ≤ 17) tv) ?_)
 refine Sq (RD hnt (nn 4 []) [0] [(2, .p (vk .u64 (kxor .u64 (kxor .u64 (kxor .u64 p0 (kshl .u64 p0 13)) (kshr .u64 (kxor .u64 p0 (kshl .u64 p0 13)) 7)) (kshl .u64 (kxor .u64 (kxor .u64 p0 (kshl .u64 p0 13)) (kshr .u64 (kxor .u64 p0 (kshl .u64 p0 13)) 7)) 17))))] [] [] tv ?_)
 obtain rfl := sj hm
 exact DW.ret (retK [.box [.p (vk .u64 (kxor .u64 (kxor .u64 (kxor .u64 p0 (kshl .u64 p0 13)) (kshr .u64 (kxor .u64 p0 (kshl .u64 p0 13)) 7)) (kshl .u64 (kxor .u64 (kxor .u64 p0 (kshl .u64 p0 13)) (kshr .u64 (kxor .u64 p0 (kshl .u64 p0 13)) 7)) 17)))]] [] (.p (vk .u64 (kxor .u64 (kxor .u64 (kxor .u64 p0 (kshl .u64 p0 13)) (kshr .u64 (kxor .u64 p0 (kshl .u64 p0 13)) 7)) (kshl .u64 (kxor .u64 (kxor .u64 p0 (kshl .u64 p0 13)) (kshr .u64 (kxor .u64 p0 (kshl .u64 p0 13)) 7)) 17)))))
abbrev o48 (ks : List Nat) (b : Bool) (RES : Int × Int) : Orc := .call 187 ks b (.p (vk .u64 RES.1)) [.box [.p (vk .u64 RES.2)]] []

abbrev c46e1 (s1 : (List Int) × Int × Int) (p1 : Int) (y2 : Int) := (updF (updF (elI s1.1) (Int.toNat s1.2.2) [vi (s1.1.getD (Int.toNat (w64 (p1 + y2))) 0)]) (Int.toNat (w64 (p1 + y2))) (setRange ((updF (elI s1.1) (Int.toNat s1.2.2) [vi (s1.1.getD (Int.toNat (w64 (p1 + y2))) 0)]) (Int.toNat (w64 (p1 + y2)))) 0 [vi (s1.1.getD (Int.toNat s1.2.2) 0)]))
abbrev c46e2 (s1 : (List Int) × Int × Int) (p1 : Int) (y2 : Int) := ((s1.1.set (Int.toNat s1.2.2) (s1.1.getD (Int.toNat (w64 (p1 + y2))) 0)).set (Int.toNat (w64 (p1 + y2))) (s1.1.getD (Int.toNat s1.2.2) 0))
abbrev c46e3 (r15 : Int × Int) (r2 : Int) := (w64 (kand .u64 r15.1 (IntKind.u64.wrap (r2 - 1))))
theorem breakPatternsOrdered_slices_intSpec (p0 : List Int) (p1 : Int) (p2 : Int) (RES : List Int) (hm : breakPatternsOrdered_slices_int p0 p1 p2 = some RES) : Spec Tryz.prog 176 [ow 0 p0.length, pI p1, pI p2] [roI p0] (.p (.tup [])) [roI RES] [] := by
 unfold breakPatternsOrdered_slices_int at hm
 refine SO Tryz.func176 rfl rfl [(0, ow 0 p0.length), (1, pI p1), (2, pI p2)] [(0, ob0 (roI p0))] ?_
 intro cx hnt
 refine Sq (RD hnt (nn 4 []) [2] [(6, pI (w64 (p2 - p1)))] [] [] tv ?_)
 refine Sq (RD hnt (nn 2 []) [] [(15, pB (decide ((w64 (p2 - p1)) ≥ 8)))] [] [] tv ?_)
 refine condM hm ?_ ?_
 ·intro h1 hm
  refine Sq (RD hnt (nn 4 []) [15] [(7, rr 1056)] [] [(1056, bx [.p (vk .u64 (IntKind.u64.wrap (w64 (p2 - p1))))])] tv ?_)
  obtain ⟨r2, hr2, hm⟩ := bo hm
  refine Sq (RD hnt (.no :: o47 [] true r2 :: .no :: []) [] [(8, .p (vk .u64 r2))] [] [] (an (nextPowerOfTwo_slicesSpec (w64 (p2 - p1)) r2 hr2) tv) ?_)
  refine Sq (RD hnt (nn 7 []) [] [(9, pI (w64 ((w64 (p1 + (w64 ((w64 (Int.tdiv (w64 (p2 - p1)) 4)) * 2)))) - 1)))] [] [] (an (by decide : (4 : Int) ≠ 0) tv) ?_)
  refine Bk ?_
  refine DW.whileO (fun (s1 : (List Int) × Int × Int) => mkSt [(0, ow 0 s1.1.length), (1, pI p1), (6, pI (w64 (p2 - p1))), (7, rr 1056), (8, .p (vk .u64 r2)), (9, pI s1.2.2)] [(0, ob0 (roI s1.1)), (1056, bx [.p (vk .u64 s1.2.1)])]) hm Conv.eqK ?_
  intro s1 n1 hm
  unfold breakPatternsOrdered_slices_intL1 at hm
  refine Sq (Sq (RD hnt (nn 8 []) [] [(33, pB (decide (s1.2.2 ≤ (w64 ((w64 (p1 + (w64 ((w64 (Int.tdiv (w64 (p2 - p1)) 4)) * 2)))) + 1)))))] [] [] (an (by decide : (4 : Int) ≠ 0) tv) ?_))
  refine condM hm ?_ ?_
  ·intro h14 hm
   refine Sk ?_
   refine Sq (Bk ?_)
   obtain ⟨r15, hr15, hm⟩ := bo hm
   refine Sq (RD hnt (o48 [1056] true r15 :: nn 5 []) [33] [(10, pI (c46e3 r15 r2))] [] [(1056, bx [.p (vk .u64 r15.2)])] (an (Next_xorshift_slicesSpec s1.2.1 r15 hr15) (an tv tv)) ?_)
   refine Sq (Sq (RD hnt (nn 3 []) [] [(43, pB (decide ((c46e3 r15 r2) ≥ (w64 (p2 - p1)))))] [] [] tv ?_))
   refine Jn (ι := Int) (fun (y2 : Int) => mkSt [(0, ow 0 s1.1.length), (1, pI p1), (6, pI (w64 (p2 - p1))), (7, rr 1056), (8, .p (vk .u64 r2)), (9, pI s1.2.2), (10, pI y2)] [(0, ob0 (roI s1.1)), (1056, bx [.p (vk .u64 r15.2)])]) (fun y2 => (breakPatternsOrdered_slices_intJ2 p1 s1 n1 r15) y2 = some RES) ?_ ?_
   ·intro y2 hm
    unfold breakPatternsOrdered_slices_intJ2 at hm
    obtain ⟨g17, g18, g19, g20, hm⟩ := go4 hm
    obtain ⟨g21, g22, g23, g24, hm⟩ := go4 hm
    refine RN hnt (nn 20 []) [(0, ow 0 (c46e2 s1 p1 y2).length), (1, pI p1), (6, pI (w64 (p2 - p1))), (7, rr 1056), (8, .p (vk .u64 r2)), (9, pI s1.2.2)] [(0, ob0 (roI (c46e2 s1 p1 y2))), (1056, bx [.p (vk .u64 r15.2)])] [(0, ow 0 s1.1.length)] [(0, .row 1 s1.1.length (c46e1 s1 p1 y2))] (an g17.1 (an g17.2 (an g18 (an g19.1 (an g19.2 (an g20 (an g21.1 (an g21.2 (an g22 (an g23.1 (an g23.2 (an g24 tv)))))))))))) (by kernel_rfl) (.cons rfl (MLe.ownLen (enc := encI) (d := 0) (f := (c46e1 s1 p1 y2)) (RowIs.updR (RowIs.upd RowIs.elems (s1.1.getD (Int.toNat (w64 (p1 + y2))) 0) rfl) (by omega) (s1.1.getD (Int.toNat s1.2.2) 0) rfl)) .nil) (.cons rfl (BLe.typed (RowIs.updR (RowIs.upd RowIs.elems (s1.1.getD (Int.toNat (w64 (p1 + y2))) 0) rfl) (by omega) (s1.1.getD (Int.toNat s1.2.2) 0) rfl)) .nil) ?_
    refine DW.done ?_
    show DW _ _ _ _ _
    refine RD hnt (nn 3 []) [] [(9, pI (w64 (s1.2.2 + 1)))] [] [] tv ?_
    exact jD ((c46e2 s1 p1 y2), r15.2, (w64 (s1.2.2 + 1))) hm Conv.eqK
   ·refine condM hm ?_ ?_
    ·intro h16 hm
     refine RD hnt (nn 4 []) [43] [(10, pI (w64 ((c46e3 r15 r2) - (w64 (p2 - p1)))))] [] [] tv ?_
     exact jD (w64 ((c46e3 r15 r2) - (w64 (p2 - p1)))) hm Conv.eqK
    ·intro h16 hm
     refine Sk ?_
     exact jD (c46e3 r15 r2) hm Conv.t0
  ·intro h14 hm
   refine DW.exit ?_
   refine joinQ_exit ?_
   refine KQ_exit ?_
   refine blockQ_exit ?_
   show DW _ _ _ _ _
   refine DW.done ?_
   obtain rfl := sj hm
   exact endK [roI s1.1] [] (.p (.tup []))
 ·intro h1 hm
  refine Sk ?_
  refine DW.done ?_
  obtain rfl := sj hm
  exact endK [roI p0] [] (.p (.tup []))
abbrev o46 (ks : List Nat) (b : Bool) (RES : List Int) : Orc := .call 176 ks b (.p (.tup [])) [roI RES] []

abbrev c32e1 (s1 : (List Int) × Int × Int × Int × Bool × Bool) : Nat × MV := (10, pI (w64 (s1.2.2.1 - s1.2.1)))
abbrev c32e2 (s1 : (List Int) × Int × Int × Int × Bool × Bool) := (w64 (Int.tdiv (w64 (s1.2.2.1 - s1.2.1)) 8))
theorem pdqsortOrdered_slices_intBSpec (rec : (List Int) → Int → Int → Int → Option (List Int)) (ih : ∀ (p0 : List Int) (p1 : Int) (p2 : Int) (p3 : Int) (RES : List Int), rec p0 p1 p2 p3 = some RES → Spec Tryz.prog 168 [ow 0 p0.length, pI p1, pI p2, pI p3] [roI p0] (.p (.tup [])) [roI RES] []) (p0 : List Int) (p1 : Int) (p2 : Int) (p3 : Int) (RES : List Int) (hm : pdqsortOrdered_slices_intB rec p0 p1 p2 p3 = some RES) : Spec Tryz.prog 168 [ow 0 p0.length, pI p1, pI p2, pI p3] [roI p0] (.p (.tup [])) [roI RES] [] := by
 unfold pdqsortOrdered_slices_intB at hm
 refine SO Tryz.func168 rfl rfl [(0, ow 0 p0.length), (1, pI p1), (2, pI p2), (3, pI p3)] [(0, ob0 (roI p0))] ?_
 intro cx hnt
 refine Sq (RD hnt (.no :: []) [] [(8, pB true)] [] [] tv ?_)
 refine Sq (RD hnt (.no :: []) [] [(9, pB true)] [] [] tv ?_)
 refine Bk ?_
 refine DW.whileO (fun (s1 : (List Int) × Int × Int × Int × Bool × Bool) => mkSt [(0, ow 0 s1.1.length), (1, pI s1.2.1), (2, pI s1.2.2.1), (3, pI s1.2.2.2.1), (8, pB s1.2.2.2.2.1), (9, pB s1.2.2.2.2.2)] [(0, ob0 (roI s1.1))]) hm Conv.eqK ?_
 intro s1 n1 hm
 unfold pdqsortOrdered_slices_intL1 at hm
 refine Bk ?_
 refine Sq (RD hnt (nn 4 []) [] [(c32e1 s1)] [] [] tv ?_)
 refine Sq (Sq (RD hnt (nn 2 []) [] [(23, pB (decide ((w64 (s1.2.2.1 - s1.2.1)) ≤ 12)))] [] [] tv ?_))
 refine condM hm ?_ ?_
 ·intro h66 hm
  obtain ⟨r67, hr67, hm⟩ := bo hm
  obtain ⟨g68, hm⟩ := go1 hm
  refine Sq (RK hnt (nn 3 (o33 [0] true r67 :: [])) [] [(0, ob0 (roI r67))] (an (insertionSortOrdered_slices_intSpec s1.1 s1.2.1 s1.2.2.1 r67 hr67) (an (⟨rfl, g68⟩ : Body.same (roI s1.1) (roI r67)) tv)) ?_)
  obtain rfl := sj hm
  exact DW.ret (retK [roI r67] [] (.p (.tup [])))
 ·intro h66 hm
  refine Sk ?_
  refine Sq (Sq (RD hnt (nn 2 []) [23] [(29, pB (s1.2.2.2.1 == 0))] [] [] tv ?_))
  refine condM hm ?_ ?_
  ·intro h69 hm
   obtain ⟨r70, hr70, hm⟩ := bo hm
   obtain ⟨g71, hm⟩ := go1 hm
   refine Sq (RK hnt (nn 3 (o36 [0] true r70 :: [])) [] [(0, ob0 (roI r70))] (an (heapSortOrdered_slices_intSpec s1.1 s1.2.1 s1.2.2.1 r70 hr70) (an (⟨rfl, g71⟩ : Body.same (roI s1.1) (roI r70)) tv)) ?_)
   obtain rfl := sj hm
   exact DW.ret (retK [roI r70] [] (.p (.tup [])))
  ·intro h69 hm
   refine Sk ?_
   refine Sq (Sq (RD hnt (nn 2 []) [29] [(35, pB (!s1.2.2.2.2.1))] [] [] tv ?_))
   refine Jn (ι := (List Int) × Int) (fun (y8 : (List Int) × Int) => mkSt [(0, ow 0 y8.1.length), (1, pI s1.2.1), (2, pI s1.2.2.1), (3, pI y8.2), (8, pB s1.2.2.2.2.1), (9, pB s1.2.2.2.2.2), (c32e1 s1)] [(0, ob0 (roI y8.1))]) (fun y8 => (pdqsortOrdered_slices_intJ8 rec s1 n1) y8 = some RES) ?_ ?_
   ·intro y8 hm
    unfold pdqsortOrdered_slices_intJ8 at hm
    obtain ⟨r75, hr75, hm⟩ := bo hm
    refine Sq (RD hnt (nn 3 (o38 [] true r75 :: nn 5 [])) [] [(11, pI r75.1), (12, pI r75.2)] [] [] (an (choosePivotOrdered_slices_intSpec y8.1 s1.2.1 s1.2.2.1 r75 hr75) tv) ?_)
    refine Sq (Sq (RD hnt (nn 2 []) [] [(50, pB (r75.2 == 2))] [] [] tv ?_))
    refine Jn (ι := (List Int) × Int × Int) (fun (y9 : (List Int) × Int × Int) => mkSt [(0, ow 0 y9.1.length), (1, pI s1.2.1), (2, pI s1.2.2.1), (3, pI y8.2), (8, pB s1.2.2.2.2.1), (9, pB s1.2.2.2.2.2), (c32e1 s1), (11, pI y9.2.1), (12, pI y9.2.2)] [(0, ob0 (roI y9.1))]) (fun y9 => (pdqsortOrdered_slices_intJ9 rec s1 n1 y8) y9 = some RES) ?_ ?_
    ·intro y9 hm
     unfold pdqsortOrdered_slices_intJ9 at hm
     refine Sq (Sq (DW.regJ (sl2 := [(0, ow 0 y9.1.length), (1, pI s1.2.1), (2, pI s1.2.2.1), (3, pI y8.2), (8, pB s1.2.2.2.2.1), (9, pB s1.2.2.2.2.2), (c32e1 s1), (11, pI y9.2.1), (68, pB ((s1.2.2.2.2.1 && s1.2.2.2.2.2) && (y9.2.2 == 1)))]) (ob2 := [(0, ob0 (roI y9.1))]) ?_ ?_))
     ·rcases bt s1.2.2.2.2.1 with h79 | h79
      ·rcases bt s1.2.2.2.2.2 with h80 | h80
       ·exact RT hnt (nn 3 (pT :: nn 3 (pT :: []))) [(68, pB (y9.2.2 == 1))] (an2 h79 (an3 h80 tv)) (by kernel_rfl) (.cons rfl (.of_eq (by rw [h79, h80]; try rfl)) .nil)
       ·exact RT hnt (nn 3 (pT :: .no :: sk 2 (pF :: []))) [(68, pB false)] (an2 h79 (an3 h80 tv)) (by kernel_rfl) (.cons rfl (.of_eq (by rw [h79, h80]; try rfl)) .nil)
      ·exact RT hnt (nn 2 (.skip :: pF :: .no :: sk 2 (pF :: []))) [(68, pB false)] (an2 h79 (an3 ff tv)) (by kernel_rfl) (.cons rfl (.of_eq (by rw [h79]; try rfl)) .nil)
     ·refine Jn (ι := List Int) (fun (y10 : List Int) => mkSt [(0, ow 0 y10.length), (1, pI s1.2.1), (2, pI s1.2.2.1), (3, pI y8.2), (8, pB s1.2.2.2.2.1), (9, pB s1.2.2.2.2.2), (c32e1 s1), (11, pI y9.2.1)] [(0, ob0 (roI y10))]) (fun y10 => (pdqsortOrdered_slices_intJ10 rec s1 n1 y8 y9) y10 = some RES) ?_ ?_
      ·intro y10 hm
       unfold pdqsortOrdered_slices_intJ10 at hm
       refine Sq (Sq ?_)
       refine Jn (ι := Bool) (fun (y11 : Bool) => mkSt [(0, ow 0 y10.length), (1, pI s1.2.1), (2, pI s1.2.2.1), (3, pI y8.2), (8, pB s1.2.2.2.2.1), (9, pB s1.2.2.2.2.2), (c32e1 s1), (11, pI y9.2.1), (87, pB y11)] [(0, ob0 (roI y10))]) (fun y11 => (pdqsortOrdered_slices_intJ11 rec s1 n1 y8 y9 y10) y11 = some RES) ?_ ?_
       ·intro y11 hm
        unfold pdqsortOrdered_slices_intJ11 at hm
        refine condM hm ?_ ?_
        ·intro h91 hm
         obtain ⟨r92, hr92, hm⟩ := bo hm
         obtain ⟨g93, hm⟩ := go1 hm
         refine Sq (RN hnt (nn 4 (o44 [0] true r92 :: .no :: [])) [(0, ow 0 r92.2.length), (2, pI s1.2.2.1), (3, pI y8.2), (8, pB s1.2.2.2.2.1), (9, pB s1.2.2.2.2.2), (13, pI r92.1)] [(0, ob0 (roI r92.2))] [(0, ow 0 y10.length)] [] (an (partitionEqualOrdered_slices_intSpec y10 s1.2.1 s1.2.2.1 y9.2.1 r92 hr92) (an (⟨rfl, g93⟩ : Body.same (roI y10) (roI r92.2)) tv)) (by kernel_rfl) (.cons rfl (MLe.of_eq (congrArg (MV.own 0 0 0) g93)) .nil) .nil ?_)
         refine Sq (RD hnt (nn 2 []) [13] [(1, pI r92.1)] [] [] tv ?_)
         refine DW.exit ?_
         refine blockQ_exit ?_
         show DW _ _ _ _ _
         exact jD (r92.2, r92.1, s1.2.2.1, y8.2, s1.2.2.2.2.1, s1.2.2.2.2.2) hm Conv.eqK
        ·intro h91 hm
         refine Sk ?_
         obtain ⟨r94, hr94, hm⟩ := bo hm
         obtain ⟨g95, hm⟩ := go1 hm
         refine Sq (RN hnt (nn 4 (o45 [0] true r94 :: nn 5 [])) [(0, ow 0 r94.2.2.length), (1, pI s1.2.1), (2, pI s1.2.2.1), (3, pI y8.2), (c32e1 s1), (14, pI r94.1), (15, pB r94.2.1)] [(0, ob0 (roI r94.2.2))] [(0, ow 0 y10.length)] [] (an (partitionOrdered_slices_intSpec y10 s1.2.1 s1.2.2.1 y9.2.1 r94 hr94) (an (⟨rfl, g95⟩ : Body.same (roI y10) (roI r94.2.2)) tv)) (by kernel_rfl) (.cons rfl (MLe.of_eq (congrArg (MV.own 0 0 0) g95)) .nil) .nil ?_)
         refine Sq (RD hnt (nn 2 []) [15] [(9, pB r94.2.1)] [] [] tv ?_)
         refine Sq (RD hnt (nn 8 []) [] [(16, pI (w64 (r94.1 - s1.2.1))), (17, pI (w64 (s1.2.2.1 - r94.1)))] [] [] tv ?_)
         refine Sq (RD hnt (nn 3 []) [10] [(18, pI (c32e2 s1))] [] [] (an (by decide : (8 : Int) ≠ 0) tv) ?_)
         refine Sq (RD hnt (nn 3 []) [] [(113, pB (decide ((w64 (r94.1 - s1.2.1)) < (w64 (s1.2.2.1 - r94.1)))))] [] [] tv ?_)
         refine condM hm ?_ ?_
         ·intro h96 hm
          refine Sq (RD hnt (nn 4 []) [16, 17, 18, 113] [(8, pB (decide ((w64 (r94.1 - s1.2.1)) ≥ (c32e2 s1))))] [] [] tv ?_)
          obtain ⟨r97, hr97, hm⟩ := bo hm
          obtain ⟨g98, hm⟩ := go1 hm
          refine Sq (RN hnt (nn 4 (.call 168 [0] true (.p (.tup [])) [roI r97] [] :: [])) [(0, ow 0 r97.length), (2, pI s1.2.2.1), (3, pI y8.2), (8, pB (decide ((w64 (r94.1 - s1.2.1)) ≥ (c32e2 s1)))), (9, pB r94.2.1), (14, pI r94.1)] [(0, ob0 (roI r97))] [(0, ow 0 r94.2.2.length)] [] (an (ih r94.2.2 s1.2.1 r94.1 y8.2 r97 hr97) (an (⟨rfl, g98⟩ : Body.same (roI r94.2.2) (roI r97)) tv)) (by kernel_rfl) (.cons rfl (MLe.of_eq (congrArg (MV.own 0 0 0) g98)) .nil) .nil ?_)
          refine RD hnt (nn 3 []) [14] [(1, pI (w64 (r94.1 + 1)))] [] [] tv ?_
          refine DW.done ?_
          show DW _ _ _ _ _
          exact jD (r97, (w64 (r94.1 + 1)), s1.2.2.1, y8.2, (decide ((w64 (r94.1 - s1.2.1)) ≥ (c32e2 s1))), r94.2.1) hm Conv.eqK
         ·intro h96 hm
          refine Sq (RD hnt (nn 4 []) [16, 17, 18, 113] [(8, pB (decide ((w64 (s1.2.2.1 - r94.1)) ≥ (c32e2 s1))))] [] [] tv ?_)
          obtain ⟨r99, hr99, hm⟩ := bo hm
          obtain ⟨g100, hm⟩ := go1 hm
          refine Sq (RN hnt (nn 5 (.call 168 [0] true (.p (.tup [])) [roI r99] [] :: [])) [(0, ow 0 r99.length), (1, pI s1.2.1), (3, pI y8.2), (8, pB (decide ((w64 (s1.2.2.1 - r94.1)) ≥ (c32e2 s1)))), (9, pB r94.2.1), (14, pI r94.1)] [(0, ob0 (roI r99))] [(0, ow 0 r94.2.2.length)] [] (an (ih r94.2.2 (w64 (r94.1 + 1)) s1.2.2.1 y8.2 r99 hr99) (an (⟨rfl, g100⟩ : Body.same (roI r94.2.2) (roI r99)) tv)) (by kernel_rfl) (.cons rfl (MLe.of_eq (congrArg (MV.own 0 0 0) g100)) .nil) .nil ?_)
          refine RD hnt (nn 2 []) [14] [(2, pI r94.1)] [] [] tv ?_
          refine DW.done ?_
          show DW _ _ _ _ _
          exact jD (r99, s1.2.1, r94.1, y8.2, (decide ((w64 (s1.2.2.1 - r94.1)) ≥ (c32e2 s1))), r94.2.1) hm Conv.eqK
       ·rcases bt (decide (s1.2.1 > 0)) with h85 | h85
        ·replace hm := if_t h85 hm
         obtain ⟨g86, g87, g88, g89, hm⟩ := go4 hm
         obtain ⟨r90, hr90, hm⟩ := bo hm
         refine RD hnt (nn 12 (o34 [] true r90 :: .no :: pT :: [])) [] [(87, pB (!r90))] [] [] (an4 h85 (an g86.1 (an g86.2 (an h85 (an g87 (an3 h85 (an g88.1 (an g88.2 (an h85 (an g89 (an h85 (an (Less_cmp_intSpec (y10.getD (Int.toNat (w64 (s1.2.1 - 1))) 0) (y10.getD (Int.toNat y9.2.1) 0) r90 hr90) (an2 h85 tv))))))))))))) ?_
         exact jD (!r90) hm Conv.eqK
        ·replace hm := if_f h85 hm
         refine RD hnt (nn 3 (sk 11 (pF :: []))) [] [(87, pB false)] [] [] (an6 h85 (an6 h85 tv)) ?_
         exact jD false hm Conv.eqK
      ·refine condM hm ?_ ?_
       ·intro h81 hm
        obtain ⟨r82, hr82, hm⟩ := bo hm
        obtain ⟨g83, hm⟩ := go1 hm
        refine Sq (RN hnt (nn 3 (o43 [0] true r82 :: [])) [(0, ow 0 r82.2.length), (1, pI s1.2.1), (2, pI s1.2.2.1), (3, pI y8.2), (8, pB s1.2.2.2.2.1), (9, pB s1.2.2.2.2.2), (c32e1 s1), (11, pI y9.2.1), (72, pB r82.1)] [(0, ob0 (roI r82.2))] [(0, ow 0 y9.1.length)] [] (an (partialInsertionSortOrdered_slices_intSpec y9.1 s1.2.1 s1.2.2.1 r82 hr82) (an (⟨rfl, g83⟩ : Body.same (roI y9.1) (roI r82.2)) tv)) (by kernel_rfl) (.cons rfl (MLe.of_eq (congrArg (MV.own 0 0 0) g83)) .nil) .nil ?_)
        refine condM hm ?_ ?_
        ·intro h84 hm
         obtain rfl := sj hm
         exact DW.ret (retK [roI r82.2] [] (.p (.tup [])))
        ·intro h84 hm
         refine Sk ?_
         exact jD r82.2 hm Conv.t0
       ·intro h81 hm
        refine Sk ?_
        exact jD y9.1 hm Conv.t0
    ·refine condM hm ?_ ?_
     ·intro h76 hm
      obtain ⟨r77, hr77, hm⟩ := bo hm
      obtain ⟨g78, hm⟩ := go1 hm
      refine Sq (RN hnt (nn 3 (o42 [0] true r77 :: [])) [(0, ow 0 r77.length), (1, pI s1.2.1), (2, pI s1.2.2.1), (3, pI y8.2), (8, pB s1.2.2.2.2.1), (9, pB s1.2.2.2.2.2), (c32e1 s1), (11, pI r75.1)] [(0, ob0 (roI r77))] [(0, ow 0 y8.1.length)] [] (an (reverseRangeOrdered_slices_intSpec y8.1 s1.2.1 s1.2.2.1 r77 hr77) (an (⟨rfl, g78⟩ : Body.same (roI y8.1) (roI r77)) tv)) (by kernel_rfl) (.cons rfl (MLe.of_eq (congrArg (MV.own 0 0 0) g78)) .nil) .nil ?_)
      refine Sq (RD hnt (nn 7 []) [] [(11, pI (w64 ((w64 (s1.2.2.1 - 1)) - (w64 (r75.1 - s1.2.1)))))] [] [] tv ?_)
      refine RD hnt (.no :: []) [] [(12, pI 1)] [] [] tv ?_
      exact jD (r77, (w64 ((w64 (s1.2.2.1 - 1)) - (w64 (r75.1 - s1.2.1)))), 1) hm Conv.eqK
     ·intro h76 hm
      refine Sk ?_
      exact jD (y8.1, r75.1, r75.2) hm Conv.t0
   ·refine condM hm ?_ ?_
    ·intro h72 hm
     obtain ⟨r73, hr73, hm⟩ := bo hm
     obtain ⟨g74, hm⟩ := go1 hm
     refine Sq (RN hnt (nn 3 (o46 [0] true r73 :: [])) [(0, ow 0 r73.length), (1, pI s1.2.1), (2, pI s1.2.2.1), (3, pI s1.2.2.2.1), (8, pB s1.2.2.2.2.1), (9, pB s1.2.2.2.2.2), (c32e1 s1)] [(0, ob0 (roI r73))] [(0, ow 0 s1.1.length)] [] (an (breakPatternsOrdered_slices_intSpec s1.1 s1.2.1 s1.2.2.1 r73 hr73) (an (⟨rfl, g74⟩ : Body.same (roI s1.1) (roI r73)) tv)) (by kernel_rfl) (.cons rfl (MLe.of_eq (congrArg (MV.own 0 0 0) g74)) .nil) .nil ?_)
     refine RD hnt (nn 3 []) [] [(3, pI (w64 (s1.2.2.2.1 - 1)))] [] [] tv ?_
     exact jD (r73, (w64 (s1.2.2.2.1 - 1))) hm Conv.eqK
    ·intro h72 hm
     refine Sk ?_
     exact jD (s1.1, s1.2.2.2.1) hm Conv.t0
theorem pdqsortOrdered_slices_intFSpec : ∀ (n : Nat) (p0 : List Int) (p1 : Int) (p2 : Int) (p3 : Int) (RES : List Int), pdqsortOrdered_slices_intF n p0 p1 p2 p3 = some RES → Spec Tryz.prog 168 [ow 0 p0.length, pI p1, pI p2, pI p3] [roI p0] (.p (.tup [])) [roI RES] []
  | 0, p0, p1, p2, p3, RES, hm => by simp [pdqsortOrdered_slices_intF] at hm
  | n + 1, p0, p1, p2, p3, RES, hm => pdqsortOrdered_slices_intBSpec (pdqsortOrdered_slices_intF n) (pdqsortOrdered_slices_intFSpec n) p0 p1 p2 p3 RES hm
theorem pdqsortOrdered_slices_intSpec (p0 : List Int) (p1 : Int) (p2 : Int) (p3 : Int) (RES : List Int) (hm : pdqsortOrdered_slices_int p0 p1 p2 p3 = some RES) : Spec Tryz.prog 168 [ow 0 p0.length, pI p1, pI p2, pI p3] [roI p0] (.p (.tup [])) [roI RES] [] := pdqsortOrdered_slices_intFSpec FUEL p0 p1 p2 p3 RES hm
abbrev o32 (ks : List Nat) (b : Bool) (RES : List Int) : Orc := .call 168 ks b (.p (.tup [])) [roI RES] []

theorem Sort_slices_intSpec (p0 : List Int) (RES : List Int) (hm : Sort_slices_int p0 = some RES) : Spec Tryz.prog 161 [ow 0 p0.length] [roI p0] (.p (.tup [])) [roI RES] [] := by
 unfold Sort_slices_int at hm
 refine SO Tryz.func161 rfl rfl [(0, ow 0 p0.length)] [(0, ob0 (roI p0))] ?_
 intro cx hnt
 refine Sq (RD hnt (nn 3 []) [] [(2, pI ((p0.length : Nat) : Int))] [] [] tv ?_)
 obtain ⟨r1, hr1, hm⟩ := bo hm
 obtain ⟨r2, hr2, hm⟩ := bo hm
 obtain ⟨g3, hm⟩ := go1 hm
 refine RK hnt (nn 4 (o30 [] true r1 :: o32 [0] true r2 :: [])) [] [(0, ob0 (roI r2))] (an (Len_bitsSpec (IntKind.u64.wrap ((p0.length : Nat) : Int)) r1 hr1) (an (pdqsortOrdered_slices_intSpec p0 0 ((p0.length : Nat) : Int) r1 r2 hr2) (an (⟨rfl, g3⟩ : Body.same (roI p0) (roI r2)) tv))) ?_
 refine DW.done ?_
 obtain rfl := sj hm
 exact endK [roI r2] [] (.p (.tup []))
abbrev o29 (ks : List Nat) (b : Bool) (RES : List Int) : Orc := .call 161 ks b (.p (.tup [])) [roI RES] []

abbrev c49e1 (s4 : (List Int) × Int) (k1 : Int) (k4 : Int) := (s4.1.getD (addN (Int.toNat k1) (Int.toNat k4)) 0)
abbrev c49e2 (k1 : Int) (p0 : List Int) : Nat × MV := (4, .own 0 0 (Int.toNat k1) (subN p0.length (Int.toNat k1)))
abbrev c49e3 (s4 : (List Int) × Int) := (fillL s4.1 (Int.toNat s4.2) (subN s4.1.length (Int.toNat s4.2)) 0)
theorem Compact_slices_intSpec (p0 : List Int) (RES : Nat × (List Int)) (hm : Compact_slices_int p0 = some RES) : Spec Tryz.prog 162 [ow 0 p0.length] [roI p0] (ow 0 RES.1) [roI RES.2] [] := by
 unfold Compact_slices_int at hm
 refine SO Tryz.func162 rfl rfl [(0, ow 0 p0.length)] [(0, ob0 (roI p0))] ?_
 intro cx hnt
 refine Sq (RD hnt (.no :: []) [] [] [] [] tv ?_)
 refine Sq (Sq (RD hnt (nn 3 []) [] [(8, pB (decide (((p0.length : Nat) : Int) < 2)))] [] [] tv ?_))
 refine condM hm ?_ ?_
 ·intro h1 hm
  refine Sq (RK hnt (nn 2 []) [(2, ow 0 p0.length)] [(0, ob0 (roI p0))] tv ?_)
  obtain rfl := sj hm
  exact DW.ret (retK [roI p0] [] (ow 0 p0.length))
 ·intro h1 hm
  refine Sk ?_
  refine Sq (Sq (RD hnt (.no :: []) [8] [(3, pI 1)] [] [] tv ?_))
  refine Bk ?_
  obtain ⟨hc1, hm⟩ := go1 hm
  refine DW.forO (fun (k1 : Int) (s1 : Unit) => mkSt [(0, ow 0 p0.length), (3, pI k1)] [(0, ob0 (roI p0))]) (lo := 1) (hi := ((p0.length : Nat) : Int)) hm Conv.eqK ?_
  intro k1 s1 n1 hk1 hs1 he1
  refine Sq (Sq (RD hnt (nn 4 []) [] [(13, pB (decide (k1 < ((p0.length : Nat) : Int))))] [] [] tv ?_))
  refine condK (decide (k1 < ((p0.length : Nat) : Int))) ?_ ?_
  ·intro h94
   have hlt1 : k1 < ((p0.length : Nat) : Int) := by have := of_decide_eq_true h94; omega
   have hm := hs1 hlt1
   unfold Compact_slices_intL1 at hm
   refine Sk ?_
   refine Sq (Bk ?_)
   obtain ⟨g95, g96, g97, g98, hm⟩ := go4 hm
   refine Sq (RD hnt (nn 10 []) [13] [(25, pB ((p0.getD (Int.toNat k1) 0) == (p0.getD (Int.toNat (w64 (k1 - 1))) 0)))] [] [] (an g95.1 (an g95.2 (an g96 (an g97.1 (an g97.2 (an g98 tv)))))) ?_)
   refine condM hm ?_ ?_
   ·intro h99 hm
    obtain ⟨g100, hm⟩ := go1 hm
    refine Sq (RD hnt (nn 4 []) [25] [(c49e2 k1 p0)] [] [] (an (by omega : (0 : Int) ≤ k1) (an (by omega : k1 ≤ ((p0.length : Nat) : Int)) (an (by omega : ((p0.length : Nat) : Int) ≤ ((p0.length : Nat) : Int)) tv))) ?_)
    refine Sq (Sq (RD hnt (.no :: []) [] [(5, pI 1)] [] [] tv ?_))
    refine Bk ?_
    obtain ⟨hc4, hm⟩ := go1 hm
    refine DW.forO (fun (k4 : Int) (s4 : (List Int) × Int) => mkSt [(0, ow 0 s4.1.length), (3, pI s4.2), (c49e2 k1 p0), (5, pI k4)] [(0, ob0 (roI s4.1))]) (lo := 1) (hi := (((subN p0.length (Int.toNat k1)) : Nat) : Int)) hm Conv.eqK ?_
    intro k4 s4 n4 hk4 hs4 he4
    refine Sq (Sq (RD hnt (nn 4 []) [] [(32, pB (decide (k4 < (((subN p0.length (Int.toNat k1)) : Nat) : Int))))] [] [] tv ?_))
    refine condK (decide (k4 < (((subN p0.length (Int.toNat k1)) : Nat) : Int))) ?_ ?_
    ·intro h127
     have hlt4 : k4 < (((subN p0.length (Int.toNat k1)) : Nat) : Int) := by have := of_decide_eq_true h127; omega
     have hm := hs4 hlt4
     unfold Compact_slices_intL4 at hm
     refine Sk ?_
     refine Sq ?_
     refine Jn (ι := (List Int) × Int) (fun (y9 : (List Int) × Int) => mkSt [(0, ow 0 y9.1.length), (3, pI y9.2), (c49e2 k1 p0), (5, pI k4)] [(0, ob0 (roI y9.1))]) (fun y9 => (Compact_slices_intJ9 n4) y9 = some RES) ?_ ?_
     ·intro y9 hm
      unfold Compact_slices_intJ9 at hm
      refine RD hnt (nn 3 []) [] [(5, pI (w64 (k4 + 1)))] [] [] tv ?_
      exact jD (y9.1, y9.2) ⟨hlt4, hm⟩ (Conv.tp [(5, pI (w64 (k4 + 1)))] [] (by kernel_rfl) (.cons rfl (.of_eq (congrArg pI (w64_for (lo := 1) (hi := (((subN p0.length (Int.toNat k1)) : Nat) : Int)) (by omega) hk4 hlt4 (by omega)))) .nil) .nil)
     ·refine Bk ?_
      obtain ⟨g128, g129, g130, g131, hm⟩ := go4 hm
      refine Sq (RD hnt (nn 10 []) [32] [(44, pB ((c49e1 s4 k1 k4) != (s4.1.getD (addN (Int.toNat k1) (Int.toNat (w64 (k4 - 1)))) 0)))] [] [] (an g128.1 (an g128.2 (an g129 (an g130.1 (an g130.2 (an g131 tv)))))) ?_)
      refine condM hm ?_ ?_
      ·intro h132 hm
       obtain ⟨g133, g134, g135, g136, hm⟩ := go4 hm
       refine Sq (RN hnt (nn 8 []) [(0, ow 0 (s4.1.set (Int.toNat s4.2) (c49e1 s4 k1 k4)).length), (3, pI s4.2), (c49e2 k1 p0), (5, pI k4)] [(0, ob0 (roI (s4.1.set (Int.toNat s4.2) (c49e1 s4 k1 k4))))] [(0, ow 0 s4.1.length)] [(0, .row 1 s4.1.length (updF (elI s4.1) (Int.toNat s4.2) [vi (c49e1 s4 k1 k4)]))] (an g133.1 (an g133.2 (an g134 (an g135.1 (an g135.2 (an g136 tv)))))) (by kernel_rfl) (.cons rfl (MLe.ownLen (enc := encI) (d := 0) (f := (updF (elI s4.1) (Int.toNat s4.2) [vi (c49e1 s4 k1 k4)])) (RowIs.upd RowIs.elems (c49e1 s4 k1 k4) rfl)) .nil) (.cons rfl (BLe.typed (RowIs.upd RowIs.elems (c49e1 s4 k1 k4) rfl)) .nil) ?_)
       refine RD hnt (nn 3 []) [] [(3, pI (w64 (s4.2 + 1)))] [] [] tv ?_
       exact bD ((s4.1.set (Int.toNat s4.2) (c49e1 s4 k1 k4)), (w64 (s4.2 + 1))) hm Conv.eqK
      ·intro h132 hm
       refine Sk ?_
       exact bD (s4.1, s4.2) hm Conv.t0
    ·intro h127
     have hge4 : ¬ k4 < (((subN p0.length (Int.toNat k1)) : Nat) : Int) := by have := of_decide_eq_false h127; omega
     have hm := he4 hge4
     unfold Compact_slices_intD4 at hm
     refine DW.exit ?_
     refine joinQ_exit ?_
     refine KQ_exit ?_
     refine blockQ_exit ?_
     show DW _ _ _ _ _
     obtain ⟨g137, g138, hm⟩ := go2 hm
     refine Sq (RN hnt (nn 4 []) [(0, ow 0 (c49e3 s4).length), (3, pI s4.2)] [(0, ob0 (roI (c49e3 s4)))] [(0, ow 0 s4.1.length)] [(0, .row 1 s4.1.length (overF (elI s4.1) (Int.toNat s4.2) (subN s4.1.length (Int.toNat s4.2)) (fun _ => [vi 0])))] (an (by omega : (0 : Int) ≤ s4.2) (an (by omega : s4.2 ≤ ((s4.1.length : Nat) : Int)) (an (by omega : ((s4.1.length : Nat) : Int) ≤ ((s4.1.length : Nat) : Int)) (an g138 tv)))) (by kernel_rfl) (.cons rfl (MLe.ownLen (enc := encI) (d := 0) (f := (overF (elI s4.1) (Int.toNat s4.2) (subN s4.1.length (Int.toNat s4.2)) (fun _ => [vi 0]))) (RowIs.fill RowIs.elems 0 rfl (by first | exact g138 | omega))) .nil) (.cons rfl (BLe.typed (RowIs.fill RowIs.elems 0 rfl (by first | exact g138 | omega))) .nil) ?_)
     obtain ⟨g139, hm⟩ := go1 hm
     refine Sq (RD hnt (nn 4 []) [0, 3] [(2, ow 0 (Int.toNat s4.2))] [] [] (an (by omega : (0 : Int) ≤ 0) (an (by omega : (0 : Int) ≤ s4.2) (an (by omega : s4.2 ≤ (((fillL s4.1 (Int.toNat s4.2) (subN s4.1.length (Int.toNat s4.2)) 0).length : Nat) : Int)) tv))) ?_)
     obtain rfl := sj hm
     exact DW.ret (retK [roI (c49e3 s4)] [] (ow 0 (Int.toNat s4.2)))
   ·intro h99 hm
    refine Sk ?_
    refine DW.done ?_
    show DW _ _ _ _ _
    refine RD hnt (nn 3 []) [25] [(3, pI (w64 (k1 + 1)))] [] [] tv ?_
    exact jD () ⟨hlt1, hm⟩ (Conv.tp [(3, pI (w64 (k1 + 1)))] [] (by kernel_rfl) (.cons rfl (.of_eq (congrArg pI (w64_for (lo := 1) (hi := ((p0.length : Nat) : Int)) (by omega) hk1 hlt1 (by omega)))) .nil) .nil)
  ·intro h94
   have hge1 : ¬ k1 < ((p0.length : Nat) : Int) := by have := of_decide_eq_false h94; omega
   have hm := he1 hge1
   unfold Compact_slices_intD1 at hm
   refine DW.exit ?_
   refine joinQ_exit ?_
   refine KQ_exit ?_
   refine blockQ_exit ?_
   show DW _ _ _ _ _
   refine Sq (RK hnt (nn 2 []) [(2, ow 0 p0.length)] [(0, ob0 (roI p0))] tv ?_)
   obtain rfl := sj hm
   exact DW.ret (retK [roI p0] [] (ow 0 p0.length))
abbrev o49 (ks : List Nat) (b : Bool) (RES : Nat × (List Int)) : Orc := .call 162 ks b (ow 0 RES.1) [roI RES.2] []

abbrev c26e1 (p0 : Hierarchy) : Nat × MV := (12, pI ((p0.tasks.length : Nat) : Int))
theorem Those_crewQTasksFa_crewQID_crewSpec (p0 : Hierarchy) (p1c0 : Int) (RES : List Int) (hm : Those_crewQTasksFa_crewQID_crew p0 p1c0 = some RES) : Spec Tryz.prog 141 [.p (.agg (encHierarchy p0)), .fn 142 [rr 0], .p (.fn 143 [])] [.box [pI p1c0]] (.p (slI RES)) [.box [pI p1c0]] [] := by
 unfold Those_crewQTasksFa_crewQID_crew at hm
 refine SO Tryz.func141 rfl rfl [(0, .p (.agg (encHierarchy p0))), (1, .fn 142 [rr 0]), (2, .p (.fn 143 []))] [(0, bx [pI p1c0])] ?_
 intro cx hnt
 refine Sq (RD hnt (nn 2 []) [0] [(3, rr 1024)] [] [(1024, bx (pm (encHierarchy p0)))] tv ?_)
 refine Sq (RD hnt (.no :: []) [] [(7, .p (.sl .nil 0 0 (fun _ => [])))] [] [] tv ?_)
 refine Sq (Sq (RD hnt (nn 4 []) [3] [(11, .p (slTask p0.tasks)), (c26e1 p0), (13, pI 0)] [1024] [] tv ?_))
 refine Bk ?_
 obtain ⟨hc1, hm⟩ := go1 hm
 refine DW.rangeO (fun (k1 : Nat) (s1 : List Int) => mkSt [(1, .fn 142 [rr 0]), (2, .p (.fn 143 [])), (7, ow 1200 s1.length), (11, .p (slTask p0.tasks)), (c26e1 p0), (13, pI ((k1 : Nat) : Int))] [(0, bx [pI p1c0]), (1200, ob0 (roI s1))]) dTask hm (Conv.ads [(.s 7, 1200, 1, elems encI 0 [])]) ?_
 intro k1 s1 n1 hk1 hs1 he1
 refine Sq (RD hnt (.no :: []) [] [(14, pB (decide (((k1 : Nat) : Int) < ((p0.tasks.length : Nat) : Int))))] [] [] tv ?_)
 refine Sq (condK (decide (((k1 : Nat) : Int) < ((p0.tasks.length : Nat) : Int))) ?_ ?_)
 ·intro h22
  have hlt1 : k1 < p0.tasks.length := by have := of_decide_eq_true h22; omega
  have hm := hs1 hlt1
  unfold Those_crewQTasksFa_crewQID_crewL1 at hm
  refine Sk ?_
  refine Sq ?_
  refine Jn (ι := List Int) (fun (y3 : List Int) => mkSt [(1, .fn 142 [rr 0]), (2, .p (.fn 143 [])), (7, ow 1200 y3.length), (11, .p (slTask p0.tasks)), (c26e1 p0), (13, pI ((k1 : Nat) : Int))] [(0, bx [pI p1c0]), (1200, ob0 (roI y3))]) (fun y3 => (Those_crewQTasksFa_crewQID_crewJ3 n1) y3 = some RES) ?_ ?_
  ·intro y3 hm
   unfold Those_crewQTasksFa_crewQID_crewJ3 at hm
   refine RD hnt (nn 2 []) [] [(13, pI (w64 (((k1 : Nat) : Int) + 1)))] [] [] tv ?_
   exact jD y3 ⟨hlt1, hm⟩ (Conv.tp [(13, pI (w64 (((k1 : Nat) : Int) + 1)))] [] (by kernel_rfl) (.cons rfl (.of_eq (congrArg pI (w64_succ hlt1 hc1))) .nil) .nil)
  ·refine Bk ?_
   refine Sq (RD hnt (nn 4 []) [14] [(9, rr 1072)] [] [(1072, bx (pm (encTask (p0.tasks.getD k1 (default : Task)))))] (an (nn0 k1) (an (ltc hlt1) tv)) ?_)
   obtain ⟨r23, hr23, hm⟩ := bo hm
   refine Sq (RD hnt (nn 2 (.call 142 [0] true (pB r23) [.box [pI p1c0]] [] :: [])) [] [(19, pB r23)] [] [] (an (TasksFa_crewSpec (p0.tasks.getD k1 (default : Task)) p1c0 r23 hr23) (an tv tv)) ?_)
   refine condM hm ?_ ?_
   ·intro h24 hm
    obtain ⟨r25, hr25, hm⟩ := bo hm
    obtain ⟨g26, hm⟩ := go1 hm
    refine RN hnt (nn 3 (o28 [] true r25 :: nn 3 [])) [(1, .fn 142 [rr 0]), (2, .p (.fn 143 [])), (7, ow 1200 (s1 ++ [r25]).length), (11, .p (slTask p0.tasks)), (c26e1 p0), (13, pI ((k1 : Nat) : Int))] [(0, bx [pI p1c0]), (1200, ob0 (roI (s1 ++ [r25])))] [(7, ow 1200 (s1.length + 1))] [(1200, .row 1 (s1.length + 1) (catF s1.length (elI s1) (cut 1 [vi r25])))] (an (ID_crewSpec (p0.tasks.getD k1 (default : Task)) r25 hr25) (an (by omega : (s1.length + 1) * 8 ≤ 140737488355328) tv)) (by kernel_rfl) (.cons rfl (MLe.ownLen (enc := encI) (d := 0) (f := (catF s1.length (elI s1) (cut 1 [vi r25]))) (RowIs.cat RowIs.elems (RowIs.lit (enc := encI) (d := 0) (n := 1) (f := (cut 1 [vi r25])) [r25] rfl (fun | 0, _ => rfl | n + 1, h => absurd h (by omega))))) .nil) (.cons rfl (BLe.typed (RowIs.cat RowIs.elems (RowIs.lit (enc := encI) (d := 0) (n := 1) (f := (cut 1 [vi r25])) [r25] rfl (fun | 0, _ => rfl | n + 1, h => absurd h (by omega))))) .nil) ?_
    exact bD (s1 ++ [r25]) hm .refl
   ·intro h24 hm
    refine Sk ?_
    exact bD s1 hm Conv.t0
 ·intro h22
  have hge1 : ¬ k1 < p0.tasks.length := by have := of_decide_eq_false h22; omega
  have hm := he1 hge1
  unfold Those_crewQTasksFa_crewQID_crewD1 at hm
  refine DW.exit ?_
  refine joinQ_exit ?_
  refine KQ_exit ?_
  refine blockQ_exit ?_
  show DW _ _ _ _ _
  obtain ⟨r27, hr27, hm⟩ := bo hm
  obtain ⟨g28, hm⟩ := go1 hm
  refine Sq (RN hnt (.no :: o29 [1200] true r27 :: []) [(7, ow 1200 r27.length)] [(0, bx [pI p1c0]), (1200, ob0 (roI r27))] [(7, ow 1200 s1.length)] [] (an (Sort_slices_intSpec s1 r27 hr27) (an (⟨rfl, g28⟩ : Body.same (roI s1) (roI r27)) tv)) (by kernel_rfl) (.cons rfl (MLe.of_eq (congrArg (MV.own 1200 0 0) g28)) .nil) .nil ?_)
  obtain ⟨r29, hr29, hm⟩ := bo hm
  obtain ⟨g30, g31, hm⟩ := go2 hm
  refine Sq (RD hnt (.no :: o49 [1200] true r29 :: .no :: []) [7] [(6, ow 1200 r29.1)] [] [(1200, ob0 (roI r29.2))] (an (Compact_slices_intSpec r27 r29 hr29) (an (⟨rfl, g30⟩ : Body.same (roI r27) (roI r29.2)) tv)) ?_)
  refine DW.conv (τ := mkSt [(6, .p (slI (r29.2.take r29.1)))] [(0, bx [pI p1c0])]) (Conv.trans (τ := mkSt [(6, .p (.sl .unk 1 r29.1 (elI r29.2)))] [(0, bx [pI p1c0])]) (Conv.frz [1200]) (Conv.tp [(6, .p (.sl .unk 1 r29.1 (elI r29.2)))] [] (by kernel_rfl) (.cons rfl (MLe.typed (RowIs.take RowIs.elems (by first | omega | (simp only [subN_eq, addN_eq] at *; omega)))) .nil) .nil)) ?_
  obtain rfl := sj hm
  exact DW.ret (retK [.box [pI p1c0]] [] (.p (slI (r29.2.take r29.1))))

theorem Tasks_crewSpec (p0 : Hierarchy) (p1 : Int) (RES : List Int) (hm : Tasks_crew p0 p1 = some RES) : Spec Tryz.prog 96 [.p (.agg (encHierarchy p0)), pI p1] [] (.p (slI RES)) [] [] := by
 unfold Tasks_crew at hm
 refine SO Tryz.func96 rfl rfl [(0, .p (.agg (encHierarchy p0))), (1, pI p1)] [] ?_
 intro cx hnt
 refine Sq (RK hnt (nn 3 []) [(2, rr 1016), (3, rr 1024)] [(1016, bx (pm (encHierarchy p0))), (1024, bx [pI p1])] tv ?_)
 obtain ⟨r1, hr1, hm⟩ := bo hm
 refine Sq (RK hnt (nn 2 (.call 141 [1024] true (.p (slI r1)) [.box [pI p1]] [] :: .no :: [])) [(4, .p (slI r1))] [] (an (Those_crewQTasksFa_crewQID_crewSpec p0 p1 r1 hr1) (an tv tv)) ?_)
 obtain rfl := sj hm
 exact DW.ret (retK [] [] (.p (slI r1)))
abbrev o25 (ks : List Nat) (b : Bool) (RES : List Int) : Orc := .call 96 ks b (.p (slI RES)) [] []

abbrev c8e1 (p0 : Hierarchy) (k1 : Nat) := (p0.tree.nodes.getD k1 (default : Node))
theorem Sound_controlSpec (p0 : Hierarchy) (RES : Bool) (hm : Sound_control p0 = some RES) : Spec Tryz.prog 83 [.p (.agg (encHierarchy p0))] [] (pB RES) [] [] := by
 unfold Sound_control at hm
 refine SO Tryz.func83 rfl rfl [(0, .p (.agg (encHierarchy p0)))] [] ?_
 intro cx hnt
 refine Sq (RK hnt (nn 2 []) [(1, rr 1008)] [(1008, bx (pm (encHierarchy p0)))] tv ?_)
 obtain ⟨r1, hr1, hm⟩ := bo hm
 refine Sq (Sq (RD hnt (.no :: o9 [] true r1 :: .no :: []) [] [(7, pB (!r1))] [] [] (an (Check_memberSpec p0 r1 hr1) tv) ?_))
 refine condM hm ?_ ?_
 ·intro h2 hm
  refine Sq (RK hnt (.no :: []) [(2, pB false)] [] tv ?_)
  obtain rfl := sj hm
  exact DW.ret (retK [] [] (pB false))
 ·intro h2 hm
  refine Sk ?_
  refine Sq (Sq (RD hnt (nn 5 []) [7] [(10, .p (slNode p0.tree.nodes)), (11, pI ((p0.tree.nodes.length : Nat) : Int)), (12, pI 0)] [] [] tv ?_))
  refine Bk ?_
  obtain ⟨hc1, hm⟩ := go1 hm
  refine DW.rangeO (fun (k1 : Nat) (s1 : Unit) => mkSt [(1, rr 1008), (10, .p (slNode p0.tree.nodes)), (11, pI ((p0.tree.nodes.length : Nat) : Int)), (12, pI ((k1 : Nat) : Int))] [(1008, bx (pm (encHierarchy p0)))]) dNode hm Conv.eqK ?_
  intro k1 s1 n1 hk1 hs1 he1
  refine Sq (RD hnt (.no :: []) [] [(13, pB (decide (((k1 : Nat) : Int) < ((p0.tree.nodes.length : Nat) : Int))))] [] [] tv ?_)
  refine Sq (condK (decide (((k1 : Nat) : Int) < ((p0.tree.nodes.length : Nat) : Int))) ?_ ?_)
  ·intro h19
   have hlt1 : k1 < p0.tree.nodes.length := by have := of_decide_eq_true h19; omega
   have hm := hs1 hlt1
   unfold Sound_controlL1 at hm
   refine Sk ?_
   refine Sq (Bk ?_)
   refine Sq (RD hnt (nn 4 []) [13] [(4, rr 1032)] [] [(1032, bx (pm (encNode (c8e1 p0 k1))))] (an (nn0 k1) (an (ltc hlt1) tv)) ?_)
   obtain ⟨r20, hr20, hm⟩ := bo hm
   refine Sq (Sq (RD hnt (nn 5 (o23 [] true r20 :: nn 2 [])) [] [(23, pB ((kandNot .i64 (c8e1 p0 k1).control r20) != 0))] [] [] (an (from_controlSpec p0.tree (c8e1 p0 k1) r20 hr20) tv) ?_))
   refine condM hm ?_ ?_
   ·intro h21 hm
    refine Sq (RK hnt (.no :: []) [(2, pB false)] [] tv ?_)
    obtain rfl := sj hm
    exact DW.ret (retK [] [] (pB false))
   ·intro h21 hm
    refine Sk ?_
    refine Sq ?_
    refine Jn (ι := Bool) (fun (y3 : Bool) => mkSt [(1, rr 1008), (10, .p (slNode p0.tree.nodes)), (11, pI ((p0.tree.nodes.length : Nat) : Int)), (12, pI ((k1 : Nat) : Int)), (40, pB y3)] [(1008, bx (pm (encHierarchy p0)))]) (fun y3 => (Sound_controlJ3 n1) y3 = some RES) ?_ ?_
    ·intro y3 hm
     unfold Sound_controlJ3 at hm
     refine condM hm ?_ ?_
     ·intro h25 hm
      refine Sq (RK hnt (.no :: []) [(2, pB false)] [] tv ?_)
      obtain rfl := sj hm
      exact DW.ret (retK [] [] (pB false))
     ·intro h25 hm
      refine Sk ?_
      refine DW.done ?_
      show DW _ _ _ _ _
      refine RD hnt (nn 2 []) [40] [(12, pI (w64 (((k1 : Nat) : Int) + 1)))] [] [] tv ?_
      exact jD () ⟨hlt1, hm⟩ (Conv.tp [(12, pI (w64 (((k1 : Nat) : Int) + 1)))] [] (by kernel_rfl) (.cons rfl (.of_eq (congrArg pI (w64_succ hlt1 hc1))) .nil) .nil)
    ·rcases bt ((c8e1 p0 k1).id != 1) with h22 | h22
     ·replace hm := if_t h22 hm
      rcases bt ((kand .i64 (c8e1 p0 k1).control 6) != 0) with h23 | h23
      ·replace hm := if_t h23 hm
       obtain ⟨r24, hr24, hm⟩ := bo hm
       refine RD hnt (nn 8 (pT :: nn 4 (o25 [] true r24 :: nn 2 (pT :: [])))) [4, 23] [(40, pB (decide (((r24.length : Nat) : Int) > 0)))] [1032] [] (an5 h22 (an4 h23 (an (Tasks_crewSpec p0 (c8e1 p0 k1).id r24 hr24) (an3 h23 tv)))) ?_
       exact jD (decide (((r24.length : Nat) : Int) > 0)) hm Conv.eqK
      ·replace hm := if_f h23 hm
       refine RD hnt (nn 8 (pT :: .no :: sk 6 (pF :: []))) [4, 23] [(40, pB false)] [1032] [] (an5 h22 (an h23 (an6 h23 tv))) ?_
       exact jD false hm Conv.eqK
     ·replace hm := if_f h22 hm
      refine RD hnt (nn 4 (sk 4 (pF :: .no :: sk 6 (pF :: [])))) [4, 23] [(40, pB false)] [1032] [] (an5 h22 (an ff (an6 ff tv))) ?_
      exact jD false hm Conv.eqK
  ·intro h19
   have hge1 : ¬ k1 < p0.tree.nodes.length := by have := of_decide_eq_false h19; omega
   have hm := he1 hge1
   unfold Sound_controlD1 at hm
   refine DW.exit ?_
   refine joinQ_exit ?_
   refine KQ_exit ?_
   refine blockQ_exit ?_
   show DW _ _ _ _ _
   refine Sq (RK hnt (.no :: []) [(2, pB true)] [] tv ?_)
   obtain rfl := sj hm
   exact DW.ret (retK [] [] (pB true))
abbrev o8 (ks : List Nat) (b : Bool) (RES : Bool) : Orc := .call 83 ks b (pB RES) [] []

theorem Ancestors_forestSpec (p0 : Tree) (p1 : Int) (RES : List Int) (hm : Ancestors_forest p0 p1 = some RES) : Spec Tryz.prog 131 [.p (.agg (encTree p0)), pI p1] [] (ow 0 RES.length) [] [roI RES] := by
 unfold Ancestors_forest at hm
 refine SO Tryz.func131 rfl rfl [(0, .p (.agg (encTree p0))), (1, pI p1)] [] ?_
 intro cx hnt
 refine Sq (RK hnt (nn 2 []) [(1, pI p1), (2, rr 1016)] [(1016, bx (pm (encTree p0)))] tv ?_)
 refine Sq (RD hnt (.no :: []) [] [(5, .p (.sl .nil 0 0 (fun _ => [])))] [] [] tv ?_)
 refine Sq (Sq (RD hnt (nn 4 []) [] [(10, pI ((p0.nodes.length : Nat) : Int)), (11, pI 0)] [] [] tv ?_))
 refine Jn (ι := List Int) (fun (y1 : List Int) => mkSt [(5, ow 1192 y1.length)] [(1192, ob0 (roI y1))]) (fun y1 => Ancestors_forestJ1 y1 = some RES) ?_ ?_
 ·intro y1 hm
  unfold Ancestors_forestJ1 at hm
  refine Sq (RD hnt (nn 2 []) [5] [(4, ow 1192 y1.length)] [] [] tv ?_)
  obtain rfl := sj hm
  exact DW.ret (retK [roI y1] [1192] (ow 0 y1.length))
 ·refine Bk ?_
  obtain ⟨hc1, hm⟩ := go1 hm
  refine DW.rangeO (fun (k1 : Nat) (s1 : (List Int) × Int) => mkSt [(1, pI s1.2), (2, rr 1016), (5, ow 1192 s1.1.length), (10, pI ((p0.nodes.length : Nat) : Int)), (11, pI ((k1 : Nat) : Int))] [(1016, bx (pm (encTree p0))), (1192, ob0 (roI s1.1))]) dNode hm (Conv.ads [(.s 5, 1192, 1, elems encI 0 [])]) ?_
  intro k1 s1 n1 hk1 hs1 he1
  refine Sq (RD hnt (.no :: []) [] [(12, pB (decide (((k1 : Nat) : Int) < ((p0.nodes.length : Nat) : Int))))] [] [] tv ?_)
  refine Sq (condK (decide (((k1 : Nat) : Int) < ((p0.nodes.length : Nat) : Int))) ?_ ?_)
  ·intro h8
   have hlt1 : k1 < p0.nodes.length := by have := of_decide_eq_true h8; omega
   have hm := hs1 hlt1
   unfold Ancestors_forestL1 at hm
   refine Sk ?_
   refine Sq (Bk ?_)
   obtain ⟨r9, hr9, hm⟩ := bo hm
   refine Sq (RD hnt (nn 2 (o24 [] true r9 :: nn 6 [])) [12] [(6, rr 1048), (7, pB r9.2)] [] [(1048, bx (pm (encNode r9.1)))] (an (Find_forestSpec p0 s1.2 r9 hr9) tv) ?_)
   refine Sq (Sq (RD hnt (nn 2 []) [7] [(20, pB (!r9.2))] [] [] tv ?_))
   refine condM hm ?_ ?_
   ·intro h10 hm
    refine DW.exit ?_
    refine blockQ_other (by decide) ?_
    refine KQ_exit ?_
    refine joinQ_exit ?_
    refine KQ_exit ?_
    exact blockQ_exit (joinKQ s1.1 hm Conv.t0)
   ·intro h10 hm
    refine Sk ?_
    obtain ⟨g11, hm⟩ := go1 hm
    refine Sq (RN hnt (nn 5 []) [(2, rr 1016), (5, ow 1192 (s1.1 ++ [s1.2]).length), (6, rr 1048), (10, pI ((p0.nodes.length : Nat) : Int)), (11, pI ((k1 : Nat) : Int))] [(1016, bx (pm (encTree p0))), (1048, bx (pm (encNode r9.1))), (1192, ob0 (roI (s1.1 ++ [s1.2])))] [(5, ow 1192 (s1.1.length + 1))] [(1192, .row 1 (s1.1.length + 1) (catF s1.1.length (elI s1.1) (cut 1 [vi s1.2])))] (an (by omega : (s1.1.length + 1) * 8 ≤ 140737488355328) tv) (by kernel_rfl) (.cons rfl (MLe.ownLen (enc := encI) (d := 0) (f := (catF s1.1.length (elI s1.1) (cut 1 [vi s1.2]))) (RowIs.cat RowIs.elems (RowIs.lit (enc := encI) (d := 0) (n := 1) (f := (cut 1 [vi s1.2])) [s1.2] rfl (fun | 0, _ => rfl | n + 1, h => absurd h (by omega))))) .nil) (.cons rfl (BLe.typed (RowIs.cat RowIs.elems (RowIs.lit (enc := encI) (d := 0) (n := 1) (f := (cut 1 [vi s1.2])) [s1.2] rfl (fun | 0, _ => rfl | n + 1, h => absurd h (by omega))))) .nil) ?_)
    refine RD hnt (nn 3 []) [6] [(1, pI r9.1.parent)] [1048] [] tv ?_
    refine DW.done ?_
    show DW _ _ _ _ _
    refine RD hnt (nn 2 []) [] [(11, pI (w64 (((k1 : Nat) : Int) + 1)))] [] [] tv ?_
    exact jD ((s1.1 ++ [s1.2]), r9.1.parent) ⟨hlt1, hm⟩ (Conv.tp [(11, pI (w64 (((k1 : Nat) : Int) + 1)))] [] (by kernel_rfl) (.cons rfl (.of_eq (congrArg pI (w64_succ hlt1 hc1))) .nil) .nil)
  ·intro h8
   have hge1 : ¬ k1 < p0.nodes.length := by have := of_decide_eq_false h8; omega
   have hm := he1 hge1
   unfold Ancestors_forestD1 at hm
   refine DW.exit ?_
   refine joinQ_exit ?_
   refine KQ_exit ?_
   exact blockQ_exit (joinKQ s1.1 hm Conv.t0)
abbrev o51 (ks : List Nat) (b : Bool) (RES : List Int) : Orc := .call 131 ks b (ow 0 RES.length) [] [roI RES]

theorem domain_threadedSpec (p0 : Tree) (p1 : Int) (RES : Int) (hm : domain_threaded p0 p1 = some RES) : Spec Tryz.prog 84 [.p (.agg (encTree p0)), pI p1] [] (pI RES) [] [] := by
 unfold domain_threaded at hm
 refine SO Tryz.func84 rfl rfl [(0, .p (.agg (encTree p0))), (1, pI p1)] [] ?_
 intro cx hnt
 refine Sq (RK hnt (nn 2 []) [(1, pI p1), (2, rr 1016)] [(1016, bx (pm (encTree p0)))] tv ?_)
 obtain ⟨r1, hr1, hm⟩ := bo hm
 refine Sq (Sq (RD hnt (nn 2 (o51 [] true r1 :: nn 2 [])) [1] [(11, ow 1088 r1.length), (12, pI ((r1.length : Nat) : Int)), (13, pI 0)] [] [(1088, ob0 (roI r1))] (an (Ancestors_forestSpec p0 p1 r1 hr1) tv) ?_))
 refine Bk ?_
 obtain ⟨hc1, hm⟩ := go1 hm
 refine DW.rangeO (fun (k1 : Nat) (s1 : Unit) => mkSt [(2, rr 1016), (11, ow 1088 r1.length), (12, pI ((r1.length : Nat) : Int)), (13, pI ((k1 : Nat) : Int))] [(1016, bx (pm (encTree p0))), (1088, ob0 (roI r1))]) 0 hm Conv.eqK ?_
 intro k1 s1 n1 hk1 hs1 he1
 refine Sq (RD hnt (.no :: []) [] [(14, pB (decide (((k1 : Nat) : Int) < ((r1.length : Nat) : Int))))] [] [] tv ?_)
 refine Sq (condK (decide (((k1 : Nat) : Int) < ((r1.length : Nat) : Int))) ?_ ?_)
 ·intro h12
  have hlt1 : k1 < r1.length := by have := of_decide_eq_true h12; omega
  have hm := hs1 hlt1
  unfold domain_threadedL1 at hm
  refine Sk ?_
  refine Sq (Bk ?_)
  refine Sq (RD hnt (nn 3 []) [14] [(6, pI (r1.getD k1 0))] [] [] (an (nn0 k1) (an (ltc hlt1) (an (by omega : k1 < r1.length) tv))) ?_)
  obtain ⟨r13, hr13, hm⟩ := bo hm
  refine Sq (RD hnt (nn 2 (o24 [] true r13 :: nn 6 [])) [] [(7, rr 1056)] [] [(1056, bx (pm (encNode r13.1)))] (an (Find_forestSpec p0 (r1.getD k1 0) r13 hr13) tv) ?_)
  refine Sq (RD hnt (nn 3 []) [7] [(25, pB (r13.1.kind != 1))] [1056] [] tv ?_)
  refine condM hm ?_ ?_
  ·intro h14 hm
   refine Sq (RK hnt (nn 2 []) [(4, pI (r1.getD k1 0))] [] tv ?_)
   obtain rfl := sj hm
   exact DW.ret (retK [] [] (pI (r1.getD k1 0)))
  ·intro h14 hm
   refine Sk ?_
   refine DW.done ?_
   show DW _ _ _ _ _
   refine RD hnt (nn 2 []) [6, 25] [(13, pI (w64 (((k1 : Nat) : Int) + 1)))] [] [] tv ?_
   exact jD () ⟨hlt1, hm⟩ (Conv.tp [(13, pI (w64 (((k1 : Nat) : Int) + 1)))] [] (by kernel_rfl) (.cons rfl (.of_eq (congrArg pI (w64_succ hlt1 hc1))) .nil) .nil)
 ·intro h12
  have hge1 : ¬ k1 < r1.length := by have := of_decide_eq_false h12; omega
  have hm := he1 hge1
  unfold domain_threadedD1 at hm
  refine DW.exit ?_
  refine joinQ_exit ?_
  refine KQ_exit ?_
  refine blockQ_exit ?_
  show DW _ _ _ _ _
  refine Sq (RK hnt (.no :: []) [(4, pI 0)] [] tv ?_)
  obtain rfl := sj hm
  exact DW.ret (retK [] [] (pI 0))
abbrev o50 (ks : List Nat) (b : Bool) (RES : Int) : Orc := .call 84 ks b (pI RES) [] []

theorem invalid_threadedSpec (p0 : Tree) (p1 : Int) (RES : Bool) (hm : invalid_threaded p0 p1 = some RES) : Spec Tryz.prog 79 [.p (.agg (encTree p0)), pI p1] [] (pB RES) [] [] := by
 unfold invalid_threaded at hm
 refine SO Tryz.func79 rfl rfl [(0, .p (.agg (encTree p0))), (1, pI p1)] [] ?_
 intro cx hnt
 refine Sq (RK hnt (nn 2 []) [(1, pI p1), (2, rr 1016)] [(1016, bx (pm (encTree p0)))] tv ?_)
 obtain ⟨r1, hr1, hm⟩ := bo hm
 refine Sq (Sq (RD hnt (nn 2 (o51 [] true r1 :: nn 2 [])) [] [(11, ow 1088 r1.length), (12, pI ((r1.length : Nat) : Int)), (13, pI 0)] [] [(1088, ob0 (roI r1))] (an (Ancestors_forestSpec p0 p1 r1 hr1) tv) ?_))
 refine Bk ?_
 obtain ⟨hc1, hm⟩ := go1 hm
 refine DW.rangeO (fun (k1 : Nat) (s1 : Unit) => mkSt [(1, pI p1), (2, rr 1016), (11, ow 1088 r1.length), (12, pI ((r1.length : Nat) : Int)), (13, pI ((k1 : Nat) : Int))] [(1016, bx (pm (encTree p0))), (1088, ob0 (roI r1))]) 0 hm Conv.eqK ?_
 intro k1 s1 n1 hk1 hs1 he1
 refine Sq (RD hnt (.no :: []) [] [(14, pB (decide (((k1 : Nat) : Int) < ((r1.length : Nat) : Int))))] [] [] tv ?_)
 refine Sq (condK (decide (((k1 : Nat) : Int) < ((r1.length : Nat) : Int))) ?_ ?_)
 ·intro h12
  have hlt1 : k1 < r1.length := by have := of_decide_eq_true h12; omega
  have hm := hs1 hlt1
  unfold invalid_threadedL1 at hm
  refine Sk ?_
  refine Sq (Bk ?_)
  refine Sq (RD hnt (nn 3 []) [14] [(6, pI (r1.getD k1 0))] [] [] (an (nn0 k1) (an (ltc hlt1) (an (by omega : k1 < r1.length) tv))) ?_)
  obtain ⟨r13, hr13, hm⟩ := bo hm
  refine Sq (RD hnt (nn 2 (o24 [] true r13 :: nn 6 [])) [] [(7, rr 1056)] [] [(1056, bx (pm (encNode r13.1)))] (an (Find_forestSpec p0 (r1.getD k1 0) r13 hr13) tv) ?_)
  refine Sq (RD hnt (nn 3 []) [7] [(25, pB (r13.1.kind == 1))] [1056] [] tv ?_)
  refine condM hm ?_ ?_
  ·intro h14 hm
   refine Sq (RK hnt (nn 4 []) [(4, pB ((r1.getD k1 0) != p1))] [] tv ?_)
   obtain rfl := sj hm
   exact DW.ret (retK [] [] (pB ((r1.getD k1 0) != p1)))
  ·intro h14 hm
   refine Sk ?_
   refine DW.done ?_
   show DW _ _ _ _ _
   refine RD hnt (nn 2 []) [6, 25] [(13, pI (w64 (((k1 : Nat) : Int) + 1)))] [] [] tv ?_
   exact jD () ⟨hlt1, hm⟩ (Conv.tp [(13, pI (w64 (((k1 : Nat) : Int) + 1)))] [] (by kernel_rfl) (.cons rfl (.of_eq (congrArg pI (w64_succ hlt1 hc1))) .nil) .nil)
 ·intro h12
  have hge1 : ¬ k1 < r1.length := by have := of_decide_eq_false h12; omega
  have hm := he1 hge1
  unfold invalid_threadedD1 at hm
  refine DW.exit ?_
  refine joinQ_exit ?_
  refine KQ_exit ?_
  refine blockQ_exit ?_
  show DW _ _ _ _ _
  refine Sq (RK hnt (.no :: []) [(4, pB false)] [] tv ?_)
  obtain rfl := sj hm
  exact DW.ret (retK [] [] (pB false))
abbrev o53 (ks : List Nat) (b : Bool) (RES : Bool) : Orc := .call 79 ks b (pB RES) [] []

theorem fits_threadedSpec (p0 : Hierarchy) (p1 : Node) (RES : Bool) (hm : fits_threaded p0 p1 = some RES) : Spec Tryz.prog 85 [.p (.agg (encHierarchy p0)), .p (.agg (encNode p1))] [] (pB RES) [] [] := by
 unfold fits_threaded at hm
 refine SO Tryz.func85 rfl rfl [(0, .p (.agg (encHierarchy p0))), (1, .p (.agg (encNode p1)))] [] ?_
 intro cx hnt
 refine Sq (RK hnt (nn 3 []) [(2, rr 1016), (3, rr 1024)] [(1016, bx (pm (encHierarchy p0))), (1024, bx (pm (encNode p1)))] tv ?_)
 refine Sq (Sq (RD hnt (nn 3 []) [] [(9, pB (p1.kind != 1))] [] [] tv ?_))
 refine condM hm ?_ ?_
 ·intro h1 hm
  obtain ⟨r2, hr2, hm⟩ := bo hm
  refine Sq ?_
  refine Jn (ι := Bool) (fun (y1 : Bool) => mkSt [(4, pB y1)] []) (fun y1 => fits_threadedJ1 y1 = some RES) ?_ ?_
  ·intro y1 hm
   unfold fits_threadedJ1 at hm
   obtain rfl := sj hm
   exact DW.ret (retK [] [] (pB y1))
  ·rcases bt (!r2) with h3 | h3
   ·replace hm := if_t h3 hm
    refine RK hnt (nn 4 (o53 [] true r2 :: nn 2 (sk 11 (pT :: .no :: [])))) [(4, pB true)] [] (an (invalid_threadedSpec p0.tree p1.id r2 hr2) (an6 h3 tv)) ?_
    exact jD true hm .refl
   ·replace hm := if_f h3 hm
    rcases bt (p1.control == 0) with h4 | h4
    ·replace hm := if_t h4 hm
     obtain ⟨r5, hr5, hm⟩ := bo hm
     refine RK hnt (nn 4 (o53 [] true r2 :: nn 9 (o25 [] true r5 :: nn 2 (pT :: pF :: .no :: [])))) [(4, pB (((r5.length : Nat) : Int) == 0))] [] (an (invalid_threadedSpec p0.tree p1.id r2 hr2) (an4 h3 (an4 h4 (an (Tasks_crewSpec p0 p1.id r5 hr5) (an2 h4 (an h3 (an h4 (an h3 tv)))))))) ?_
     exact jD (((r5.length : Nat) : Int) == 0) hm .refl
    ·replace hm := if_f h4 hm
     refine RK hnt (nn 4 (o53 [] true r2 :: nn 6 (sk 6 (pF :: pF :: .no :: [])))) [(4, pB false)] [] (an (invalid_threadedSpec p0.tree p1.id r2 hr2) (an4 h3 (an6 h4 (an h3 (an h4 (an h3 tv)))))) ?_
     exact jD false hm .refl
 ·intro h1 hm
  refine Sk ?_
  obtain ⟨r6, hr6, hm⟩ := bo hm
  refine Sq (RD hnt (nn 4 (o24 [] true r6 :: nn 6 [])) [9] [(5, rr 1040)] [] [(1040, bx (pm (encNode r6.1)))] (an (Find_forestSpec p0.tree p1.parent r6 hr6) tv) ?_)
  refine Sq (Sq ?_)
  refine Jn (ι := Bool) (fun (y2 : Bool) => mkSt [(3, rr 1024), (5, rr 1040), (46, pB y2)] [(1024, bx (pm (encNode p1))), (1040, bx (pm (encNode r6.1)))]) (fun y2 => (fits_threadedJ2 p1 r6) y2 = some RES) ?_ ?_
  ·intro y2 hm
   unfold fits_threadedJ2 at hm
   refine condM hm ?_ ?_
   ·intro h9 hm
    refine Sq (RK hnt (.no :: []) [(4, pB false)] [] tv ?_)
    obtain rfl := sj hm
    exact DW.ret (retK [] [] (pB false))
   ·intro h9 hm
    refine Sk ?_
    refine Sq (DW.regJ (sl2 := [(4, pB ((p1.parent == 1) || ((kand .i64 r6.1.control 6) == 0)))]) (ob2 := []) ?_ ?_)
    ·rcases bt (p1.parent == 1) with h10 | h10
     ·exact RT hnt (nn 4 (sk 4 (pT :: .no :: []))) [(4, pB true)] (an5 h10 tv) (by kernel_rfl) (.cons rfl (.of_eq (by rw [h10]; try rfl)) .nil)
     ·exact RT hnt (nn 8 (pF :: .no :: [])) [(4, pB ((kand .i64 r6.1.control 6) == 0))] (an5 h10 tv) (by kernel_rfl) (.cons rfl (.of_eq (by rw [h10]; try rfl)) .nil)
    ·refine DW.ret ?_
     obtain rfl := sj hm
     exact retK [] [] (pB ((p1.parent == 1) || ((kand .i64 r6.1.control 6) == 0)))
  ·rcases bt (r6.1.kind != 1) with h7 | h7
   ·replace hm := if_t h7 hm
    obtain ⟨r8, hr8, hm⟩ := bo hm
    refine RD hnt (nn 8 (o53 [] true r8 :: pT :: [])) [2] [(46, pB r8)] [1016] [] (an5 h7 (an (invalid_threadedSpec p0.tree p1.parent r8 hr8) (an h7 tv))) ?_
    exact jD r8 hm Conv.eqK
   ·replace hm := if_f h7 hm
    refine RD hnt (nn 4 (sk 5 (pF :: []))) [2] [(46, pB false)] [1016] [] (an6 h7 tv) ?_
    exact jD false hm Conv.eqK
abbrev o52 (ks : List Nat) (b : Bool) (RES : Bool) : Orc := .call 85 ks b (pB RES) [] []

abbrev c7e1 (p0 : Hierarchy) (k1 : Nat) := (p0.tasks.getD k1 (default : Task))
abbrev c7e2 (p0 : Hierarchy) : Nat × Obj := (1008, bx (pm (encHierarchy p0)))
theorem Fits_threadedSpec (p0 : Hierarchy) (RES : Bool) (hm : Fits_threaded p0 = some RES) : Spec Tryz.prog 23 [.p (.agg (encHierarchy p0))] [] (pB RES) [] [] := by
 unfold Fits_threaded at hm
 refine SO Tryz.func23 rfl rfl [(0, .p (.agg (encHierarchy p0)))] [] ?_
 intro cx hnt
 refine Sq (RK hnt (nn 2 []) [(1, rr 1008)] [(c7e2 p0)] tv ?_)
 obtain ⟨r1, hr1, hm⟩ := bo hm
 refine Sq (Sq (RD hnt (.no :: o8 [] true r1 :: .no :: []) [] [(12, pB (!r1))] [] [] (an (Sound_controlSpec p0 r1 hr1) tv) ?_))
 refine condM hm ?_ ?_
 ·intro h2 hm
  refine Sq (RK hnt (.no :: []) [(2, pB false)] [] tv ?_)
  obtain rfl := sj hm
  exact DW.ret (retK [] [] (pB false))
 ·intro h2 hm
  refine Sk ?_
  refine Sq (RD hnt (nn 2 []) [12] [(3, .mref 1104 0)] [] [(1104, ob0 (mapOf vi (vi 0) (IMap.empty 0)))] tv ?_)
  refine Sq (Sq (RD hnt (nn 4 []) [] [(15, .p (slTask p0.tasks)), (16, pI ((p0.tasks.length : Nat) : Int)), (17, pI 0)] [] [] tv ?_))
  refine Bk ?_
  obtain ⟨hc1, hm⟩ := go1 hm
  refine DW.rangeO (fun (k1 : Nat) (s1 : IMap Int) => mkSt [(1, rr 1008), (3, .mref 1104 0), (15, .p (slTask p0.tasks)), (16, pI ((p0.tasks.length : Nat) : Int)), (17, pI ((k1 : Nat) : Int))] [(c7e2 p0), (1104, ob0 (mapOf vi (vi 0) s1))]) dTask hm Conv.eqK ?_
  intro k1 s1 n1 hk1 hs1 he1
  refine Sq (RD hnt (.no :: []) [] [(18, pB (decide (((k1 : Nat) : Int) < ((p0.tasks.length : Nat) : Int))))] [] [] tv ?_)
  refine Sq (condK (decide (((k1 : Nat) : Int) < ((p0.tasks.length : Nat) : Int))) ?_ ?_)
  ·intro h66
   have hlt1 : k1 < p0.tasks.length := by have := of_decide_eq_true h66; omega
   have hm := hs1 hlt1
   unfold Fits_threadedL1 at hm
   refine Sk ?_
   refine Sq ?_
   refine Jn (ι := IMap Int) (fun (y3 : IMap Int) => mkSt [(1, rr 1008), (3, .mref 1104 0), (15, .p (slTask p0.tasks)), (16, pI ((p0.tasks.length : Nat) : Int)), (17, pI ((k1 : Nat) : Int))] [(c7e2 p0), (1104, ob0 (mapOf vi (vi 0) y3))]) (fun y3 => (Fits_threadedJ3 n1) y3 = some RES) ?_ ?_
   ·intro y3 hm
    unfold Fits_threadedJ3 at hm
    refine RD hnt (nn 2 []) [] [(17, pI (w64 (((k1 : Nat) : Int) + 1)))] [] [] tv ?_
    exact jD y3 ⟨hlt1, hm⟩ (Conv.tp [(17, pI (w64 (((k1 : Nat) : Int) + 1)))] [] (by kernel_rfl) (.cons rfl (.of_eq (congrArg pI (w64_succ hlt1 hc1))) .nil) .nil)
   ·refine Bk ?_
    refine Sq (RD hnt (nn 4 []) [18] [(5, rr 1040)] [] [(1040, bx (pm (encTask (c7e1 p0 k1))))] (an (nn0 k1) (an (ltc hlt1) tv)) ?_)
    refine Sq (RD hnt (nn 5 []) [] [(25, pB ((c7e1 p0 k1).id == (c7e1 p0 k1).process))] [] [] tv ?_)
    refine condM hm ?_ ?_
    ·intro h67 hm
     obtain ⟨r68, hr68, hm⟩ := bo hm
     refine RD hnt (nn 7 (o50 [] true r68 :: .asM (s1.set (c7e1 p0 k1).id r68).has (fun j => vi ((s1.set (c7e1 p0 k1).id r68).get j)) :: [])) [5, 25] [] [1040] [(1104, ob0 (mapOf vi (vi 0) (s1.set (c7e1 p0 k1).id r68)))] (an (domain_threadedSpec p0.tree (c7e1 p0 k1).group r68 hr68) (an (mset_has s1 (c7e1 p0 k1).id r68) (an (mset_get vi s1 (c7e1 p0 k1).id r68) tv))) ?_
     exact bD (s1.set (c7e1 p0 k1).id r68) hm Conv.eqK
    ·intro h67 hm
     refine Sk ?_
     exact bD s1 hm Conv.t0
  ·intro h66
   have hge1 : ¬ k1 < p0.tasks.length := by have := of_decide_eq_false h66; omega
   have hm := he1 hge1
   unfold Fits_threadedD1 at hm
   refine DW.exit ?_
   refine joinQ_exit ?_
   refine KQ_exit ?_
   refine blockQ_exit ?_
   show DW _ _ _ _ _
   refine Sq (Sq (RD hnt (nn 4 []) [15, 16, 17, 18] [(36, .p (slTask p0.tasks)), (37, pI ((p0.tasks.length : Nat) : Int)), (38, pI 0)] [] [] tv ?_))
   refine Bk ?_
   obtain ⟨hc8, hm⟩ := go1 hm
   refine DW.rangeO (fun (k8 : Nat) (s8 : Unit) => mkSt [(1, rr 1008), (3, .mref 1104 0), (36, .p (slTask p0.tasks)), (37, pI ((p0.tasks.length : Nat) : Int)), (38, pI ((k8 : Nat) : Int))] [(c7e2 p0), (1104, ob0 (mapOf vi (vi 0) s1))]) dTask hm Conv.eqK ?_
   intro k8 s8 n8 hk8 hs8 he8
   refine Sq (RD hnt (.no :: []) [] [(39, pB (decide (((k8 : Nat) : Int) < ((p0.tasks.length : Nat) : Int))))] [] [] tv ?_)
   refine Sq (condK (decide (((k8 : Nat) : Int) < ((p0.tasks.length : Nat) : Int))) ?_ ?_)
   ·intro h99
    have hlt8 : k8 < p0.tasks.length := by have := of_decide_eq_true h99; omega
    have hm := hs8 hlt8
    unfold Fits_threadedL8 at hm
    refine Sk ?_
    refine Sq (Bk ?_)
    refine Sq (RD hnt (nn 4 []) [39] [(7, rr 1056)] [] [(1056, bx (pm (encTask (p0.tasks.getD k8 (default : Task)))))] (an (nn0 k8) (an (ltc hlt8) tv)) ?_)
    obtain ⟨r100, hr100, hm⟩ := bo hm
    refine Sq (RD hnt (nn 4 (o50 [] true r100 :: nn 5 [])) [7] [(51, pB (r100 != (s1.get (p0.tasks.getD k8 (default : Task)).process)))] [1056] [] (an (domain_threadedSpec p0.tree (p0.tasks.getD k8 (default : Task)).group r100 hr100) (an (rfl : vi 0 = vi 0) tv)) ?_)
    refine condM hm ?_ ?_
    ·intro h101 hm
     refine Sq (RK hnt (.no :: []) [(2, pB false)] [] tv ?_)
     obtain rfl := sj hm
     exact DW.ret (retK [] [] (pB false))
    ·intro h101 hm
     refine Sk ?_
     refine DW.done ?_
     show DW _ _ _ _ _
     refine RD hnt (nn 2 []) [51] [(38, pI (w64 (((k8 : Nat) : Int) + 1)))] [] [] tv ?_
     exact jD () ⟨hlt8, hm⟩ (Conv.tp [(38, pI (w64 (((k8 : Nat) : Int) + 1)))] [] (by kernel_rfl) (.cons rfl (.of_eq (congrArg pI (w64_succ hlt8 hc8))) .nil) .nil)
   ·intro h99
    have hge8 : ¬ k8 < p0.tasks.length := by have := of_decide_eq_false h99; omega
    have hm := he8 hge8
    unfold Fits_threadedD8 at hm
    refine DW.exit ?_
    refine joinQ_exit ?_
    refine KQ_exit ?_
    refine blockQ_exit ?_
    show DW _ _ _ _ _
    refine Sq (Sq (RD hnt (nn 5 []) [3, 36, 37, 38, 39] [(55, .p (slNode p0.tree.nodes)), (56, pI ((p0.tree.nodes.length : Nat) : Int)), (57, pI 0)] [1104] [] tv ?_))
    refine Bk ?_
    obtain ⟨hc11, hm⟩ := go1 hm
    refine DW.rangeO (fun (k11 : Nat) (s11 : Unit) => mkSt [(1, rr 1008), (55, .p (slNode p0.tree.nodes)), (56, pI ((p0.tree.nodes.length : Nat) : Int)), (57, pI ((k11 : Nat) : Int))] [(c7e2 p0)]) dNode hm Conv.eqK ?_
    intro k11 s11 n11 hk11 hs11 he11
    refine Sq (RD hnt (.no :: []) [] [(58, pB (decide (((k11 : Nat) : Int) < ((p0.tree.nodes.length : Nat) : Int))))] [] [] tv ?_)
    refine Sq (condK (decide (((k11 : Nat) : Int) < ((p0.tree.nodes.length : Nat) : Int))) ?_ ?_)
    ·intro h110
     have hlt11 : k11 < p0.tree.nodes.length := by have := of_decide_eq_true h110; omega
     have hm := hs11 hlt11
     unfold Fits_threadedL11 at hm
     refine Sk ?_
     refine Sq (Bk ?_)
     refine Sq (RD hnt (nn 4 []) [58] [(9, rr 1072)] [] [(1072, bx (pm (encNode (p0.tree.nodes.getD k11 (default : Node)))))] (an (nn0 k11) (an (ltc hlt11) tv)) ?_)
     obtain ⟨r111, hr111, hm⟩ := bo hm
     refine Sq (RD hnt (nn 2 (o52 [] true r111 :: .no :: [])) [9] [(64, pB (!r111))] [1072] [] (an (fits_threadedSpec p0 (p0.tree.nodes.getD k11 (default : Node)) r111 hr111) tv) ?_)
     refine condM hm ?_ ?_
     ·intro h112 hm
      refine Sq (RK hnt (.no :: []) [(2, pB false)] [] tv ?_)
      obtain rfl := sj hm
      exact DW.ret (retK [] [] (pB false))
     ·intro h112 hm
      refine Sk ?_
      refine DW.done ?_
      show DW _ _ _ _ _
      refine RD hnt (nn 2 []) [64] [(57, pI (w64 (((k11 : Nat) : Int) + 1)))] [] [] tv ?_
      exact jD () ⟨hlt11, hm⟩ (Conv.tp [(57, pI (w64 (((k11 : Nat) : Int) + 1)))] [] (by kernel_rfl) (.cons rfl (.of_eq (congrArg pI (w64_succ hlt11 hc11))) .nil) .nil)
    ·intro h110
     have hge11 : ¬ k11 < p0.tree.nodes.length := by have := of_decide_eq_false h110; omega
     have hm := he11 hge11
     unfold Fits_threadedD11 at hm
     refine DW.exit ?_
     refine joinQ_exit ?_
     refine KQ_exit ?_
     refine blockQ_exit ?_
     show DW _ _ _ _ _
     refine Sq (RK hnt (.no :: []) [(2, pB true)] [] tv ?_)
     obtain rfl := sj hm
     exact DW.ret (retK [] [] (pB true))
abbrev o7 (ks : List Nat) (b : Bool) (RES : Bool) : Orc := .call 23 ks b (pB RES) [] []

theorem AddFa_treeSpec (p0 : Int) (RES : Tree × Int × Int) (hm : AddFa_tree p0 = some RES) : Spec Tryz.prog 124 [pI p0] [] (.tup [.agg [ow 0 RES.1.nodes.length, pI RES.1.next], pI RES.2.1, pI RES.2.2]) [] [roNode RES.1.nodes] := by
 unfold AddFa_tree at hm
 refine SO Tryz.func124 rfl rfl [(0, pI p0)] [] ?_
 intro cx hnt
 refine Sq (RK hnt (nn 3 []) [(0, pI p0), (2, rr 1016)] [(1016, bx [.p (.sl .nil 0 0 (fun _ => [])), pI 0])] tv ?_)
 refine Sq (RD hnt (nn 5 []) [0] [(3, pI 0), (4, pI p0)] [] [] tv ?_)
 refine DW.cv [] [] [] [(1016, bx [ow 100000 0, pI 0]), (100000, ob0 (roNode []))] (Conv.ads [(.o 1016 0, 100000, 6, elems encNode dNode [])]) ?_
 obtain rfl := sj hm
 exact DW.ret (retK [roNode []] [100000] (.tup [.agg [ow 0 0, pI 0], pI 0, pI p0]))
abbrev o55 (ks : List Nat) (b : Bool) (RES : Tree × Int × Int) : Orc := .call 124 ks b (.tup [.agg [ow 0 RES.1.nodes.length, pI RES.1.next], pI RES.2.1, pI RES.2.2]) [] [roNode RES.1.nodes]

abbrev c56e1 (p0 : Tree) (k1 : Nat) := (p0.nodes.getD k1 (default : Node))
theorem child_treeSpec (p0 : Tree) (p1 : Int) (p2 : ByteArray) (RES : Int) (hm : child_tree p0 p1 p2 = some RES) : Spec Tryz.prog 126 [.p (.agg (encTree p0)), pI p1, pS p2] [] (pI RES) [] [] := by
 unfold child_tree at hm
 refine SO Tryz.func126 rfl rfl [(0, .p (.agg (encTree p0))), (1, pI p1), (2, pS p2)] [] ?_
 intro cx hnt
 refine Sq (RD hnt (nn 2 []) [0] [(3, rr 1024)] [] [(1024, bx (pm (encTree p0)))] tv ?_)
 refine Sq (Sq (RD hnt (nn 4 []) [3] [(10, .p (slNode p0.nodes)), (11, pI ((p0.nodes.length : Nat) : Int)), (12, pI 0)] [1024] [] tv ?_))
 refine Bk ?_
 obtain ⟨hc1, hm⟩ := go1 hm
 refine DW.rangeO (fun (k1 : Nat) (s1 : Unit) => mkSt [(1, pI p1), (2, pS p2), (10, .p (slNode p0.nodes)), (11, pI ((p0.nodes.length : Nat) : Int)), (12, pI ((k1 : Nat) : Int))] []) dNode hm Conv.eqK ?_
 intro k1 s1 n1 hk1 hs1 he1
 refine Sq (RD hnt (.no :: []) [] [(13, pB (decide (((k1 : Nat) : Int) < ((p0.nodes.length : Nat) : Int))))] [] [] tv ?_)
 refine Sq (condK (decide (((k1 : Nat) : Int) < ((p0.nodes.length : Nat) : Int))) ?_ ?_)
 ·intro h9
  have hlt1 : k1 < p0.nodes.length := by have := of_decide_eq_true h9; omega
  have hm := hs1 hlt1
  unfold child_treeL1 at hm
  refine Sk ?_
  refine Sq (Bk ?_)
  refine Sq (RD hnt (nn 4 []) [13] [(8, rr 1064)] [] [(1064, bx (pm (encNode (c56e1 p0 k1))))] (an (nn0 k1) (an (ltc hlt1) tv)) ?_)
  refine Sq (DW.regJ (sl2 := [(1, pI p1), (2, pS p2), (8, rr 1064), (10, .p (slNode p0.nodes)), (11, pI ((p0.nodes.length : Nat) : Int)), (12, pI ((k1 : Nat) : Int)), (25, pB (((c56e1 p0 k1).parent == p1) && (beqS (c56e1 p0 k1).name p2)))]) (ob2 := [(1064, bx (pm (encNode (c56e1 p0 k1))))]) ?_ ?_)
  ·rcases bt ((c56e1 p0 k1).parent == p1) with h10 | h10
   ·exact RT hnt (nn 9 (pT :: [])) [(25, pB (beqS (c56e1 p0 k1).name p2))] (an5 h10 tv) (by kernel_rfl) (.cons rfl (.of_eq (by rw [h10]; try rfl)) .nil)
   ·exact RT hnt (nn 5 (sk 4 (pF :: []))) [(25, pB false)] (an5 h10 tv) (by kernel_rfl) (.cons rfl (.of_eq (by rw [h10]; try rfl)) .nil)
  ·refine condM hm ?_ ?_
   ·intro h11 hm
    refine Sq (RK hnt (nn 3 []) [(6, pI (c56e1 p0 k1).id)] [] tv ?_)
    obtain rfl := sj hm
    exact DW.ret (retK [] [] (pI (c56e1 p0 k1).id))
   ·intro h11 hm
    refine Sk ?_
    refine DW.done ?_
    show DW _ _ _ _ _
    refine RD hnt (nn 2 []) [8, 25] [(12, pI (w64 (((k1 : Nat) : Int) + 1)))] [1064] [] tv ?_
    exact jD () ⟨hlt1, hm⟩ (Conv.tp [(12, pI (w64 (((k1 : Nat) : Int) + 1)))] [] (by kernel_rfl) (.cons rfl (.of_eq (congrArg pI (w64_succ hlt1 hc1))) .nil) .nil)
 ·intro h9
  have hge1 : ¬ k1 < p0.nodes.length := by have := of_decide_eq_false h9; omega
  have hm := he1 hge1
  unfold child_treeD1 at hm
  refine DW.exit ?_
  refine joinQ_exit ?_
  refine KQ_exit ?_
  refine blockQ_exit ?_
  show DW _ _ _ _ _
  refine Sq (RK hnt (.no :: []) [(6, pI 0)] [] tv ?_)
  obtain rfl := sj hm
  exact DW.ret (retK [] [] (pI 0))
abbrev o56 (ks : List Nat) (b : Bool) (RES : Int) : Orc := .call 126 ks b (pI RES) [] []

theorem checked_treeSpec (p0 : Tree) (RES : Tree) (hm : checked_tree p0 = some RES) : Spec Tryz.prog 130 [.p (.agg (encTree p0))] [] (.p (.agg (encTree RES))) [] [] := by
 unfold checked_tree at hm
 refine SO Tryz.func130 rfl rfl [(0, .p (.agg (encTree p0)))] [] ?_
 intro cx hnt
 refine Sq (RK hnt (nn 2 []) [(1, rr 1008), (2, rr 1016)] [(1008, bx (pm (encTree p0))), (1016, bx [.p (.sl .nil 0 0 (fun _ => [])), pI 0])] tv ?_)
 obtain ⟨r1, hr1, hm⟩ := bo hm
 refine Sq (Sq (RD hnt (.no :: o10 [] true r1 :: .no :: []) [] [(5, pB (!r1))] [] [] (an (Check_treeSpec p0 r1 hr1) tv) ?_))
 refine condM hm ?_ ?_
 ·intro h2 hm
  refine Sq (RD hnt (nn 2 []) [1, 5] [] [1008] [] tv ?_)
  refine DW.conv (τ := mkSt [(2, rr 1016)] [(1016, bx [.p (slNode []), pI 0])]) (Conv.tp [] [(1016, .box [.p (.sl .nil 0 0 (fun _ => [])), pI 0])] (by kernel_rfl) .nil (.cons rfl (.box (.cons MLe.nilL (.cons .rfl .nil))) .nil)) ?_
  obtain rfl := sj hm
  exact DW.ret (retK [] [] (.p (.agg [slNode [], vi 0])))
 ·intro h2 hm
  refine Sk ?_
  refine Sq (RK hnt (nn 2 []) [(2, rr 1016)] [(1016, bx (pm (encTree p0)))] tv ?_)
  obtain rfl := sj hm
  exact DW.ret (retK [] [] (.p (.agg (encTree p0))))
abbrev o59 (ks : List Nat) (b : Bool) (RES : Tree) : Orc := .call 130 ks b (.p (.agg (encTree RES))) [] []

theorem Ancestors_treeSpec (p0 : Tree) (p1 : Int) (RES : List Int) (hm : Ancestors_tree p0 p1 = some RES) : Spec Tryz.prog 158 [.p (.agg (encTree p0)), pI p1] [] (ow 0 RES.length) [] [roI RES] := by
 unfold Ancestors_tree at hm
 refine SO Tryz.func158 rfl rfl [(0, .p (.agg (encTree p0))), (1, pI p1)] [] ?_
 intro cx hnt
 refine Sq (RK hnt (nn 2 []) [(1, pI p1), (2, rr 1016)] [(1016, bx (pm (encTree p0)))] tv ?_)
 obtain ⟨r1, hr1, hm⟩ := bo hm
 obtain ⟨r2, hr2, hm⟩ := bo hm
 refine Sq (RK hnt (.no :: o59 [] true r1 :: .no :: o51 [] true r2 :: .no :: []) [(4, ow 1064 r2.length)] [(1064, ob0 (roI r2))] (an (checked_treeSpec p0 r1 hr1) (an (Ancestors_forestSpec r1 p1 r2 hr2) tv)) ?_)
 obtain rfl := sj hm
 exact DW.ret (retK [roI r2] [1064] (ow 0 r2.length))
abbrev o58 (ks : List Nat) (b : Bool) (RES : List Int) : Orc := .call 158 ks b (ow 0 RES.length) [] [roI RES]

theorem Depth_treeSpec (p0 : Tree) (p1 : Int) (RES : Int) (hm : Depth_tree p0 p1 = some RES) : Spec Tryz.prog 127 [.p (.agg (encTree p0)), pI p1] [] (pI RES) [] [] := by
 unfold Depth_tree at hm
 refine SO Tryz.func127 rfl rfl [(0, .p (.agg (encTree p0))), (1, pI p1)] [] ?_
 intro cx hnt
 refine Sq (RK hnt (nn 2 []) [(1, pI p1), (2, rr 1016)] [(1016, bx (pm (encTree p0)))] tv ?_)
 obtain ⟨r1, hr1, hm⟩ := bo hm
 refine Sq (RK hnt (nn 2 (o58 [] true r1 :: nn 3 [])) [(4, pI (w64 (((r1.length : Nat) : Int) - 1)))] [] (an (Ancestors_treeSpec p0 p1 r1 hr1) tv) ?_)
 obtain rfl := sj hm
 exact DW.ret (retK [] [] (pI (w64 (((r1.length : Nat) : Int) - 1))))
abbrev o57 (ks : List Nat) (b : Bool) (RES : Int) : Orc := .call 127 ks b (pI RES) [] []

theorem Clone_slices_NodeNnSpec (p0 : List Node) (RES : List Node) (hm : Clone_slices_Node p0 = some RES) : Spec Tryz.prog 106 [.p (.sl .nn 6 p0.length (elems encNode (default : Node) p0))] [] (ow 0 RES.length) [] [roNode RES] := by
 unfold Clone_slices_Node at hm
 refine SO Tryz.func106 rfl rfl [(0, .p (.sl .nn 6 p0.length (elems encNode (default : Node) p0)))] [] ?_
 intro cx hnt
 refine Sq (RD hnt (.no :: []) [] [] [] [] tv ?_)
 refine Sq (Sq (RD hnt (nn 2 []) [] [(4, pB false)] [] [] tv ?_))
 refine condF ff ?_
 refine Sk ?_
 obtain ⟨g1, hm⟩ := go1 hm
 refine Sq (RN hnt (nn 4 []) [(2, ow 1040 p0.length)] [(1040, ob0 (roNode p0))] [(2, ow 1040 (0 + p0.length))] [(1040, .row 6 (0 + p0.length) (catF 0 (cut 6 []) (elNode p0)))] (an (by omega : (0 + p0.length) * 56 ≤ 140737488355328) tv) (by kernel_rfl) (.cons rfl (MLe.ownLen (enc := encNode) (d := dNode) (f := (catF 0 (cut 6 []) (elNode p0))) (RowIs.cat RowIs.nil RowIs.elems)) .nil) (.cons rfl (BLe.typed (RowIs.cat RowIs.nil RowIs.elems)) .nil) ?_)
 obtain rfl := sj hm
 exact DW.ret (retK [roNode p0] [1040] (ow 0 p0.length))

theorem Clone_slices_NodeNilSpec (p0 : List Node) (RES : List Node) (hm : Clone_slices_NodeNil p0 = some RES) : Spec Tryz.prog 106 [.p (.sl .nil 6 0 (elems encNode (default : Node) p0))] [] (ow 0 RES.length) [] [roNode RES] := by
 unfold Clone_slices_NodeNil at hm
 refine SO Tryz.func106 rfl rfl [(0, .p (.sl .nil 6 0 (elems encNode (default : Node) p0)))] [] ?_
 intro cx hnt
 refine Sq (RD hnt (.no :: []) [] [] [] [] tv ?_)
 refine Sq (Sq (RD hnt (nn 2 []) [] [(4, pB true)] [] [] tv ?_))
 refine condT tt ?_
 refine Sq (RK hnt (.no :: []) [(2, .p (.sl .nil 0 0 (fun _ => [])))] [] tv ?_)
 refine DW.cv [] [(2, ow 100000 0)] [] [(100000, ob0 (roNode []))] (Conv.ads [(.s 2, 100000, 6, elems encNode dNode [])]) ?_
 obtain rfl := sj hm
 exact DW.ret (retK [roNode []] [100000] (ow 0 0))

theorem Clone_slices_NodeSpec (p0 : List Node) (RES : List Node) (hm : Clone_slices_Node p0 = some RES) : Spec Tryz.prog 106 [.p (slNode p0)] [] (ow 0 RES.length) [] [roNode RES] :=
  Spec.unk (fun h => Clone_slices_NodeNilSpec p0 RES (by have e : p0 = [] := List.eq_nil_of_length_eq_zero h; subst e; simpa [Clone_slices_Node, Clone_slices_NodeNil] using hm)) (Clone_slices_NodeNnSpec p0 RES hm)
abbrev o61 (ks : List Nat) (b : Bool) (RES : List Node) : Orc := .call 106 ks b (ow 0 RES.length) [] [roNode RES]

theorem copied_treeSpec (p0 : Tree) (RES : Tree) (hm : copied_tree p0 = some RES) : Spec Tryz.prog 128 [.p (.agg (encTree p0))] [] (.agg [ow 0 RES.nodes.length, pI RES.next]) [] [roNode RES.nodes] := by
 unfold copied_tree at hm
 refine SO Tryz.func128 rfl rfl [(0, .p (.agg (encTree p0)))] [] ?_
 intro cx hnt
 refine Sq (RK hnt (nn 2 []) [(1, rr 1008), (2, rr 1016)] [(1008, bx (pm (encTree p0))), (1016, bx [.p (.sl .nil 0 0 (fun _ => [])), pI 0])] tv ?_)
 obtain ⟨r1, hr1, hm⟩ := bo hm
 refine Sq (RK hnt (nn 2 (o61 [] true r1 :: nn 4 [])) [(2, rr 1016)] [(1016, bx [ow 1040 r1.length, pI p0.next]), (1040, ob0 (roNode r1))] (an (Clone_slices_NodeSpec p0.nodes r1 hr1) tv) ?_)
 obtain rfl := sj hm
 exact DW.ret (retK [roNode r1] [1040] (.agg [ow 0 r1.length, pI p0.next]))
abbrev o60 (ks : List Nat) (b : Bool) (RES : Tree) : Orc := .call 128 ks b (.agg [ow 0 RES.nodes.length, pI RES.next]) [] [roNode RES.nodes]

abbrev c54e1 (p0 : Tree) (p1 : Int) (p2 : ByteArray) := ({ id := p0.next, parent := p1, name := p2, control := 0, kind := 0, owner := 0 } : Node)
abbrev c54e2 : Nat × Obj := (1048, bx [.p (.sl .nil 0 0 (fun _ => [])), pI 0])
theorem Add_treeSpec (p0 : Tree) (p1 : Int) (p2 : ByteArray) (RES : Tree × Int × Int) (hm : Add_tree p0 p1 p2 = some RES) : Spec Tryz.prog 76 [.p (.agg (encTree p0)), pI p1, pS p2] [] (.tup [.agg [ow 0 RES.1.nodes.length, pI RES.1.next], pI RES.2.1, pI RES.2.2]) [] [roNode RES.1.nodes] := by
 unfold Add_tree at hm
 refine SO Tryz.func76 rfl rfl [(0, .p (.agg (encTree p0))), (1, pI p1), (2, pS p2)] [] ?_
 intro cx hnt
 refine Sq (RD hnt (nn 4 []) [0] [(3, rr 1024), (6, rr 1048)] [] [(1024, bx (pm (encTree p0))), (c54e2)] tv ?_)
 refine Sq (RD hnt (.no :: []) [] [(9, .p (.fn 124 []))] [] [] tv ?_)
 refine Sq (Bk ?_)
 obtain ⟨r1, hr1, hm⟩ := bo hm
 refine Sq ?_
 refine Jn (ι := Bool) (fun (y1 : Bool) => mkSt [(1, pI p1), (2, pS p2), (3, rr 1024), (6, rr 1048), (9, .p (.fn 124 [])), (11, pB y1)] [(1024, bx (pm (encTree p0))), (c54e2)]) (fun y1 => (Add_treeJ1 p0 p1 p2) y1 = some RES) ?_ ?_
 ·intro y1 hm
  unfold Add_treeJ1 at hm
  refine condM hm ?_ ?_
  ·intro h4 hm
   obtain ⟨r5, hr5, hm⟩ := bo hm
   refine Sq (RK hnt (.no :: o55 [] true r5 :: nn 6 []) [(6, rr 1048), (7, pI r5.2.1), (8, pI r5.2.2)] [(1048, bx [ow 1168 r5.1.nodes.length, pI r5.1.next]), (1168, ob0 (roNode r5.1.nodes))] (an (AddFa_treeSpec 1 r5 hr5) tv) ?_)
   obtain rfl := sj hm
   exact DW.ret (retK [roNode r5.1.nodes] [1168] (.tup [.agg [ow 0 r5.1.nodes.length, pI r5.1.next], pI r5.2.1, pI r5.2.2]))
  ·intro h4 hm
   obtain ⟨r6, hr6, hm⟩ := bo hm
   refine Sq (RD hnt (nn 2 (o20 [] true r6 :: nn 2 [])) [11] [(25, pB (decide (r6 < 0)))] [] [] (an (At_forestSpec p0 p1 r6 hr6) tv) ?_)
   refine condM hm ?_ ?_
   ·intro h7 hm
    obtain ⟨r8, hr8, hm⟩ := bo hm
    refine Sq (RK hnt (.no :: o55 [] true r8 :: nn 6 []) [(6, rr 1048), (7, pI r8.2.1), (8, pI r8.2.2)] [(1048, bx [ow 1248 r8.1.nodes.length, pI r8.1.next]), (1248, ob0 (roNode r8.1.nodes))] (an (AddFa_treeSpec 4 r8 hr8) tv) ?_)
    obtain rfl := sj hm
    exact DW.ret (retK [roNode r8.1.nodes] [1248] (.tup [.agg [ow 0 r8.1.nodes.length, pI r8.1.next], pI r8.2.1, pI r8.2.2]))
   ·intro h7 hm
    obtain ⟨r9, hr9, hm⟩ := bo hm
    refine Sq (RD hnt (nn 3 (o56 [] true r9 :: nn 2 [])) [25] [(35, pB (r9 != 0))] [] [] (an (child_treeSpec p0 p1 p2 r9 hr9) tv) ?_)
    refine condM hm ?_ ?_
    ·intro h10 hm
     obtain ⟨r11, hr11, hm⟩ := bo hm
     refine Sq (RK hnt (.no :: o55 [] true r11 :: nn 6 []) [(6, rr 1048), (7, pI r11.2.1), (8, pI r11.2.2)] [(1048, bx [ow 1336 r11.1.nodes.length, pI r11.1.next]), (1336, ob0 (roNode r11.1.nodes))] (an (AddFa_treeSpec 5 r11 hr11) tv) ?_)
     obtain rfl := sj hm
     exact DW.ret (retK [roNode r11.1.nodes] [1336] (.tup [.agg [ow 0 r11.1.nodes.length, pI r11.1.next], pI r11.2.1, pI r11.2.2]))
    ·intro h10 hm
     obtain ⟨r12, hr12, hm⟩ := bo hm
     refine Sq ?_
     refine Jn (ι := Bool) (fun (y2 : Bool) => mkSt [(1, pI p1), (2, pS p2), (3, rr 1024), (6, rr 1048), (9, .p (.fn 124 [])), (46, pB y2)] [(1024, bx (pm (encTree p0))), (c54e2)]) (fun y2 => (Add_treeJ2 p0 p1 p2) y2 = some RES) ?_ ?_
     ·intro y2 hm
      unfold Add_treeJ2 at hm
      refine condM hm ?_ ?_
      ·intro h15 hm
       obtain ⟨r16, hr16, hm⟩ := bo hm
       refine Sq (RK hnt (.no :: o55 [] true r16 :: nn 6 []) [(6, rr 1048), (7, pI r16.2.1), (8, pI r16.2.2)] [(1048, bx [ow 1504 r16.1.nodes.length, pI r16.1.next]), (1504, ob0 (roNode r16.1.nodes))] (an (AddFa_treeSpec 7 r16 hr16) tv) ?_)
       obtain rfl := sj hm
       exact DW.ret (retK [roNode r16.1.nodes] [1504] (.tup [.agg [ow 0 r16.1.nodes.length, pI r16.1.next], pI r16.2.1, pI r16.2.2]))
      ·intro h15 hm
       refine Sk ?_
       refine DW.done ?_
       show DW _ _ _ _ _
       obtain ⟨r17, hr17, hm⟩ := bo hm
       refine Sq (RD hnt (.no :: o60 [] true r17 :: nn 2 []) [9, 46] [(10, rr 1080)] [] [(1080, bx [ow 1544 r17.nodes.length, pI r17.next]), (1544, ob0 (roNode r17.nodes))] (an (copied_treeSpec p0 r17 hr17) tv) ?_)
       obtain ⟨g18, hm⟩ := go1 hm
       refine Sq (RN hnt (nn 11 []) [(3, rr 1024), (6, rr 1048), (10, rr 1080)] [(1024, bx (pm (encTree p0))), (c54e2), (1080, bx [ow 1544 (r17.nodes ++ [(c54e1 p0 p1 p2)]).length, pI r17.next]), (1544, ob0 (roNode (r17.nodes ++ [(c54e1 p0 p1 p2)])))] [] [(1080, .box [ow 1544 (r17.nodes.length + 1), pI r17.next]), (1544, .row 6 (r17.nodes.length + 1) (catF r17.nodes.length (elNode r17.nodes) (cut 6 [vi p0.next, vi p1, vs p2, vi 0, vi 0, vi 0])))] (an (by omega : (r17.nodes.length + 1) * 56 ≤ 140737488355328) tv) (by kernel_rfl) .nil (.cons rfl (.box (.cons (MLe.ownLen (enc := encNode) (d := dNode) (f := (catF r17.nodes.length (elNode r17.nodes) (cut 6 [vi p0.next, vi p1, vs p2, vi 0, vi 0, vi 0]))) (RowIs.cat RowIs.elems (RowIs.lit (enc := encNode) (d := dNode) (n := 1) (f := (cut 6 [vi p0.next, vi p1, vs p2, vi 0, vi 0, vi 0])) [(c54e1 p0 p1 p2)] rfl (fun | 0, _ => rfl | n + 1, h => absurd h (by omega))))) (.cons .rfl .nil))) (.cons rfl (BLe.typed (RowIs.cat RowIs.elems (RowIs.lit (enc := encNode) (d := dNode) (n := 1) (f := (cut 6 [vi p0.next, vi p1, vs p2, vi 0, vi 0, vi 0])) [(c54e1 p0 p1 p2)] rfl (fun | 0, _ => rfl | n + 1, h => absurd h (by omega))))) .nil)) ?_)
       refine Sq (RD hnt (nn 5 []) [] [] [] [(1080, bx [ow 1544 (r17.nodes ++ [(c54e1 p0 p1 p2)]).length, pI (w64 (r17.next + 1))])] tv ?_)
       refine Sq (RD hnt (nn 6 []) [3, 10] [(7, pI p0.next), (8, pI 0)] [1024, 1080] [(1048, bx [ow 1544 (r17.nodes ++ [(c54e1 p0 p1 p2)]).length, pI (w64 (r17.next + 1))])] tv ?_)
       obtain rfl := sj hm
       exact DW.ret (retK [roNode (r17.nodes ++ [(c54e1 p0 p1 p2)])] [1544] (.tup [.agg [ow 0 (r17.nodes ++ [(c54e1 p0 p1 p2)]).length, pI (w64 (r17.next + 1))], pI p0.next, pI 0]))
     ·rcases bt (decide (r12 ≥ 8)) with h13 | h13
      ·replace hm := if_t h13 hm
       refine RD hnt (nn 2 (o57 [] true r12 :: nn 2 (sk 4 (pT :: .no :: sk 3 (pT :: .no :: []))))) [35] [(46, pB true)] [] [] (an (Depth_treeSpec p0 p1 r12 hr12) (an5 h13 (an4 tt tv))) ?_
       exact jD true hm Conv.eqK
      ·replace hm := if_f h13 hm
       rcases bt (decide (((p0.nodes.length : Nat) : Int) ≥ 64)) with h14 | h14
       ·replace hm := if_t h14 hm
        refine RD hnt (nn 2 (o57 [] true r12 :: nn 6 (pF :: .no :: sk 3 (pT :: .no :: [])))) [35] [(46, pB true)] [] [] (an (Depth_treeSpec p0 p1 r12 hr12) (an5 h13 (an4 h14 tv))) ?_
        exact jD true hm Conv.eqK
       ·replace hm := if_f h14 hm
        refine RD hnt (nn 2 (o57 [] true r12 :: nn 6 (pF :: nn 4 (pF :: .no :: [])))) [35] [(46, pB (decide (p0.next > 2147483647)))] [] [] (an (Depth_treeSpec p0 p1 r12 hr12) (an5 h13 (an4 h14 tv))) ?_
        exact jD (decide (p0.next > 2147483647)) hm Conv.eqK
 ·rcases bt (!r1) with h2 | h2
  ·replace hm := if_t h2 hm
   refine RD hnt (.no :: o10 [] true r1 :: nn 2 (sk 3 (pT :: .no :: []))) [] [(11, pB true)] [] [] (an (Check_treeSpec p0 r1 hr1) (an4 h2 tv)) ?_
   exact jD true hm Conv.eqK
  ·replace hm := if_f h2 hm
   obtain ⟨r3, hr3, hm⟩ := bo hm
   refine RD hnt (.no :: o10 [] true r1 :: nn 3 (o13 [] true r3 :: .no :: pF :: .no :: [])) [] [(11, pB (!r3))] [] [] (an (Check_treeSpec p0 r1 hr1) (an2 h2 (an (Valid_nameSpec p2 r3 hr3) (an2 h2 tv)))) ?_
   exact jD (!r3) hm Conv.eqK
abbrev o54 (ks : List Nat) (b : Bool) (RES : Tree × Int × Int) : Orc := .call 76 ks b (.tup [.agg [ow 0 RES.1.nodes.length, pI RES.1.next], pI RES.2.1, pI RES.2.2]) [] [roNode RES.1.nodes]

theorem Clone_slices_TaskNnSpec (p0 : List Task) (RES : List Task) (hm : Clone_slices_Task p0 = some RES) : Spec Tryz.prog 129 [.p (.sl .nn 4 p0.length (elems encTask (default : Task) p0))] [] (ow 0 RES.length) [] [roTask RES] := by
 unfold Clone_slices_Task at hm
 refine SO Tryz.func129 rfl rfl [(0, .p (.sl .nn 4 p0.length (elems encTask (default : Task) p0)))] [] ?_
 intro cx hnt
 refine Sq (RD hnt (.no :: []) [] [] [] [] tv ?_)
 refine Sq (Sq (RD hnt (nn 2 []) [] [(4, pB false)] [] [] tv ?_))
 refine condF ff ?_
 refine Sk ?_
 obtain ⟨g1, hm⟩ := go1 hm
 refine Sq (RN hnt (nn 4 []) [(2, ow 1040 p0.length)] [(1040, ob0 (roTask p0))] [(2, ow 1040 (0 + p0.length))] [(1040, .row 4 (0 + p0.length) (catF 0 (cut 4 []) (elTask p0)))] (an (by omega : (0 + p0.length) * 32 ≤ 140737488355328) tv) (by kernel_rfl) (.cons rfl (MLe.ownLen (enc := encTask) (d := dTask) (f := (catF 0 (cut 4 []) (elTask p0))) (RowIs.cat RowIs.nil RowIs.elems)) .nil) (.cons rfl (BLe.typed (RowIs.cat RowIs.nil RowIs.elems)) .nil) ?_)
 obtain rfl := sj hm
 exact DW.ret (retK [roTask p0] [1040] (ow 0 p0.length))

theorem Clone_slices_TaskNilSpec (p0 : List Task) (RES : List Task) (hm : Clone_slices_TaskNil p0 = some RES) : Spec Tryz.prog 129 [.p (.sl .nil 4 0 (elems encTask (default : Task) p0))] [] (ow 0 RES.length) [] [roTask RES] := by
 unfold Clone_slices_TaskNil at hm
 refine SO Tryz.func129 rfl rfl [(0, .p (.sl .nil 4 0 (elems encTask (default : Task) p0)))] [] ?_
 intro cx hnt
 refine Sq (RD hnt (.no :: []) [] [] [] [] tv ?_)
 refine Sq (Sq (RD hnt (nn 2 []) [] [(4, pB true)] [] [] tv ?_))
 refine condT tt ?_
 refine Sq (RK hnt (.no :: []) [(2, .p (.sl .nil 0 0 (fun _ => [])))] [] tv ?_)
 refine DW.cv [] [(2, ow 100000 0)] [] [(100000, ob0 (roTask []))] (Conv.ads [(.s 2, 100000, 4, elems encTask dTask [])]) ?_
 obtain rfl := sj hm
 exact DW.ret (retK [roTask []] [100000] (ow 0 0))

theorem Clone_slices_TaskSpec (p0 : List Task) (RES : List Task) (hm : Clone_slices_Task p0 = some RES) : Spec Tryz.prog 129 [.p (slTask p0)] [] (ow 0 RES.length) [] [roTask RES] :=
  Spec.unk (fun h => Clone_slices_TaskNilSpec p0 RES (by have e : p0 = [] := List.eq_nil_of_length_eq_zero h; subst e; simpa [Clone_slices_Task, Clone_slices_TaskNil] using hm)) (Clone_slices_TaskNnSpec p0 RES hm)
abbrev o63 (ks : List Nat) (b : Bool) (RES : List Task) : Orc := .call 129 ks b (ow 0 RES.length) [] [roTask RES]

theorem Copy_crewSpec (p0 : Hierarchy) (RES : Hierarchy) (hm : Copy_crew p0 = some RES) : Spec Tryz.prog 77 [.p (.agg (encHierarchy p0))] [] (.agg [ow 0 RES.tree.nodes.length, pI RES.tree.next, ow 1 RES.tasks.length, pI RES.next]) [] [roNode RES.tree.nodes, roTask RES.tasks] := by
 unfold Copy_crew at hm
 refine SO Tryz.func77 rfl rfl [(0, .p (.agg (encHierarchy p0)))] [] ?_
 intro cx hnt
 refine Sq (RK hnt (nn 2 []) [(1, rr 1008), (2, rr 1016)] [(1008, bx (pm (encHierarchy p0))), (1016, bx [.p (.sl .nil 0 0 (fun _ => [])), pI 0, .p (.sl .nil 0 0 (fun _ => [])), pI 0])] tv ?_)
 obtain ⟨r1, hr1, hm⟩ := bo hm
 obtain ⟨r2, hr2, hm⟩ := bo hm
 refine Sq (RK hnt (nn 3 (o61 [] true r1 :: nn 6 (o63 [] true r2 :: nn 4 []))) [(2, rr 1016)] [(1016, bx [ow 1048 r1.length, pI p0.tree.next, ow 1104 r2.length, pI p0.next]), (1048, ob0 (roNode r1)), (1104, ob0 (roTask r2))] (an (Clone_slices_NodeSpec p0.tree.nodes r1 hr1) (an (Clone_slices_TaskSpec p0.tasks r2 hr2) tv)) ?_)
 obtain rfl := sj hm
 exact DW.ret (retK [roNode r1, roTask r2] [1048, 1104] (.agg [ow 0 r1.length, pI p0.tree.next, ow 1 r2.length, pI p0.next]))
abbrev o62 (ks : List Nat) (b : Bool) (RES : Hierarchy) : Orc := .call 77 ks b (.agg [ow 0 RES.tree.nodes.length, pI RES.tree.next, ow 1 RES.tasks.length, pI RES.next]) [] [roNode RES.tree.nodes, roTask RES.tasks]

theorem Create_threadedSpec (p0 : Hierarchy) (p1 : Int) (p2 : ByteArray) (RES : Hierarchy × Int × Int) (hm : Create_threaded p0 p1 p2 = some RES) : Spec Tryz.prog 20 [.p (.agg (encHierarchy p0)), pI p1, pS p2] [] (.tup [.agg [ow 0 RES.1.tree.nodes.length, pI RES.1.tree.next, ow 1 RES.1.tasks.length, pI RES.1.next], pI RES.2.1, pI RES.2.2]) [] [roNode RES.1.tree.nodes, roTask RES.1.tasks] := by
 unfold Create_threaded at hm
 refine SO Tryz.func20 rfl rfl [(0, .p (.agg (encHierarchy p0))), (1, pI p1), (2, pS p2)] [] ?_
 intro cx hnt
 refine Sq (RD hnt (nn 4 []) [0] [(3, rr 1024), (6, rr 1048)] [] [(1024, bx (pm (encHierarchy p0))), (1048, bx [.p (.sl .nil 0 0 (fun _ => [])), pI 0, .p (.sl .nil 0 0 (fun _ => [])), pI 0])] tv ?_)
 obtain ⟨r1, hr1, hm⟩ := bo hm
 refine Sq (Sq (RD hnt (.no :: o7 [] true r1 :: .no :: []) [] [(15, pB (!r1))] [] [] (an (Fits_threadedSpec p0 r1 hr1) tv) ?_))
 refine condM hm ?_ ?_
 ·intro h2 hm
  refine Sq (RD hnt (nn 4 []) [1, 2, 3, 15] [(7, pI 0), (8, pI 1)] [1024] [] tv ?_)
  refine DW.cv [] [] [] [(1048, bx [ow 100000 0, pI 0, ow 100001 0, pI 0]), (100000, ob0 (roNode [])), (100001, ob0 (roTask []))] (Conv.ads [(.o 1048 0, 100000, 6, elems encNode dNode []), (.o 1048 2, 100001, 4, elems encTask dTask [])]) ?_
  obtain rfl := sj hm
  exact DW.ret (retK [roNode [], roTask []] [100000, 100001] (.tup [.agg [ow 0 0, pI 0, ow 1 0, pI 0], pI 0, pI 1]))
 ·intro h2 hm
  refine Sk ?_
  obtain ⟨r3, hr3, hm⟩ := bo hm
  refine Sq (RD hnt (nn 4 (o54 [] true r3 :: nn 8 [])) [1, 2, 15] [(9, rr 1072), (10, pI r3.2.1), (11, pI r3.2.2)] [] [(1072, bx [ow 1176 r3.1.nodes.length, pI r3.1.next]), (1176, ob0 (roNode r3.1.nodes))] (an (Add_treeSpec p0.tree p1 p2 r3 hr3) tv) ?_)
  refine Sq (Sq (RD hnt (nn 2 []) [] [(27, pB (r3.2.2 != 0))] [] [] tv ?_))
  refine condM hm ?_ ?_
  ·intro h4 hm
   refine Sq (RD hnt (nn 5 []) [3, 9, 10, 11, 27] [(7, pI 0), (8, pI r3.2.2)] [1024, 1072, 1176] [] tv ?_)
   refine DW.cv [] [] [] [(1048, bx [ow 100000 0, pI 0, ow 100001 0, pI 0]), (100000, ob0 (roNode [])), (100001, ob0 (roTask []))] (Conv.ads [(.o 1048 0, 100000, 6, elems encNode dNode []), (.o 1048 2, 100001, 4, elems encTask dTask [])]) ?_
   obtain rfl := sj hm
   exact DW.ret (retK [roNode [], roTask []] [100000, 100001] (.tup [.agg [ow 0 0, pI 0, ow 1 0, pI 0], pI 0, pI r3.2.2]))
  ·intro h4 hm
   refine Sk ?_
   obtain ⟨r5, hr5, hm⟩ := bo hm
   refine Sq (RD hnt (.no :: o62 [] true r5 :: nn 2 []) [3, 11, 27] [(12, rr 1096)] [1024] [(1096, bx [ow 1248 r5.tree.nodes.length, pI r5.tree.next, ow 1249 r5.tasks.length, pI r5.next]), (1248, ob0 (roNode r5.tree.nodes)), (1249, ob0 (roTask r5.tasks))] (an (Copy_crewSpec p0 r5 hr5) tv) ?_)
   refine Sq (RD hnt (nn 3 []) [9] [] [1072, 1248] [(1096, bx [ow 1176 r3.1.nodes.length, pI r3.1.next, ow 1249 r5.tasks.length, pI r5.next])] tv ?_)
   refine Sq (RD hnt (nn 5 []) [10, 12] [(7, pI r3.2.1), (8, pI 0)] [1096] [(1048, bx [ow 1176 r3.1.nodes.length, pI r3.1.next, ow 1249 r5.tasks.length, pI r5.next])] tv ?_)
   obtain rfl := sj hm
   exact DW.ret (retK [roNode r3.1.nodes, roTask r5.tasks] [1176, 1249] (.tup [.agg [ow 0 r3.1.nodes.length, pI r3.1.next, ow 1 r5.tasks.length, pI r5.next], pI r3.2.1, pI 0]))
abbrev o6 (ks : List Nat) (b : Bool) (RES : Hierarchy × Int × Int) : Orc := .call 20 ks b (.tup [.agg [ow 0 RES.1.tree.nodes.length, pI RES.1.tree.next, ow 1 RES.1.tasks.length, pI RES.1.next], pI RES.2.1, pI RES.2.2]) [] [roNode RES.1.tree.nodes, roTask RES.1.tasks]

theorem refuse_threadedSpec (p0 : Int) (RES : Hierarchy × Int) (hm : refuse_threaded p0 = some RES) : Spec Tryz.prog 91 [pI p0] [] (.tup [.agg [ow 0 RES.1.tree.nodes.length, pI RES.1.tree.next, ow 1 RES.1.tasks.length, pI RES.1.next], pI RES.2]) [] [roNode RES.1.tree.nodes, roTask RES.1.tasks] := by
 unfold refuse_threaded at hm
 refine SO Tryz.func91 rfl rfl [(0, pI p0)] [] ?_
 intro cx hnt
 refine Sq (RK hnt (nn 2 []) [(0, pI p0), (2, rr 1016)] [(1016, bx [.p (.sl .nil 0 0 (fun _ => [])), pI 0, .p (.sl .nil 0 0 (fun _ => [])), pI 0])] tv ?_)
 refine Sq (RD hnt (nn 4 []) [0] [(3, pI p0)] [] [] tv ?_)
 refine DW.cv [] [] [] [(1016, bx [ow 100000 0, pI 0, ow 100001 0, pI 0]), (100000, ob0 (roNode [])), (100001, ob0 (roTask []))] (Conv.ads [(.o 1016 0, 100000, 6, elems encNode dNode []), (.o 1016 2, 100001, 4, elems encTask dTask [])]) ?_
 obtain rfl := sj hm
 exact DW.ret (retK [roNode [], roTask []] [100000, 100001] (.tup [.agg [ow 0 0, pI 0, ow 1 0, pI 0], pI p0]))
abbrev o65 (ks : List Nat) (b : Bool) (RES : Hierarchy × Int) : Orc := .call 91 ks b (.tup [.agg [ow 0 RES.1.tree.nodes.length, pI RES.1.tree.next, ow 1 RES.1.tasks.length, pI RES.1.next], pI RES.2]) [] [roNode RES.1.tree.nodes, roTask RES.1.tasks]

theorem Find_treeSpec (p0 : Tree) (p1 : Int) (RES : Node × Bool) (hm : Find_tree p0 p1 = some RES) : Spec Tryz.prog 78 [.p (.agg (encTree p0)), pI p1] [] (.p (.tup [.agg (encNode RES.1), vb RES.2])) [] [] := by
 unfold Find_tree at hm
 refine SO Tryz.func78 rfl rfl [(0, .p (.agg (encTree p0))), (1, pI p1)] [] ?_
 intro cx hnt
 refine Sq (RK hnt (nn 3 []) [(1, pI p1), (2, rr 1016), (4, rr 1032)] [(1016, bx (pm (encTree p0))), (1032, bx [pI 0, pI 0, pS ByteArray.empty, pI 0, pI 0, pI 0])] tv ?_)
 obtain ⟨r1, hr1, hm⟩ := bo hm
 obtain ⟨r2, hr2, hm⟩ := bo hm
 refine Sq (RK hnt (.no :: o59 [] true r1 :: .no :: o24 [] true r2 :: nn 4 []) [(4, rr 1032), (5, pB r2.2)] [(1032, bx (pm (encNode r2.1)))] (an (checked_treeSpec p0 r1 hr1) (an (Find_forestSpec r1 p1 r2 hr2) tv)) ?_)
 obtain rfl := sj hm
 exact DW.ret (retK [] [] (.p (.tup [.agg (encNode r2.1), vb r2.2])))
abbrev o67 (ks : List Nat) (b : Bool) (RES : Node × Bool) : Orc := .call 78 ks b (.p (.tup [.agg (encNode RES.1), vb RES.2])) [] []

abbrev c66e1 (p0 : Tree) (k1 : Nat) := (p0.nodes.getD k1 (default : Node))
theorem Type_threadedSpec (p0 : Tree) (p1 : Int) (RES : Int) (hm : Type_threaded p0 p1 = some RES) : Spec Tryz.prog 21 [.p (.agg (encTree p0)), pI p1] [] (pI RES) [] [] := by
 unfold Type_threaded at hm
 refine SO Tryz.func21 rfl rfl [(0, .p (.agg (encTree p0))), (1, pI p1)] [] ?_
 intro cx hnt
 refine Sq (RK hnt (nn 2 []) [(1, pI p1), (2, rr 1016)] [(1016, bx (pm (encTree p0)))] tv ?_)
 obtain ⟨r1, hr1, hm⟩ := bo hm
 refine Sq (RD hnt (nn 2 (o67 [] true r1 :: nn 6 [])) [] [(5, rr 1040), (6, pB r1.2)] [] [(1040, bx (pm (encNode r1.1)))] (an (Find_treeSpec p0 p1 r1 hr1) tv) ?_)
 refine Sq (Bk ?_)
 refine Sq (RD hnt (nn 3 []) [6] [(15, pB (!r1.2))] [] [] tv ?_)
 refine condM hm ?_ ?_
 ·intro h2 hm
  refine Sq (RK hnt (.no :: []) [(4, pI 0)] [] tv ?_)
  obtain rfl := sj hm
  exact DW.ret (retK [] [] (pI 0))
 ·intro h2 hm
  refine Sq (RD hnt (nn 4 []) [5, 15] [(18, pB (r1.1.kind == 1))] [1040] [] tv ?_)
  refine condM hm ?_ ?_
  ·intro h3 hm
   refine Sq (RK hnt (.no :: []) [(4, pI 2)] [] tv ?_)
   obtain rfl := sj hm
   exact DW.ret (retK [] [] (pI 2))
  ·intro h3 hm
   obtain ⟨r4, hr4, hm⟩ := bo hm
   refine Sq (RD hnt (nn 2 (o53 [] true r4 :: .no :: [])) [18] [(22, pB r4)] [] [] (an (invalid_threadedSpec p0 p1 r4 hr4) tv) ?_)
   refine condM hm ?_ ?_
   ·intro h5 hm
    refine Sq (RK hnt (.no :: []) [(4, pI 3)] [] tv ?_)
    obtain rfl := sj hm
    exact DW.ret (retK [] [] (pI 3))
   ·intro h5 hm
    refine Sk ?_
    refine DW.done ?_
    show DW _ _ _ _ _
    refine Sq (Sq (RK hnt (nn 4 []) [(1, pI p1), (27, .p (slNode p0.nodes)), (28, pI ((p0.nodes.length : Nat) : Int)), (29, pI 0)] [] tv ?_))
    refine Bk ?_
    obtain ⟨hc1, hm⟩ := go1 hm
    refine DW.rangeO (fun (k1 : Nat) (s1 : Unit) => mkSt [(1, pI p1), (27, .p (slNode p0.nodes)), (28, pI ((p0.nodes.length : Nat) : Int)), (29, pI ((k1 : Nat) : Int))] []) dNode hm .refl ?_
    intro k1 s1 n1 hk1 hs1 he1
    refine Sq (RD hnt (.no :: []) [] [(30, pB (decide (((k1 : Nat) : Int) < ((p0.nodes.length : Nat) : Int))))] [] [] tv ?_)
    refine Sq (condK (decide (((k1 : Nat) : Int) < ((p0.nodes.length : Nat) : Int))) ?_ ?_)
    ·intro h14
     have hlt1 : k1 < p0.nodes.length := by have := of_decide_eq_true h14; omega
     have hm := hs1 hlt1
     unfold Type_threadedL1 at hm
     refine Sk ?_
     refine Sq (Bk ?_)
     refine Sq (RD hnt (nn 4 []) [30] [(8, rr 1064)] [] [(1064, bx (pm (encNode (c66e1 p0 k1))))] (an (nn0 k1) (an (ltc hlt1) tv)) ?_)
     refine Sq (DW.regJ (sl2 := [(1, pI p1), (27, .p (slNode p0.nodes)), (28, pI ((p0.nodes.length : Nat) : Int)), (29, pI ((k1 : Nat) : Int)), (41, pB (((c66e1 p0 k1).parent == p1) && ((c66e1 p0 k1).kind == 1)))]) (ob2 := []) ?_ ?_)
     ·rcases bt ((c66e1 p0 k1).parent == p1) with h15 | h15
      ·exact RT hnt (nn 8 (pT :: [])) [(41, pB ((c66e1 p0 k1).kind == 1))] (an4 h15 tv) (by kernel_rfl) (.cons rfl (.of_eq (by rw [h15]; try rfl)) .nil)
      ·exact RT hnt (nn 5 (sk 3 (pF :: []))) [(41, pB false)] (an4 h15 tv) (by kernel_rfl) (.cons rfl (.of_eq (by rw [h15]; try rfl)) .nil)
     ·refine condM hm ?_ ?_
      ·intro h16 hm
       refine Sq (RK hnt (.no :: []) [(4, pI 1)] [] tv ?_)
       obtain rfl := sj hm
       exact DW.ret (retK [] [] (pI 1))
      ·intro h16 hm
       refine Sk ?_
       refine DW.done ?_
       show DW _ _ _ _ _
       refine RD hnt (nn 2 []) [41] [(29, pI (w64 (((k1 : Nat) : Int) + 1)))] [] [] tv ?_
       exact jD () ⟨hlt1, hm⟩ (Conv.tp [(29, pI (w64 (((k1 : Nat) : Int) + 1)))] [] (by kernel_rfl) (.cons rfl (.of_eq (congrArg pI (w64_succ hlt1 hc1))) .nil) .nil)
    ·intro h14
     have hge1 : ¬ k1 < p0.nodes.length := by have := of_decide_eq_false h14; omega
     have hm := he1 hge1
     unfold Type_threadedD1 at hm
     refine DW.exit ?_
     refine joinQ_exit ?_
     refine KQ_exit ?_
     refine blockQ_exit ?_
     show DW _ _ _ _ _
     refine Sq (RK hnt (.no :: []) [(4, pI 0)] [] tv ?_)
     obtain rfl := sj hm
     exact DW.ret (retK [] [] (pI 0))
abbrev o66 (ks : List Nat) (b : Bool) (RES : Int) : Orc := .call 21 ks b (pI RES) [] []

abbrev c64e1 (r19 : Hierarchy) (r4 : Int) := ({ id := (r19.tree.nodes.getD (Int.toNat r4) dNode).id, parent := (r19.tree.nodes.getD (Int.toNat r4) dNode).parent, name := (r19.tree.nodes.getD (Int.toNat r4) dNode).name, control := (r19.tree.nodes.getD (Int.toNat r4) dNode).control, kind := 1, owner := (r19.tree.nodes.getD (Int.toNat r4) dNode).owner } : Node)
abbrev c64e2 : Nat × Obj := (1032, bx [.p (.sl .nil 0 0 (fun _ => [])), pI 0, .p (.sl .nil 0 0 (fun _ => [])), pI 0])
abbrev c64e3 (r19 : Hierarchy) (r4 : Int) := (updF (elNode r19.tree.nodes) (Int.toNat r4) [vi (r19.tree.nodes.getD (Int.toNat r4) dNode).id, vi (r19.tree.nodes.getD (Int.toNat r4) dNode).parent, vs (r19.tree.nodes.getD (Int.toNat r4) dNode).name, vi (r19.tree.nodes.getD (Int.toNat r4) dNode).control, vi 1, vi (r19.tree.nodes.getD (Int.toNat r4) dNode).owner])
abbrev c64e4 (p0 : Hierarchy) (r4 : Int) := (p0.tree.nodes.getD (Int.toNat r4) dNode)
abbrev c64e5 (r19 : Hierarchy) (r4 : Int) := (r19.tree.nodes.set (Int.toNat r4) (c64e1 r19 r4))
theorem Convert_threadedSpec (p0 : Hierarchy) (p1 : Int) (RES : Hierarchy × Int) (hm : Convert_threaded p0 p1 = some RES) : Spec Tryz.prog 45 [.p (.agg (encHierarchy p0)), pI p1] [] (.tup [.agg [ow 0 RES.1.tree.nodes.length, pI RES.1.tree.next, ow 1 RES.1.tasks.length, pI RES.1.next], pI RES.2]) [] [roNode RES.1.tree.nodes, roTask RES.1.tasks] := by
 unfold Convert_threaded at hm
 refine SO Tryz.func45 rfl rfl [(0, .p (.agg (encHierarchy p0))), (1, pI p1)] [] ?_
 intro cx hnt
 refine Sq (RK hnt (nn 3 []) [(1, pI p1), (2, rr 1016), (4, rr 1032)] [(1016, bx (pm (encHierarchy p0))), (c64e2)] tv ?_)
 obtain ⟨r1, hr1, hm⟩ := bo hm
 refine Sq (Sq (RD hnt (.no :: o7 [] true r1 :: .no :: []) [] [(13, pB (!r1))] [] [] (an (Fits_threadedSpec p0 r1 hr1) tv) ?_))
 refine condM hm ?_ ?_
 ·intro h2 hm
  obtain ⟨r3, hr3, hm⟩ := bo hm
  refine Sq (RK hnt (o65 [] true r3 :: nn 4 []) [(4, rr 1032), (5, pI r3.2)] [(1032, bx [ow 1112 r3.1.tree.nodes.length, pI r3.1.tree.next, ow 1113 r3.1.tasks.length, pI r3.1.next]), (1112, ob0 (roNode r3.1.tree.nodes)), (1113, ob0 (roTask r3.1.tasks))] (an (refuse_threadedSpec 1 r3 hr3) tv) ?_)
  obtain rfl := sj hm
  exact DW.ret (retK [roNode r3.1.tree.nodes, roTask r3.1.tasks] [1112, 1113] (.tup [.agg [ow 0 r3.1.tree.nodes.length, pI r3.1.tree.next, ow 1 r3.1.tasks.length, pI r3.1.next], pI r3.2]))
 ·intro h2 hm
  refine Sk ?_
  obtain ⟨r4, hr4, hm⟩ := bo hm
  refine Sq (RD hnt (nn 3 (o20 [] true r4 :: .no :: [])) [13] [(6, pI r4)] [] [] (an (At_forestSpec p0.tree p1 r4 hr4) tv) ?_)
  refine Sq (Sq (RD hnt (nn 2 []) [] [(22, pB (decide (r4 < 0)))] [] [] tv ?_))
  refine condM hm ?_ ?_
  ·intro h5 hm
   obtain ⟨r6, hr6, hm⟩ := bo hm
   refine Sq (RK hnt (o65 [] true r6 :: nn 4 []) [(4, rr 1032), (5, pI r6.2)] [(1032, bx [ow 1184 r6.1.tree.nodes.length, pI r6.1.tree.next, ow 1185 r6.1.tasks.length, pI r6.1.next]), (1184, ob0 (roNode r6.1.tree.nodes)), (1185, ob0 (roTask r6.1.tasks))] (an (refuse_threadedSpec 4 r6 hr6) tv) ?_)
   obtain rfl := sj hm
   exact DW.ret (retK [roNode r6.1.tree.nodes, roTask r6.1.tasks] [1184, 1185] (.tup [.agg [ow 0 r6.1.tree.nodes.length, pI r6.1.tree.next, ow 1 r6.1.tasks.length, pI r6.1.next], pI r6.2]))
  ·intro h5 hm
   refine Sk ?_
   obtain ⟨g7, hm⟩ := go1 hm
   refine Sq (RD hnt (nn 8 []) [22] [(7, rr 1056)] [] [(1056, bx (pm (encNode (c64e4 p0 r4))))] (an g7.1 (an g7.2 tv)) ?_)
   obtain ⟨r8, hr8, hm⟩ := bo hm
   refine Sq (RD hnt (nn 4 (o24 [] true r8 :: nn 6 [])) [] [(8, rr 1064)] [] [(1064, bx (pm (encNode r8.1)))] (an (Find_forestSpec p0.tree (c64e4 p0 r4).parent r8 hr8) tv) ?_)
   refine Sq (Bk ?_)
   refine Sq (DW.regJ (sl2 := [(1, pI p1), (2, rr 1016), (4, rr 1032), (6, pI r4), (7, rr 1056), (8, rr 1064), (40, pB ((p1 == 1) || ((c64e4 p0 r4).kind == 1)))]) (ob2 := [(1016, bx (pm (encHierarchy p0))), (c64e2), (1056, bx (pm (encNode (c64e4 p0 r4)))), (1064, bx (pm (encNode r8.1)))]) ?_ ?_)
   ·rcases bt (p1 == 1) with h9 | h9
    ·exact RT hnt (nn 3 (sk 3 (pT :: .no :: []))) [(40, pB true)] (an4 h9 tv) (by kernel_rfl) (.cons rfl (.of_eq (by rw [h9]; try rfl)) .nil)
    ·exact RT hnt (nn 6 (pF :: .no :: [])) [(40, pB ((c64e4 p0 r4).kind == 1))] (an4 h9 tv) (by kernel_rfl) (.cons rfl (.of_eq (by rw [h9]; try rfl)) .nil)
   ·refine condM hm ?_ ?_
    ·intro h10 hm
     obtain ⟨r11, hr11, hm⟩ := bo hm
     refine Sq (RK hnt (o65 [] true r11 :: nn 4 []) [(4, rr 1032), (5, pI r11.2)] [(1032, bx [ow 1384 r11.1.tree.nodes.length, pI r11.1.tree.next, ow 1385 r11.1.tasks.length, pI r11.1.next]), (1384, ob0 (roNode r11.1.tree.nodes)), (1385, ob0 (roTask r11.1.tasks))] (an (refuse_threadedSpec 9 r11 hr11) tv) ?_)
     obtain rfl := sj hm
     exact DW.ret (retK [roNode r11.1.tree.nodes, roTask r11.1.tasks] [1384, 1385] (.tup [.agg [ow 0 r11.1.tree.nodes.length, pI r11.1.tree.next, ow 1 r11.1.tasks.length, pI r11.1.next], pI r11.2]))
    ·intro h10 hm
     obtain ⟨r12, hr12, hm⟩ := bo hm
     refine Sq ?_
     refine Jn (ι := Bool) (fun (y1 : Bool) => mkSt [(1, pI p1), (2, rr 1016), (4, rr 1032), (6, pI r4), (7, rr 1056), (51, pB y1)] [(1016, bx (pm (encHierarchy p0))), (c64e2), (1056, bx (pm (encNode (c64e4 p0 r4))))]) (fun y1 => (Convert_threadedJ1 p0 p1 r4) y1 = some RES) ?_ ?_
     ·intro y1 hm
      unfold Convert_threadedJ1 at hm
      refine condM hm ?_ ?_
      ·intro h15 hm
       obtain ⟨r16, hr16, hm⟩ := bo hm
       refine Sq (RK hnt (o65 [] true r16 :: nn 4 []) [(4, rr 1032), (5, pI r16.2)] [(1032, bx [ow 1552 r16.1.tree.nodes.length, pI r16.1.tree.next, ow 1553 r16.1.tasks.length, pI r16.1.next]), (1552, ob0 (roNode r16.1.tree.nodes)), (1553, ob0 (roTask r16.1.tasks))] (an (refuse_threadedSpec 10 r16 hr16) tv) ?_)
       obtain rfl := sj hm
       exact DW.ret (retK [roNode r16.1.tree.nodes, roTask r16.1.tasks] [1552, 1553] (.tup [.agg [ow 0 r16.1.tree.nodes.length, pI r16.1.tree.next, ow 1 r16.1.tasks.length, pI r16.1.next], pI r16.2]))
      ·intro h15 hm
       refine Sq (RD hnt (nn 5 []) [7, 51] [(72, pB ((kand .i64 (c64e4 p0 r4).control 6) != 0))] [1056] [] tv ?_)
       refine condM hm ?_ ?_
       ·intro h17 hm
        obtain ⟨r18, hr18, hm⟩ := bo hm
        refine Sq (RK hnt (o65 [] true r18 :: nn 4 []) [(4, rr 1032), (5, pI r18.2)] [(1032, bx [ow 1616 r18.1.tree.nodes.length, pI r18.1.tree.next, ow 1617 r18.1.tasks.length, pI r18.1.next]), (1616, ob0 (roNode r18.1.tree.nodes)), (1617, ob0 (roTask r18.1.tasks))] (an (refuse_threadedSpec 9 r18 hr18) tv) ?_)
        obtain rfl := sj hm
        exact DW.ret (retK [roNode r18.1.tree.nodes, roTask r18.1.tasks] [1616, 1617] (.tup [.agg [ow 0 r18.1.tree.nodes.length, pI r18.1.tree.next, ow 1 r18.1.tasks.length, pI r18.1.next], pI r18.2]))
       ·intro h17 hm
        refine Sk ?_
        refine DW.done ?_
        show DW _ _ _ _ _
        obtain ⟨r19, hr19, hm⟩ := bo hm
        refine Sq (RD hnt (.no :: o62 [] true r19 :: nn 2 []) [72] [(10, rr 1080)] [] [(1080, bx [ow 1648 r19.tree.nodes.length, pI r19.tree.next, ow 1649 r19.tasks.length, pI r19.next]), (1648, ob0 (roNode r19.tree.nodes)), (1649, ob0 (roTask r19.tasks))] (an (Copy_crewSpec p0 r19 hr19) tv) ?_)
        obtain ⟨g20, g21, hm⟩ := go2 hm
        refine Sq (RN hnt (nn 7 []) [(1, pI p1), (2, rr 1016), (4, rr 1032), (10, rr 1080)] [(1016, bx (pm (encHierarchy p0))), (c64e2), (1080, bx [ow 1648 (c64e5 r19 r4).length, pI r19.tree.next, ow 1649 r19.tasks.length, pI r19.next]), (1648, ob0 (roNode (c64e5 r19 r4))), (1649, ob0 (roTask r19.tasks))] [] [(1080, .box [ow 1648 r19.tree.nodes.length, pI r19.tree.next, ow 1649 r19.tasks.length, pI r19.next]), (1648, .row 6 r19.tree.nodes.length (c64e3 r19 r4))] (an g20.1 (an g20.2 (an g21 tv))) (by kernel_rfl) .nil (.cons rfl (.box (.cons (MLe.ownLen (enc := encNode) (d := dNode) (f := (c64e3 r19 r4)) (RowIs.upd RowIs.elems (c64e1 r19 r4) rfl)) (.cons .rfl (.cons .rfl (.cons .rfl .nil))))) (.cons rfl (BLe.typed (RowIs.upd RowIs.elems (c64e1 r19 r4) rfl)) .nil)) ?_)
        obtain ⟨r22, hr22, hm⟩ := bo hm
        refine Sq (Sq ?_)
        refine Jn (ι := Bool) (fun (y2 : Bool) => mkSt [(4, rr 1032), (10, rr 1080), (97, pB y2)] [(c64e2), (1080, bx [ow 1648 (c64e5 r19 r4).length, pI r19.tree.next, ow 1649 r19.tasks.length, pI r19.next]), (1648, ob0 (roNode (c64e5 r19 r4))), (1649, ob0 (roTask r19.tasks))]) (fun y2 => (Convert_threadedJ2 r4 r19) y2 = some RES) ?_ ?_
        ·intro y2 hm
         unfold Convert_threadedJ2 at hm
         refine condM hm ?_ ?_
         ·intro h25 hm
          obtain ⟨r26, hr26, hm⟩ := bo hm
          refine Sq (RK hnt (o65 [] true r26 :: nn 4 []) [(4, rr 1032), (5, pI r26.2)] [(1032, bx [ow 1784 r26.1.tree.nodes.length, pI r26.1.tree.next, ow 1785 r26.1.tasks.length, pI r26.1.next]), (1784, ob0 (roNode r26.1.tree.nodes)), (1785, ob0 (roTask r26.1.tasks))] (an (refuse_threadedSpec 6 r26 hr26) tv) ?_)
          obtain rfl := sj hm
          exact DW.ret (retK [roNode r26.1.tree.nodes, roTask r26.1.tasks] [1784, 1785] (.tup [.agg [ow 0 r26.1.tree.nodes.length, pI r26.1.tree.next, ow 1 r26.1.tasks.length, pI r26.1.next], pI r26.2]))
         ·intro h25 hm
          refine Sk ?_
          refine Sq (RD hnt (nn 3 []) [10, 97] [(5, pI 0)] [1080] [(1032, bx [ow 1648 (c64e5 r19 r4).length, pI r19.tree.next, ow 1649 r19.tasks.length, pI r19.next])] tv ?_)
          obtain rfl := sj hm
          exact DW.ret (retK [roNode (c64e5 r19 r4), roTask r19.tasks] [1648, 1649] (.tup [.agg [ow 0 (c64e5 r19 r4).length, pI r19.tree.next, ow 1 r19.tasks.length, pI r19.next], pI 0]))
        ·rcases bt (decide (((r22.length : Nat) : Int) > 0)) with h23 | h23
         ·replace hm := if_t h23 hm
          refine RD hnt (nn 2 (o25 [] true r22 :: nn 3 (sk 3 (pT :: [])))) [1, 2] [(97, pB true)] [1016] [] (an (Tasks_crewSpec p0 p1 r22 hr22) (an4 h23 tv)) ?_
          exact jD true hm Conv.eqK
         ·replace hm := if_f h23 hm
          obtain ⟨r24, hr24, hm⟩ := bo hm
          refine RD hnt (nn 2 (o25 [] true r22 :: nn 4 (o7 [] true r24 :: .no :: pF :: []))) [1, 2] [(97, pB (!r24))] [1016] [] (an (Tasks_crewSpec p0 p1 r22 hr22) (an2 h23 (an (Fits_threadedSpec ({ tree := ({ nodes := (c64e5 r19 r4), next := r19.tree.next } : Tree), tasks := r19.tasks, next := r19.next } : Hierarchy) r24 hr24) (an2 h23 tv)))) ?_
          exact jD (!r24) hm Conv.eqK
     ·rcases bt (r12 == 3) with h13 | h13
      ·replace hm := if_t h13 hm
       refine RD hnt (nn 4 (o66 [] true r12 :: nn 2 (sk 9 (pT :: .no :: [])))) [8, 40] [(51, pB true)] [1064] [] (an (Type_threadedSpec p0.tree (c64e4 p0 r4).parent r12 hr12) (an6 h13 tv)) ?_
       exact jD true hm Conv.eqK
      ·replace hm := if_f h13 hm
       rcases bt ((c64e4 p0 r4).parent != 1) with h14 | h14
       ·replace hm := if_t h14 hm
        refine RD hnt (nn 4 (o66 [] true r12 :: nn 10 (pT :: pF :: .no :: []))) [8, 40] [(51, pB ((kand .i64 r8.1.control 6) != 0))] [1064] [] (an (Type_threadedSpec p0.tree (c64e4 p0 r4).parent r12 hr12) (an4 h13 (an4 h14 (an h13 (an h14 (an h13 tv)))))) ?_
        exact jD ((kand .i64 r8.1.control 6) != 0) hm Conv.eqK
       ·replace hm := if_f h14 hm
        refine RD hnt (nn 4 (o66 [] true r12 :: nn 6 (sk 4 (pF :: pF :: .no :: [])))) [8, 40] [(51, pB false)] [1064] [] (an (Type_threadedSpec p0.tree (c64e4 p0 r4).parent r12 hr12) (an4 h13 (an4 h14 (an h13 (an h14 (an h13 tv)))))) ?_
        exact jD false hm Conv.eqK
abbrev o64 (ks : List Nat) (b : Bool) (RES : Hierarchy × Int) : Orc := .call 45 ks b (.tup [.agg [ow 0 RES.1.tree.nodes.length, pI RES.1.tree.next, ow 1 RES.1.tasks.length, pI RES.1.next], pI RES.2]) [] [roNode RES.1.tree.nodes, roTask RES.1.tasks]
end Go.Dm


/- Go functions compute their models, printed by a program. -/
namespace Go.Dm
open Go.Proofs
set_option linter.unusedVariables false
theorem sane_law8Spec (RES : Bool) (hm : sane_law8 = some RES) : Spec Tryz.prog 16 [] [] (pB RES) [] [] := by
 unfold sane_law8 at hm
 refine SO Tryz.func16 rfl rfl [] [] ?_
 intro cx hnt
 refine Sq (RK hnt (.no :: []) [] [] tv ?_)
 obtain ⟨r1, hr1, hm⟩ := bo hm
 obtain ⟨r2, hr2, hm⟩ := bo hm
 refine Sq (RK hnt (o4 [] true r1 :: o6 [] false r2 :: nn 8 []) [(1, rr 1008), (2, pI r2.2.1), (3, pI r2.2.2)] [(1008, bx [ow 1072 r2.1.tree.nodes.length, pI r2.1.tree.next, ow 1073 r2.1.tasks.length, pI r2.1.next]), (1072, ob0 (roNode r2.1.tree.nodes)), (1073, ob0 (roTask r2.1.tasks))] (an (New_ref6Spec r1 hr1) (an (Create_threadedSpec r1 1 (bs [97]) r2 hr2) tv)) ?_)
 refine Sq (DW.cv [] [] [1072] [(1008, bx [.p (slNode r2.1.tree.nodes), pI r2.1.tree.next, ow 1073 r2.1.tasks.length, pI r2.1.next])] (Conv.frz [1072]) ?_)
 refine DW.cv [] [] [1073] [(1008, bx (pm (encHierarchy r2.1)))] (Conv.frz [1073]) ?_
 obtain ⟨r5, hr5, hm⟩ := bo hm
 refine RD hnt (nn 2 (o6 [] true r5 :: nn 7 [])) [] [(4, pI r5.2.1), (5, pI r5.2.2)] [] [(1008, bx [ow 1128 r5.1.tree.nodes.length, pI r5.1.tree.next, ow 1129 r5.1.tasks.length, pI r5.1.next]), (1128, ob0 (roNode r5.1.tree.nodes)), (1129, ob0 (roTask r5.1.tasks))] (an (Create_threadedSpec r2.1 r2.2.1 (bs [98]) r5 hr5) tv) ?_
 refine Sq (DW.cv [] [] [1128] [(1008, bx [.p (slNode r5.1.tree.nodes), pI r5.1.tree.next, ow 1129 r5.1.tasks.length, pI r5.1.next])] (Conv.frz [1128]) ?_)
 refine DW.cv [] [] [1129] [(1008, bx (pm (encHierarchy r5.1)))] (Conv.frz [1129]) ?_
 obtain ⟨r8, hr8, hm⟩ := bo hm
 refine RD hnt (nn 2 (o64 [] true r8 :: nn 5 [])) [2] [(6, pI r8.2)] [] [(1008, bx [ow 1184 r8.1.tree.nodes.length, pI r8.1.tree.next, ow 1185 r8.1.tasks.length, pI r8.1.next]), (1184, ob0 (roNode r8.1.tree.nodes)), (1185, ob0 (roTask r8.1.tasks))] (an (Convert_threadedSpec r5.1 r2.2.1 r8 hr8) tv) ?_
 refine Sq ?_
 refine Jn (ι := Bool) (fun (y1 : Bool) => mkSt [(0, pB y1)] []) (fun y1 => sane_law8J1 y1 = some RES) ?_ ?_
 ·intro y1 hm
  unfold sane_law8J1 at hm
  obtain rfl := sj hm
  exact DW.ret (retK [] [] (pB y1))
 ·rcases bt (r2.2.2 == 0) with h9 | h9
  ·replace hm := if_t h9 hm
   rcases bt (r5.2.2 == 0) with h10 | h10
   ·replace hm := if_t h10 hm
    rcases bt (r8.2 == 0) with h11 | h11
    ·replace hm := if_t h11 hm
     obtain ⟨r12, hr12, hm⟩ := bo hm
     rcases bt (r12 == 3) with h13 | h13
     ·replace hm := if_t h13 hm
      obtain ⟨r14, hr14, hm⟩ := bo hm
      refine RK hnt (nn 5 (pT :: nn 3 (pT :: nn 4 (o66 [] true r12 :: .no :: pT :: nn 3 (o66 [] true r14 :: .no :: pT :: .no :: []))))) [(0, pB (r14 == 1))] [] (an3 h9 (an3 h10 (an4 h11 (an (Type_threadedSpec r8.1.tree r5.2.1 r12 hr12) (an2 h11 (an3 h13 (an (Type_threadedSpec r8.1.tree 1 r14 hr14) (an2 h13 tv)))))))) ?_
      exact jD (r14 == 1) hm .refl
     ·replace hm := if_f h13 hm
      refine RK hnt (nn 5 (pT :: nn 3 (pT :: nn 4 (o66 [] true r12 :: .no :: pT :: .no :: sk 4 (pF :: .no :: []))))) [(0, pB false)] [] (an3 h9 (an3 h10 (an4 h11 (an (Type_threadedSpec r8.1.tree r5.2.1 r12 hr12) (an2 h11 (an5 h13 tv)))))) ?_
      exact jD false hm .refl
    ·replace hm := if_f h11 hm
     refine RK hnt (nn 5 (pT :: nn 3 (pT :: .no :: sk 5 (pF :: .no :: sk 4 (pF :: .no :: []))))) [(0, pB false)] [] (an3 h9 (an3 h10 (an6 h11 (an5 ff tv)))) ?_
     exact jD false hm .refl
   ·replace hm := if_f h10 hm
    refine RK hnt (nn 5 (pT :: .no :: sk 2 (pF :: .no :: sk 5 (pF :: .no :: sk 4 (pF :: .no :: []))))) [(0, pB false)] [] (an3 h9 (an3 h10 (an5 ff (an6 ff tv)))) ?_
    exact jD false hm .refl
  ·replace hm := if_f h9 hm
   refine RK hnt (nn 3 (sk 2 (pF :: .no :: sk 2 (pF :: .no :: sk 5 (pF :: .no :: sk 4 (pF :: .no :: [])))))) [(0, pB false)] [] (an3 h9 (an2 ff (an6 ff (an6 ff tv)))) ?_
   exact jD false hm .refl
abbrev o3 (ks : List Nat) (b : Bool) (RES : Bool) : Orc := .call 16 ks b (pB RES) [] []

theorem Roll_madeSpec (p0 : List Int) (RES : Dice) (hm : Roll_made p0 = some RES) : Spec Tryz.prog 17 [.p (slI p0)] [] (rr 0) [] [.box (pm (encDice RES))] := by
 unfold Roll_made at hm
 refine SO Tryz.func17 rfl rfl [(0, .p (slI p0))] [] ?_
 intro cx hnt
 refine Sq (RK hnt (.no :: []) [(0, .p (slI p0))] [] tv ?_)
 refine Sq (RK hnt (nn 4 []) [(2, rr 1040)] [(1040, bx [.p (slI p0), pI 0])] tv ?_)
 obtain rfl := sj hm
 exact DW.ret (retK [.box [.p (slI p0), pI 0]] [1040] (rr 0))
abbrev o68 (ks : List Nat) (b : Bool) (RES : Dice) : Orc := .call 17 ks b (rr 0) [] [.box (pm (encDice RES))]

abbrev c71e1 (p0 : Dice) := (p0.l.getD (Int.toNat (w64 ((w64 (p0.atF + 1)) - 1))) 0)
theorem Next_Dice_madeSpec (p0 : Dice) (p1 : Int) (RES : Int × Dice) (hm : Next_Dice_made p0 p1 = some RES) : Spec Tryz.prog 19 [rr 0, pI p1] [.box (pm (encDice p0))] (pI RES.1) [.box (pm (encDice RES.2))] [] := by
 unfold Next_Dice_made at hm
 refine SO Tryz.func19 rfl rfl [(0, rr 0), (1, pI p1)] [(0, bx (pm (encDice p0)))] ?_
 intro cx hnt
 refine Sq (RD hnt (.no :: []) [] [] [] [] tv ?_)
 refine Sq (Sq (DW.regJ (sl2 := [(0, rr 0), (1, pI p1), (19, pB ((decide (p0.atF ≥ ((p0.l.length : Nat) : Int))) || (decide (p1 < 1))))]) (ob2 := [(0, bx (pm (encDice p0)))]) ?_ ?_))
 ·rcases bt (decide (p0.atF ≥ ((p0.l.length : Nat) : Int))) with h1 | h1
  ·exact RT hnt (nn 11 (sk 2 (pT :: []))) [(19, pB true)] (an3 h1 tv) (by kernel_rfl) (.cons rfl (.of_eq (by rw [h1]; try rfl)) .nil)
  ·exact RT hnt (nn 13 (pF :: [])) [(19, pB (decide (p1 < 1)))] (an3 h1 tv) (by kernel_rfl) (.cons rfl (.of_eq (by rw [h1]; try rfl)) .nil)
 ·refine condM hm ?_ ?_
  ·intro h2 hm
   refine Sq (RD hnt (.no :: []) [0, 1, 19] [(4, pI 0)] [] [] tv ?_)
   obtain rfl := sj hm
   exact DW.ret (retK [.box (pm (encDice p0))] [] (pI 0))
  ·intro h2 hm
   refine Sk ?_
   refine Sq (RD hnt (nn 8 []) [19] [] [] [(0, bx [.p (slI p0.l), pI (w64 (p0.atF + 1))])] tv ?_)
   obtain ⟨g3, g4, hm⟩ := go2 hm
   refine Sq (RD hnt (nn 14 []) [0] [(5, pI (Int.tmod (c71e1 p0) p1))] [] [] (an g3.1 (an g3.2 (an g4 tv))) ?_)
   refine Sq (Sq (RD hnt (nn 2 []) [] [(41, pB (decide ((Int.tmod (c71e1 p0) p1) < 0)))] [] [] tv ?_))
   refine Jn (ι := Int) (fun (y1 : Int) => mkSt [(5, pI y1)] [(0, bx [.p (slI p0.l), pI (w64 (p0.atF + 1))])]) (fun y1 => (Next_Dice_madeJ1 p0) y1 = some RES) ?_ ?_
   ·intro y1 hm
    unfold Next_Dice_madeJ1 at hm
    refine Sq (RD hnt (nn 2 []) [5] [(4, pI y1)] [] [] tv ?_)
    obtain rfl := sj hm
    exact DW.ret (retK [.box [.p (slI p0.l), pI (w64 (p0.atF + 1))]] [] (pI y1))
   ·refine condM hm ?_ ?_
    ·intro h5 hm
     refine RD hnt (nn 4 []) [1, 41] [(5, pI (w64 ((Int.tmod (c71e1 p0) p1) + p1)))] [] [] tv ?_
     exact jD (w64 ((Int.tmod (c71e1 p0) p1) + p1)) hm Conv.eqK
    ·intro h5 hm
     refine Sk ?_
     exact jD (Int.tmod (c71e1 p0) p1) hm Conv.t0
abbrev o71 (ks : List Nat) (b : Bool) (RES : Int × Dice) : Orc := .call 19 ks b (pI RES.1) [.box (pm (encDice RES.2))] []

theorem Name_Dice_madeSpec (p0 : Dice) (RES : ByteArray × Dice) (hm : Name_Dice_made p0 = some RES) : Spec Tryz.prog 52 [rr 0] [.box (pm (encDice p0))] (pS RES.1) [.box (pm (encDice RES.2))] [] := by
 unfold Name_Dice_made at hm
 refine SO Tryz.func52 rfl rfl [(0, rr 0)] [(0, bx (pm (encDice p0)))] ?_
 intro cx hnt
 refine Sq (RD hnt (.no :: []) [] [] [] [] tv ?_)
 obtain ⟨r3, hr3, hm⟩ := bo hm
 obtain ⟨g4, g5, hm⟩ := go2 hm
 refine Sq (RK hnt (.asR (ow 1024 [(bs [97]), (bs [98]), (bs [99]), (bs [119, 101, 98]), (bs [100, 98, 45, 49]), (bs [88, 95, 57])].length) [(bs [97]), (bs [98]), (bs [99]), (bs [119, 101, 98]), (bs [100, 98, 45, 49]), (bs [88, 95, 57])].length (elems encS ByteArray.empty [(bs [97]), (bs [98]), (bs [99]), (bs [119, 101, 98]), (bs [100, 98, 45, 49]), (bs [88, 95, 57])]) :: .no :: o71 [0] true r3 :: nn 3 []) [(2, pS ([(bs [97]), (bs [98]), (bs [99]), (bs [119, 101, 98]), (bs [100, 98, 45, 49]), (bs [88, 95, 57])].getD (Int.toNat r3.1) ByteArray.empty))] [(0, bx (pm (encDice r3.2)))] (an (congrArg (MV.own 1024 0 0) (RowIs.asP (enc := encS) (d := ByteArray.empty) (L := [(bs [97]), (bs [98]), (bs [99]), (bs [119, 101, 98]), (bs [100, 98, 45, 49]), (bs [88, 95, 57])]) (RowIs.lit (enc := encS) (d := ByteArray.empty) (n := 6) (f := (cut 1 [vs (bs [97]), vs (bs [98]), vs (bs [99]), vs (bs [119, 101, 98]), vs (bs [100, 98, 45, 49]), vs (bs [88, 95, 57])])) [(bs [97]), (bs [98]), (bs [99]), (bs [119, 101, 98]), (bs [100, 98, 45, 49]), (bs [88, 95, 57])] rfl (fun | 0, _ => rfl | 1, _ => rfl | 2, _ => rfl | 3, _ => rfl | 4, _ => rfl | 5, _ => rfl | n + 6, h => absurd h (by omega)))).1) (an (RowIs.asP (enc := encS) (d := ByteArray.empty) (L := [(bs [97]), (bs [98]), (bs [99]), (bs [119, 101, 98]), (bs [100, 98, 45, 49]), (bs [88, 95, 57])]) (RowIs.lit (enc := encS) (d := ByteArray.empty) (n := 6) (f := (cut 1 [vs (bs [97]), vs (bs [98]), vs (bs [99]), vs (bs [119, 101, 98]), vs (bs [100, 98, 45, 49]), vs (bs [88, 95, 57])])) [(bs [97]), (bs [98]), (bs [99]), (bs [119, 101, 98]), (bs [100, 98, 45, 49]), (bs [88, 95, 57])] rfl (fun | 0, _ => rfl | 1, _ => rfl | 2, _ => rfl | 3, _ => rfl | 4, _ => rfl | 5, _ => rfl | n + 6, h => absurd h (by omega)))) (an (Next_Dice_madeSpec p0 6 r3 hr3) (an tv (an g4.1 (an g4.2 (an g5 tv))))))) ?_)
 obtain rfl := sj hm
 exact DW.ret (retK [.box (pm (encDice r3.2))] [] (pS ([(bs [97]), (bs [98]), (bs [99]), (bs [119, 101, 98]), (bs [100, 98, 45, 49]), (bs [88, 95, 57])].getD (Int.toNat r3.1) ByteArray.empty)))
abbrev o72 (ks : List Nat) (b : Bool) (RES : ByteArray × Dice) : Orc := .call 52 ks b (pS RES.1) [.box (pm (encDice RES.2))] []

abbrev c76e1 (p0 : ByteArray) (k1 : Int) : Nat × MV := (57, pB (!((((byteAt p0 (Int.toNat k1)) : Nat) : Int) == 45)))
theorem Valid_ref1Spec (p0 : ByteArray) (RES : Bool) (hm : Valid_ref1 p0 = some RES) : Spec Tryz.prog 144 [pS p0] [] (pB RES) [] [] := by
 unfold Valid_ref1 at hm
 refine SO Tryz.func144 rfl rfl [(0, pS p0)] [] ?_
 intro cx hnt
 refine Sq (RK hnt (.no :: []) [(0, pS p0)] [] tv ?_)
 refine Sq (Sq ?_)
 refine Jn (ι := Bool) (fun (y1 : Bool) => mkSt [(0, pS p0), (17, pB y1)] []) (fun y1 => (Valid_ref1J1 p0) y1 = some RES) ?_ ?_
 ·intro y1 hm
  unfold Valid_ref1J1 at hm
  refine condM hm ?_ ?_
  ·intro h4 hm
   refine Sq (RK hnt (.no :: []) [(2, pB false)] [] tv ?_)
   obtain rfl := sj hm
   exact DW.ret (retK [] [] (pB false))
  ·intro h4 hm
   refine Sk ?_
   refine Sq (Sq (RK hnt (.no :: []) [(0, pS p0), (3, pI 0)] [] tv ?_))
   refine Bk ?_
   obtain ⟨hc1, hm⟩ := go1 hm
   refine DW.forO (fun (k1 : Int) (s1 : Unit) => mkSt [(0, pS p0), (3, pI k1)] []) (lo := 0) (hi := ((p0.size : Nat) : Int)) hm .refl ?_
   intro k1 s1 n1 hk1 hs1 he1
   refine Sq (Sq (RD hnt (nn 4 []) [] [(21, pB (decide (k1 < ((p0.size : Nat) : Int))))] [] [] tv ?_))
   refine condK (decide (k1 < ((p0.size : Nat) : Int))) ?_ ?_
   ·intro h55
    have hlt1 : k1 < ((p0.size : Nat) : Int) := by have := of_decide_eq_true h55; omega
    have hm := hs1 hlt1
    unfold Valid_ref1L1 at hm
    refine Sk ?_
    refine Sq (Bk ?_)
    obtain ⟨g56, hm⟩ := go1 hm
    refine Sq (RD hnt (nn 4 []) [21] [(4, .p (vk .u8 (((byteAt p0 (Int.toNat k1)) : Nat) : Int)))] [] [] (an g56.1 (an g56.2 tv)) ?_)
    refine Sq (DW.regJ (sl2 := [(0, pS p0), (3, pI k1), (57, pB (!((((((decide ((((byteAt p0 (Int.toNat k1)) : Nat) : Int) ≥ 97)) && (decide ((((byteAt p0 (Int.toNat k1)) : Nat) : Int) ≤ 122))) || ((decide ((((byteAt p0 (Int.toNat k1)) : Nat) : Int) ≥ 65)) && (decide ((((byteAt p0 (Int.toNat k1)) : Nat) : Int) ≤ 90)))) || ((decide ((((byteAt p0 (Int.toNat k1)) : Nat) : Int) ≥ 48)) && (decide ((((byteAt p0 (Int.toNat k1)) : Nat) : Int) ≤ 57)))) || ((((byteAt p0 (Int.toNat k1)) : Nat) : Int) == 95)) || ((((byteAt p0 (Int.toNat k1)) : Nat) : Int) == 45))))]) (ob2 := []) ?_ ?_)
    ·rcases bt (decide ((((byteAt p0 (Int.toNat k1)) : Nat) : Int) ≥ 97)) with h57 | h57
     ·rcases bt (decide ((((byteAt p0 (Int.toNat k1)) : Nat) : Int) ≤ 122)) with h58 | h58
      ·exact RT hnt (nn 5 (pT :: .no :: sk 6 (pT :: .no :: sk 6 (pT :: .no :: sk 2 (pT :: .no :: sk 2 (pT :: .no :: [])))))) [(57, pB false)] (an3 h57 (an5 h58 (an5 tt (an6 tt tv)))) (by kernel_rfl) (.cons rfl (.of_eq (by rw [h57, h58]; try rfl)) .nil)
      ·rcases bt (decide ((((byteAt p0 (Int.toNat k1)) : Nat) : Int) ≥ 65)) with h59 | h59
       ·rcases bt (decide ((((byteAt p0 (Int.toNat k1)) : Nat) : Int) ≤ 90)) with h60 | h60
        ·exact RT hnt (nn 5 (pT :: nn 6 (pT :: pF :: .no :: sk 6 (pT :: .no :: sk 2 (pT :: .no :: sk 2 (pT :: .no :: [])))))) [(57, pB false)] (an3 h57 (an3 h58 (an2 h59 (an h58 (an h59 (an h58 (an5 h60 (an6 tt tv)))))))) (by kernel_rfl) (.cons rfl (.of_eq (by rw [h57, h58, h59, h60]; try rfl)) .nil)
        ·rcases bt (decide ((((byteAt p0 (Int.toNat k1)) : Nat) : Int) ≥ 48)) with h61 | h61
         ·rcases bt (decide ((((byteAt p0 (Int.toNat k1)) : Nat) : Int) ≤ 57)) with h62 | h62
          ·exact RT hnt (nn 5 (pT :: nn 6 (pT :: pF :: nn 6 (pT :: pF :: .no :: sk 2 (pT :: .no :: sk 2 (pT :: .no :: [])))))) [(57, pB false)] (an3 h57 (an3 h58 (an2 h59 (an h58 (an h59 (an h58 (an3 h60 (an2 h61 (an h60 (an h61 (an h60 (an3 h62 (an3 tt tv))))))))))))) (by kernel_rfl) (.cons rfl (.of_eq (by rw [h57, h58, h59, h60, h61, h62]; try rfl)) .nil)
          ·rcases bt ((((byteAt p0 (Int.toNat k1)) : Nat) : Int) == 95) with h63 | h63
           ·exact RT hnt (nn 5 (pT :: nn 6 (pT :: pF :: nn 6 (pT :: pF :: nn 3 (pF :: .no :: sk 2 (pT :: .no :: [])))))) [(57, pB false)] (an3 h57 (an3 h58 (an2 h59 (an h58 (an h59 (an h58 (an3 h60 (an2 h61 (an h60 (an h61 (an h60 (an3 h62 (an3 h63 tv))))))))))))) (by kernel_rfl) (.cons rfl (.of_eq (by rw [h57, h58, h59, h60, h61, h62, h63]; try rfl)) .nil)
           ·exact RT hnt (nn 5 (pT :: nn 6 (pT :: pF :: nn 6 (pT :: pF :: nn 3 (pF :: nn 3 (pF :: .no :: [])))))) [(c76e1 p0 k1)] (an3 h57 (an3 h58 (an2 h59 (an h58 (an h59 (an h58 (an3 h60 (an2 h61 (an h60 (an h61 (an h60 (an3 h62 (an3 h63 tv))))))))))))) (by kernel_rfl) (.cons rfl (.of_eq (by rw [h57, h58, h59, h60, h61, h62, h63]; try rfl)) .nil)
         ·rcases bt ((((byteAt p0 (Int.toNat k1)) : Nat) : Int) == 95) with h64 | h64
          ·exact RT hnt (nn 5 (pT :: nn 6 (pT :: pF :: nn 4 (sk 2 (pF :: pF :: nn 3 (pF :: .no :: sk 2 (pT :: .no :: []))))))) [(57, pB false)] (an3 h57 (an3 h58 (an2 h59 (an h58 (an h59 (an h58 (an3 h60 (an2 h61 (an h60 (an h61 (an h60 (an3 ff (an3 h64 tv))))))))))))) (by kernel_rfl) (.cons rfl (.of_eq (by rw [h57, h58, h59, h60, h61, h64]; try rfl)) .nil)
          ·exact RT hnt (nn 5 (pT :: nn 6 (pT :: pF :: nn 4 (sk 2 (pF :: pF :: nn 3 (pF :: nn 3 (pF :: .no :: []))))))) [(c76e1 p0 k1)] (an3 h57 (an3 h58 (an2 h59 (an h58 (an h59 (an h58 (an3 h60 (an2 h61 (an h60 (an h61 (an h60 (an3 ff (an3 h64 tv))))))))))))) (by kernel_rfl) (.cons rfl (.of_eq (by rw [h57, h58, h59, h60, h61, h64]; try rfl)) .nil)
       ·rcases bt (decide ((((byteAt p0 (Int.toNat k1)) : Nat) : Int) ≥ 48)) with h65 | h65
        ·rcases bt (decide ((((byteAt p0 (Int.toNat k1)) : Nat) : Int) ≤ 57)) with h66 | h66
         ·exact RT hnt (nn 5 (pT :: nn 4 (sk 2 (pF :: pF :: nn 6 (pT :: pF :: .no :: sk 2 (pT :: .no :: sk 2 (pT :: .no :: []))))))) [(57, pB false)] (an3 h57 (an3 h58 (an2 h59 (an h58 (an h59 (an h58 (an3 ff (an2 h65 (an ff (an h65 (an ff (an3 h66 (an3 tt tv))))))))))))) (by kernel_rfl) (.cons rfl (.of_eq (by rw [h57, h58, h59, h65, h66]; try rfl)) .nil)
         ·rcases bt ((((byteAt p0 (Int.toNat k1)) : Nat) : Int) == 95) with h67 | h67
          ·exact RT hnt (nn 5 (pT :: nn 4 (sk 2 (pF :: pF :: nn 6 (pT :: pF :: nn 3 (pF :: .no :: sk 2 (pT :: .no :: []))))))) [(57, pB false)] (an3 h57 (an3 h58 (an2 h59 (an h58 (an h59 (an h58 (an3 ff (an2 h65 (an ff (an h65 (an ff (an3 h66 (an3 h67 tv))))))))))))) (by kernel_rfl) (.cons rfl (.of_eq (by rw [h57, h58, h59, h65, h66, h67]; try rfl)) .nil)
          ·exact RT hnt (nn 5 (pT :: nn 4 (sk 2 (pF :: pF :: nn 6 (pT :: pF :: nn 3 (pF :: nn 3 (pF :: .no :: []))))))) [(c76e1 p0 k1)] (an3 h57 (an3 h58 (an2 h59 (an h58 (an h59 (an h58 (an3 ff (an2 h65 (an ff (an h65 (an ff (an3 h66 (an3 h67 tv))))))))))))) (by kernel_rfl) (.cons rfl (.of_eq (by rw [h57, h58, h59, h65, h66, h67]; try rfl)) .nil)
        ·rcases bt ((((byteAt p0 (Int.toNat k1)) : Nat) : Int) == 95) with h68 | h68
         ·exact RT hnt (nn 5 (pT :: nn 4 (sk 2 (pF :: pF :: nn 4 (sk 2 (pF :: pF :: nn 3 (pF :: .no :: sk 2 (pT :: .no :: [])))))))) [(57, pB false)] (an3 h57 (an3 h58 (an2 h59 (an h58 (an h59 (an h58 (an3 ff (an2 h65 (an ff (an h65 (an4 ff (an3 h68 tv)))))))))))) (by kernel_rfl) (.cons rfl (.of_eq (by rw [h57, h58, h59, h65, h68]; try rfl)) .nil)
         ·exact RT hnt (nn 5 (pT :: nn 4 (sk 2 (pF :: pF :: nn 4 (sk 2 (pF :: pF :: nn 3 (pF :: nn 3 (pF :: .no :: [])))))))) [(c76e1 p0 k1)] (an3 h57 (an3 h58 (an2 h59 (an h58 (an h59 (an h58 (an3 ff (an2 h65 (an ff (an h65 (an4 ff (an3 h68 tv)))))))))))) (by kernel_rfl) (.cons rfl (.of_eq (by rw [h57, h58, h59, h65, h68]; try rfl)) .nil)
     ·rcases bt (decide ((((byteAt p0 (Int.toNat k1)) : Nat) : Int) ≥ 65)) with h69 | h69
      ·rcases bt (decide ((((byteAt p0 (Int.toNat k1)) : Nat) : Int) ≤ 90)) with h70 | h70
       ·exact RT hnt (nn 3 (sk 2 (pF :: nn 6 (pT :: pF :: .no :: sk 6 (pT :: .no :: sk 2 (pT :: .no :: sk 2 (pT :: .no :: []))))))) [(57, pB false)] (an3 h57 (an3 ff (an2 h69 (an ff (an h69 (an ff (an5 h70 (an6 tt tv)))))))) (by kernel_rfl) (.cons rfl (.of_eq (by rw [h57, h69, h70]; try rfl)) .nil)
       ·rcases bt (decide ((((byteAt p0 (Int.toNat k1)) : Nat) : Int) ≥ 48)) with h71 | h71
        ·rcases bt (decide ((((byteAt p0 (Int.toNat k1)) : Nat) : Int) ≤ 57)) with h72 | h72
         ·exact RT hnt (nn 3 (sk 2 (pF :: nn 6 (pT :: pF :: nn 6 (pT :: pF :: .no :: sk 2 (pT :: .no :: sk 2 (pT :: .no :: []))))))) [(57, pB false)] (an3 h57 (an3 ff (an2 h69 (an ff (an h69 (an ff (an3 h70 (an2 h71 (an h70 (an h71 (an h70 (an3 h72 (an3 tt tv))))))))))))) (by kernel_rfl) (.cons rfl (.of_eq (by rw [h57, h69, h70, h71, h72]; try rfl)) .nil)
         ·rcases bt ((((byteAt p0 (Int.toNat k1)) : Nat) : Int) == 95) with h73 | h73
          ·exact RT hnt (nn 3 (sk 2 (pF :: nn 6 (pT :: pF :: nn 6 (pT :: pF :: nn 3 (pF :: .no :: sk 2 (pT :: .no :: []))))))) [(57, pB false)] (an3 h57 (an3 ff (an2 h69 (an ff (an h69 (an ff (an3 h70 (an2 h71 (an h70 (an h71 (an h70 (an3 h72 (an3 h73 tv))))))))))))) (by kernel_rfl) (.cons rfl (.of_eq (by rw [h57, h69, h70, h71, h72, h73]; try rfl)) .nil)
          ·exact RT hnt (nn 3 (sk 2 (pF :: nn 6 (pT :: pF :: nn 6 (pT :: pF :: nn 3 (pF :: nn 3 (pF :: .no :: []))))))) [(c76e1 p0 k1)] (an3 h57 (an3 ff (an2 h69 (an ff (an h69 (an ff (an3 h70 (an2 h71 (an h70 (an h71 (an h70 (an3 h72 (an3 h73 tv))))))))))))) (by kernel_rfl) (.cons rfl (.of_eq (by rw [h57, h69, h70, h71, h72, h73]; try rfl)) .nil)
        ·rcases bt ((((byteAt p0 (Int.toNat k1)) : Nat) : Int) == 95) with h74 | h74
         ·exact RT hnt (nn 3 (sk 2 (pF :: nn 6 (pT :: pF :: nn 4 (sk 2 (pF :: pF :: nn 3 (pF :: .no :: sk 2 (pT :: .no :: [])))))))) [(57, pB false)] (an3 h57 (an3 ff (an2 h69 (an ff (an h69 (an ff (an3 h70 (an2 h71 (an h70 (an h71 (an h70 (an3 ff (an3 h74 tv))))))))))))) (by kernel_rfl) (.cons rfl (.of_eq (by rw [h57, h69, h70, h71, h74]; try rfl)) .nil)
         ·exact RT hnt (nn 3 (sk 2 (pF :: nn 6 (pT :: pF :: nn 4 (sk 2 (pF :: pF :: nn 3 (pF :: nn 3 (pF :: .no :: [])))))))) [(c76e1 p0 k1)] (an3 h57 (an3 ff (an2 h69 (an ff (an h69 (an ff (an3 h70 (an2 h71 (an h70 (an h71 (an h70 (an3 ff (an3 h74 tv))))))))))))) (by kernel_rfl) (.cons rfl (.of_eq (by rw [h57, h69, h70, h71, h74]; try rfl)) .nil)
      ·rcases bt (decide ((((byteAt p0 (Int.toNat k1)) : Nat) : Int) ≥ 48)) with h75 | h75
       ·rcases bt (decide ((((byteAt p0 (Int.toNat k1)) : Nat) : Int) ≤ 57)) with h76 | h76
        ·exact RT hnt (nn 3 (sk 2 (pF :: nn 4 (sk 2 (pF :: pF :: nn 6 (pT :: pF :: .no :: sk 2 (pT :: .no :: sk 2 (pT :: .no :: [])))))))) [(57, pB false)] (an3 h57 (an3 ff (an2 h69 (an ff (an h69 (an4 ff (an2 h75 (an ff (an h75 (an ff (an3 h76 (an3 tt tv)))))))))))) (by kernel_rfl) (.cons rfl (.of_eq (by rw [h57, h69, h75, h76]; try rfl)) .nil)
        ·rcases bt ((((byteAt p0 (Int.toNat k1)) : Nat) : Int) == 95) with h77 | h77
         ·exact RT hnt (nn 3 (sk 2 (pF :: nn 4 (sk 2 (pF :: pF :: nn 6 (pT :: pF :: nn 3 (pF :: .no :: sk 2 (pT :: .no :: [])))))))) [(57, pB false)] (an3 h57 (an3 ff (an2 h69 (an ff (an h69 (an4 ff (an2 h75 (an ff (an h75 (an ff (an3 h76 (an3 h77 tv)))))))))))) (by kernel_rfl) (.cons rfl (.of_eq (by rw [h57, h69, h75, h76, h77]; try rfl)) .nil)
         ·exact RT hnt (nn 3 (sk 2 (pF :: nn 4 (sk 2 (pF :: pF :: nn 6 (pT :: pF :: nn 3 (pF :: nn 3 (pF :: .no :: [])))))))) [(c76e1 p0 k1)] (an3 h57 (an3 ff (an2 h69 (an ff (an h69 (an4 ff (an2 h75 (an ff (an h75 (an ff (an3 h76 (an3 h77 tv)))))))))))) (by kernel_rfl) (.cons rfl (.of_eq (by rw [h57, h69, h75, h76, h77]; try rfl)) .nil)
       ·rcases bt ((((byteAt p0 (Int.toNat k1)) : Nat) : Int) == 95) with h78 | h78
        ·exact RT hnt (nn 3 (sk 2 (pF :: nn 4 (sk 2 (pF :: pF :: nn 4 (sk 2 (pF :: pF :: nn 3 (pF :: .no :: sk 2 (pT :: .no :: []))))))))) [(57, pB false)] (an3 h57 (an3 ff (an2 h69 (an ff (an h69 (an4 ff (an2 h75 (an ff (an h75 (an4 ff (an3 h78 tv))))))))))) (by kernel_rfl) (.cons rfl (.of_eq (by rw [h57, h69, h75, h78]; try rfl)) .nil)
        ·exact RT hnt (nn 3 (sk 2 (pF :: nn 4 (sk 2 (pF :: pF :: nn 4 (sk 2 (pF :: pF :: nn 3 (pF :: nn 3 (pF :: .no :: []))))))))) [(c76e1 p0 k1)] (an3 h57 (an3 ff (an2 h69 (an ff (an h69 (an4 ff (an2 h75 (an ff (an h75 (an4 ff (an3 h78 tv))))))))))) (by kernel_rfl) (.cons rfl (.of_eq (by rw [h57, h69, h75, h78]; try rfl)) .nil)
    ·refine condM hm ?_ ?_
     ·intro h79 hm
      refine Sq (RK hnt (.no :: []) [(2, pB false)] [] tv ?_)
      obtain rfl := sj hm
      exact DW.ret (retK [] [] (pB false))
     ·intro h79 hm
      refine Sk ?_
      refine DW.done ?_
      show DW _ _ _ _ _
      refine RK hnt (nn 3 []) [(0, pS p0), (3, pI (w64 (k1 + 1)))] [] tv ?_
      exact jD () ⟨hlt1, hm⟩ (Conv.tp [(3, pI (w64 (k1 + 1)))] [] (by kernel_rfl) (.cons rfl (.of_eq (congrArg pI (w64_for (lo := 0) (hi := ((p0.size : Nat) : Int)) (by omega) hk1 hlt1 (by omega)))) .nil) .nil)
   ·intro h55
    have hge1 : ¬ k1 < ((p0.size : Nat) : Int) := by have := of_decide_eq_false h55; omega
    have hm := he1 hge1
    unfold Valid_ref1D1 at hm
    refine DW.exit ?_
    refine joinQ_exit ?_
    refine KQ_exit ?_
    refine blockQ_exit ?_
    show DW _ _ _ _ _
    refine Sq (RK hnt (.no :: []) [(2, pB true)] [] tv ?_)
    obtain rfl := sj hm
    exact DW.ret (retK [] [] (pB true))
 ·rcases bt (((p0.size : Nat) : Int) == 0) with h1 | h1
  ·replace hm := if_t h1 hm
   refine RK hnt (nn 4 (sk 3 (pT :: .no :: sk 3 (pT :: [])))) [(0, pS p0), (17, pB true)] [] (an4 h1 (an4 tt tv)) ?_
   exact jD true hm .refl
  ·replace hm := if_f h1 hm
   rcases bt (decide (((p0.size : Nat) : Int) > 32)) with h2 | h2
   ·replace hm := if_t h2 hm
    refine RK hnt (nn 7 (pF :: .no :: sk 3 (pT :: []))) [(0, pS p0), (17, pB true)] [] (an4 h1 (an4 h2 tv)) ?_
    exact jD true hm .refl
   ·replace hm := if_f h2 hm
    obtain ⟨g3, hm⟩ := go1 hm
    refine RK hnt (nn 7 (pF :: nn 4 (pF :: []))) [(0, pS p0), (17, pB ((((byteAt p0 0) : Nat) : Int) == 45))] [] (an4 h1 (an2 h2 (an (nn0 0) (an (ltc g3) (an2 h2 tv))))) ?_
    exact jD ((((byteAt p0 0) : Nat) : Int) == 45) hm .refl
abbrev o76 (ks : List Nat) (b : Bool) (RES : Bool) : Orc := .call 144 ks b (pB RES) [] []

abbrev c75e1 (p0 : Tree) (p1 : Int) := (p0.nodes.getD (Int.toNat p1) dNode)
abbrev c75e2 (p0 : Tree) (p1 : Int) : Nat × Obj := (1040, bx (pm (encNode (c75e1 p0 p1))))
abbrev c75e3 (p0 : Tree) : Nat × Obj := (1016, bx (pm (encTree p0)))
abbrev c75e4 (p0 : Tree) (k1 : Int) := (p0.nodes.getD (Int.toNat k1) dNode)
theorem node_ref5Spec (p0 : Tree) (p1 : Int) (RES : Bool) (hm : node_ref5 p0 p1 = some RES) : Spec Tryz.prog 135 [.p (.agg (encTree p0)), pI p1] [] (pB RES) [] [] := by
 unfold node_ref5 at hm
 refine SO Tryz.func135 rfl rfl [(0, .p (.agg (encTree p0))), (1, pI p1)] [] ?_
 intro cx hnt
 refine Sq (RK hnt (nn 2 []) [(1, pI p1), (2, rr 1016)] [(c75e3 p0)] tv ?_)
 obtain ⟨g1, hm⟩ := go1 hm
 refine Sq (RD hnt (nn 7 []) [] [(5, rr 1040)] [] [(c75e2 p0 p1)] (an g1.1 (an g1.2 tv)) ?_)
 refine Sq (Sq (DW.regJ (sl2 := [(1, pI p1), (2, rr 1016), (5, rr 1040), (40, pB (((((((c75e1 p0 p1).kind != 0) && ((c75e1 p0 p1).kind != 1)) || (decide ((c75e1 p0 p1).control < 0))) || (decide ((c75e1 p0 p1).control > 31))) || (decide ((c75e1 p0 p1).owner < 0))) || (decide ((c75e1 p0 p1).owner > 1048576))))]) (ob2 := [(c75e3 p0), (c75e2 p0 p1)]) ?_ ?_))
 ·rcases bt ((c75e1 p0 p1).kind != 0) with h2 | h2
  ·rcases bt ((c75e1 p0 p1).kind != 1) with h3 | h3
   ·exact RT hnt (nn 7 (pT :: .no :: sk 3 (pT :: .no :: sk 3 (pT :: .no :: sk 3 (pT :: .no :: sk 3 (pT :: [])))))) [(40, pB true)] (an4 h2 (an4 h3 (an6 tt (an6 tt tv)))) (by kernel_rfl) (.cons rfl (.of_eq (by rw [h2, h3]; try rfl)) .nil)
   ·rcases bt (decide ((c75e1 p0 p1).control < 0)) with h4 | h4
    ·exact RT hnt (nn 7 (pT :: nn 4 (pF :: .no :: sk 3 (pT :: .no :: sk 3 (pT :: .no :: sk 3 (pT :: [])))))) [(40, pB true)] (an4 h2 (an4 h3 (an4 h4 (an2 tt (an6 tt tv))))) (by kernel_rfl) (.cons rfl (.of_eq (by rw [h2, h3, h4]; try rfl)) .nil)
    ·rcases bt (decide ((c75e1 p0 p1).control > 31)) with h5 | h5
     ·exact RT hnt (nn 7 (pT :: nn 4 (pF :: nn 4 (pF :: .no :: sk 3 (pT :: .no :: sk 3 (pT :: [])))))) [(40, pB true)] (an4 h2 (an4 h3 (an4 h4 (an4 h5 (an4 tt tv))))) (by kernel_rfl) (.cons rfl (.of_eq (by rw [h2, h3, h4, h5]; try rfl)) .nil)
     ·rcases bt (decide ((c75e1 p0 p1).owner < 0)) with h6 | h6
      ·exact RT hnt (nn 7 (pT :: nn 4 (pF :: nn 4 (pF :: nn 4 (pF :: .no :: sk 3 (pT :: [])))))) [(40, pB true)] (an4 h2 (an4 h3 (an4 h4 (an4 h5 (an4 h6 tv))))) (by kernel_rfl) (.cons rfl (.of_eq (by rw [h2, h3, h4, h5, h6]; try rfl)) .nil)
      ·exact RT hnt (nn 7 (pT :: nn 4 (pF :: nn 4 (pF :: nn 4 (pF :: nn 4 (pF :: [])))))) [(40, pB (decide ((c75e1 p0 p1).owner > 1048576)))] (an4 h2 (an4 h3 (an4 h4 (an4 h5 (an4 h6 tv))))) (by kernel_rfl) (.cons rfl (.of_eq (by rw [h2, h3, h4, h5, h6]; try rfl)) .nil)
  ·rcases bt (decide ((c75e1 p0 p1).control < 0)) with h7 | h7
   ·exact RT hnt (nn 4 (sk 3 (pF :: nn 4 (pF :: .no :: sk 3 (pT :: .no :: sk 3 (pT :: .no :: sk 3 (pT :: []))))))) [(40, pB true)] (an4 h2 (an4 ff (an4 h7 (an2 tt (an6 tt tv))))) (by kernel_rfl) (.cons rfl (.of_eq (by rw [h2, h7]; try rfl)) .nil)
   ·rcases bt (decide ((c75e1 p0 p1).control > 31)) with h8 | h8
    ·exact RT hnt (nn 4 (sk 3 (pF :: nn 4 (pF :: nn 4 (pF :: .no :: sk 3 (pT :: .no :: sk 3 (pT :: []))))))) [(40, pB true)] (an4 h2 (an4 ff (an4 h7 (an4 h8 (an4 tt tv))))) (by kernel_rfl) (.cons rfl (.of_eq (by rw [h2, h7, h8]; try rfl)) .nil)
    ·rcases bt (decide ((c75e1 p0 p1).owner < 0)) with h9 | h9
     ·exact RT hnt (nn 4 (sk 3 (pF :: nn 4 (pF :: nn 4 (pF :: nn 4 (pF :: .no :: sk 3 (pT :: []))))))) [(40, pB true)] (an4 h2 (an4 ff (an4 h7 (an4 h8 (an4 h9 tv))))) (by kernel_rfl) (.cons rfl (.of_eq (by rw [h2, h7, h8, h9]; try rfl)) .nil)
     ·exact RT hnt (nn 4 (sk 3 (pF :: nn 4 (pF :: nn 4 (pF :: nn 4 (pF :: nn 4 (pF :: []))))))) [(40, pB (decide ((c75e1 p0 p1).owner > 1048576)))] (an4 h2 (an4 ff (an4 h7 (an4 h8 (an4 h9 tv))))) (by kernel_rfl) (.cons rfl (.of_eq (by rw [h2, h7, h8, h9]; try rfl)) .nil)
 ·refine condM hm ?_ ?_
  ·intro h10 hm
   refine Sq (RK hnt (.no :: []) [(4, pB false)] [] tv ?_)
   obtain rfl := sj hm
   exact DW.ret (retK [] [] (pB false))
  ·intro h10 hm
   refine Sk ?_
   refine Sq (Sq (RD hnt (nn 2 []) [40] [(42, pB (p1 == 0))] [] [] tv ?_))
   refine condM hm ?_ ?_
   ·intro h11 hm
    refine Sq (DW.regJ (sl2 := [(4, pB (((((c75e1 p0 p1).id == 1) && ((c75e1 p0 p1).parent == 0)) && (beqS (c75e1 p0 p1).name ByteArray.empty)) && ((c75e1 p0 p1).kind == 0)))]) (ob2 := []) ?_ ?_)
    ·rcases bt ((c75e1 p0 p1).id == 1) with h12 | h12
     ·rcases bt ((c75e1 p0 p1).parent == 0) with h13 | h13
      ·rcases bt (beqS (c75e1 p0 p1).name ByteArray.empty) with h14 | h14
       ·exact RT hnt (nn 7 (pT :: nn 4 (pT :: nn 4 (pT :: .no :: [])))) [(4, pB ((c75e1 p0 p1).kind == 0))] (an4 h12 (an4 h13 (an4 h14 tv))) (by kernel_rfl) (.cons rfl (.of_eq (by rw [h12, h13, h14]; try rfl)) .nil)
       ·exact RT hnt (nn 7 (pT :: nn 4 (pT :: .no :: sk 3 (pF :: .no :: [])))) [(4, pB false)] (an4 h12 (an4 h13 (an4 h14 tv))) (by kernel_rfl) (.cons rfl (.of_eq (by rw [h12, h13, h14]; try rfl)) .nil)
      ·exact RT hnt (nn 7 (pT :: .no :: sk 3 (pF :: .no :: sk 3 (pF :: .no :: [])))) [(4, pB false)] (an4 h12 (an4 h13 (an4 ff tv))) (by kernel_rfl) (.cons rfl (.of_eq (by rw [h12, h13]; try rfl)) .nil)
     ·exact RT hnt (nn 4 (sk 3 (pF :: .no :: sk 3 (pF :: .no :: sk 3 (pF :: .no :: []))))) [(4, pB false)] (an4 h12 (an2 ff (an6 ff tv))) (by kernel_rfl) (.cons rfl (.of_eq (by rw [h12]; try rfl)) .nil)
    ·refine DW.ret ?_
     obtain rfl := sj hm
     exact retK [] [] (pB (((((c75e1 p0 p1).id == 1) && ((c75e1 p0 p1).parent == 0)) && (beqS (c75e1 p0 p1).name ByteArray.empty)) && ((c75e1 p0 p1).kind == 0)))
   ·intro h11 hm
    refine Sk ?_
    obtain ⟨g15, hm⟩ := go1 hm
    refine Sq (Sq ?_)
    refine Jn (ι := Bool) (fun (y1 : Bool) => mkSt [(1, pI p1), (2, rr 1016), (5, rr 1040), (76, pB y1)] [(c75e3 p0), (c75e2 p0 p1)]) (fun y1 => (node_ref5J1 p0 p1) y1 = some RES) ?_ ?_
    ·intro y1 hm
     unfold node_ref5J1 at hm
     refine condM hm ?_ ?_
     ·intro h18 hm
      refine Sq (RK hnt (.no :: []) [(4, pB false)] [] tv ?_)
      obtain rfl := sj hm
      exact DW.ret (retK [] [] (pB false))
     ·intro h18 hm
      refine Sk ?_
      refine Sq (RD hnt (.no :: []) [76] [(6, pB false)] [] [] tv ?_)
      refine Sq (Sq (RD hnt (.no :: []) [] [(7, pI 0)] [] [] tv ?_))
      refine Bk ?_
      obtain ⟨hc1, hm⟩ := go1 hm
      refine DW.forO (fun (k1 : Int) (s1 : Bool) => mkSt [(1, pI p1), (2, rr 1016), (5, rr 1040), (6, pB s1), (7, pI k1)] [(c75e3 p0), (c75e2 p0 p1)]) (lo := 0) (hi := p1) hm Conv.eqK ?_
      intro k1 s1 n1 hk1 hs1 he1
      refine Sq (Sq (RD hnt (nn 3 []) [] [(79, pB (decide (k1 < p1)))] [] [] tv ?_))
      refine condK (decide (k1 < p1)) ?_ ?_
      ·intro h32
       have hlt1 : k1 < p1 := by have := of_decide_eq_true h32; omega
       have hm := hs1 hlt1
       unfold node_ref5L1 at hm
       refine Sk ?_
       refine Sq (Bk ?_)
       refine Sq ?_
       refine Jn (ι := Bool) (fun (y5 : Bool) => mkSt [(1, pI p1), (2, rr 1016), (5, rr 1040), (6, pB y5), (7, pI k1)] [(c75e3 p0), (c75e2 p0 p1)]) (fun y5 => (node_ref5J5 p0 p1 k1 n1) y5 = some RES) ?_ ?_
       ·intro y5 hm
        unfold node_ref5J5 at hm
        obtain ⟨g35, hm⟩ := go1 hm
        refine Sq ?_
        refine Jn (ι := Bool) (fun (y6 : Bool) => mkSt [(1, pI p1), (2, rr 1016), (5, rr 1040), (6, pB y5), (7, pI k1), (113, pB y6)] [(c75e3 p0), (c75e2 p0 p1)]) (fun y6 => (node_ref5J6 n1 y5) y6 = some RES) ?_ ?_
        ·intro y6 hm
         unfold node_ref5J6 at hm
         refine condM hm ?_ ?_
         ·intro h38 hm
          refine Sq (RK hnt (.no :: []) [(4, pB false)] [] tv ?_)
          obtain rfl := sj hm
          exact DW.ret (retK [] [] (pB false))
         ·intro h38 hm
          refine Sk ?_
          refine DW.done ?_
          show DW _ _ _ _ _
          refine RD hnt (nn 3 []) [113] [(7, pI (w64 (k1 + 1)))] [] [] tv ?_
          exact jD y5 ⟨hlt1, hm⟩ (Conv.tp [(7, pI (w64 (k1 + 1)))] [] (by kernel_rfl) (.cons rfl (.of_eq (congrArg pI (w64_for (lo := 0) (hi := p1) (by omega) hk1 hlt1 (by omega)))) .nil) .nil)
        ·rcases bt ((c75e4 p0 k1).parent == (c75e1 p0 p1).parent) with h36 | h36
         ·replace hm := if_t h36 hm
          obtain ⟨g37, hm⟩ := go1 hm
          refine RD hnt (nn 19 (pT :: [])) [] [(113, pB (beqS (c75e4 p0 k1).name (c75e1 p0 p1).name))] [] [] (an g35.1 (an g35.2 (an4 h36 (an g37.1 (an g37.2 (an6 h36 tv)))))) ?_
          exact jD (beqS (c75e4 p0 k1).name (c75e1 p0 p1).name) hm Conv.eqK
         ·replace hm := if_f h36 hm
          refine RD hnt (nn 10 (sk 9 (pF :: []))) [] [(113, pB false)] [] [] (an g35.1 (an g35.2 (an4 h36 (an6 h36 tv)))) ?_
          exact jD false hm Conv.eqK
       ·rcases bt s1 with h33 | h33
        ·replace hm := if_t h33 hm
         refine RD hnt (nn 2 (sk 9 (pT :: .no :: []))) [79] [(6, pB true)] [] [] (an4 h33 (an6 h33 tv)) ?_
         exact jD true hm Conv.eqK
        ·replace hm := if_f h33 hm
         obtain ⟨g34, hm⟩ := go1 hm
         refine RD hnt (nn 11 (pF :: .no :: [])) [79] [(6, pB ((c75e4 p0 k1).id == (c75e1 p0 p1).parent))] [] [] (an4 h33 (an g34.1 (an g34.2 (an6 h33 tv)))) ?_
         exact jD ((c75e4 p0 k1).id == (c75e1 p0 p1).parent) hm Conv.eqK
      ·intro h32
       have hge1 : ¬ k1 < p1 := by have := of_decide_eq_false h32; omega
       have hm := he1 hge1
       unfold node_ref5D1 at hm
       refine DW.exit ?_
       refine joinQ_exit ?_
       refine KQ_exit ?_
       refine blockQ_exit ?_
       show DW _ _ _ _ _
       refine Sq (RK hnt (nn 2 []) [(4, pB s1)] [] tv ?_)
       obtain rfl := sj hm
       exact DW.ret (retK [] [] (pB s1))
    ·rcases bt (decide ((c75e1 p0 p1).id ≤ (p0.nodes.getD (Int.toNat (w64 (p1 - 1))) dNode).id)) with h16 | h16
     ·replace hm := if_t h16 hm
      refine RD hnt (nn 11 (sk 4 (pT :: []))) [42] [(76, pB true)] [] [] (an g15.1 (an g15.2 (an5 h16 tv))) ?_
      exact jD true hm Conv.eqK
     ·replace hm := if_f h16 hm
      obtain ⟨r17, hr17, hm⟩ := bo hm
      refine RD hnt (nn 13 (o76 [] true r17 :: .no :: pF :: [])) [42] [(76, pB (!r17))] [] [] (an g15.1 (an g15.2 (an3 h16 (an (Valid_ref1Spec (c75e1 p0 p1).name r17 hr17) (an2 h16 tv))))) ?_
      exact jD (!r17) hm Conv.eqK
abbrev o75 (ks : List Nat) (b : Bool) (RES : Bool) : Orc := .call 135 ks b (pB RES) [] []

theorem up_ref5Spec (p0 : Tree) (p1 : Int) (RES : List Int) (hm : up_ref5 p0 p1 = some RES) : Spec Tryz.prog 87 [.p (.agg (encTree p0)), pI p1] [] (ow 0 RES.length) [] [roI RES] := by
 unfold up_ref5 at hm
 refine SO Tryz.func87 rfl rfl [(0, .p (.agg (encTree p0))), (1, pI p1)] [] ?_
 intro cx hnt
 refine Sq (RK hnt (nn 2 []) [(1, pI p1), (2, rr 1016)] [(1016, bx (pm (encTree p0)))] tv ?_)
 refine Sq (RD hnt (.no :: []) [] [(5, .p (.sl .nil 0 0 (fun _ => [])))] [] [] tv ?_)
 refine Sq (Sq (RD hnt (nn 5 []) [] [(6, pI (w64 (((p0.nodes.length : Nat) : Int) - 1)))] [] [] tv ?_))
 refine Bk ?_
 refine DW.whileO (fun (s1 : (List Int) × Int × Int) => mkSt [(1, pI s1.2.1), (2, rr 1016), (5, ow 1208 s1.1.length), (6, pI s1.2.2)] [(1016, bx (pm (encTree p0))), (1208, ob0 (roI s1.1))]) hm (Conv.ads [(.s 5, 1208, 1, elems encI 0 [])]) ?_
 intro s1 n1 hm
 unfold up_ref5L1 at hm
 refine Sq (Sq (RD hnt (nn 2 []) [] [(12, pB (decide (s1.2.2 ≥ 0)))] [] [] tv ?_))
 refine condM hm ?_ ?_
 ·intro h5 hm
  refine Sk ?_
  refine Sq ?_
  refine Jn (ι := (List Int) × Int) (fun (y2 : (List Int) × Int) => mkSt [(1, pI y2.2), (2, rr 1016), (5, ow 1208 y2.1.length), (6, pI s1.2.2)] [(1016, bx (pm (encTree p0))), (1208, ob0 (roI y2.1))]) (fun y2 => (up_ref5J2 s1 n1) y2 = some RES) ?_ ?_
  ·intro y2 hm
   unfold up_ref5J2 at hm
   refine RD hnt (nn 3 []) [] [(6, pI (w64 (s1.2.2 - 1)))] [] [] tv ?_
   exact jD (y2.1, y2.2, (w64 (s1.2.2 - 1))) hm Conv.eqK
  ·refine Bk ?_
   obtain ⟨g6, hm⟩ := go1 hm
   refine Sq (RD hnt (nn 8 []) [12] [(22, pB ((p0.nodes.getD (Int.toNat s1.2.2) dNode).id == s1.2.1))] [] [] (an g6.1 (an g6.2 tv)) ?_)
   refine condM hm ?_ ?_
   ·intro h7 hm
    obtain ⟨g8, hm⟩ := go1 hm
    refine Sq (RN hnt (nn 5 []) [(2, rr 1016), (5, ow 1208 (s1.1 ++ [s1.2.1]).length), (6, pI s1.2.2)] [(1016, bx (pm (encTree p0))), (1208, ob0 (roI (s1.1 ++ [s1.2.1])))] [(5, ow 1208 (s1.1.length + 1))] [(1208, .row 1 (s1.1.length + 1) (catF s1.1.length (elI s1.1) (cut 1 [vi s1.2.1])))] (an (by omega : (s1.1.length + 1) * 8 ≤ 140737488355328) tv) (by kernel_rfl) (.cons rfl (MLe.ownLen (enc := encI) (d := 0) (f := (catF s1.1.length (elI s1.1) (cut 1 [vi s1.2.1]))) (RowIs.cat RowIs.elems (RowIs.lit (enc := encI) (d := 0) (n := 1) (f := (cut 1 [vi s1.2.1])) [s1.2.1] rfl (fun | 0, _ => rfl | n + 1, h => absurd h (by omega))))) .nil) (.cons rfl (BLe.typed (RowIs.cat RowIs.elems (RowIs.lit (enc := encI) (d := 0) (n := 1) (f := (cut 1 [vi s1.2.1])) [s1.2.1] rfl (fun | 0, _ => rfl | n + 1, h => absurd h (by omega))))) .nil) ?_)
    obtain ⟨g9, hm⟩ := go1 hm
    refine RD hnt (nn 7 []) [] [(1, pI (p0.nodes.getD (Int.toNat s1.2.2) dNode).parent)] [] [] (an g9.1 (an g9.2 tv)) ?_
    exact bD ((s1.1 ++ [s1.2.1]), (p0.nodes.getD (Int.toNat s1.2.2) dNode).parent) hm Conv.eqK
   ·intro h7 hm
    refine Sk ?_
    exact bD (s1.1, s1.2.1) hm Conv.t0
 ·intro h5 hm
  refine DW.exit ?_
  refine joinQ_exit ?_
  refine KQ_exit ?_
  refine blockQ_exit ?_
  show DW _ _ _ _ _
  refine Sq (RK hnt (nn 2 []) [(4, ow 1208 s1.1.length)] [(1208, ob0 (roI s1.1))] tv ?_)
  obtain rfl := sj hm
  exact DW.ret (retK [roI s1.1] [1208] (ow 0 s1.1.length))
abbrev o77 (ks : List Nat) (b : Bool) (RES : List Int) : Orc := .call 87 ks b (ow 0 RES.length) [] [roI RES]

abbrev c74e1 (p0 : Tree) : Nat × MV := (3, pI ((p0.nodes.length : Nat) : Int))
theorem Check_ref5Spec (p0 : Tree) (RES : Bool) (hm : Check_ref5 p0 = some RES) : Spec Tryz.prog 88 [.p (.agg (encTree p0))] [] (pB RES) [] [] := by
 unfold Check_ref5 at hm
 refine SO Tryz.func88 rfl rfl [(0, .p (.agg (encTree p0)))] [] ?_
 intro cx hnt
 refine Sq (RK hnt (nn 2 []) [(1, rr 1008)] [(1008, bx (pm (encTree p0)))] tv ?_)
 refine Sq (RD hnt (nn 4 []) [] [(c74e1 p0)] [] [] tv ?_)
 refine Sq (Sq (DW.regJ (sl2 := [(1, rr 1008), (c74e1 p0), (14, pB ((decide (((p0.nodes.length : Nat) : Int) < 1)) || (decide (((p0.nodes.length : Nat) : Int) > 64))))]) (ob2 := [(1008, bx (pm (encTree p0)))]) ?_ ?_))
 ·rcases bt (decide (((p0.nodes.length : Nat) : Int) < 1)) with h1 | h1
  ·exact RT hnt (nn 3 (sk 2 (pT :: []))) [(14, pB true)] (an3 h1 tv) (by kernel_rfl) (.cons rfl (.of_eq (by rw [h1]; try rfl)) .nil)
  ·exact RT hnt (nn 5 (pF :: [])) [(14, pB (decide (((p0.nodes.length : Nat) : Int) > 64)))] (an3 h1 tv) (by kernel_rfl) (.cons rfl (.of_eq (by rw [h1]; try rfl)) .nil)
 ·refine condM hm ?_ ?_
  ·intro h2 hm
   refine Sq (RK hnt (.no :: []) [(2, pB false)] [] tv ?_)
   obtain rfl := sj hm
   exact DW.ret (retK [] [] (pB false))
  ·intro h2 hm
   refine Sk ?_
   refine Sq (Sq (RD hnt (.no :: []) [14] [(4, pI 0)] [] [] tv ?_))
   refine Bk ?_
   obtain ⟨hc1, hm⟩ := go1 hm
   refine DW.rangeO (fun (k1 : Nat) (s1 : Unit) => mkSt [(1, rr 1008), (c74e1 p0), (4, pI ((k1 : Nat) : Int))] [(1008, bx (pm (encTree p0)))]) dNode hm Conv.eqK ?_
   intro k1 s1 n1 hk1 hs1 he1
   refine Sq (Sq (RD hnt (nn 3 []) [] [(17, pB (decide (((k1 : Nat) : Int) < ((p0.nodes.length : Nat) : Int))))] [] [] tv ?_))
   refine condK (decide (((k1 : Nat) : Int) < ((p0.nodes.length : Nat) : Int))) ?_ ?_
   ·intro h32
    have hlt1 : k1 < p0.nodes.length := by have := of_decide_eq_true h32; omega
    have hm := hs1 hlt1
    unfold Check_ref5L1 at hm
    refine Sk ?_
    refine Sq (Bk ?_)
    obtain ⟨r33, hr33, hm⟩ := bo hm
    refine Sq (RD hnt (nn 2 (o75 [] true r33 :: .no :: [])) [17] [(23, pB (!r33))] [] [] (an (node_ref5Spec p0 ((k1 : Nat) : Int) r33 hr33) tv) ?_)
    refine condM hm ?_ ?_
    ·intro h34 hm
     refine Sq (RK hnt (.no :: []) [(2, pB false)] [] tv ?_)
     obtain rfl := sj hm
     exact DW.ret (retK [] [] (pB false))
    ·intro h34 hm
     refine Sk ?_
     refine DW.done ?_
     show DW _ _ _ _ _
     refine RD hnt (nn 3 []) [23] [(4, pI (w64 (((k1 : Nat) : Int) + 1)))] [] [] tv ?_
     exact jD () ⟨hlt1, hm⟩ (Conv.tp [(4, pI (w64 (((k1 : Nat) : Int) + 1)))] [] (by kernel_rfl) (.cons rfl (.of_eq (congrArg pI (w64_succ hlt1 hc1))) .nil) .nil)
   ·intro h32
    have hge1 : ¬ k1 < p0.nodes.length := by have := of_decide_eq_false h32; omega
    have hm := he1 hge1
    unfold Check_ref5D1 at hm
    refine DW.exit ?_
    refine joinQ_exit ?_
    refine KQ_exit ?_
    refine blockQ_exit ?_
    show DW _ _ _ _ _
    refine Sq (Sq (RD hnt (.no :: []) [4, 17] [(5, pI 0)] [] [] tv ?_))
    refine Bk ?_
    obtain ⟨hc4, hm⟩ := go1 hm
    refine DW.rangeO (fun (k4 : Nat) (s4 : Unit) => mkSt [(1, rr 1008), (c74e1 p0), (5, pI ((k4 : Nat) : Int))] [(1008, bx (pm (encTree p0)))]) dNode hm Conv.eqK ?_
    intro k4 s4 n4 hk4 hs4 he4
    refine Sq (Sq (RD hnt (nn 3 []) [] [(26, pB (decide (((k4 : Nat) : Int) < ((p0.nodes.length : Nat) : Int))))] [] [] tv ?_))
    refine condK (decide (((k4 : Nat) : Int) < ((p0.nodes.length : Nat) : Int))) ?_ ?_
    ·intro h49
     have hlt4 : k4 < p0.nodes.length := by have := of_decide_eq_true h49; omega
     have hm := hs4 hlt4
     unfold Check_ref5L4 at hm
     refine Sk ?_
     refine Sq (Bk ?_)
     obtain ⟨r50, hr50, hm⟩ := bo hm
     refine Sq (RD hnt (nn 7 (o77 [] true r50 :: nn 2 [])) [26] [(38, pB (decide (((r50.length : Nat) : Int) > 9)))] [] [] (an (nn0 k4) (an (ltc hlt4) (an (up_ref5Spec p0 (p0.nodes.getD k4 (default : Node)).id r50 hr50) tv))) ?_)
     refine condM hm ?_ ?_
     ·intro h51 hm
      refine Sq (RK hnt (.no :: []) [(2, pB false)] [] tv ?_)
      obtain rfl := sj hm
      exact DW.ret (retK [] [] (pB false))
     ·intro h51 hm
      refine Sk ?_
      refine DW.done ?_
      show DW _ _ _ _ _
      refine RD hnt (nn 3 []) [38] [(5, pI (w64 (((k4 : Nat) : Int) + 1)))] [] [] tv ?_
      exact jD () ⟨hlt4, hm⟩ (Conv.tp [(5, pI (w64 (((k4 : Nat) : Int) + 1)))] [] (by kernel_rfl) (.cons rfl (.of_eq (congrArg pI (w64_succ hlt4 hc4))) .nil) .nil)
    ·intro h49
     have hge4 : ¬ k4 < p0.nodes.length := by have := of_decide_eq_false h49; omega
     have hm := he4 hge4
     unfold Check_ref5D4 at hm
     refine DW.exit ?_
     refine joinQ_exit ?_
     refine KQ_exit ?_
     refine blockQ_exit ?_
     show DW _ _ _ _ _
     obtain ⟨g52, hm⟩ := go1 hm
     refine Sq ?_
     refine Jn (ι := Bool) (fun (y7 : Bool) => mkSt [(2, pB y7)] []) (fun y7 => Check_ref5J7 y7 = some RES) ?_ ?_
     ·intro y7 hm
      unfold Check_ref5J7 at hm
      obtain rfl := sj hm
      exact DW.ret (retK [] [] (pB y7))
     ·rcases bt (decide (p0.next > (p0.nodes.getD (Int.toNat (w64 (((p0.nodes.length : Nat) : Int) - 1))) dNode).id)) with h53 | h53
      ·replace hm := if_t h53 hm
       refine RK hnt (nn 14 (pT :: .no :: [])) [(2, pB (decide (p0.next ≤ 2147483648)))] [] (an g52.1 (an g52.2 (an4 h53 tv))) ?_
       exact jD (decide (p0.next ≤ 2147483648)) hm .refl
      ·replace hm := if_f h53 hm
       refine RK hnt (nn 11 (sk 3 (pF :: .no :: []))) [(2, pB false)] [] (an g52.1 (an g52.2 (an4 h53 tv))) ?_
       exact jD false hm .refl
abbrev o74 (ks : List Nat) (b : Bool) (RES : Bool) : Orc := .call 88 ks b (pB RES) [] []

theorem Find_ref5Spec (p0 : Tree) (p1 : Int) (RES : Node × Bool) (hm : Find_ref5 p0 p1 = some RES) : Spec Tryz.prog 30 [.p (.agg (encTree p0)), pI p1] [] (.p (.tup [.agg (encNode RES.1), vb RES.2])) [] [] := by
 unfold Find_ref5 at hm
 refine SO Tryz.func30 rfl rfl [(0, .p (.agg (encTree p0))), (1, pI p1)] [] ?_
 intro cx hnt
 refine Sq (RK hnt (nn 3 []) [(1, pI p1), (2, rr 1016), (4, rr 1032)] [(1016, bx (pm (encTree p0))), (1032, bx [pI 0, pI 0, pS ByteArray.empty, pI 0, pI 0, pI 0])] tv ?_)
 obtain ⟨r1, hr1, hm⟩ := bo hm
 refine Sq (Sq (RD hnt (.no :: o74 [] true r1 :: .no :: []) [] [(9, pB (!r1))] [] [] (an (Check_ref5Spec p0 r1 hr1) tv) ?_))
 refine condM hm ?_ ?_
 ·intro h2 hm
  refine Sq (RD hnt (nn 3 []) [1, 2, 9] [(5, pB false)] [1016] [] tv ?_)
  obtain rfl := sj hm
  exact DW.ret (retK [] [] (.p (.tup [.agg [vi 0, vi 0, vs ByteArray.empty, vi 0, vi 0, vi 0], vb false])))
 ·intro h2 hm
  refine Sk ?_
  refine Sq (Sq (RD hnt (.no :: []) [9] [(6, pI 0)] [] [] tv ?_))
  refine Bk ?_
  obtain ⟨hc1, hm⟩ := go1 hm
  refine DW.rangeO (fun (k1 : Nat) (s1 : Unit) => mkSt [(1, pI p1), (2, rr 1016), (4, rr 1032), (6, pI ((k1 : Nat) : Int))] [(1016, bx (pm (encTree p0))), (1032, bx [pI 0, pI 0, pS ByteArray.empty, pI 0, pI 0, pI 0])]) dNode hm Conv.eqK ?_
  intro k1 s1 n1 hk1 hs1 he1
  refine Sq (Sq (RD hnt (nn 5 []) [] [(15, pB (decide (((k1 : Nat) : Int) < ((p0.nodes.length : Nat) : Int))))] [] [] tv ?_))
  refine condK (decide (((k1 : Nat) : Int) < ((p0.nodes.length : Nat) : Int))) ?_ ?_
  ·intro h11
   have hlt1 : k1 < p0.nodes.length := by have := of_decide_eq_true h11; omega
   have hm := hs1 hlt1
   unfold Find_ref5L1 at hm
   refine Sk ?_
   refine Sq (Bk ?_)
   refine Sq (RD hnt (nn 8 []) [15] [(25, pB ((p0.nodes.getD k1 (default : Node)).id == p1))] [] [] (an (nn0 k1) (an (ltc hlt1) tv)) ?_)
   refine condM hm ?_ ?_
   ·intro h12 hm
    refine Sq (RK hnt (nn 7 []) [(4, rr 1032), (5, pB true)] [(1032, bx (pm (encNode (p0.nodes.getD k1 (default : Node)))))] (an (nn0 k1) (an (ltc hlt1) tv)) ?_)
    obtain rfl := sj hm
    exact DW.ret (retK [] [] (.p (.tup [.agg (encNode (p0.nodes.getD k1 (default : Node))), vb true])))
   ·intro h12 hm
    refine Sk ?_
    refine DW.done ?_
    show DW _ _ _ _ _
    refine RD hnt (nn 3 []) [25] [(6, pI (w64 (((k1 : Nat) : Int) + 1)))] [] [] tv ?_
    exact jD () ⟨hlt1, hm⟩ (Conv.tp [(6, pI (w64 (((k1 : Nat) : Int) + 1)))] [] (by kernel_rfl) (.cons rfl (.of_eq (congrArg pI (w64_succ hlt1 hc1))) .nil) .nil)
  ·intro h11
   have hge1 : ¬ k1 < p0.nodes.length := by have := of_decide_eq_false h11; omega
   have hm := he1 hge1
   unfold Find_ref5D1 at hm
   refine DW.exit ?_
   refine joinQ_exit ?_
   refine KQ_exit ?_
   refine blockQ_exit ?_
   show DW _ _ _ _ _
   refine Sq (RD hnt (nn 3 []) [1, 2, 6, 15] [(5, pB false)] [1016] [] tv ?_)
   obtain rfl := sj hm
   exact DW.ret (retK [] [] (.p (.tup [.agg [vi 0, vi 0, vs ByteArray.empty, vi 0, vi 0, vi 0], vb false])))
abbrev o79 (ks : List Nat) (b : Bool) (RES : Node × Bool) : Orc := .call 30 ks b (.p (.tup [.agg (encNode RES.1), vb RES.2])) [] []

theorem Has_ref5Spec (p0 : Tree) (p1 : Int) (RES : Bool) (hm : Has_ref5 p0 p1 = some RES) : Spec Tryz.prog 86 [.p (.agg (encTree p0)), pI p1] [] (pB RES) [] [] := by
 unfold Has_ref5 at hm
 refine SO Tryz.func86 rfl rfl [(0, .p (.agg (encTree p0))), (1, pI p1)] [] ?_
 intro cx hnt
 refine Sq (RK hnt (nn 2 []) [(1, pI p1), (2, rr 1016)] [(1016, bx (pm (encTree p0)))] tv ?_)
 obtain ⟨r1, hr1, hm⟩ := bo hm
 refine Sq (RK hnt (nn 2 (o79 [] true r1 :: nn 6 [])) [(6, pB r1.2)] [] (an (Find_ref5Spec p0 p1 r1 hr1) tv) ?_)
 refine Sq (RK hnt (nn 2 []) [(4, pB r1.2)] [] tv ?_)
 obtain rfl := sj hm
 exact DW.ret (retK [] [] (pB r1.2))
abbrev o78 (ks : List Nat) (b : Bool) (RES : Bool) : Orc := .call 86 ks b (pB RES) [] []

theorem Ancestors_ref5Spec (p0 : Tree) (p1 : Int) (RES : List Int) (hm : Ancestors_ref5 p0 p1 = some RES) : Spec Tryz.prog 27 [.p (.agg (encTree p0)), pI p1] [] (ow 0 RES.length) [] [roI RES] := by
 unfold Ancestors_ref5 at hm
 refine SO Tryz.func27 rfl rfl [(0, .p (.agg (encTree p0))), (1, pI p1)] [] ?_
 intro cx hnt
 refine Sq (RK hnt (nn 2 []) [(1, pI p1), (2, rr 1016)] [(1016, bx (pm (encTree p0)))] tv ?_)
 obtain ⟨r1, hr1, hm⟩ := bo hm
 refine Sq (Sq (RD hnt (nn 2 (o78 [] true r1 :: .no :: [])) [] [(8, pB (!r1))] [] [] (an (Has_ref5Spec p0 p1 r1 hr1) tv) ?_))
 refine condM hm ?_ ?_
 ·intro h2 hm
  refine Sq (RK hnt (.no :: []) [(4, .p (.sl .nil 0 0 (fun _ => [])))] [] tv ?_)
  refine DW.cv [] [(4, ow 100000 0)] [] [(100000, ob0 (roI []))] (Conv.ads [(.s 4, 100000, 1, elems encI 0 [])]) ?_
  obtain rfl := sj hm
  exact DW.ret (retK [roI []] [100000] (ow 0 0))
 ·intro h2 hm
  refine Sk ?_
  obtain ⟨r3, hr3, hm⟩ := bo hm
  refine Sq (RK hnt (nn 2 (o77 [] true r3 :: .no :: [])) [(4, ow 1088 r3.length)] [(1088, ob0 (roI r3))] (an (up_ref5Spec p0 p1 r3 hr3) tv) ?_)
  obtain rfl := sj hm
  exact DW.ret (retK [roI r3] [1088] (ow 0 r3.length))
abbrev o81 (ks : List Nat) (b : Bool) (RES : List Int) : Orc := .call 27 ks b (ow 0 RES.length) [] [roI RES]

theorem Depth_ref5Spec (p0 : Tree) (p1 : Int) (RES : Int) (hm : Depth_ref5 p0 p1 = some RES) : Spec Tryz.prog 145 [.p (.agg (encTree p0)), pI p1] [] (pI RES) [] [] := by
 unfold Depth_ref5 at hm
 refine SO Tryz.func145 rfl rfl [(0, .p (.agg (encTree p0))), (1, pI p1)] [] ?_
 intro cx hnt
 refine Sq (RK hnt (nn 2 []) [(1, pI p1), (2, rr 1016)] [(1016, bx (pm (encTree p0)))] tv ?_)
 obtain ⟨r1, hr1, hm⟩ := bo hm
 refine Sq (RK hnt (nn 2 (o81 [] true r1 :: nn 3 [])) [(4, pI (w64 (((r1.length : Nat) : Int) - 1)))] [] (an (Ancestors_ref5Spec p0 p1 r1 hr1) tv) ?_)
 obtain rfl := sj hm
 exact DW.ret (retK [] [] (pI (w64 (((r1.length : Nat) : Int) - 1))))
abbrev o80 (ks : List Nat) (b : Bool) (RES : Int) : Orc := .call 145 ks b (pI RES) [] []

theorem Copy_ref5Spec (p0 : Tree) (RES : Tree) (hm : Copy_ref5 p0 = some RES) : Spec Tryz.prog 123 [.p (.agg (encTree p0))] [] (.agg [ow 0 RES.nodes.length, pI RES.next]) [] [roNode RES.nodes] := by
 unfold Copy_ref5 at hm
 refine SO Tryz.func123 rfl rfl [(0, .p (.agg (encTree p0)))] [] ?_
 intro cx hnt
 refine Sq (RK hnt (nn 2 []) [(1, rr 1008), (2, rr 1016)] [(1008, bx (pm (encTree p0))), (1016, bx [.p (.sl .nil 0 0 (fun _ => [])), pI 0])] tv ?_)
 obtain ⟨g1, hm⟩ := go1 hm
 refine Sq (RN hnt (nn 7 []) [(2, rr 1016)] [(1016, bx [ow 1040 p0.nodes.length, pI p0.next]), (1040, ob0 (roNode p0.nodes))] [] [(1040, .row 6 p0.nodes.length (elNode p0.nodes))] (an (by omega : p0.nodes.length * 56 ≤ 140737488355328) tv) (by kernel_rfl) .nil (.cons rfl (BLe.typed RowIs.elems) .nil) ?_)
 obtain rfl := sj hm
 exact DW.ret (retK [roNode p0.nodes] [1040] (.agg [ow 0 p0.nodes.length, pI p0.next]))
abbrev o82 (ks : List Nat) (b : Bool) (RES : Tree) : Orc := .call 123 ks b (.agg [ow 0 RES.nodes.length, pI RES.next]) [] [roNode RES.nodes]

abbrev c73e1 (p0 : Tree) (p1 : Int) (p2 : ByteArray) := ({ id := p0.next, parent := p1, name := p2, control := 0, kind := 0, owner := 0 } : Node)
abbrev c73e2 : Nat × Obj := (1048, bx [.p (.sl .nil 0 0 (fun _ => [])), pI 0])
abbrev c73e3 (p0 : Tree) : Nat × Obj := (1024, bx (pm (encTree p0)))
abbrev c73e4 : Nat × Obj := (1048, bx [ow 100000 0, pI 0])
theorem Add_ref5Spec (p0 : Tree) (p1 : Int) (p2 : ByteArray) (RES : Tree × Int × Int) (hm : Add_ref5 p0 p1 p2 = some RES) : Spec Tryz.prog 98 [.p (.agg (encTree p0)), pI p1, pS p2] [] (.tup [.agg [ow 0 RES.1.nodes.length, pI RES.1.next], pI RES.2.1, pI RES.2.2]) [] [roNode RES.1.nodes] := by
 unfold Add_ref5 at hm
 refine SO Tryz.func98 rfl rfl [(0, .p (.agg (encTree p0))), (1, pI p1), (2, pS p2)] [] ?_
 intro cx hnt
 refine Sq (RD hnt (nn 4 []) [0] [(3, rr 1024), (6, rr 1048)] [] [(c73e3 p0), (c73e2)] tv ?_)
 obtain ⟨r1, hr1, hm⟩ := bo hm
 refine Sq (Sq ?_)
 refine Jn (ι := Bool) (fun (y1 : Bool) => mkSt [(1, pI p1), (2, pS p2), (3, rr 1024), (6, rr 1048), (18, pB y1)] [(c73e3 p0), (c73e2)]) (fun y1 => (Add_ref5J1 p0 p1 p2) y1 = some RES) ?_ ?_
 ·intro y1 hm
  unfold Add_ref5J1 at hm
  refine condM hm ?_ ?_
  ·intro h4 hm
   refine Sq (RD hnt (nn 4 []) [1, 2, 3, 18] [(7, pI 0), (8, pI 1)] [1024] [] tv ?_)
   refine DW.cv [] [] [] [(c73e4), (100000, ob0 (roNode []))] (Conv.ads [(.o 1048 0, 100000, 6, elems encNode dNode [])]) ?_
   obtain rfl := sj hm
   exact DW.ret (retK [roNode []] [100000] (.tup [.agg [ow 0 0, pI 0], pI 0, pI 1]))
  ·intro h4 hm
   refine Sk ?_
   obtain ⟨r5, hr5, hm⟩ := bo hm
   refine Sq (Sq (RD hnt (nn 2 (o78 [] true r5 :: .no :: [])) [18] [(23, pB (!r5))] [] [] (an (Has_ref5Spec p0 p1 r5 hr5) tv) ?_))
   refine condM hm ?_ ?_
   ·intro h6 hm
    refine Sq (RD hnt (nn 4 []) [1, 2, 3, 23] [(7, pI 0), (8, pI 4)] [1024] [] tv ?_)
    refine DW.cv [] [] [] [(c73e4), (100000, ob0 (roNode []))] (Conv.ads [(.o 1048 0, 100000, 6, elems encNode dNode [])]) ?_
    obtain rfl := sj hm
    exact DW.ret (retK [roNode []] [100000] (.tup [.agg [ow 0 0, pI 0], pI 0, pI 4]))
   ·intro h6 hm
    refine Sk ?_
    refine Sq (Sq (RD hnt (.no :: []) [23] [(9, pI 0)] [] [] tv ?_))
    refine Bk ?_
    obtain ⟨hc1, hm⟩ := go1 hm
    refine DW.rangeO (fun (k1 : Nat) (s1 : Unit) => mkSt [(1, pI p1), (2, pS p2), (3, rr 1024), (6, rr 1048), (9, pI ((k1 : Nat) : Int))] [(c73e3 p0), (c73e2)]) dNode hm Conv.eqK ?_
    intro k1 s1 n1 hk1 hs1 he1
    refine Sq (Sq (RD hnt (nn 5 []) [] [(29, pB (decide (((k1 : Nat) : Int) < ((p0.nodes.length : Nat) : Int))))] [] [] tv ?_))
    refine condK (decide (((k1 : Nat) : Int) < ((p0.nodes.length : Nat) : Int))) ?_ ?_
    ·intro h29
     have hlt1 : k1 < p0.nodes.length := by have := of_decide_eq_true h29; omega
     have hm := hs1 hlt1
     unfold Add_ref5L1 at hm
     refine Sk ?_
     refine Sq (Bk ?_)
     refine Sq (DW.regJ (sl2 := [(1, pI p1), (2, pS p2), (3, rr 1024), (6, rr 1048), (9, pI ((k1 : Nat) : Int)), (49, pB (((p0.nodes.getD k1 (default : Node)).parent == p1) && (beqS (p0.nodes.getD k1 (default : Node)).name p2)))]) (ob2 := [(c73e3 p0), (c73e2)]) ?_ ?_)
     ·rcases bt ((p0.nodes.getD k1 (default : Node)).parent == p1) with h30 | h30
      ·exact RT hnt (nn 17 (pT :: [])) [(49, pB (beqS (p0.nodes.getD k1 (default : Node)).name p2))] (an (nn0 k1) (an (ltc hlt1) (an4 h30 (an (nn0 k1) (an (ltc hlt1) (an5 h30 tv)))))) (by kernel_rfl) (.cons rfl (.of_eq (by rw [h30]; try rfl)) .nil)
      ·exact RT hnt (nn 9 (sk 8 (pF :: []))) [(49, pB false)] (an (nn0 k1) (an (ltc hlt1) (an3 h30 (an6 h30 tv)))) (by kernel_rfl) (.cons rfl (.of_eq (by rw [h30]; try rfl)) .nil)
     ·refine condM hm ?_ ?_
      ·intro h31 hm
       refine Sq (RD hnt (nn 4 []) [1, 2, 3, 9, 49] [(7, pI 0), (8, pI 5)] [1024] [] tv ?_)
       refine DW.cv [] [] [] [(c73e4), (100000, ob0 (roNode []))] (Conv.ads [(.o 1048 0, 100000, 6, elems encNode dNode [])]) ?_
       obtain rfl := sj hm
       exact DW.ret (retK [roNode []] [100000] (.tup [.agg [ow 0 0, pI 0], pI 0, pI 5]))
      ·intro h31 hm
       refine Sk ?_
       refine DW.done ?_
       show DW _ _ _ _ _
       refine RD hnt (nn 3 []) [49] [(9, pI (w64 (((k1 : Nat) : Int) + 1)))] [] [] tv ?_
       exact jD () ⟨hlt1, hm⟩ (Conv.tp [(9, pI (w64 (((k1 : Nat) : Int) + 1)))] [] (by kernel_rfl) (.cons rfl (.of_eq (congrArg pI (w64_succ hlt1 hc1))) .nil) .nil)
    ·intro h29
     have hge1 : ¬ k1 < p0.nodes.length := by have := of_decide_eq_false h29; omega
     have hm := he1 hge1
     unfold Add_ref5D1 at hm
     refine DW.exit ?_
     refine joinQ_exit ?_
     refine KQ_exit ?_
     refine blockQ_exit ?_
     show DW _ _ _ _ _
     obtain ⟨r32, hr32, hm⟩ := bo hm
     refine Sq (Sq ?_)
     refine Jn (ι := Bool) (fun (y6 : Bool) => mkSt [(1, pI p1), (2, pS p2), (3, rr 1024), (6, rr 1048), (65, pB y6)] [(c73e3 p0), (c73e2)]) (fun y6 => (Add_ref5J6 p0 p1 p2) y6 = some RES) ?_ ?_
     ·intro y6 hm
      unfold Add_ref5J6 at hm
      refine condM hm ?_ ?_
      ·intro h35 hm
       refine Sq (RD hnt (nn 4 []) [1, 2, 3, 65] [(7, pI 0), (8, pI 7)] [1024] [] tv ?_)
       refine DW.cv [] [] [] [(c73e4), (100000, ob0 (roNode []))] (Conv.ads [(.o 1048 0, 100000, 6, elems encNode dNode [])]) ?_
       obtain rfl := sj hm
       exact DW.ret (retK [roNode []] [100000] (.tup [.agg [ow 0 0, pI 0], pI 0, pI 7]))
      ·intro h35 hm
       refine Sk ?_
       obtain ⟨r36, hr36, hm⟩ := bo hm
       refine Sq (RD hnt (.no :: o82 [] true r36 :: nn 2 []) [65] [(10, rr 1080)] [] [(1080, bx [ow 1544 r36.nodes.length, pI r36.next]), (1544, ob0 (roNode r36.nodes))] (an (Copy_ref5Spec p0 r36 hr36) tv) ?_)
       obtain ⟨g37, hm⟩ := go1 hm
       refine Sq (RN hnt (nn 11 []) [(3, rr 1024), (6, rr 1048), (10, rr 1080)] [(c73e3 p0), (c73e2), (1080, bx [ow 1544 (r36.nodes ++ [(c73e1 p0 p1 p2)]).length, pI r36.next]), (1544, ob0 (roNode (r36.nodes ++ [(c73e1 p0 p1 p2)])))] [] [(1080, .box [ow 1544 (r36.nodes.length + 1), pI r36.next]), (1544, .row 6 (r36.nodes.length + 1) (catF r36.nodes.length (elNode r36.nodes) (cut 6 [vi p0.next, vi p1, vs p2, vi 0, vi 0, vi 0])))] (an (by omega : (r36.nodes.length + 1) * 56 ≤ 140737488355328) tv) (by kernel_rfl) .nil (.cons rfl (.box (.cons (MLe.ownLen (enc := encNode) (d := dNode) (f := (catF r36.nodes.length (elNode r36.nodes) (cut 6 [vi p0.next, vi p1, vs p2, vi 0, vi 0, vi 0]))) (RowIs.cat RowIs.elems (RowIs.lit (enc := encNode) (d := dNode) (n := 1) (f := (cut 6 [vi p0.next, vi p1, vs p2, vi 0, vi 0, vi 0])) [(c73e1 p0 p1 p2)] rfl (fun | 0, _ => rfl | n + 1, h => absurd h (by omega))))) (.cons .rfl .nil))) (.cons rfl (BLe.typed (RowIs.cat RowIs.elems (RowIs.lit (enc := encNode) (d := dNode) (n := 1) (f := (cut 6 [vi p0.next, vi p1, vs p2, vi 0, vi 0, vi 0])) [(c73e1 p0 p1 p2)] rfl (fun | 0, _ => rfl | n + 1, h => absurd h (by omega))))) .nil)) ?_)
       refine Sq (RD hnt (nn 5 []) [] [] [] [(1080, bx [ow 1544 (r36.nodes ++ [(c73e1 p0 p1 p2)]).length, pI (w64 (r36.next + 1))])] tv ?_)
       refine Sq (RD hnt (nn 6 []) [3, 10] [(7, pI p0.next), (8, pI 0)] [1024, 1080] [(1048, bx [ow 1544 (r36.nodes ++ [(c73e1 p0 p1 p2)]).length, pI (w64 (r36.next + 1))])] tv ?_)
       obtain rfl := sj hm
       exact DW.ret (retK [roNode (r36.nodes ++ [(c73e1 p0 p1 p2)])] [1544] (.tup [.agg [ow 0 (r36.nodes ++ [(c73e1 p0 p1 p2)]).length, pI (w64 (r36.next + 1))], pI p0.next, pI 0]))
     ·rcases bt (decide (r32 ≥ 8)) with h33 | h33
      ·replace hm := if_t h33 hm
       refine RD hnt (nn 2 (o80 [] true r32 :: nn 2 (sk 4 (pT :: .no :: sk 3 (pT :: []))))) [9, 29] [(65, pB true)] [] [] (an (Depth_ref5Spec p0 p1 r32 hr32) (an5 h33 (an4 tt tv))) ?_
       exact jD true hm Conv.eqK
      ·replace hm := if_f h33 hm
       rcases bt (decide (((p0.nodes.length : Nat) : Int) ≥ 64)) with h34 | h34
       ·replace hm := if_t h34 hm
        refine RD hnt (nn 2 (o80 [] true r32 :: nn 6 (pF :: .no :: sk 3 (pT :: [])))) [9, 29] [(65, pB true)] [] [] (an (Depth_ref5Spec p0 p1 r32 hr32) (an5 h33 (an4 h34 tv))) ?_
        exact jD true hm Conv.eqK
       ·replace hm := if_f h34 hm
        refine RD hnt (nn 2 (o80 [] true r32 :: nn 6 (pF :: nn 4 (pF :: [])))) [9, 29] [(65, pB (decide (p0.next > 2147483647)))] [] [] (an (Depth_ref5Spec p0 p1 r32 hr32) (an5 h33 (an4 h34 tv))) ?_
        exact jD (decide (p0.next > 2147483647)) hm Conv.eqK
 ·rcases bt (!r1) with h2 | h2
  ·replace hm := if_t h2 hm
   refine RD hnt (.no :: o74 [] true r1 :: nn 2 (sk 3 (pT :: []))) [] [(18, pB true)] [] [] (an (Check_ref5Spec p0 r1 hr1) (an4 h2 tv)) ?_
   exact jD true hm Conv.eqK
  ·replace hm := if_f h2 hm
   obtain ⟨r3, hr3, hm⟩ := bo hm
   refine RD hnt (.no :: o74 [] true r1 :: nn 3 (o76 [] true r3 :: .no :: pF :: [])) [] [(18, pB (!r3))] [] [] (an (Check_ref5Spec p0 r1 hr1) (an2 h2 (an (Valid_ref1Spec p2 r3 hr3) (an2 h2 tv)))) ?_
   exact jD (!r3) hm Conv.eqK
abbrev o73 (ks : List Nat) (b : Bool) (RES : Tree × Int × Int) : Orc := .call 98 ks b (.tup [.agg [ow 0 RES.1.nodes.length, pI RES.1.next], pI RES.2.1, pI RES.2.2]) [] [roNode RES.1.nodes]

theorem Bool_Dice_madeSpec (p0 : Dice) (p1 : Int) (RES : Bool × Dice) (hm : Bool_Dice_made p0 p1 = some RES) : Spec Tryz.prog 44 [rr 0, pI p1] [.box (pm (encDice p0))] (pB RES.1) [.box (pm (encDice RES.2))] [] := by
 unfold Bool_Dice_made at hm
 refine SO Tryz.func44 rfl rfl [(0, rr 0), (1, pI p1)] [(0, bx (pm (encDice p0)))] ?_
 intro cx hnt
 refine Sq (RD hnt (.no :: []) [] [] [] [] tv ?_)
 obtain ⟨r1, hr1, hm⟩ := bo hm
 refine Sq (RK hnt (nn 2 (o71 [0] true r1 :: nn 4 [])) [(4, pB (r1.1 == (w64 (p1 - 1))))] [(0, bx (pm (encDice r1.2)))] (an (Next_Dice_madeSpec p0 p1 r1 hr1) (an tv tv)) ?_)
 obtain rfl := sj hm
 exact DW.ret (retK [.box (pm (encDice r1.2))] [] (pB (r1.1 == (w64 (p1 - 1)))))
abbrev o83 (ks : List Nat) (b : Bool) (RES : Bool × Dice) : Orc := .call 44 ks b (pB RES.1) [.box (pm (encDice RES.2))] []

abbrev c85e1 (p0 : Tree) (k1 : Nat) := (p0.nodes.getD k1 (default : Node))
theorem Children_ref5Spec (p0 : Tree) (p1 : Int) (RES : List Int) (hm : Children_ref5 p0 p1 = some RES) : Spec Tryz.prog 60 [.p (.agg (encTree p0)), pI p1] [] (ow 0 RES.length) [] [roI RES] := by
 unfold Children_ref5 at hm
 refine SO Tryz.func60 rfl rfl [(0, .p (.agg (encTree p0))), (1, pI p1)] [] ?_
 intro cx hnt
 refine Sq (RK hnt (nn 2 []) [(1, pI p1), (2, rr 1016)] [(1016, bx (pm (encTree p0)))] tv ?_)
 obtain ⟨r1, hr1, hm⟩ := bo hm
 refine Sq (Sq (RD hnt (nn 2 (o78 [] true r1 :: .no :: [])) [] [(10, pB (!r1))] [] [] (an (Has_ref5Spec p0 p1 r1 hr1) tv) ?_))
 refine condM hm ?_ ?_
 ·intro h2 hm
  refine Sq (RK hnt (.no :: []) [(4, .p (.sl .nil 0 0 (fun _ => [])))] [] tv ?_)
  refine DW.cv [] [(4, ow 100000 0)] [] [(100000, ob0 (roI []))] (Conv.ads [(.s 4, 100000, 1, elems encI 0 [])]) ?_
  obtain rfl := sj hm
  exact DW.ret (retK [roI []] [100000] (ow 0 0))
 ·intro h2 hm
  refine Sk ?_
  refine Sq (RD hnt (.no :: []) [10] [(5, .p (.sl .nil 0 0 (fun _ => [])))] [] [] tv ?_)
  refine Sq (Sq (RD hnt (.no :: []) [] [(6, pI 0)] [] [] tv ?_))
  refine Bk ?_
  obtain ⟨hc1, hm⟩ := go1 hm
  refine DW.rangeO (fun (k1 : Nat) (s1 : List Int) => mkSt [(1, pI p1), (2, rr 1016), (5, ow 1272 s1.length), (6, pI ((k1 : Nat) : Int))] [(1016, bx (pm (encTree p0))), (1272, ob0 (roI s1))]) dNode hm (Conv.ads [(.s 5, 1272, 1, elems encI 0 [])]) ?_
  intro k1 s1 n1 hk1 hs1 he1
  refine Sq (Sq (RD hnt (nn 5 []) [] [(15, pB (decide (((k1 : Nat) : Int) < ((p0.nodes.length : Nat) : Int))))] [] [] tv ?_))
  refine condK (decide (((k1 : Nat) : Int) < ((p0.nodes.length : Nat) : Int))) ?_ ?_
  ·intro h12
   have hlt1 : k1 < p0.nodes.length := by have := of_decide_eq_true h12; omega
   have hm := hs1 hlt1
   unfold Children_ref5L1 at hm
   refine Sk ?_
   refine Sq ?_
   refine Jn (ι := List Int) (fun (y3 : List Int) => mkSt [(1, pI p1), (2, rr 1016), (5, ow 1272 y3.length), (6, pI ((k1 : Nat) : Int))] [(1016, bx (pm (encTree p0))), (1272, ob0 (roI y3))]) (fun y3 => (Children_ref5J3 n1) y3 = some RES) ?_ ?_
   ·intro y3 hm
    unfold Children_ref5J3 at hm
    refine RD hnt (nn 3 []) [] [(6, pI (w64 (((k1 : Nat) : Int) + 1)))] [] [] tv ?_
    exact jD y3 ⟨hlt1, hm⟩ (Conv.tp [(6, pI (w64 (((k1 : Nat) : Int) + 1)))] [] (by kernel_rfl) (.cons rfl (.of_eq (congrArg pI (w64_succ hlt1 hc1))) .nil) .nil)
   ·refine Bk ?_
    refine Sq (RD hnt (nn 8 []) [15] [(25, pB ((c85e1 p0 k1).parent == p1))] [] [] (an (nn0 k1) (an (ltc hlt1) tv)) ?_)
    refine condM hm ?_ ?_
    ·intro h13 hm
     obtain ⟨g14, hm⟩ := go1 hm
     refine RN hnt (nn 10 []) [(1, pI p1), (2, rr 1016), (5, ow 1272 (s1 ++ [(c85e1 p0 k1).id]).length), (6, pI ((k1 : Nat) : Int))] [(1016, bx (pm (encTree p0))), (1272, ob0 (roI (s1 ++ [(c85e1 p0 k1).id])))] [(5, ow 1272 (s1.length + 1))] [(1272, .row 1 (s1.length + 1) (catF s1.length (elI s1) (cut 1 [vi (c85e1 p0 k1).id])))] (an (nn0 k1) (an (ltc hlt1) (an (by omega : (s1.length + 1) * 8 ≤ 140737488355328) tv))) (by kernel_rfl) (.cons rfl (MLe.ownLen (enc := encI) (d := 0) (f := (catF s1.length (elI s1) (cut 1 [vi (c85e1 p0 k1).id]))) (RowIs.cat RowIs.elems (RowIs.lit (enc := encI) (d := 0) (n := 1) (f := (cut 1 [vi (c85e1 p0 k1).id])) [(c85e1 p0 k1).id] rfl (fun | 0, _ => rfl | n + 1, h => absurd h (by omega))))) .nil) (.cons rfl (BLe.typed (RowIs.cat RowIs.elems (RowIs.lit (enc := encI) (d := 0) (n := 1) (f := (cut 1 [vi (c85e1 p0 k1).id])) [(c85e1 p0 k1).id] rfl (fun | 0, _ => rfl | n + 1, h => absurd h (by omega))))) .nil) ?_
     exact bD (s1 ++ [(c85e1 p0 k1).id]) hm .refl
    ·intro h13 hm
     refine Sk ?_
     exact bD s1 hm Conv.t0
  ·intro h12
   have hge1 : ¬ k1 < p0.nodes.length := by have := of_decide_eq_false h12; omega
   have hm := he1 hge1
   unfold Children_ref5D1 at hm
   refine DW.exit ?_
   refine joinQ_exit ?_
   refine KQ_exit ?_
   refine blockQ_exit ?_
   show DW _ _ _ _ _
   refine Sq (RK hnt (nn 2 []) [(4, ow 1272 s1.length)] [(1272, ob0 (roI s1))] tv ?_)
   obtain rfl := sj hm
   exact DW.ret (retK [roI s1] [1272] (ow 0 s1.length))
abbrev o85 (ks : List Nat) (b : Bool) (RES : List Int) : Orc := .call 60 ks b (ow 0 RES.length) [] [roI RES]

abbrev c84e1 (p0 : Tree) (k1 : Nat) := (p0.nodes.getD k1 (default : Node))
abbrev c84e2 : Nat × Obj := (1032, bx [.p (.sl .nil 0 0 (fun _ => [])), pI 0])
abbrev c84e3 : Nat × Obj := (1032, bx [ow 100000 0, pI 0])
theorem Remove_ref5Spec (p0 : Tree) (p1 : Int) (RES : Tree × Int) (hm : Remove_ref5 p0 p1 = some RES) : Spec Tryz.prog 81 [.p (.agg (encTree p0)), pI p1] [] (.tup [.agg [ow 0 RES.1.nodes.length, pI RES.1.next], pI RES.2]) [] [roNode RES.1.nodes] := by
 unfold Remove_ref5 at hm
 refine SO Tryz.func81 rfl rfl [(0, .p (.agg (encTree p0))), (1, pI p1)] [] ?_
 intro cx hnt
 refine Sq (RK hnt (nn 3 []) [(1, pI p1), (2, rr 1016), (4, rr 1032)] [(1016, bx (pm (encTree p0))), (c84e2)] tv ?_)
 refine Sq (Bk ?_)
 obtain ⟨r1, hr1, hm⟩ := bo hm
 refine Sq (RD hnt (.no :: o74 [] true r1 :: nn 2 []) [] [(8, pB (!r1))] [] [] (an (Check_ref5Spec p0 r1 hr1) tv) ?_)
 refine condM hm ?_ ?_
 ·intro h2 hm
  refine Sq (RD hnt (nn 3 []) [1, 2, 8] [(5, pI 1)] [1016] [] tv ?_)
  refine DW.cv [] [] [] [(c84e3), (100000, ob0 (roNode []))] (Conv.ads [(.o 1032 0, 100000, 6, elems encNode dNode [])]) ?_
  obtain rfl := sj hm
  exact DW.ret (retK [roNode []] [100000] (.tup [.agg [ow 0 0, pI 0], pI 1]))
 ·intro h2 hm
  obtain ⟨r3, hr3, hm⟩ := bo hm
  refine Sq (RD hnt (nn 2 (o78 [] true r3 :: nn 2 [])) [8] [(13, pB (!r3))] [] [] (an (Has_ref5Spec p0 p1 r3 hr3) tv) ?_)
  refine condM hm ?_ ?_
  ·intro h4 hm
   refine Sq (RD hnt (nn 3 []) [1, 2, 13] [(5, pI 4)] [1016] [] tv ?_)
   refine DW.cv [] [] [] [(c84e3), (100000, ob0 (roNode []))] (Conv.ads [(.o 1032 0, 100000, 6, elems encNode dNode [])]) ?_
   obtain rfl := sj hm
   exact DW.ret (retK [roNode []] [100000] (.tup [.agg [ow 0 0, pI 0], pI 4]))
  ·intro h4 hm
   refine Sq (RD hnt (nn 3 []) [13] [(19, pB (p1 == 1))] [] [] tv ?_)
   refine condM hm ?_ ?_
   ·intro h5 hm
    refine Sq (RD hnt (nn 3 []) [1, 2, 19] [(5, pI 9)] [1016] [] tv ?_)
    refine DW.cv [] [] [] [(c84e3), (100000, ob0 (roNode []))] (Conv.ads [(.o 1032 0, 100000, 6, elems encNode dNode [])]) ?_
    obtain rfl := sj hm
    exact DW.ret (retK [roNode []] [100000] (.tup [.agg [ow 0 0, pI 0], pI 9]))
   ·intro h5 hm
    obtain ⟨r6, hr6, hm⟩ := bo hm
    refine Sq (RD hnt (nn 2 (o85 [] true r6 :: nn 3 [])) [19] [(23, pB (decide (((r6.length : Nat) : Int) > 0)))] [] [] (an (Children_ref5Spec p0 p1 r6 hr6) tv) ?_)
    refine condM hm ?_ ?_
    ·intro h7 hm
     refine Sq (RD hnt (nn 3 []) [1, 2, 23] [(5, pI 6)] [1016] [] tv ?_)
     refine DW.cv [] [] [] [(c84e3), (100000, ob0 (roNode []))] (Conv.ads [(.o 1032 0, 100000, 6, elems encNode dNode [])]) ?_
     obtain rfl := sj hm
     exact DW.ret (retK [roNode []] [100000] (.tup [.agg [ow 0 0, pI 0], pI 6]))
    ·intro h7 hm
     refine Sk ?_
     refine DW.done ?_
     show DW _ _ _ _ _
     refine Sq (RD hnt (nn 5 []) [23] [(6, rr 1048)] [] [(1048, bx [.p (.sl .nil 0 0 (fun _ => [])), pI p0.next])] tv ?_)
     refine Sq (Sq (RD hnt (.no :: []) [] [(7, pI 0)] [] [] tv ?_))
     refine Bk ?_
     obtain ⟨hc1, hm⟩ := go1 hm
     refine DW.rangeO (fun (k1 : Nat) (s1 : List Node) => mkSt [(1, pI p1), (2, rr 1016), (4, rr 1032), (6, rr 1048), (7, pI ((k1 : Nat) : Int))] [(1016, bx (pm (encTree p0))), (c84e2), (1048, bx [ow 1448 s1.length, pI p0.next]), (1448, ob0 (roNode s1))]) dNode hm (Conv.ads [(.o 1048 0, 1448, 6, elems encNode dNode [])]) ?_
     intro k1 s1 n1 hk1 hs1 he1
     refine Sq (Sq (RD hnt (nn 5 []) [] [(37, pB (decide (((k1 : Nat) : Int) < ((p0.nodes.length : Nat) : Int))))] [] [] tv ?_))
     refine condK (decide (((k1 : Nat) : Int) < ((p0.nodes.length : Nat) : Int))) ?_ ?_
     ·intro h17
      have hlt1 : k1 < p0.nodes.length := by have := of_decide_eq_true h17; omega
      have hm := hs1 hlt1
      unfold Remove_ref5L1 at hm
      refine Sk ?_
      refine Sq ?_
      refine Jn (ι := List Node) (fun (y3 : List Node) => mkSt [(1, pI p1), (2, rr 1016), (4, rr 1032), (6, rr 1048), (7, pI ((k1 : Nat) : Int))] [(1016, bx (pm (encTree p0))), (c84e2), (1048, bx [ow 1448 y3.length, pI p0.next]), (1448, ob0 (roNode y3))]) (fun y3 => (Remove_ref5J3 n1) y3 = some RES) ?_ ?_
      ·intro y3 hm
       unfold Remove_ref5J3 at hm
       refine RD hnt (nn 3 []) [] [(7, pI (w64 (((k1 : Nat) : Int) + 1)))] [] [] tv ?_
       exact jD y3 ⟨hlt1, hm⟩ (Conv.tp [(7, pI (w64 (((k1 : Nat) : Int) + 1)))] [] (by kernel_rfl) (.cons rfl (.of_eq (congrArg pI (w64_succ hlt1 hc1))) .nil) .nil)
      ·refine Bk ?_
       refine Sq (RD hnt (nn 8 []) [37] [(47, pB ((c84e1 p0 k1).id != p1))] [] [] (an (nn0 k1) (an (ltc hlt1) tv)) ?_)
       refine condM hm ?_ ?_
       ·intro h18 hm
        obtain ⟨g19, hm⟩ := go1 hm
        refine RN hnt (nn 11 []) [(1, pI p1), (2, rr 1016), (4, rr 1032), (6, rr 1048), (7, pI ((k1 : Nat) : Int))] [(1016, bx (pm (encTree p0))), (c84e2), (1048, bx [ow 1448 (s1 ++ [(c84e1 p0 k1)]).length, pI p0.next]), (1448, ob0 (roNode (s1 ++ [(c84e1 p0 k1)])))] [] [(1048, .box [ow 1448 (s1.length + 1), pI p0.next]), (1448, .row 6 (s1.length + 1) (catF s1.length (elNode s1) (cut 6 [vi (c84e1 p0 k1).id, vi (c84e1 p0 k1).parent, vs (c84e1 p0 k1).name, vi (c84e1 p0 k1).control, vi (c84e1 p0 k1).kind, vi (c84e1 p0 k1).owner])))] (an (nn0 k1) (an (ltc hlt1) (an (by omega : (s1.length + 1) * 56 ≤ 140737488355328) tv))) (by kernel_rfl) .nil (.cons rfl (.box (.cons (MLe.ownLen (enc := encNode) (d := dNode) (f := (catF s1.length (elNode s1) (cut 6 [vi (c84e1 p0 k1).id, vi (c84e1 p0 k1).parent, vs (c84e1 p0 k1).name, vi (c84e1 p0 k1).control, vi (c84e1 p0 k1).kind, vi (c84e1 p0 k1).owner]))) (RowIs.cat RowIs.elems (RowIs.lit (enc := encNode) (d := dNode) (n := 1) (f := (cut 6 [vi (c84e1 p0 k1).id, vi (c84e1 p0 k1).parent, vs (c84e1 p0 k1).name, vi (c84e1 p0 k1).control, vi (c84e1 p0 k1).kind, vi (c84e1 p0 k1).owner])) [(c84e1 p0 k1)] rfl (fun | 0, _ => rfl | n + 1, h => absurd h (by omega))))) (.cons .rfl .nil))) (.cons rfl (BLe.typed (RowIs.cat RowIs.elems (RowIs.lit (enc := encNode) (d := dNode) (n := 1) (f := (cut 6 [vi (c84e1 p0 k1).id, vi (c84e1 p0 k1).parent, vs (c84e1 p0 k1).name, vi (c84e1 p0 k1).control, vi (c84e1 p0 k1).kind, vi (c84e1 p0 k1).owner])) [(c84e1 p0 k1)] rfl (fun | 0, _ => rfl | n + 1, h => absurd h (by omega))))) .nil)) ?_
        exact bD (s1 ++ [(c84e1 p0 k1)]) hm .refl
       ·intro h18 hm
        refine Sk ?_
        exact bD s1 hm Conv.t0
     ·intro h17
      have hge1 : ¬ k1 < p0.nodes.length := by have := of_decide_eq_false h17; omega
      have hm := he1 hge1
      unfold Remove_ref5D1 at hm
      refine DW.exit ?_
      refine joinQ_exit ?_
      refine KQ_exit ?_
      refine blockQ_exit ?_
      show DW _ _ _ _ _
      refine Sq (RK hnt (nn 3 []) [(4, rr 1032), (5, pI 0)] [(1032, bx [ow 1448 s1.length, pI p0.next]), (1448, ob0 (roNode s1))] tv ?_)
      obtain rfl := sj hm
      exact DW.ret (retK [roNode s1] [1448] (.tup [.agg [ow 0 s1.length, pI p0.next], pI 0]))
abbrev o84 (ks : List Nat) (b : Bool) (RES : Tree × Int) : Orc := .call 81 ks b (.tup [.agg [ow 0 RES.1.nodes.length, pI RES.1.next], pI RES.2]) [] [roNode RES.1.nodes]

abbrev c70e1 : Nat × Obj := (1032, bx [.p (.sl .nil 0 0 (fun _ => [])), pI 0])
theorem Tree_Dice_madeSpec (p0 : Dice) (p1 : Int) (RES : Tree × Dice) (hm : Tree_Dice_made p0 p1 = some RES) : Spec Tryz.prog 71 [rr 0, pI p1] [.box (pm (encDice p0))] (.p (.agg (encTree RES.1))) [.box (pm (encDice RES.2))] [] := by
 unfold Tree_Dice_made at hm
 refine SO Tryz.func71 rfl rfl [(0, rr 0), (1, pI p1)] [(0, bx (pm (encDice p0)))] ?_
 intro cx hnt
 refine Sq (RD hnt (.no :: []) [] [(4, rr 1032)] [] [(c70e1)] tv ?_)
 obtain ⟨r1, hr1, hm⟩ := bo hm
 refine Sq (RD hnt (o5 [] true r1 :: nn 2 []) [] [(5, rr 1040)] [] [(1040, bx [ow 1104 r1.nodes.length, pI r1.next]), (1104, ob0 (roNode r1.nodes))] (an (New_ref5Spec r1 hr1) tv) ?_)
 obtain ⟨r2, hr2, hm⟩ := bo hm
 refine Sq (Sq (RD hnt (nn 3 (o71 [0] true r2 :: .no :: [])) [1] [(6, pI r2.1)] [] [(0, bx (pm (encDice r2.2)))] (an (Next_Dice_madeSpec p0 (w64 (p1 + 1)) r2 hr2) (an tv tv)) ?_))
 refine Bk ?_
 refine DW.whileO (fun (s1 : Dice × Tree × Int) => mkSt [(0, rr 0), (4, rr 1032), (5, rr 1040), (6, pI s1.2.2)] [(0, bx (pm (encDice s1.1))), (c70e1), (1040, bx (pm (encTree s1.2.1)))]) hm (Conv.frz [1104]) ?_
 intro s1 n1 hm
 unfold Tree_Dice_madeL1 at hm
 refine Sq (Sq (RD hnt (nn 2 []) [] [(19, pB (decide (s1.2.2 > 0)))] [] [] tv ?_))
 refine condM hm ?_ ?_
 ·intro h18 hm
  refine Sk ?_
  refine Sq ?_
  refine Jn (ι := Dice × Tree) (fun (y3 : Dice × Tree) => mkSt [(0, rr 0), (4, rr 1032), (5, rr 1040), (6, pI s1.2.2)] [(0, bx (pm (encDice y3.1))), (c70e1), (1040, bx (pm (encTree y3.2)))]) (fun y3 => (Tree_Dice_madeJ3 s1 n1) y3 = some RES) ?_ ?_
  ·intro y3 hm
   unfold Tree_Dice_madeJ3 at hm
   refine RD hnt (nn 3 []) [] [(6, pI (w64 (s1.2.2 - 1)))] [] [] tv ?_
   exact jD (y3.1, y3.2, (w64 (s1.2.2 - 1))) hm Conv.eqK
  ·refine Bk ?_
   obtain ⟨r19, hr19, hm⟩ := bo hm
   obtain ⟨g20, hm⟩ := go1 hm
   refine Sq (RD hnt (nn 6 (o71 [0] true r19 :: nn 4 [])) [19] [(7, pI (s1.2.1.nodes.getD (Int.toNat r19.1) dNode).id)] [] [(0, bx (pm (encDice r19.2)))] (an (Next_Dice_madeSpec s1.1 ((s1.2.1.nodes.length : Nat) : Int) r19 hr19) (an tv (an g20.1 (an g20.2 tv)))) ?_)
   obtain ⟨r21, hr21, hm⟩ := bo hm
   obtain ⟨r22, hr22, hm⟩ := bo hm
   refine Sq (Sq (RD hnt (nn 3 (o72 [0] true r21 :: o73 [] true r22 :: nn 8 [])) [7] [(8, rr 1064), (10, pI r22.2.2)] [] [(0, bx (pm (encDice r21.2))), (1064, bx [ow 1296 r22.1.nodes.length, pI r22.1.next]), (1296, ob0 (roNode r22.1.nodes))] (an (Name_Dice_madeSpec r19.2 r21 hr21) (an tv (an (Add_ref5Spec s1.2.1 (s1.2.1.nodes.getD (Int.toNat r19.1) dNode).id r21.1 r22 hr22) tv))) ?_))
   refine Sq (RD hnt (nn 2 []) [10] [(42, pB (r22.2.2 == 0))] [] [] tv ?_)
   refine Jn (ι := Tree) (fun (y4 : Tree) => mkSt [(0, rr 0), (4, rr 1032), (5, rr 1040), (6, pI s1.2.2)] [(0, bx (pm (encDice r21.2))), (c70e1), (1040, bx (pm (encTree y4)))]) (fun y4 => (Tree_Dice_madeJ4 s1 n1 r21) y4 = some RES) ?_ ?_
   ·intro y4 hm
    unfold Tree_Dice_madeJ4 at hm
    obtain ⟨r24, hr24, hm⟩ := bo hm
    refine Sq (RD hnt (.no :: o83 [0] true r24 :: []) [] [(45, pB r24.1)] [] [(0, bx (pm (encDice r24.2)))] (an (Bool_Dice_madeSpec r21.2 6 r24 hr24) (an tv tv)) ?_)
    refine condM hm ?_ ?_
    ·intro h25 hm
     obtain ⟨r26, hr26, hm⟩ := bo hm
     obtain ⟨g27, hm⟩ := go1 hm
     obtain ⟨r28, hr28, hm⟩ := bo hm
     refine Sq (RD hnt (nn 7 (o71 [0] true r26 :: nn 3 (o84 [] true r28 :: nn 6 []))) [45] [(11, rr 1088), (12, pI r28.2)] [] [(0, bx (pm (encDice r26.2))), (1088, bx [ow 1464 r28.1.nodes.length, pI r28.1.next]), (1464, ob0 (roNode r28.1.nodes))] (an (Next_Dice_madeSpec r24.2 ((y4.nodes.length : Nat) : Int) r26 hr26) (an tv (an g27.1 (an g27.2 (an (Remove_ref5Spec y4 (y4.nodes.getD (Int.toNat r26.1) dNode).id r28 hr28) tv))))) ?_)
     refine Sq (RD hnt (nn 2 []) [12] [(62, pB (r28.2 == 0))] [] [] tv ?_)
     refine condM hm ?_ ?_
     ·intro h29 hm
      refine RD hnt (nn 2 []) [11, 62] [] [1088] [(1040, bx [ow 1464 r28.1.nodes.length, pI r28.1.next])] tv ?_
      exact bD (r26.2, r28.1) hm (Conv.frz [1464])
     ·intro h29 hm
      refine Sk ?_
      exact bD (r26.2, y4) hm Conv.t0
    ·intro h25 hm
     refine Sk ?_
     exact bD (r24.2, y4) hm Conv.t0
   ·refine condM hm ?_ ?_
    ·intro h23 hm
     refine RD hnt (nn 2 []) [8, 42] [] [1064] [(1040, bx [ow 1296 r22.1.nodes.length, pI r22.1.next])] tv ?_
     exact jD r22.1 hm (Conv.frz [1296])
    ·intro h23 hm
     refine Sk ?_
     exact jD s1.2.1 hm Conv.t0
 ·intro h18 hm
  refine DW.exit ?_
  refine joinQ_exit ?_
  refine KQ_exit ?_
  refine blockQ_exit ?_
  show DW _ _ _ _ _
  refine Sq (RD hnt (nn 2 []) [0, 5, 6, 19] [] [1040] [(1032, bx (pm (encTree s1.2.1)))] tv ?_)
  obtain rfl := sj hm
  exact DW.ret (retK [.box (pm (encDice s1.1))] [] (.p (.agg (encTree s1.2.1))))
abbrev o70 (ks : List Nat) (b : Bool) (RES : Tree × Dice) : Orc := .call 71 ks b (.p (.agg (encTree RES.1))) [.box (pm (encDice RES.2))] []

theorem Group_Dice_madeSpec (p0 : Dice) (p1 : Tree) (RES : Int × Dice) (hm : Group_Dice_made p0 p1 = some RES) : Spec Tryz.prog 35 [rr 0, .p (.agg (encTree p1))] [.box (pm (encDice p0))] (pI RES.1) [.box (pm (encDice RES.2))] [] := by
 unfold Group_Dice_made at hm
 refine SO Tryz.func35 rfl rfl [(0, rr 0), (1, .p (.agg (encTree p1)))] [(0, bx (pm (encDice p0)))] ?_
 intro cx hnt
 refine Sq (RD hnt (nn 2 []) [1] [(3, rr 1024)] [] [(1024, bx (pm (encTree p1)))] tv ?_)
 obtain ⟨r1, hr1, hm⟩ := bo hm
 refine Sq (Sq ?_)
 refine Jn (ι := Bool) (fun (y1 : Bool) => mkSt [(0, rr 0), (3, rr 1024), (12, pB y1)] [(0, bx (pm (encDice r1.2))), (1024, bx (pm (encTree p1)))]) (fun y1 => (Group_Dice_madeJ1 p1 r1) y1 = some RES) ?_ ?_
 ·intro y1 hm
  unfold Group_Dice_madeJ1 at hm
  refine condM hm ?_ ?_
  ·intro h3 hm
   obtain ⟨r4, hr4, hm⟩ := bo hm
   refine Sq (RK hnt (.no :: o71 [0] true r4 :: nn 2 []) [(4, pI (w64 (r4.1 - 1)))] [(0, bx (pm (encDice r4.2)))] (an (Next_Dice_madeSpec r1.2 9 r4 hr4) (an tv tv)) ?_)
   obtain rfl := sj hm
   exact DW.ret (retK [.box (pm (encDice r4.2))] [] (pI (w64 (r4.1 - 1))))
  ·intro h3 hm
   refine Sk ?_
   obtain ⟨r5, hr5, hm⟩ := bo hm
   obtain ⟨g6, hm⟩ := go1 hm
   refine Sq (RK hnt (nn 6 (o71 [0] true r5 :: nn 4 [])) [(4, pI (p1.nodes.getD (Int.toNat r5.1) dNode).id)] [(0, bx (pm (encDice r5.2)))] (an (Next_Dice_madeSpec r1.2 ((p1.nodes.length : Nat) : Int) r5 hr5) (an tv (an g6.1 (an g6.2 tv)))) ?_)
   obtain rfl := sj hm
   exact DW.ret (retK [.box (pm (encDice r5.2))] [] (pI (p1.nodes.getD (Int.toNat r5.1) dNode).id))
 ·rcases bt r1.1 with h2 | h2
  ·replace hm := if_t h2 hm
   refine RD hnt (.no :: o83 [0] true r1 :: .no :: sk 4 (pT :: [])) [] [(12, pB true)] [] [(0, bx (pm (encDice r1.2)))] (an (Bool_Dice_madeSpec p0 15 r1 hr1) (an tv (an5 h2 tv))) ?_
   exact jD true hm Conv.eqK
  ·replace hm := if_f h2 hm
   refine RD hnt (.no :: o83 [0] true r1 :: nn 5 (pF :: [])) [] [(12, pB (((p1.nodes.length : Nat) : Int) == 0))] [] [(0, bx (pm (encDice r1.2)))] (an (Bool_Dice_madeSpec p0 15 r1 hr1) (an tv (an5 h2 tv))) ?_
   exact jD (((p1.nodes.length : Nat) : Int) == 0) hm Conv.eqK
abbrev o87 (ks : List Nat) (b : Bool) (RES : Int × Dice) : Orc := .call 35 ks b (pI RES.1) [.box (pm (encDice RES.2))] []

theorem Controllers_Dice_madeSpec (p0 : Dice) (RES : Int × Dice) (hm : Controllers_Dice_made p0 = some RES) : Spec Tryz.prog 43 [rr 0] [.box (pm (encDice p0))] (pI RES.1) [.box (pm (encDice RES.2))] [] := by
 unfold Controllers_Dice_made at hm
 refine SO Tryz.func43 rfl rfl [(0, rr 0)] [(0, bx (pm (encDice p0)))] ?_
 intro cx hnt
 refine Sq (RD hnt (.no :: []) [] [] [] [] tv ?_)
 obtain ⟨r3, hr3, hm⟩ := bo hm
 obtain ⟨g4, g5, hm⟩ := go2 hm
 refine Sq (RK hnt (.asR (ow 1024 [1, 9, 31, 2, 25, 4, 0, 32, (-1)].length) [1, 9, 31, 2, 25, 4, 0, 32, (-1)].length (elems encI 0 [1, 9, 31, 2, 25, 4, 0, 32, (-1)]) :: .no :: o71 [0] true r3 :: nn 3 []) [(2, pI ([1, 9, 31, 2, 25, 4, 0, 32, (-1)].getD (Int.toNat r3.1) 0))] [(0, bx (pm (encDice r3.2)))] (an (congrArg (MV.own 1024 0 0) (RowIs.asP (enc := encI) (d := 0) (L := [1, 9, 31, 2, 25, 4, 0, 32, (-1)]) (RowIs.lit (enc := encI) (d := 0) (n := 9) (f := (cut 1 [vi 1, vi 9, vi 31, vi 2, vi 25, vi 4, vi 0, vi 32, vi (-1)])) [1, 9, 31, 2, 25, 4, 0, 32, (-1)] rfl (fun | 0, _ => rfl | 1, _ => rfl | 2, _ => rfl | 3, _ => rfl | 4, _ => rfl | 5, _ => rfl | 6, _ => rfl | 7, _ => rfl | 8, _ => rfl | n + 9, h => absurd h (by omega)))).1) (an (RowIs.asP (enc := encI) (d := 0) (L := [1, 9, 31, 2, 25, 4, 0, 32, (-1)]) (RowIs.lit (enc := encI) (d := 0) (n := 9) (f := (cut 1 [vi 1, vi 9, vi 31, vi 2, vi 25, vi 4, vi 0, vi 32, vi (-1)])) [1, 9, 31, 2, 25, 4, 0, 32, (-1)] rfl (fun | 0, _ => rfl | 1, _ => rfl | 2, _ => rfl | 3, _ => rfl | 4, _ => rfl | 5, _ => rfl | 6, _ => rfl | 7, _ => rfl | 8, _ => rfl | n + 9, h => absurd h (by omega)))) (an (Next_Dice_madeSpec p0 9 r3 hr3) (an tv (an g4.1 (an g4.2 (an g5 tv))))))) ?_)
 obtain rfl := sj hm
 exact DW.ret (retK [.box (pm (encDice r3.2))] [] (pI ([1, 9, 31, 2, 25, 4, 0, 32, (-1)].getD (Int.toNat r3.1) 0)))
abbrev o88 (ks : List Nat) (b : Bool) (RES : Int × Dice) : Orc := .call 43 ks b (pI RES.1) [.box (pm (encDice RES.2))] []

theorem leader_ref6Spec (p0 : List Task) (p1 : Int) (RES : Task × Bool) (hm : leader_ref6 p0 p1 = some RES) : Spec Tryz.prog 132 [.p (slTask p0), pI p1] [] (.p (.tup [.agg (encTask RES.1), vb RES.2])) [] [] := by
 unfold leader_ref6 at hm
 refine SO Tryz.func132 rfl rfl [(0, .p (slTask p0)), (1, pI p1)] [] ?_
 intro cx hnt
 refine Sq (RD hnt (nn 2 []) [] [(4, rr 1032)] [] [(1032, bx [pI 0, pI 0, pI 0, pI 0])] tv ?_)
 refine Sq (Sq (RD hnt (.no :: []) [] [(6, pI 0)] [] [] tv ?_))
 refine Bk ?_
 obtain ⟨hc1, hm⟩ := go1 hm
 refine DW.rangeO (fun (k1 : Nat) (s1 : Unit) => mkSt [(0, .p (slTask p0)), (1, pI p1), (4, rr 1032), (6, pI ((k1 : Nat) : Int))] [(1032, bx [pI 0, pI 0, pI 0, pI 0])]) dTask hm Conv.eqK ?_
 intro k1 s1 n1 hk1 hs1 he1
 refine Sq (Sq (RD hnt (nn 4 []) [] [(10, pB (decide (((k1 : Nat) : Int) < ((p0.length : Nat) : Int))))] [] [] tv ?_))
 refine condK (decide (((k1 : Nat) : Int) < ((p0.length : Nat) : Int))) ?_ ?_
 ·intro h11
  have hlt1 : k1 < p0.length := by have := of_decide_eq_true h11; omega
  have hm := hs1 hlt1
  unfold leader_ref6L1 at hm
  refine Sk ?_
  refine Sq (Bk ?_)
  refine Sq (RD hnt (nn 7 []) [10] [(19, pB ((p0.getD k1 (default : Task)).id == p1))] [] [] (an (nn0 k1) (an (ltc hlt1) tv)) ?_)
  refine condM hm ?_ ?_
  ·intro h12 hm
   refine Sq (RK hnt (nn 13 []) [(4, rr 1032), (5, pB ((p0.getD k1 (default : Task)).process == p1))] [(1032, bx (pm (encTask (p0.getD k1 (default : Task)))))] (an (nn0 k1) (an (ltc hlt1) (an (nn0 k1) (an (ltc hlt1) tv)))) ?_)
   obtain rfl := sj hm
   exact DW.ret (retK [] [] (.p (.tup [.agg (encTask (p0.getD k1 (default : Task))), vb ((p0.getD k1 (default : Task)).process == p1)])))
  ·intro h12 hm
   refine Sk ?_
   refine DW.done ?_
   show DW _ _ _ _ _
   refine RD hnt (nn 3 []) [19] [(6, pI (w64 (((k1 : Nat) : Int) + 1)))] [] [] tv ?_
   exact jD () ⟨hlt1, hm⟩ (Conv.tp [(6, pI (w64 (((k1 : Nat) : Int) + 1)))] [] (by kernel_rfl) (.cons rfl (.of_eq (congrArg pI (w64_succ hlt1 hc1))) .nil) .nil)
 ·intro h11
  have hge1 : ¬ k1 < p0.length := by have := of_decide_eq_false h11; omega
  have hm := he1 hge1
  unfold leader_ref6D1 at hm
  refine DW.exit ?_
  refine joinQ_exit ?_
  refine KQ_exit ?_
  refine blockQ_exit ?_
  show DW _ _ _ _ _
  refine Sq (RD hnt (nn 3 []) [0, 1, 6, 10] [(5, pB false)] [] [] tv ?_)
  obtain rfl := sj hm
  exact DW.ret (retK [] [] (.p (.tup [.agg [vi 0, vi 0, vi 0, vi 0], vb false])))
abbrev o93 (ks : List Nat) (b : Bool) (RES : Task × Bool) : Orc := .call 132 ks b (.p (.tup [.agg (encTask RES.1), vb RES.2])) [] []

abbrev c92e1 (p0 : Hierarchy) (k1 : Nat) := (p0.tasks.getD k1 (default : Task))
abbrev c92e2 (p0 : Hierarchy) : Nat × MV := (3, pI ((p0.tasks.length : Nat) : Int))
theorem Check_ref6Spec (p0 : Hierarchy) (RES : Bool) (hm : Check_ref6 p0 = some RES) : Spec Tryz.prog 80 [.p (.agg (encHierarchy p0))] [] (pB RES) [] [] := by
 unfold Check_ref6 at hm
 refine SO Tryz.func80 rfl rfl [(0, .p (.agg (encHierarchy p0)))] [] ?_
 intro cx hnt
 refine Sq (RK hnt (nn 2 []) [(1, rr 1008)] [(1008, bx (pm (encHierarchy p0)))] tv ?_)
 refine Sq (RD hnt (nn 4 []) [] [(c92e2 p0)] [] [] tv ?_)
 obtain ⟨r1, hr1, hm⟩ := bo hm
 refine Sq (Sq ?_)
 refine Jn (ι := Bool) (fun (y1 : Bool) => mkSt [(1, rr 1008), (c92e2 p0), (44, pB y1)] [(1008, bx (pm (encHierarchy p0)))]) (fun y1 => (Check_ref6J1 p0) y1 = some RES) ?_ ?_
 ·intro y1 hm
  unfold Check_ref6J1 at hm
  refine condM hm ?_ ?_
  ·intro h8 hm
   refine Sq (RK hnt (.no :: []) [(2, pB false)] [] tv ?_)
   obtain rfl := sj hm
   exact DW.ret (retK [] [] (pB false))
  ·intro h8 hm
   refine Sk ?_
   refine Sq (Sq (RD hnt (.no :: []) [44] [(4, pI 0)] [] [] tv ?_))
   refine Bk ?_
   obtain ⟨hc1, hm⟩ := go1 hm
   refine DW.rangeO (fun (k1 : Nat) (s1 : Unit) => mkSt [(1, rr 1008), (c92e2 p0), (4, pI ((k1 : Nat) : Int))] [(1008, bx (pm (encHierarchy p0)))]) dTask hm Conv.eqK ?_
   intro k1 s1 n1 hk1 hs1 he1
   refine Sq (Sq (RD hnt (nn 3 []) [] [(47, pB (decide (((k1 : Nat) : Int) < ((p0.tasks.length : Nat) : Int))))] [] [] tv ?_))
   refine condK (decide (((k1 : Nat) : Int) < ((p0.tasks.length : Nat) : Int))) ?_ ?_
   ·intro h45
    have hlt1 : k1 < p0.tasks.length := by have := of_decide_eq_true h45; omega
    have hm := hs1 hlt1
    unfold Check_ref6L1 at hm
    refine Sk ?_
    refine Sq (Bk ?_)
    refine Sq (RD hnt (nn 7 []) [47] [(5, rr 1040)] [] [(1040, bx (pm (encTask (c92e1 p0 k1))))] (an (nn0 k1) (an (ltc hlt1) tv)) ?_)
    obtain ⟨r46, hr46, hm⟩ := bo hm
    refine Sq (RD hnt (nn 4 (o93 [] true r46 :: nn 6 [])) [] [(6, rr 1048), (7, pB r46.2)] [] [(1048, bx (pm (encTask r46.1)))] (an (leader_ref6Spec p0.tasks (c92e1 p0 k1).process r46 hr46) tv) ?_)
    refine Sq ?_
    refine Jn (ι := Bool) (fun (y4 : Bool) => mkSt [(1, rr 1008), (c92e2 p0), (4, pI ((k1 : Nat) : Int)), (110, pB y4)] [(1008, bx (pm (encHierarchy p0)))]) (fun y4 => (Check_ref6J4 n1) y4 = some RES) ?_ ?_
    ·intro y4 hm
     unfold Check_ref6J4 at hm
     refine condM hm ?_ ?_
     ·intro h61 hm
      refine Sq (RK hnt (.no :: []) [(2, pB false)] [] tv ?_)
      obtain rfl := sj hm
      exact DW.ret (retK [] [] (pB false))
     ·intro h61 hm
      refine Sk ?_
      refine DW.done ?_
      show DW _ _ _ _ _
      refine RD hnt (nn 3 []) [110] [(4, pI (w64 (((k1 : Nat) : Int) + 1)))] [] [] tv ?_
      exact jD () ⟨hlt1, hm⟩ (Conv.tp [(4, pI (w64 (((k1 : Nat) : Int) + 1)))] [] (by kernel_rfl) (.cons rfl (.of_eq (congrArg pI (w64_succ hlt1 hc1))) .nil) .nil)
    ·rcases bt (decide ((c92e1 p0 k1).id < 1)) with h47 | h47
     ·replace hm := if_t h47 hm
      refine RD hnt (nn 4 (sk 14 (pT :: .no :: sk 6 (pT :: .no :: sk 3 (pT :: .no :: sk 3 (pT :: .no :: sk 2 (pT :: .no :: sk 5 (pT :: [])))))))) [5, 6, 7] [(110, pB true)] [1040, 1048] [] (an5 h47 (an6 tt (an6 tt (an6 tt (an6 tt tv))))) ?_
      exact jD true hm Conv.eqK
     ·replace hm := if_f h47 hm
      rcases bt (decide (((k1 : Nat) : Int) > 0)) with h48 | h48
      ·replace hm := if_t h48 hm
       obtain ⟨g49, hm⟩ := go1 hm
       rcases bt (decide ((p0.tasks.getD (Int.toNat (w64 (((k1 : Nat) : Int) - 1))) dTask).id ≥ (c92e1 p0 k1).id)) with h50 | h50
       ·replace hm := if_t h50 hm
        refine RD hnt (nn 17 (pT :: pF :: .no :: sk 6 (pT :: .no :: sk 3 (pT :: .no :: sk 3 (pT :: .no :: sk 2 (pT :: .no :: sk 5 (pT :: []))))))) [5, 6, 7] [(110, pB true)] [1040, 1048] [] (an3 h47 (an5 h48 (an g49.1 (an g49.2 (an5 h48 (an h47 (an h48 (an h47 (an h50 (an6 h50 (an5 tt (an6 tt (an6 tt tv))))))))))))) ?_
        exact jD true hm Conv.eqK
       ·replace hm := if_f h50 hm
        obtain ⟨r51, hr51, hm⟩ := bo hm
        rcases bt (!r51) with h52 | h52
        ·replace hm := if_t h52 hm
         refine RD hnt (nn 17 (pT :: pF :: nn 5 (o78 [] true r51 :: .no :: pF :: .no :: sk 3 (pT :: .no :: sk 3 (pT :: .no :: sk 2 (pT :: .no :: sk 5 (pT :: []))))))) [5, 6, 7] [(110, pB true)] [1040, 1048] [] (an3 h47 (an5 h48 (an g49.1 (an g49.2 (an5 h48 (an h47 (an h48 (an h47 (an5 h50 (an (Has_ref5Spec p0.tree (c92e1 p0 k1).group r51 hr51) (an2 h50 (an4 h52 (an tt (an6 tt (an6 tt tv))))))))))))))) ?_
         exact jD true hm Conv.eqK
        ·replace hm := if_f h52 hm
         rcases bt (decide ((c92e1 p0 k1).user < 0)) with h53 | h53
         ·replace hm := if_t h53 hm
          refine RD hnt (nn 17 (pT :: pF :: nn 5 (o78 [] true r51 :: .no :: pF :: nn 4 (pF :: .no :: sk 3 (pT :: .no :: sk 2 (pT :: .no :: sk 5 (pT :: []))))))) [5, 6, 7] [(110, pB true)] [1040, 1048] [] (an3 h47 (an5 h48 (an g49.1 (an g49.2 (an5 h48 (an h47 (an h48 (an h47 (an5 h50 (an (Has_ref5Spec p0.tree (c92e1 p0 k1).group r51 hr51) (an2 h50 (an4 h52 (an4 h53 (an3 tt (an6 tt tv))))))))))))))) ?_
          exact jD true hm Conv.eqK
         ·replace hm := if_f h53 hm
          rcases bt (decide ((c92e1 p0 k1).user > 1048576)) with h54 | h54
          ·replace hm := if_t h54 hm
           refine RD hnt (nn 17 (pT :: pF :: nn 5 (o78 [] true r51 :: .no :: pF :: nn 4 (pF :: nn 4 (pF :: .no :: sk 2 (pT :: .no :: sk 5 (pT :: []))))))) [5, 6, 7] [(110, pB true)] [1040, 1048] [] (an3 h47 (an5 h48 (an g49.1 (an g49.2 (an5 h48 (an h47 (an h48 (an h47 (an5 h50 (an (Has_ref5Spec p0.tree (c92e1 p0 k1).group r51 hr51) (an2 h50 (an4 h52 (an4 h53 (an3 h54 (an6 tt tv))))))))))))))) ?_
           exact jD true hm Conv.eqK
          ·replace hm := if_f h54 hm
           rcases bt (!r46.2) with h55 | h55
           ·replace hm := if_t h55 hm
            refine RD hnt (nn 17 (pT :: pF :: nn 5 (o78 [] true r51 :: .no :: pF :: nn 4 (pF :: nn 4 (pF :: nn 3 (pF :: .no :: sk 5 (pT :: []))))))) [5, 6, 7] [(110, pB true)] [1040, 1048] [] (an3 h47 (an5 h48 (an g49.1 (an g49.2 (an5 h48 (an h47 (an h48 (an h47 (an5 h50 (an (Has_ref5Spec p0.tree (c92e1 p0 k1).group r51 hr51) (an2 h50 (an4 h52 (an4 h53 (an3 h54 (an6 h55 tv))))))))))))))) ?_
            exact jD true hm Conv.eqK
           ·replace hm := if_f h55 hm
            refine RD hnt (nn 17 (pT :: pF :: nn 5 (o78 [] true r51 :: .no :: pF :: nn 4 (pF :: nn 4 (pF :: nn 3 (pF :: nn 6 (pF :: []))))))) [5, 6, 7] [(110, pB (r46.1.user != (c92e1 p0 k1).user))] [1040, 1048] [] (an3 h47 (an5 h48 (an g49.1 (an g49.2 (an5 h48 (an h47 (an h48 (an h47 (an5 h50 (an (Has_ref5Spec p0.tree (c92e1 p0 k1).group r51 hr51) (an2 h50 (an4 h52 (an4 h53 (an3 h54 (an6 h55 tv))))))))))))))) ?_
            exact jD (r46.1.user != (c92e1 p0 k1).user) hm Conv.eqK
      ·replace hm := if_f h48 hm
       obtain ⟨r56, hr56, hm⟩ := bo hm
       rcases bt (!r56) with h57 | h57
       ·replace hm := if_t h57 hm
        refine RD hnt (nn 7 (sk 10 (pF :: pF :: nn 5 (o78 [] true r56 :: .no :: pF :: .no :: sk 3 (pT :: .no :: sk 3 (pT :: .no :: sk 2 (pT :: .no :: sk 5 (pT :: [])))))))) [5, 6, 7] [(110, pB true)] [1040, 1048] [] (an3 h47 (an4 h48 (an6 h48 (an h47 (an h48 (an h47 (an5 ff (an (Has_ref5Spec p0.tree (c92e1 p0 k1).group r56 hr56) (an2 ff (an4 h57 (an tt (an6 tt (an6 tt tv))))))))))))) ?_
        exact jD true hm Conv.eqK
       ·replace hm := if_f h57 hm
        rcases bt (decide ((c92e1 p0 k1).user < 0)) with h58 | h58
        ·replace hm := if_t h58 hm
         refine RD hnt (nn 7 (sk 10 (pF :: pF :: nn 5 (o78 [] true r56 :: .no :: pF :: nn 4 (pF :: .no :: sk 3 (pT :: .no :: sk 2 (pT :: .no :: sk 5 (pT :: [])))))))) [5, 6, 7] [(110, pB true)] [1040, 1048] [] (an3 h47 (an4 h48 (an6 h48 (an h47 (an h48 (an h47 (an5 ff (an (Has_ref5Spec p0.tree (c92e1 p0 k1).group r56 hr56) (an2 ff (an4 h57 (an4 h58 (an3 tt (an6 tt tv))))))))))))) ?_
         exact jD true hm Conv.eqK
        ·replace hm := if_f h58 hm
         rcases bt (decide ((c92e1 p0 k1).user > 1048576)) with h59 | h59
         ·replace hm := if_t h59 hm
          refine RD hnt (nn 7 (sk 10 (pF :: pF :: nn 5 (o78 [] true r56 :: .no :: pF :: nn 4 (pF :: nn 4 (pF :: .no :: sk 2 (pT :: .no :: sk 5 (pT :: [])))))))) [5, 6, 7] [(110, pB true)] [1040, 1048] [] (an3 h47 (an4 h48 (an6 h48 (an h47 (an h48 (an h47 (an5 ff (an (Has_ref5Spec p0.tree (c92e1 p0 k1).group r56 hr56) (an2 ff (an4 h57 (an4 h58 (an3 h59 (an6 tt tv))))))))))))) ?_
          exact jD true hm Conv.eqK
         ·replace hm := if_f h59 hm
          rcases bt (!r46.2) with h60 | h60
          ·replace hm := if_t h60 hm
           refine RD hnt (nn 7 (sk 10 (pF :: pF :: nn 5 (o78 [] true r56 :: .no :: pF :: nn 4 (pF :: nn 4 (pF :: nn 3 (pF :: .no :: sk 5 (pT :: [])))))))) [5, 6, 7] [(110, pB true)] [1040, 1048] [] (an3 h47 (an4 h48 (an6 h48 (an h47 (an h48 (an h47 (an5 ff (an (Has_ref5Spec p0.tree (c92e1 p0 k1).group r56 hr56) (an2 ff (an4 h57 (an4 h58 (an3 h59 (an6 h60 tv))))))))))))) ?_
           exact jD true hm Conv.eqK
          ·replace hm := if_f h60 hm
           refine RD hnt (nn 7 (sk 10 (pF :: pF :: nn 5 (o78 [] true r56 :: .no :: pF :: nn 4 (pF :: nn 4 (pF :: nn 3 (pF :: nn 6 (pF :: [])))))))) [5, 6, 7] [(110, pB (r46.1.user != (c92e1 p0 k1).user))] [1040, 1048] [] (an3 h47 (an4 h48 (an6 h48 (an h47 (an h48 (an h47 (an5 ff (an (Has_ref5Spec p0.tree (c92e1 p0 k1).group r56 hr56) (an2 ff (an4 h57 (an4 h58 (an3 h59 (an6 h60 tv))))))))))))) ?_
           exact jD (r46.1.user != (c92e1 p0 k1).user) hm Conv.eqK
   ·intro h45
    have hge1 : ¬ k1 < p0.tasks.length := by have := of_decide_eq_false h45; omega
    have hm := he1 hge1
    unfold Check_ref6D1 at hm
    refine DW.exit ?_
    refine joinQ_exit ?_
    refine KQ_exit ?_
    refine blockQ_exit ?_
    show DW _ _ _ _ _
    refine Sq (RK hnt (.no :: []) [(2, pB true)] [] tv ?_)
    obtain rfl := sj hm
    exact DW.ret (retK [] [] (pB true))
 ·rcases bt (!r1) with h2 | h2
  ·replace hm := if_t h2 hm
   refine RD hnt (nn 2 (o74 [] true r1 :: nn 2 (sk 2 (pT :: .no :: sk 3 (pT :: .no :: sk 3 (pT :: .no :: sk 14 (pT :: []))))))) [] [(44, pB true)] [] [] (an (Check_ref5Spec p0.tree r1 hr1) (an3 h2 (an tt (an6 tt (an6 tt tv))))) ?_
   exact jD true hm Conv.eqK
  ·replace hm := if_f h2 hm
   rcases bt (decide (((p0.tasks.length : Nat) : Int) > 128)) with h3 | h3
   ·replace hm := if_t h3 hm
    refine RD hnt (nn 2 (o74 [] true r1 :: nn 4 (pF :: .no :: sk 3 (pT :: .no :: sk 3 (pT :: .no :: sk 14 (pT :: [])))))) [] [(44, pB true)] [] [] (an (Check_ref5Spec p0.tree r1 hr1) (an3 h2 (an4 h3 (an3 tt (an6 tt tv))))) ?_
    exact jD true hm Conv.eqK
   ·replace hm := if_f h3 hm
    rcases bt (decide (p0.next < 1)) with h4 | h4
    ·replace hm := if_t h4 hm
     refine RD hnt (nn 2 (o74 [] true r1 :: nn 4 (pF :: nn 4 (pF :: .no :: sk 3 (pT :: .no :: sk 14 (pT :: [])))))) [] [(44, pB true)] [] [] (an (Check_ref5Spec p0.tree r1 hr1) (an3 h2 (an4 h3 (an4 h4 (an5 tt tv))))) ?_
     exact jD true hm Conv.eqK
    ·replace hm := if_f h4 hm
     rcases bt (decide (p0.next > 2147483648)) with h5 | h5
     ·replace hm := if_t h5 hm
      refine RD hnt (nn 2 (o74 [] true r1 :: nn 4 (pF :: nn 4 (pF :: nn 4 (pF :: .no :: sk 14 (pT :: [])))))) [] [(44, pB true)] [] [] (an (Check_ref5Spec p0.tree r1 hr1) (an3 h2 (an4 h3 (an4 h4 (an5 h5 tv))))) ?_
      exact jD true hm Conv.eqK
     ·replace hm := if_f h5 hm
      rcases bt (decide (((p0.tasks.length : Nat) : Int) > 0)) with h6 | h6
      ·replace hm := if_t h6 hm
       obtain ⟨g7, hm⟩ := go1 hm
       refine RD hnt (nn 2 (o74 [] true r1 :: nn 4 (pF :: nn 4 (pF :: nn 4 (pF :: nn 14 (pT :: pF :: [])))))) [] [(44, pB (decide (p0.next ≤ (p0.tasks.getD (Int.toNat (w64 (((p0.tasks.length : Nat) : Int) - 1))) dTask).id)))] [] [] (an (Check_ref5Spec p0.tree r1 hr1) (an3 h2 (an4 h3 (an4 h4 (an3 h5 (an h6 (an6 h6 (an g7.1 (an g7.2 (an3 h6 (an h5 (an h6 (an h5 tv))))))))))))) ?_
       exact jD (decide (p0.next ≤ (p0.tasks.getD (Int.toNat (w64 (((p0.tasks.length : Nat) : Int) - 1))) dTask).id)) hm Conv.eqK
      ·replace hm := if_f h6 hm
       refine RD hnt (nn 2 (o74 [] true r1 :: nn 4 (pF :: nn 4 (pF :: nn 4 (pF :: nn 4 (sk 10 (pF :: pF :: []))))))) [] [(44, pB false)] [] [] (an (Check_ref5Spec p0.tree r1 hr1) (an3 h2 (an4 h3 (an4 h4 (an3 h5 (an4 h6 (an6 h6 (an h5 (an h6 (an h5 tv)))))))))) ?_
       exact jD false hm Conv.eqK
abbrev o92 (ks : List Nat) (b : Bool) (RES : Bool) : Orc := .call 80 ks b (pB RES) [] []

theorem Acting_ref7Spec (p0 : Tree) (p1 : Int) (RES : Int) (hm : Acting_ref7 p0 p1 = some RES) : Spec Tryz.prog 160 [.p (.agg (encTree p0)), pI p1] [] (pI RES) [] [] := by
 unfold Acting_ref7 at hm
 refine SO Tryz.func160 rfl rfl [(0, .p (.agg (encTree p0))), (1, pI p1)] [] ?_
 intro cx hnt
 refine Sq (RK hnt (nn 2 []) [(1, pI p1), (2, rr 1016)] [(1016, bx (pm (encTree p0)))] tv ?_)
 obtain ⟨r1, hr1, hm⟩ := bo hm
 refine Sq (RD hnt (nn 2 (o79 [] true r1 :: nn 6 [])) [] [(5, rr 1040), (6, pB r1.2)] [] [(1040, bx (pm (encNode r1.1)))] (an (Find_ref5Spec p0 p1 r1 hr1) tv) ?_)
 refine Sq (Sq (DW.regJ (sl2 := [(2, rr 1016), (5, rr 1040), (20, pB ((!r1.2) || (p1 == 1)))]) (ob2 := [(1016, bx (pm (encTree p0))), (1040, bx (pm (encNode r1.1)))]) ?_ ?_))
 ·rcases bt (!r1.2) with h2 | h2
  ·exact RT hnt (nn 3 (sk 2 (pT :: []))) [(20, pB true)] (an3 h2 tv) (by kernel_rfl) (.cons rfl (.of_eq (by rw [h2]; try rfl)) .nil)
  ·exact RT hnt (nn 5 (pF :: [])) [(20, pB (p1 == 1))] (an3 h2 tv) (by kernel_rfl) (.cons rfl (.of_eq (by rw [h2]; try rfl)) .nil)
 ·refine condM hm ?_ ?_
  ·intro h3 hm
   refine Sq (RK hnt (.no :: []) [(4, pI 0)] [] tv ?_)
   obtain rfl := sj hm
   exact DW.ret (retK [] [] (pI 0))
  ·intro h3 hm
   refine Sk ?_
   obtain ⟨r4, hr4, hm⟩ := bo hm
   refine Sq (RD hnt (nn 3 (o79 [] true r4 :: nn 6 [])) [2, 20] [(7, rr 1056)] [1016] [(1056, bx (pm (encNode r4.1)))] (an (Find_ref5Spec p0 r1.1.parent r4 hr4) tv) ?_)
   refine Sq (Sq (RD hnt (nn 3 []) [5] [(30, pB (r1.1.kind == 1))] [1040] [] tv ?_))
   refine condM hm ?_ ?_
   ·intro h5 hm
    refine Sq (RK hnt (nn 4 []) [(4, pI (kandNot .i64 r4.1.control 6))] [] tv ?_)
    obtain rfl := sj hm
    exact DW.ret (retK [] [] (pI (kandNot .i64 r4.1.control 6)))
   ·intro h5 hm
    refine Sk ?_
    refine Sq (RK hnt (nn 3 []) [(4, pI r4.1.control)] [] tv ?_)
    obtain rfl := sj hm
    exact DW.ret (retK [] [] (pI r4.1.control))
abbrev o95 (ks : List Nat) (b : Bool) (RES : Int) : Orc := .call 160 ks b (pI RES) [] []

theorem Available_ref7Spec (p0 : Tree) (p1 : Int) (RES : Int) (hm : Available_ref7 p0 p1 = some RES) : Spec Tryz.prog 136 [.p (.agg (encTree p0)), pI p1] [] (pI RES) [] [] := by
 unfold Available_ref7 at hm
 refine SO Tryz.func136 rfl rfl [(0, .p (.agg (encTree p0))), (1, pI p1)] [] ?_
 intro cx hnt
 refine Sq (RK hnt (nn 2 []) [(1, pI p1), (2, rr 1016)] [(1016, bx (pm (encTree p0)))] tv ?_)
 obtain ⟨r1, hr1, hm⟩ := bo hm
 refine Sq (RD hnt (nn 2 (o79 [] true r1 :: nn 6 [])) [] [(5, rr 1040), (6, pB r1.2)] [] [(1040, bx (pm (encNode r1.1)))] (an (Find_ref5Spec p0 p1 r1 hr1) tv) ?_)
 refine Sq (Sq (RD hnt (nn 2 []) [6] [(15, pB (!r1.2))] [] [] tv ?_))
 refine condM hm ?_ ?_
 ·intro h2 hm
  refine Sq (RK hnt (.no :: []) [(4, pI 0)] [] tv ?_)
  obtain rfl := sj hm
  exact DW.ret (retK [] [] (pI 0))
 ·intro h2 hm
  refine Sk ?_
  refine Sq (RD hnt (.no :: []) [15] [(7, pI 31)] [] [] tv ?_)
  refine Sq (Sq (RD hnt (nn 2 []) [] [(17, pB (p1 != 1))] [] [] tv ?_))
  refine Jn (ι := Int) (fun (y1 : Int) => mkSt [(5, rr 1040), (7, pI y1)] [(1040, bx (pm (encNode r1.1)))]) (fun y1 => (Available_ref7J1 r1) y1 = some RES) ?_ ?_
  ·intro y1 hm
   unfold Available_ref7J1 at hm
   refine Sq (Sq (RK hnt (nn 3 []) [(7, pI y1), (23, pB (r1.1.kind == 1))] [] tv ?_))
   refine Jn (ι := Int) (fun (y2 : Int) => mkSt [(7, pI y2)] []) (fun y2 => Available_ref7J2 y2 = some RES) ?_ ?_
   ·intro y2 hm
    unfold Available_ref7J2 at hm
    refine Sq (RK hnt (nn 2 []) [(4, pI y2)] [] tv ?_)
    obtain rfl := sj hm
    exact DW.ret (retK [] [] (pI y2))
   ·refine condM hm ?_ ?_
    ·intro h5 hm
     refine RK hnt (nn 3 []) [(7, pI (kandNot .i64 y1 6))] [] tv ?_
     exact jD (kandNot .i64 y1 6) hm .refl
    ·intro h5 hm
     refine Sk ?_
     exact jD y1 hm Conv.t0
  ·refine condM hm ?_ ?_
   ·intro h3 hm
    obtain ⟨r4, hr4, hm⟩ := bo hm
    refine RD hnt (nn 2 (o95 [] true r4 :: .no :: [])) [1, 2, 17] [(7, pI r4)] [1016] [] (an (Acting_ref7Spec p0 p1 r4 hr4) tv) ?_
    exact jD r4 hm Conv.eqK
   ·intro h3 hm
    refine Sk ?_
    exact jD 31 hm Conv.t0
abbrev o94 (ks : List Nat) (b : Bool) (RES : Int) : Orc := .call 136 ks b (pI RES) [] []

abbrev c96e1 (p0 : Hierarchy) (k1 : Nat) := (p0.tasks.getD k1 (default : Task))
theorem Tasks_ref6Spec (p0 : Hierarchy) (p1 : Int) (RES : List Int) (hm : Tasks_ref6 p0 p1 = some RES) : Spec Tryz.prog 31 [.p (.agg (encHierarchy p0)), pI p1] [] (ow 0 RES.length) [] [roI RES] := by
 unfold Tasks_ref6 at hm
 refine SO Tryz.func31 rfl rfl [(0, .p (.agg (encHierarchy p0))), (1, pI p1)] [] ?_
 intro cx hnt
 refine Sq (RK hnt (nn 2 []) [(1, pI p1), (2, rr 1016)] [(1016, bx (pm (encHierarchy p0)))] tv ?_)
 obtain ⟨r1, hr1, hm⟩ := bo hm
 refine Sq (Sq (RD hnt (.no :: o92 [] true r1 :: .no :: []) [] [(9, pB (!r1))] [] [] (an (Check_ref6Spec p0 r1 hr1) tv) ?_))
 refine condM hm ?_ ?_
 ·intro h2 hm
  refine Sq (RK hnt (.no :: []) [(4, .p (.sl .nil 0 0 (fun _ => [])))] [] tv ?_)
  refine DW.cv [] [(4, ow 100000 0)] [] [(100000, ob0 (roI []))] (Conv.ads [(.s 4, 100000, 1, elems encI 0 [])]) ?_
  obtain rfl := sj hm
  exact DW.ret (retK [roI []] [100000] (ow 0 0))
 ·intro h2 hm
  refine Sk ?_
  refine Sq (RD hnt (.no :: []) [9] [(5, .p (.sl .nil 0 0 (fun _ => [])))] [] [] tv ?_)
  refine Sq (Sq (RD hnt (.no :: []) [] [(6, pI 0)] [] [] tv ?_))
  refine Bk ?_
  obtain ⟨hc1, hm⟩ := go1 hm
  refine DW.rangeO (fun (k1 : Nat) (s1 : List Int) => mkSt [(1, pI p1), (2, rr 1016), (5, ow 1264 s1.length), (6, pI ((k1 : Nat) : Int))] [(1016, bx (pm (encHierarchy p0))), (1264, ob0 (roI s1))]) dTask hm (Conv.ads [(.s 5, 1264, 1, elems encI 0 [])]) ?_
  intro k1 s1 n1 hk1 hs1 he1
  refine Sq (Sq (RD hnt (nn 5 []) [] [(14, pB (decide (((k1 : Nat) : Int) < ((p0.tasks.length : Nat) : Int))))] [] [] tv ?_))
  refine condK (decide (((k1 : Nat) : Int) < ((p0.tasks.length : Nat) : Int))) ?_ ?_
  ·intro h12
   have hlt1 : k1 < p0.tasks.length := by have := of_decide_eq_true h12; omega
   have hm := hs1 hlt1
   unfold Tasks_ref6L1 at hm
   refine Sk ?_
   refine Sq ?_
   refine Jn (ι := List Int) (fun (y3 : List Int) => mkSt [(1, pI p1), (2, rr 1016), (5, ow 1264 y3.length), (6, pI ((k1 : Nat) : Int))] [(1016, bx (pm (encHierarchy p0))), (1264, ob0 (roI y3))]) (fun y3 => (Tasks_ref6J3 n1) y3 = some RES) ?_ ?_
   ·intro y3 hm
    unfold Tasks_ref6J3 at hm
    refine RD hnt (nn 3 []) [] [(6, pI (w64 (((k1 : Nat) : Int) + 1)))] [] [] tv ?_
    exact jD y3 ⟨hlt1, hm⟩ (Conv.tp [(6, pI (w64 (((k1 : Nat) : Int) + 1)))] [] (by kernel_rfl) (.cons rfl (.of_eq (congrArg pI (w64_succ hlt1 hc1))) .nil) .nil)
   ·refine Bk ?_
    refine Sq (RD hnt (nn 8 []) [14] [(24, pB ((c96e1 p0 k1).group == p1))] [] [] (an (nn0 k1) (an (ltc hlt1) tv)) ?_)
    refine condM hm ?_ ?_
    ·intro h13 hm
     obtain ⟨g14, hm⟩ := go1 hm
     refine RN hnt (nn 10 []) [(1, pI p1), (2, rr 1016), (5, ow 1264 (s1 ++ [(c96e1 p0 k1).id]).length), (6, pI ((k1 : Nat) : Int))] [(1016, bx (pm (encHierarchy p0))), (1264, ob0 (roI (s1 ++ [(c96e1 p0 k1).id])))] [(5, ow 1264 (s1.length + 1))] [(1264, .row 1 (s1.length + 1) (catF s1.length (elI s1) (cut 1 [vi (c96e1 p0 k1).id])))] (an (nn0 k1) (an (ltc hlt1) (an (by omega : (s1.length + 1) * 8 ≤ 140737488355328) tv))) (by kernel_rfl) (.cons rfl (MLe.ownLen (enc := encI) (d := 0) (f := (catF s1.length (elI s1) (cut 1 [vi (c96e1 p0 k1).id]))) (RowIs.cat RowIs.elems (RowIs.lit (enc := encI) (d := 0) (n := 1) (f := (cut 1 [vi (c96e1 p0 k1).id])) [(c96e1 p0 k1).id] rfl (fun | 0, _ => rfl | n + 1, h => absurd h (by omega))))) .nil) (.cons rfl (BLe.typed (RowIs.cat RowIs.elems (RowIs.lit (enc := encI) (d := 0) (n := 1) (f := (cut 1 [vi (c96e1 p0 k1).id])) [(c96e1 p0 k1).id] rfl (fun | 0, _ => rfl | n + 1, h => absurd h (by omega))))) .nil) ?_
     exact bD (s1 ++ [(c96e1 p0 k1).id]) hm .refl
    ·intro h13 hm
     refine Sk ?_
     exact bD s1 hm Conv.t0
  ·intro h12
   have hge1 : ¬ k1 < p0.tasks.length := by have := of_decide_eq_false h12; omega
   have hm := he1 hge1
   unfold Tasks_ref6D1 at hm
   refine DW.exit ?_
   refine joinQ_exit ?_
   refine KQ_exit ?_
   refine blockQ_exit ?_
   show DW _ _ _ _ _
   refine Sq (RK hnt (nn 2 []) [(4, ow 1264 s1.length)] [(1264, ob0 (roI s1))] tv ?_)
   obtain rfl := sj hm
   exact DW.ret (retK [roI s1] [1264] (ow 0 s1.length))
abbrev o96 (ks : List Nat) (b : Bool) (RES : List Int) : Orc := .call 31 ks b (ow 0 RES.length) [] [roI RES]

abbrev c91e1 (p0 : Hierarchy) (k1 : Nat) := (p0.tree.nodes.getD k1 (default : Node))
theorem Sound_ref7Spec (p0 : Hierarchy) (RES : Bool) (hm : Sound_ref7 p0 = some RES) : Spec Tryz.prog 90 [.p (.agg (encHierarchy p0))] [] (pB RES) [] [] := by
 unfold Sound_ref7 at hm
 refine SO Tryz.func90 rfl rfl [(0, .p (.agg (encHierarchy p0)))] [] ?_
 intro cx hnt
 refine Sq (RK hnt (nn 2 []) [(1, rr 1008)] [(1008, bx (pm (encHierarchy p0)))] tv ?_)
 obtain ⟨r1, hr1, hm⟩ := bo hm
 refine Sq (Sq (RD hnt (.no :: o92 [] true r1 :: .no :: []) [] [(7, pB (!r1))] [] [] (an (Check_ref6Spec p0 r1 hr1) tv) ?_))
 refine condM hm ?_ ?_
 ·intro h2 hm
  refine Sq (RK hnt (.no :: []) [(2, pB false)] [] tv ?_)
  obtain rfl := sj hm
  exact DW.ret (retK [] [] (pB false))
 ·intro h2 hm
  refine Sk ?_
  refine Sq (Sq (RD hnt (.no :: []) [7] [(3, pI 0)] [] [] tv ?_))
  refine Bk ?_
  obtain ⟨hc1, hm⟩ := go1 hm
  refine DW.rangeO (fun (k1 : Nat) (s1 : Unit) => mkSt [(1, rr 1008), (3, pI ((k1 : Nat) : Int))] [(1008, bx (pm (encHierarchy p0)))]) dNode hm Conv.eqK ?_
  intro k1 s1 n1 hk1 hs1 he1
  refine Sq (Sq (RD hnt (nn 6 []) [] [(13, pB (decide (((k1 : Nat) : Int) < ((p0.tree.nodes.length : Nat) : Int))))] [] [] tv ?_))
  refine condK (decide (((k1 : Nat) : Int) < ((p0.tree.nodes.length : Nat) : Int))) ?_ ?_
  ·intro h19
   have hlt1 : k1 < p0.tree.nodes.length := by have := of_decide_eq_true h19; omega
   have hm := hs1 hlt1
   unfold Sound_ref7L1 at hm
   refine Sk ?_
   refine Sq (Bk ?_)
   refine Sq (RD hnt (nn 8 []) [13] [(4, rr 1032)] [] [(1032, bx (pm (encNode (c91e1 p0 k1))))] (an (nn0 k1) (an (ltc hlt1) tv)) ?_)
   obtain ⟨r20, hr20, hm⟩ := bo hm
   refine Sq ?_
   refine Jn (ι := Bool) (fun (y3 : Bool) => mkSt [(1, rr 1008), (3, pI ((k1 : Nat) : Int)), (49, pB y3)] [(1008, bx (pm (encHierarchy p0)))]) (fun y3 => (Sound_ref7J3 n1) y3 = some RES) ?_ ?_
   ·intro y3 hm
    unfold Sound_ref7J3 at hm
    refine condM hm ?_ ?_
    ·intro h25 hm
     refine Sq (RK hnt (.no :: []) [(2, pB false)] [] tv ?_)
     obtain rfl := sj hm
     exact DW.ret (retK [] [] (pB false))
    ·intro h25 hm
     refine Sk ?_
     refine DW.done ?_
     show DW _ _ _ _ _
     refine RD hnt (nn 3 []) [49] [(3, pI (w64 (((k1 : Nat) : Int) + 1)))] [] [] tv ?_
     exact jD () ⟨hlt1, hm⟩ (Conv.tp [(3, pI (w64 (((k1 : Nat) : Int) + 1)))] [] (by kernel_rfl) (.cons rfl (.of_eq (congrArg pI (w64_succ hlt1 hc1))) .nil) .nil)
   ·rcases bt ((kandNot .i64 (c91e1 p0 k1).control r20) != 0) with h21 | h21
    ·replace hm := if_t h21 hm
     refine RD hnt (nn 6 (o94 [] true r20 :: nn 3 (sk 17 (pT :: [])))) [4] [(49, pB true)] [1032] [] (an (Available_ref7Spec p0.tree (c91e1 p0 k1).id r20 hr20) (an2 h21 (an6 h21 tv))) ?_
     exact jD true hm Conv.eqK
    ·replace hm := if_f h21 hm
     rcases bt ((c91e1 p0 k1).id != 1) with h22 | h22
     ·replace hm := if_t h22 hm
      rcases bt ((kand .i64 (c91e1 p0 k1).control 6) != 0) with h23 | h23
      ·replace hm := if_t h23 hm
       obtain ⟨r24, hr24, hm⟩ := bo hm
       refine RD hnt (nn 6 (o94 [] true r20 :: nn 11 (pT :: nn 4 (o96 [] true r24 :: nn 2 (pT :: pF :: []))))) [4] [(49, pB (decide (((r24.length : Nat) : Int) > 0)))] [1032] [] (an (Available_ref7Spec p0.tree (c91e1 p0 k1).id r20 hr20) (an4 h21 (an4 h22 (an h21 (an h22 (an h21 (an4 h23 (an (Tasks_ref6Spec p0 (c91e1 p0 k1).id r24 hr24) (an2 h23 (an h21 (an h23 (an h21 tv)))))))))))) ?_
       exact jD (decide (((r24.length : Nat) : Int) > 0)) hm Conv.eqK
      ·replace hm := if_f h23 hm
       refine RD hnt (nn 6 (o94 [] true r20 :: nn 11 (pT :: .no :: sk 6 (pF :: pF :: [])))) [4] [(49, pB false)] [1032] [] (an (Available_ref7Spec p0.tree (c91e1 p0 k1).id r20 hr20) (an4 h21 (an4 h22 (an h21 (an h22 (an h21 (an6 h23 (an h21 (an h23 (an h21 tv)))))))))) ?_
       exact jD false hm Conv.eqK
     ·replace hm := if_f h22 hm
      refine RD hnt (nn 6 (o94 [] true r20 :: nn 7 (sk 4 (pF :: .no :: sk 6 (pF :: pF :: []))))) [4] [(49, pB false)] [1032] [] (an (Available_ref7Spec p0.tree (c91e1 p0 k1).id r20 hr20) (an4 h21 (an4 h22 (an h21 (an h22 (an h21 (an6 ff (an h21 (an ff (an h21 tv)))))))))) ?_
      exact jD false hm Conv.eqK
  ·intro h19
   have hge1 : ¬ k1 < p0.tree.nodes.length := by have := of_decide_eq_false h19; omega
   have hm := he1 hge1
   unfold Sound_ref7D1 at hm
   refine DW.exit ?_
   refine joinQ_exit ?_
   refine KQ_exit ?_
   refine blockQ_exit ?_
   show DW _ _ _ _ _
   refine Sq (RK hnt (.no :: []) [(2, pB true)] [] tv ?_)
   obtain rfl := sj hm
   exact DW.ret (retK [] [] (pB true))
abbrev o91 (ks : List Nat) (b : Bool) (RES : Bool) : Orc := .call 90 ks b (pB RES) [] []

theorem Find_ref6Spec (p0 : Hierarchy) (p1 : Int) (RES : Task × Bool) (hm : Find_ref6 p0 p1 = some RES) : Spec Tryz.prog 29 [.p (.agg (encHierarchy p0)), pI p1] [] (.p (.tup [.agg (encTask RES.1), vb RES.2])) [] [] := by
 unfold Find_ref6 at hm
 refine SO Tryz.func29 rfl rfl [(0, .p (.agg (encHierarchy p0))), (1, pI p1)] [] ?_
 intro cx hnt
 refine Sq (RK hnt (nn 3 []) [(1, pI p1), (2, rr 1016), (4, rr 1032)] [(1016, bx (pm (encHierarchy p0))), (1032, bx [pI 0, pI 0, pI 0, pI 0])] tv ?_)
 obtain ⟨r1, hr1, hm⟩ := bo hm
 refine Sq (Sq (RD hnt (.no :: o92 [] true r1 :: .no :: []) [] [(9, pB (!r1))] [] [] (an (Check_ref6Spec p0 r1 hr1) tv) ?_))
 refine condM hm ?_ ?_
 ·intro h2 hm
  refine Sq (RD hnt (nn 3 []) [1, 2, 9] [(5, pB false)] [1016] [] tv ?_)
  obtain rfl := sj hm
  exact DW.ret (retK [] [] (.p (.tup [.agg [vi 0, vi 0, vi 0, vi 0], vb false])))
 ·intro h2 hm
  refine Sk ?_
  refine Sq (Sq (RD hnt (.no :: []) [9] [(6, pI 0)] [] [] tv ?_))
  refine Bk ?_
  obtain ⟨hc1, hm⟩ := go1 hm
  refine DW.rangeO (fun (k1 : Nat) (s1 : Unit) => mkSt [(1, pI p1), (2, rr 1016), (4, rr 1032), (6, pI ((k1 : Nat) : Int))] [(1016, bx (pm (encHierarchy p0))), (1032, bx [pI 0, pI 0, pI 0, pI 0])]) dTask hm Conv.eqK ?_
  intro k1 s1 n1 hk1 hs1 he1
  refine Sq (Sq (RD hnt (nn 5 []) [] [(15, pB (decide (((k1 : Nat) : Int) < ((p0.tasks.length : Nat) : Int))))] [] [] tv ?_))
  refine condK (decide (((k1 : Nat) : Int) < ((p0.tasks.length : Nat) : Int))) ?_ ?_
  ·intro h11
   have hlt1 : k1 < p0.tasks.length := by have := of_decide_eq_true h11; omega
   have hm := hs1 hlt1
   unfold Find_ref6L1 at hm
   refine Sk ?_
   refine Sq (Bk ?_)
   refine Sq (RD hnt (nn 8 []) [15] [(25, pB ((p0.tasks.getD k1 (default : Task)).id == p1))] [] [] (an (nn0 k1) (an (ltc hlt1) tv)) ?_)
   refine condM hm ?_ ?_
   ·intro h12 hm
    refine Sq (RK hnt (nn 7 []) [(4, rr 1032), (5, pB true)] [(1032, bx (pm (encTask (p0.tasks.getD k1 (default : Task)))))] (an (nn0 k1) (an (ltc hlt1) tv)) ?_)
    obtain rfl := sj hm
    exact DW.ret (retK [] [] (.p (.tup [.agg (encTask (p0.tasks.getD k1 (default : Task))), vb true])))
   ·intro h12 hm
    refine Sk ?_
    refine DW.done ?_
    show DW _ _ _ _ _
    refine RD hnt (nn 3 []) [25] [(6, pI (w64 (((k1 : Nat) : Int) + 1)))] [] [] tv ?_
    exact jD () ⟨hlt1, hm⟩ (Conv.tp [(6, pI (w64 (((k1 : Nat) : Int) + 1)))] [] (by kernel_rfl) (.cons rfl (.of_eq (congrArg pI (w64_succ hlt1 hc1))) .nil) .nil)
  ·intro h11
   have hge1 : ¬ k1 < p0.tasks.length := by have := of_decide_eq_false h11; omega
   have hm := he1 hge1
   unfold Find_ref6D1 at hm
   refine DW.exit ?_
   refine joinQ_exit ?_
   refine KQ_exit ?_
   refine blockQ_exit ?_
   show DW _ _ _ _ _
   refine Sq (RD hnt (nn 3 []) [1, 2, 6, 15] [(5, pB false)] [1016] [] tv ?_)
   obtain rfl := sj hm
   exact DW.ret (retK [] [] (.p (.tup [.agg [vi 0, vi 0, vi 0, vi 0], vb false])))
abbrev o97 (ks : List Nat) (b : Bool) (RES : Task × Bool) : Orc := .call 29 ks b (.p (.tup [.agg (encTask RES.1), vb RES.2])) [] []

theorem Domain_ref8Spec (p0 : Tree) (p1 : Int) (RES : Int × Bool) (hm : Domain_ref8 p0 p1 = some RES) : Spec Tryz.prog 36 [.p (.agg (encTree p0)), pI p1] [] (.p (.tup [vi RES.1, vb RES.2])) [] [] := by
 unfold Domain_ref8 at hm
 refine SO Tryz.func36 rfl rfl [(0, .p (.agg (encTree p0))), (1, pI p1)] [] ?_
 intro cx hnt
 refine Sq (RK hnt (nn 3 []) [(1, pI p1), (2, rr 1016)] [(1016, bx (pm (encTree p0)))] tv ?_)
 obtain ⟨r1, hr1, hm⟩ := bo hm
 refine Sq (RD hnt (nn 2 (o81 [] true r1 :: .no :: [])) [1] [(6, ow 1096 r1.length)] [] [(1096, ob0 (roI r1))] (an (Ancestors_ref5Spec p0 p1 r1 hr1) tv) ?_)
 refine Sq (Sq (RD hnt (.no :: []) [] [(7, pI 0)] [] [] tv ?_))
 refine Bk ?_
 obtain ⟨hc1, hm⟩ := go1 hm
 refine DW.rangeO (fun (k1 : Nat) (s1 : Unit) => mkSt [(2, rr 1016), (6, ow 1096 r1.length), (7, pI ((k1 : Nat) : Int))] [(1016, bx (pm (encTree p0))), (1096, ob0 (roI r1))]) 0 hm Conv.eqK ?_
 intro k1 s1 n1 hk1 hs1 he1
 refine Sq (Sq (RD hnt (nn 4 []) [] [(16, pB (decide (((k1 : Nat) : Int) < ((r1.length : Nat) : Int))))] [] [] tv ?_))
 refine condK (decide (((k1 : Nat) : Int) < ((r1.length : Nat) : Int))) ?_ ?_
 ·intro h16
  have hlt1 : k1 < r1.length := by have := of_decide_eq_true h16; omega
  have hm := hs1 hlt1
  unfold Domain_ref8L1 at hm
  refine Sk ?_
  refine Sq (Bk ?_)
  obtain ⟨r17, hr17, hm⟩ := bo hm
  refine Sq (RD hnt (nn 5 (o79 [] true r17 :: nn 6 [])) [16] [(8, rr 1064)] [] [(1064, bx (pm (encNode r17.1)))] (an (nn0 k1) (an (ltc hlt1) (an (by omega : k1 < r1.length) (an (Find_ref5Spec p0 (r1.getD k1 0) r17 hr17) tv)))) ?_)
  refine Sq (RD hnt (nn 3 []) [8] [(30, pB (r17.1.kind != 1))] [1064] [] tv ?_)
  refine condM hm ?_ ?_
  ·intro h18 hm
   refine Sq (RK hnt (nn 6 []) [(4, pI (r1.getD k1 0)), (5, pB true)] [] (an (nn0 k1) (an (ltc hlt1) (an (by omega : k1 < r1.length) tv))) ?_)
   obtain rfl := sj hm
   exact DW.ret (retK [] [] (.p (.tup [vi (r1.getD k1 0), vb true])))
  ·intro h18 hm
   refine Sk ?_
   refine DW.done ?_
   show DW _ _ _ _ _
   refine RD hnt (nn 3 []) [30] [(7, pI (w64 (((k1 : Nat) : Int) + 1)))] [] [] tv ?_
   exact jD () ⟨hlt1, hm⟩ (Conv.tp [(7, pI (w64 (((k1 : Nat) : Int) + 1)))] [] (by kernel_rfl) (.cons rfl (.of_eq (congrArg pI (w64_succ hlt1 hc1))) .nil) .nil)
 ·intro h16
  have hge1 : ¬ k1 < r1.length := by have := of_decide_eq_false h16; omega
  have hm := he1 hge1
  unfold Domain_ref8D1 at hm
  refine DW.exit ?_
  refine joinQ_exit ?_
  refine KQ_exit ?_
  refine blockQ_exit ?_
  show DW _ _ _ _ _
  refine Sq (RK hnt (nn 2 []) [(4, pI 0), (5, pB false)] [] tv ?_)
  obtain rfl := sj hm
  exact DW.ret (retK [] [] (.p (.tup [vi 0, vb false])))
abbrev o98 (ks : List Nat) (b : Bool) (RES : Int × Bool) : Orc := .call 36 ks b (.p (.tup [vi RES.1, vb RES.2])) [] []

theorem Type_ref8BSpec (rec : Tree → Int → Option Int) (ih : ∀ (p0 : Tree) (p1 : Int) (RES : Int), rec p0 p1 = some RES → Spec Tryz.prog 37 [.p (.agg (encTree p0)), pI p1] [] (pI RES) [] []) (p0 : Tree) (p1 : Int) (RES : Int) (hm : Type_ref8B rec p0 p1 = some RES) : Spec Tryz.prog 37 [.p (.agg (encTree p0)), pI p1] [] (pI RES) [] [] := by
 unfold Type_ref8B at hm
 refine SO Tryz.func37 rfl rfl [(0, .p (.agg (encTree p0))), (1, pI p1)] [] ?_
 intro cx hnt
 refine Sq (RK hnt (nn 2 []) [(1, pI p1), (2, rr 1016)] [(1016, bx (pm (encTree p0)))] tv ?_)
 obtain ⟨r1, hr1, hm⟩ := bo hm
 refine Sq (RD hnt (nn 2 (o79 [] true r1 :: nn 6 [])) [] [(5, rr 1040), (6, pB r1.2)] [] [(1040, bx (pm (encNode r1.1)))] (an (Find_ref5Spec p0 p1 r1 hr1) tv) ?_)
 refine Sq (Sq (RD hnt (nn 2 []) [6] [(20, pB (!r1.2))] [] [] tv ?_))
 refine condM hm ?_ ?_
 ·intro h2 hm
  refine Sq (RK hnt (.no :: []) [(4, pI 0)] [] tv ?_)
  obtain rfl := sj hm
  exact DW.ret (retK [] [] (pI 0))
 ·intro h2 hm
  refine Sk ?_
  refine Sq (Sq (RD hnt (nn 3 []) [20] [(23, pB (r1.1.kind == 1))] [] [] tv ?_))
  refine condM hm ?_ ?_
  ·intro h3 hm
   refine Sq (RK hnt (.no :: []) [(4, pI 2)] [] tv ?_)
   obtain rfl := sj hm
   exact DW.ret (retK [] [] (pI 2))
  ·intro h3 hm
   refine Sk ?_
   obtain ⟨r4, hr4, hm⟩ := bo hm
   refine Sq (Sq (RD hnt (nn 3 (o79 [] true r4 :: nn 6 [])) [5, 23] [(7, rr 1056), (8, pB r4.2)] [1040] [(1056, bx (pm (encNode r4.1)))] (an (Find_ref5Spec p0 r1.1.parent r4 hr4) tv) ?_))
   refine Sq ?_
   refine Jn (ι := Bool) (fun (y1 : Bool) => mkSt [(1, pI p1), (2, rr 1016), (43, pB y1)] [(1016, bx (pm (encTree p0)))]) (fun y1 => (Type_ref8J1 p0 p1) y1 = some RES) ?_ ?_
   ·intro y1 hm
    unfold Type_ref8J1 at hm
    refine condM hm ?_ ?_
    ·intro h8 hm
     refine Sq (RK hnt (.no :: []) [(4, pI 3)] [] tv ?_)
     obtain rfl := sj hm
     exact DW.ret (retK [] [] (pI 3))
    ·intro h8 hm
     refine Sk ?_
     obtain ⟨r9, hr9, hm⟩ := bo hm
     refine Sq (RD hnt (nn 2 (o85 [] true r9 :: .no :: [])) [1, 43] [(9, ow 1368 r9.length)] [] [(1368, ob0 (roI r9))] (an (Children_ref5Spec p0 p1 r9 hr9) tv) ?_)
     refine Sq (Sq (RD hnt (.no :: []) [] [(10, pI 0)] [] [] tv ?_))
     refine Bk ?_
     obtain ⟨hc1, hm⟩ := go1 hm
     refine DW.rangeO (fun (k1 : Nat) (s1 : Unit) => mkSt [(2, rr 1016), (9, ow 1368 r9.length), (10, pI ((k1 : Nat) : Int))] [(1016, bx (pm (encTree p0))), (1368, ob0 (roI r9))]) 0 hm Conv.eqK ?_
     intro k1 s1 n1 hk1 hs1 he1
     refine Sq (Sq (RD hnt (nn 4 []) [] [(50, pB (decide (((k1 : Nat) : Int) < ((r9.length : Nat) : Int))))] [] [] tv ?_))
     refine condK (decide (((k1 : Nat) : Int) < ((r9.length : Nat) : Int))) ?_ ?_
     ·intro h20
      have hlt1 : k1 < r9.length := by have := of_decide_eq_true h20; omega
      have hm := hs1 hlt1
      unfold Type_ref8L1 at hm
      refine Sk ?_
      refine Sq (Bk ?_)
      obtain ⟨r21, hr21, hm⟩ := bo hm
      refine Sq (RD hnt (nn 5 (o79 [] true r21 :: nn 6 [])) [50] [(11, rr 1088)] [] [(1088, bx (pm (encNode r21.1)))] (an (nn0 k1) (an (ltc hlt1) (an (by omega : k1 < r9.length) (an (Find_ref5Spec p0 (r9.getD k1 0) r21 hr21) tv)))) ?_)
      refine Sq (RD hnt (nn 3 []) [11] [(64, pB (r21.1.kind == 1))] [1088] [] tv ?_)
      refine condM hm ?_ ?_
      ·intro h22 hm
       refine Sq (RK hnt (.no :: []) [(4, pI 1)] [] tv ?_)
       obtain rfl := sj hm
       exact DW.ret (retK [] [] (pI 1))
      ·intro h22 hm
       refine Sk ?_
       refine DW.done ?_
       show DW _ _ _ _ _
       refine RD hnt (nn 3 []) [64] [(10, pI (w64 (((k1 : Nat) : Int) + 1)))] [] [] tv ?_
       exact jD () ⟨hlt1, hm⟩ (Conv.tp [(10, pI (w64 (((k1 : Nat) : Int) + 1)))] [] (by kernel_rfl) (.cons rfl (.of_eq (congrArg pI (w64_succ hlt1 hc1))) .nil) .nil)
     ·intro h20
      have hge1 : ¬ k1 < r9.length := by have := of_decide_eq_false h20; omega
      have hm := he1 hge1
      unfold Type_ref8D1 at hm
      refine DW.exit ?_
      refine joinQ_exit ?_
      refine KQ_exit ?_
      refine blockQ_exit ?_
      show DW _ _ _ _ _
      refine Sq (RK hnt (.no :: []) [(4, pI 0)] [] tv ?_)
      obtain rfl := sj hm
      exact DW.ret (retK [] [] (pI 0))
   ·rcases bt r4.2 with h5 | h5
    ·replace hm := if_t h5 hm
     rcases bt (r4.1.kind == 1) with h6 | h6
     ·replace hm := if_t h6 hm
      refine RD hnt (nn 6 (sk 5 (pT :: pT :: []))) [7, 8] [(43, pB true)] [1056] [] (an4 h5 (an5 h6 (an h5 (an h6 (an h5 tv))))) ?_
      exact jD true hm Conv.eqK
     ·replace hm := if_f h6 hm
      obtain ⟨r7, hr7, hm⟩ := bo hm
      refine RD hnt (nn 9 (.call 37 [] true (pI r7) [] [] :: .no :: pF :: pT :: [])) [7, 8] [(43, pB (r7 == 3))] [1056] [] (an4 h5 (an4 h6 (an (ih p0 r4.1.id r7 hr7) (an h6 (an h5 (an h6 (an h5 tv))))))) ?_
      exact jD (r7 == 3) hm Conv.eqK
    ·replace hm := if_f h5 hm
     refine RD hnt (nn 2 (sk 10 (pF :: []))) [7, 8] [(43, pB false)] [1056] [] (an6 h5 tv) ?_
     exact jD false hm Conv.eqK
theorem Type_ref8FSpec : ∀ (n : Nat) (p0 : Tree) (p1 : Int) (RES : Int), Type_ref8F n p0 p1 = some RES → Spec Tryz.prog 37 [.p (.agg (encTree p0)), pI p1] [] (pI RES) [] []
  | 0, p0, p1, RES, hm => by simp [Type_ref8F] at hm
  | n + 1, p0, p1, RES, hm => Type_ref8BSpec (Type_ref8F n) (Type_ref8FSpec n) p0 p1 RES hm
theorem Type_ref8Spec (p0 : Tree) (p1 : Int) (RES : Int) (hm : Type_ref8 p0 p1 = some RES) : Spec Tryz.prog 37 [.p (.agg (encTree p0)), pI p1] [] (pI RES) [] [] := Type_ref8FSpec FUEL p0 p1 RES hm
abbrev o99 (ks : List Nat) (b : Bool) (RES : Int) : Orc := .call 37 ks b (pI RES) [] []
end Go.Dm

