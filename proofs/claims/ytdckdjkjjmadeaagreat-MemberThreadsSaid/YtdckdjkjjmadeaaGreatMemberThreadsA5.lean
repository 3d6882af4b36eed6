/- Go functions compute their models, printed by a program. -/
import Derived.Test.YtdckdjkjjmadeaaGreatMemberThreadsA4
set_option linter.unusedVariables false
set_option linter.unusedSimpArgs false
namespace Go.Dm
open Go.Proofs
set_option linter.unusedVariables false
abbrev c99e1 (p0 : List Int) (p1 : Int) (p3 : Int) := ((p0.set (Int.toNat p1) (p0.getD (Int.toNat p3) 0)).set (Int.toNat p3) (p0.getD (Int.toNat p1) 0))
abbrev c99e2 (p0 : List Int) (p1 : Int) (p3 : Int) (s1 : Int) (s17 : Int) := (updF (updF (elI (c99e1 p0 p1 p3)) (Int.toNat s1) [vi ((c99e1 p0 p1 p3).getD (Int.toNat s17) 0)]) (Int.toNat s17) (setRange ((updF (elI (c99e1 p0 p1 p3)) (Int.toNat s1) [vi ((c99e1 p0 p1 p3).getD (Int.toNat s17) 0)]) (Int.toNat s17)) 0 [vi ((c99e1 p0 p1 p3).getD (Int.toNat s1) 0)]))
abbrev c99e3 (p0 : List Int) (p1 : Int) (p3 : Int) := (updF (updF (elI p0) (Int.toNat p1) [vi (p0.getD (Int.toNat p3) 0)]) (Int.toNat p3) (setRange ((updF (elI p0) (Int.toNat p1) [vi (p0.getD (Int.toNat p3) 0)]) (Int.toNat p3)) 0 [vi (p0.getD (Int.toNat p1) 0)]))
abbrev c99e4 (s25 : (List Int) × Int × Int) (s29 : Int) (s31 : Int) := (updF (updF (elI s25.1) (Int.toNat s29) [vi (s25.1.getD (Int.toNat s31) 0)]) (Int.toNat s31) (setRange ((updF (elI s25.1) (Int.toNat s29) [vi (s25.1.getD (Int.toNat s31) 0)]) (Int.toNat s31)) 0 [vi (s25.1.getD (Int.toNat s29) 0)]))
abbrev c99e5 (s25 : (List Int) × Int × Int) (s29 : Int) (s31 : Int) := ((s25.1.set (Int.toNat s29) (s25.1.getD (Int.toNat s31) 0)).set (Int.toNat s31) (s25.1.getD (Int.toNat s29) 0))
theorem partitionOrdered_slices_intSpec (p0 : List Int) (p1 : Int) (p2 : Int) (p3 : Int) (RES : Int × Bool × (List Int)) (hm : partitionOrdered_slices_int p0 p1 p2 p3 = some RES) : Spec Tryz.prog 185 [ow 0 p0.length, pI p1, pI p2, pI p3] [roI p0] (.p (.tup [vi RES.1, vb RES.2.1])) [roI RES.2.2] [] := by
 unfold partitionOrdered_slices_int at hm
 refine SO Tryz.func185 rfl rfl [(0, ow 0 p0.length), (1, pI p1), (2, pI p2), (3, pI p3)] [(0, ob0 (roI p0))] ?_
 intro cx hnt
 refine Sq (RD hnt (nn 2 []) [] [] [] [] tv ?_)
 obtain ⟨g1, g2, g3, g4, hm⟩ := go4 hm
 obtain ⟨g5, g6, g7, g8, hm⟩ := go4 hm
 refine Sq (RN hnt (nn 16 []) [(0, ow 0 (c99e1 p0 p1 p3).length), (1, pI p1), (2, pI p2)] [(0, ob0 (roI (c99e1 p0 p1 p3)))] [(0, ow 0 p0.length)] [(0, .row 1 p0.length (c99e3 p0 p1 p3))] (an g1.1 (an g1.2 (an g2 (an g3.1 (an g3.2 (an g4 (an g5.1 (an g5.2 (an g6 (an g7.1 (an g7.2 (an g8 tv)))))))))))) (by kernel_rfl) (.cons rfl (MLe.ownLen (enc := encI) (d := 0) (f := (c99e3 p0 p1 p3)) (RowIs.updR (RowIs.upd RowIs.elems (p0.getD (Int.toNat p3) 0) rfl) (by omega) (p0.getD (Int.toNat p1) 0) rfl)) .nil) (.cons rfl (BLe.typed (RowIs.updR (RowIs.upd RowIs.elems (p0.getD (Int.toNat p3) 0) rfl) (by omega) (p0.getD (Int.toNat p1) 0) rfl)) .nil) ?_)
 refine Sq (RD hnt (nn 6 []) [2] [(10, pI (w64 (p1 + 1))), (11, pI (w64 (p2 - 1)))] [] [] tv ?_)
 refine Sq (Bk ?_)
 refine DW.whileO (fun (s1 : Int) => mkSt [(0, ow 0 (c99e1 p0 p1 p3).length), (1, pI p1), (10, pI s1), (11, pI (w64 (p2 - 1)))] [(0, ob0 (roI (c99e1 p0 p1 p3)))]) hm Conv.eqK ?_
 intro s1 n1 hm
 unfold partitionOrdered_slices_intL1 at hm
 refine Sq (Sq ?_)
 refine Jn (ι := Bool) (fun (y28 : Bool) => mkSt [(0, ow 0 (c99e1 p0 p1 p3).length), (1, pI p1), (10, pI s1), (11, pI (w64 (p2 - 1))), (43, pB y28)] [(0, ob0 (roI (c99e1 p0 p1 p3)))]) (fun y28 => (partitionOrdered_slices_intJ28 p0 p1 p2 p3 s1 n1) y28 = some RES) ?_ ?_
 ·intro y28 hm
  unfold partitionOrdered_slices_intJ28 at hm
  refine condM hm ?_ ?_
  ·intro h588 hm
   refine Sk ?_
   refine Bk ?_
   refine RD hnt (nn 3 []) [43] [(10, pI (w64 (s1 + 1)))] [] [] tv ?_
   refine DW.done ?_
   show DW _ _ _ _ _
   exact jD (w64 (s1 + 1)) hm Conv.eqK
  ·intro h588 hm
   refine DW.exit ?_
   refine joinQ_exit ?_
   refine KQ_exit ?_
   refine blockQ_exit ?_
   show DW _ _ _ _ _
   refine Sq (Bk ?_)
   refine DW.whileO (fun (s17 : Int) => mkSt [(0, ow 0 (c99e1 p0 p1 p3).length), (1, pI p1), (10, pI s1), (11, pI s17)] [(0, ob0 (roI (c99e1 p0 p1 p3)))]) hm Conv.t0 ?_
   intro s17 n17 hm
   unfold partitionOrdered_slices_intL17 at hm
   refine Sq (Sq ?_)
   refine Jn (ι := Bool) (fun (y42 : Bool) => mkSt [(0, ow 0 (c99e1 p0 p1 p3).length), (1, pI p1), (10, pI s1), (11, pI s17), (60, pB y42)] [(0, ob0 (roI (c99e1 p0 p1 p3)))]) (fun y42 => (partitionOrdered_slices_intJ42 p0 p1 p3 s1 s17 n17) y42 = some RES) ?_ ?_
   ·intro y42 hm
    unfold partitionOrdered_slices_intJ42 at hm
    refine condM hm ?_ ?_
    ·intro h875 hm
     refine Sk ?_
     refine Bk ?_
     refine RD hnt (nn 3 []) [60] [(11, pI (w64 (s17 - 1)))] [] [] tv ?_
     refine DW.done ?_
     show DW _ _ _ _ _
     exact jD (w64 (s17 - 1)) hm Conv.eqK
    ·intro h875 hm
     refine DW.exit ?_
     refine joinQ_exit ?_
     refine KQ_exit ?_
     refine blockQ_exit ?_
     show DW _ _ _ _ _
     refine Sq (Sq (RD hnt (nn 3 []) [60] [(65, pB (decide (s1 > s17)))] [] [] tv ?_))
     refine condM hm ?_ ?_
     ·intro h876 hm
      obtain ⟨g877, g878, g879, g880, hm⟩ := go4 hm
      obtain ⟨g881, g882, g883, g884, hm⟩ := go4 hm
      refine Sq (RN hnt (nn 16 []) [(11, pI s17)] [(0, ob0 (roI (((c99e1 p0 p1 p3).set (Int.toNat s17) ((c99e1 p0 p1 p3).getD (Int.toNat p1) 0)).set (Int.toNat p1) ((c99e1 p0 p1 p3).getD (Int.toNat s17) 0))))] [] [(0, .row 1 (c99e1 p0 p1 p3).length (updF (updF (elI (c99e1 p0 p1 p3)) (Int.toNat s17) [vi ((c99e1 p0 p1 p3).getD (Int.toNat p1) 0)]) (Int.toNat p1) (setRange ((updF (elI (c99e1 p0 p1 p3)) (Int.toNat s17) [vi ((c99e1 p0 p1 p3).getD (Int.toNat p1) 0)]) (Int.toNat p1)) 0 [vi ((c99e1 p0 p1 p3).getD (Int.toNat s17) 0)])))] (an g877.1 (an g877.2 (an g878 (an g879.1 (an g879.2 (an g880 (an g881.1 (an g881.2 (an g882 (an g883.1 (an g883.2 (an g884 tv)))))))))))) (by kernel_rfl) .nil (.cons rfl (BLe.typed (RowIs.updR (RowIs.upd RowIs.elems ((c99e1 p0 p1 p3).getD (Int.toNat p1) 0) rfl) (by omega) ((c99e1 p0 p1 p3).getD (Int.toNat s17) 0) rfl)) .nil) ?_)
      refine Sq (RD hnt (nn 3 []) [11] [(8, pI s17), (9, pB true)] [] [] tv ?_)
      obtain rfl := sj hm
      exact DW.ret (retK [roI (((c99e1 p0 p1 p3).set (Int.toNat s17) ((c99e1 p0 p1 p3).getD (Int.toNat p1) 0)).set (Int.toNat p1) ((c99e1 p0 p1 p3).getD (Int.toNat s17) 0))] [] (.p (.tup [vi s17, vb true])))
     ·intro h876 hm
      refine Sk ?_
      obtain ⟨g885, g886, g887, g888, hm⟩ := go4 hm
      obtain ⟨g889, g890, g891, g892, hm⟩ := go4 hm
      refine Sq (RN hnt (nn 16 []) [(0, ow 0 (((c99e1 p0 p1 p3).set (Int.toNat s1) ((c99e1 p0 p1 p3).getD (Int.toNat s17) 0)).set (Int.toNat s17) ((c99e1 p0 p1 p3).getD (Int.toNat s1) 0)).length), (1, pI p1), (10, pI s1), (11, pI s17)] [(0, ob0 (roI (((c99e1 p0 p1 p3).set (Int.toNat s1) ((c99e1 p0 p1 p3).getD (Int.toNat s17) 0)).set (Int.toNat s17) ((c99e1 p0 p1 p3).getD (Int.toNat s1) 0))))] [(0, ow 0 (c99e1 p0 p1 p3).length)] [(0, .row 1 (c99e1 p0 p1 p3).length (c99e2 p0 p1 p3 s1 s17))] (an g885.1 (an g885.2 (an g886 (an g887.1 (an g887.2 (an g888 (an g889.1 (an g889.2 (an g890 (an g891.1 (an g891.2 (an g892 tv)))))))))))) (by kernel_rfl) (.cons rfl (MLe.ownLen (enc := encI) (d := 0) (f := (c99e2 p0 p1 p3 s1 s17)) (RowIs.updR (RowIs.upd RowIs.elems ((c99e1 p0 p1 p3).getD (Int.toNat s17) 0) rfl) (by omega) ((c99e1 p0 p1 p3).getD (Int.toNat s1) 0) rfl)) .nil) (.cons rfl (BLe.typed (RowIs.updR (RowIs.upd RowIs.elems ((c99e1 p0 p1 p3).getD (Int.toNat s17) 0) rfl) (by omega) ((c99e1 p0 p1 p3).getD (Int.toNat s1) 0) rfl)) .nil) ?_)
      refine Sq (RD hnt (nn 3 []) [] [(10, pI (w64 (s1 + 1)))] [] [] tv ?_)
      refine Sq (RD hnt (nn 3 []) [] [(11, pI (w64 (s17 - 1)))] [] [] tv ?_)
      refine Sq (Bk ?_)
      refine DW.whileO (fun (s25 : (List Int) × Int × Int) => mkSt [(0, ow 0 s25.1.length), (1, pI p1), (10, pI s25.2.1), (11, pI s25.2.2)] [(0, ob0 (roI s25.1))]) hm Conv.eqK ?_
      intro s25 n25 hm
      unfold partitionOrdered_slices_intL25 at hm
      refine Bk ?_
      refine Sq (Bk ?_)
      refine DW.whileO (fun (s29 : Int) => mkSt [(0, ow 0 s25.1.length), (1, pI p1), (10, pI s29), (11, pI s25.2.2)] [(0, ob0 (roI s25.1))]) hm .refl ?_
      intro s29 n29 hm
      unfold partitionOrdered_slices_intL29 at hm
      refine Sq (Sq ?_)
      refine Jn (ι := Bool) (fun (y52 : Bool) => mkSt [(0, ow 0 s25.1.length), (1, pI p1), (10, pI s29), (11, pI s25.2.2), (112, pB y52)] [(0, ob0 (roI s25.1))]) (fun y52 => (partitionOrdered_slices_intJ52 p1 s25 n25 s29 n29) y52 = some RES) ?_ ?_
      ·intro y52 hm
       unfold partitionOrdered_slices_intJ52 at hm
       refine condM hm ?_ ?_
       ·intro h1088 hm
        refine Sk ?_
        refine Bk ?_
        refine RD hnt (nn 3 []) [112] [(10, pI (w64 (s29 + 1)))] [] [] tv ?_
        refine DW.done ?_
        show DW _ _ _ _ _
        exact jD (w64 (s29 + 1)) hm Conv.eqK
       ·intro h1088 hm
        refine DW.exit ?_
        refine joinQ_exit ?_
        refine KQ_exit ?_
        refine blockQ_exit ?_
        show DW _ _ _ _ _
        refine Sq (Bk ?_)
        refine DW.whileO (fun (s31 : Int) => mkSt [(0, ow 0 s25.1.length), (1, pI p1), (10, pI s29), (11, pI s31)] [(0, ob0 (roI s25.1))]) hm Conv.t0 ?_
        intro s31 n31 hm
        unfold partitionOrdered_slices_intL31 at hm
        refine Sq (Sq ?_)
        refine Jn (ι := Bool) (fun (y54 : Bool) => mkSt [(0, ow 0 s25.1.length), (1, pI p1), (10, pI s29), (11, pI s31), (129, pB y54)] [(0, ob0 (roI s25.1))]) (fun y54 => (partitionOrdered_slices_intJ54 p1 s25 n25 s29 s31 n31) y54 = some RES) ?_ ?_
        ·intro y54 hm
         unfold partitionOrdered_slices_intJ54 at hm
         refine condM hm ?_ ?_
         ·intro h1119 hm
          refine Sk ?_
          refine Bk ?_
          refine RD hnt (nn 3 []) [129] [(11, pI (w64 (s31 - 1)))] [] [] tv ?_
          refine DW.done ?_
          show DW _ _ _ _ _
          exact jD (w64 (s31 - 1)) hm Conv.eqK
         ·intro h1119 hm
          refine DW.exit ?_
          refine joinQ_exit ?_
          refine KQ_exit ?_
          refine blockQ_exit ?_
          show DW _ _ _ _ _
          refine Sq (Sq (RD hnt (nn 3 []) [129] [(134, pB (decide (s29 > s31)))] [] [] tv ?_))
          refine condM hm ?_ ?_
          ·intro h1120 hm
           refine DW.exit ?_
           refine blockQ_other (by decide) ?_
           refine KQ_exit ?_
           refine joinQ_exit ?_
           refine KQ_exit ?_
           refine blockQ_exit ?_
           show DW _ _ _ _ _
           obtain ⟨g1121, g1122, g1123, g1124, hm⟩ := go4 hm
           obtain ⟨g1125, g1126, g1127, g1128, hm⟩ := go4 hm
           refine Sq (RN hnt (nn 16 []) [(11, pI s31)] [(0, ob0 (roI ((s25.1.set (Int.toNat s31) (s25.1.getD (Int.toNat p1) 0)).set (Int.toNat p1) (s25.1.getD (Int.toNat s31) 0))))] [] [(0, .row 1 s25.1.length (updF (updF (elI s25.1) (Int.toNat s31) [vi (s25.1.getD (Int.toNat p1) 0)]) (Int.toNat p1) (setRange ((updF (elI s25.1) (Int.toNat s31) [vi (s25.1.getD (Int.toNat p1) 0)]) (Int.toNat p1)) 0 [vi (s25.1.getD (Int.toNat s31) 0)])))] (an g1121.1 (an g1121.2 (an g1122 (an g1123.1 (an g1123.2 (an g1124 (an g1125.1 (an g1125.2 (an g1126 (an g1127.1 (an g1127.2 (an g1128 tv)))))))))))) (by kernel_rfl) .nil (.cons rfl (BLe.typed (RowIs.updR (RowIs.upd RowIs.elems (s25.1.getD (Int.toNat p1) 0) rfl) (by omega) (s25.1.getD (Int.toNat s31) 0) rfl)) .nil) ?_)
           refine Sq (RD hnt (nn 3 []) [11] [(8, pI s31), (9, pB false)] [] [] tv ?_)
           obtain rfl := sj hm
           exact DW.ret (retK [roI ((s25.1.set (Int.toNat s31) (s25.1.getD (Int.toNat p1) 0)).set (Int.toNat p1) (s25.1.getD (Int.toNat s31) 0))] [] (.p (.tup [vi s31, vb false])))
          ·intro h1120 hm
           refine Sk ?_
           obtain ⟨g1129, g1130, g1131, g1132, hm⟩ := go4 hm
           obtain ⟨g1133, g1134, g1135, g1136, hm⟩ := go4 hm
           refine Sq (RN hnt (nn 16 []) [(0, ow 0 (c99e5 s25 s29 s31).length), (1, pI p1), (10, pI s29), (11, pI s31)] [(0, ob0 (roI (c99e5 s25 s29 s31)))] [(0, ow 0 s25.1.length)] [(0, .row 1 s25.1.length (c99e4 s25 s29 s31))] (an g1129.1 (an g1129.2 (an g1130 (an g1131.1 (an g1131.2 (an g1132 (an g1133.1 (an g1133.2 (an g1134 (an g1135.1 (an g1135.2 (an g1136 tv)))))))))))) (by kernel_rfl) (.cons rfl (MLe.ownLen (enc := encI) (d := 0) (f := (c99e4 s25 s29 s31)) (RowIs.updR (RowIs.upd RowIs.elems (s25.1.getD (Int.toNat s31) 0) rfl) (by omega) (s25.1.getD (Int.toNat s29) 0) rfl)) .nil) (.cons rfl (BLe.typed (RowIs.updR (RowIs.upd RowIs.elems (s25.1.getD (Int.toNat s31) 0) rfl) (by omega) (s25.1.getD (Int.toNat s29) 0) rfl)) .nil) ?_)
           refine Sq (RD hnt (nn 3 []) [] [(10, pI (w64 (s29 + 1)))] [] [] tv ?_)
           refine RD hnt (nn 3 []) [] [(11, pI (w64 (s31 - 1)))] [] [] tv ?_
           refine DW.done ?_
           show DW _ _ _ _ _
           exact jD ((c99e5 s25 s29 s31), (w64 (s29 + 1)), (w64 (s31 - 1))) hm Conv.eqK
        ·rcases bt (decide (s29 ≤ s31)) with h1113 | h1113
         ·replace hm := if_t h1113 hm
          obtain ⟨g1114, g1115, g1116, g1117, hm⟩ := go4 hm
          obtain ⟨r1118, hr1118, hm⟩ := bo hm
          refine RD hnt (nn 12 (o88 [] true r1118 :: .no :: pT :: [])) [] [(129, pB (!r1118))] [] [] (an3 h1113 (an g1114.1 (an g1114.2 (an h1113 (an g1115 (an3 h1113 (an g1116.1 (an g1116.2 (an h1113 (an g1117 (an h1113 (an (Less_cmp_intSpec (s25.1.getD (Int.toNat s31) 0) (s25.1.getD (Int.toNat p1) 0) r1118 hr1118) (an2 h1113 tv))))))))))))) ?_
          exact jD (!r1118) hm Conv.eqK
         ·replace hm := if_f h1113 hm
          refine RD hnt (nn 4 (sk 10 (pF :: []))) [] [(129, pB false)] [] [] (an5 h1113 (an6 h1113 tv)) ?_
          exact jD false hm Conv.eqK
      ·rcases bt (decide (s29 ≤ s25.2.2)) with h1082 | h1082
       ·replace hm := if_t h1082 hm
        obtain ⟨g1083, g1084, g1085, g1086, hm⟩ := go4 hm
        obtain ⟨r1087, hr1087, hm⟩ := bo hm
        refine RD hnt (nn 12 (o88 [] true r1087 :: pT :: [])) [] [(112, pB r1087)] [] [] (an3 h1082 (an g1083.1 (an g1083.2 (an h1082 (an g1084 (an3 h1082 (an g1085.1 (an g1085.2 (an h1082 (an g1086 (an h1082 (an (Less_cmp_intSpec (s25.1.getD (Int.toNat s29) 0) (s25.1.getD (Int.toNat p1) 0) r1087 hr1087) (an h1082 tv))))))))))))) ?_
        exact jD r1087 hm Conv.eqK
       ·replace hm := if_f h1082 hm
        refine RD hnt (nn 4 (sk 9 (pF :: []))) [] [(112, pB false)] [] [] (an4 h1082 (an6 h1082 tv)) ?_
        exact jD false hm Conv.eqK
   ·rcases bt (decide (s1 ≤ s17)) with h869 | h869
    ·replace hm := if_t h869 hm
     obtain ⟨g870, g871, g872, g873, hm⟩ := go4 hm
     obtain ⟨r874, hr874, hm⟩ := bo hm
     refine RD hnt (nn 12 (o88 [] true r874 :: .no :: pT :: [])) [] [(60, pB (!r874))] [] [] (an3 h869 (an g870.1 (an g870.2 (an h869 (an g871 (an3 h869 (an g872.1 (an g872.2 (an h869 (an g873 (an h869 (an (Less_cmp_intSpec ((c99e1 p0 p1 p3).getD (Int.toNat s17) 0) ((c99e1 p0 p1 p3).getD (Int.toNat p1) 0) r874 hr874) (an2 h869 tv))))))))))))) ?_
     exact jD (!r874) hm Conv.eqK
    ·replace hm := if_f h869 hm
     refine RD hnt (nn 4 (sk 10 (pF :: []))) [] [(60, pB false)] [] [] (an5 h869 (an6 h869 tv)) ?_
     exact jD false hm Conv.eqK
 ·rcases bt (decide (s1 ≤ (w64 (p2 - 1)))) with h582 | h582
  ·replace hm := if_t h582 hm
   obtain ⟨g583, g584, g585, g586, hm⟩ := go4 hm
   obtain ⟨r587, hr587, hm⟩ := bo hm
   refine RD hnt (nn 12 (o88 [] true r587 :: pT :: [])) [] [(43, pB r587)] [] [] (an3 h582 (an g583.1 (an g583.2 (an h582 (an g584 (an3 h582 (an g585.1 (an g585.2 (an h582 (an g586 (an h582 (an (Less_cmp_intSpec ((c99e1 p0 p1 p3).getD (Int.toNat s1) 0) ((c99e1 p0 p1 p3).getD (Int.toNat p1) 0) r587 hr587) (an h582 tv))))))))))))) ?_
   exact jD r587 hm Conv.eqK
  ·replace hm := if_f h582 hm
   refine RD hnt (nn 4 (sk 9 (pF :: []))) [] [(43, pB false)] [] [] (an4 h582 (an6 h582 tv)) ?_
   exact jD false hm Conv.eqK
abbrev o99 (ks : List Nat) (b : Bool) (RES : Int × Bool × (List Int)) : Orc := .call 185 ks b (.p (.tup [vi RES.1, vb RES.2.1])) [roI RES.2.2] []

theorem nextPowerOfTwo_slicesSpec (p0 : Int) (RES : Int) (hm : nextPowerOfTwo_slices p0 = some RES) : Spec Tryz.prog 191 [pI p0] [] (.p (vk .u64 RES)) [] [] := by
 unfold nextPowerOfTwo_slices at hm
 refine SO Tryz.func191 rfl rfl [(0, pI p0)] [] ?_
 intro cx hnt
 refine Sq (RK hnt (.no :: []) [(0, pI p0)] [] tv ?_)
 obtain ⟨r1, hr1, hm⟩ := bo hm
 obtain ⟨g2, hm⟩ := go1 hm
 refine Sq (RK hnt (nn 2 (o84 [] true r1 :: nn 2 [])) [(2, .p (vk .u64 (kshl .u64 1 r1)))] [] (an (Len_bitsSpec (IntKind.u64.wrap p0) r1 hr1) (an g2 tv)) ?_)
 obtain rfl := sj hm
 exact DW.ret (retK [] [] (.p (vk .u64 (kshl .u64 1 r1))))
abbrev o101 (ks : List Nat) (b : Bool) (RES : Int) : Orc := .call 191 ks b (.p (vk .u64 RES)) [] []

theorem Next_xorshift_slicesSpec (p0 : Int) (RES : Int × Int) (hm : Next_xorshift_slices p0 = some RES) : Spec Tryz.prog 192 [rr 0] [.box [.p (vk .u64 p0)]] (.p (vk .u64 RES.1)) [.box [.p (vk .u64 RES.2)]] [] := by
 unfold Next_xorshift_slices at hm
 refine SO Tryz.func192 rfl rfl [(0, rr 0)] [(0, bx [.p (vk .u64 p0)])] ?_
 intro cx hnt
 refine Sq (RD hnt (.no :: []) [] [] [] [] tv ?_)
 refine Sq (RK hnt (nn 10 []) [(0, rr 0)] [(0, bx [.p (vk .u64 (kxor .u64 p0 (kshl .u64 p0 13)))])] (an (by decide : (0 : Int) ≤ 13) tv) ?_)
 refine Sq (RK hnt (nn 10 []) [(0, rr 0)] [(0, bx [.p (vk .u64 (kxor .u64 (kxor .u64 p0 (kshl .u64 p0 13)) (kshr .u64 (kxor .u64 p0 (kshl .u64 p0 13)) 7)))])] (an (by decide : (0 : Int) ≤ 7) tv) ?_)
 refine Sq (RK hnt (nn 10 []) [(0, rr 0)] [(0, bx [.p (vk .u64 (kxor .u64 (kxor .u64 (kxor .u64 p0 (kshl .u64 p0 13)) (kshr .u64 (kxor .u64 p0 (kshl .u64 p0 13)) 7)) (kshl .u64 (kxor .u64 (kxor .u64 p0 (kshl .u64 p0 13)) (kshr .u64 (kxor .u64 p0 (kshl .u64 p0 13)) 7)) 17)))])] (an (by decide : (0 : Int) ≤ 17) tv) ?_)
 refine Sq (RD hnt (nn 4 []) [0] [(2, .p (vk .u64 (kxor .u64 (kxor .u64 (kxor .u64 p0 (kshl .u64 p0 13)) (kshr .u64 (kxor .u64 p0 (kshl .u64 p0 13)) 7)) (kshl .u64 (kxor .u64 (kxor .u64 p0 (kshl .u64 p0 13)) (kshr .u64 (kxor .u64 p0 (kshl .u64 p0 13)) 7)) 17))))] [] [] tv ?_)
 obtain rfl := sj hm
 exact DW.ret (retK [.box [.p (vk .u64 (kxor .u64 (kxor .u64 (kxor .u64 p0 (kshl .u64 p0 13)) (kshr .u64 (kxor .u64 p0 (kshl .u64 p0 13)) 7)) (kshl .u64 (kxor .u64 (kxor .u64 p0 (kshl .u64 p0 13)) (kshr .u64 (kxor .u64 p0 (kshl .u64 p0 13)) 7)) 17)))]] [] (.p (vk .u64 (kxor .u64 (kxor .u64 (kxor .u64 p0 (kshl .u64 p0 13)) (kshr .u64 (kxor .u64 p0 (kshl .u64 p0 13)) 7)) (kshl .u64 (kxor .u64 (kxor .u64 p0 (kshl .u64 p0 13)) (kshr .u64 (kxor .u64 p0 (kshl .u64 p0 13)) 7)) 17)))))
abbrev o102 (ks : List Nat) (b : Bool) (RES : Int × Int) : Orc := .call 192 ks b (.p (vk .u64 RES.1)) [.box [.p (vk .u64 RES.2)]] []

abbrev c100e1 (s1 : (List Int) × Int × Int) (p1 : Int) (y2 : Int) := (updF (updF (elI s1.1) (Int.toNat s1.2.2) [vi (s1.1.getD (Int.toNat (w64 (p1 + y2))) 0)]) (Int.toNat (w64 (p1 + y2))) (setRange ((updF (elI s1.1) (Int.toNat s1.2.2) [vi (s1.1.getD (Int.toNat (w64 (p1 + y2))) 0)]) (Int.toNat (w64 (p1 + y2)))) 0 [vi (s1.1.getD (Int.toNat s1.2.2) 0)]))
abbrev c100e2 (s1 : (List Int) × Int × Int) (p1 : Int) (y2 : Int) := ((s1.1.set (Int.toNat s1.2.2) (s1.1.getD (Int.toNat (w64 (p1 + y2))) 0)).set (Int.toNat (w64 (p1 + y2))) (s1.1.getD (Int.toNat s1.2.2) 0))
abbrev c100e3 (r15 : Int × Int) (r2 : Int) := (w64 (kand .u64 r15.1 (IntKind.u64.wrap (r2 - 1))))
theorem breakPatternsOrdered_slices_intSpec (p0 : List Int) (p1 : Int) (p2 : Int) (RES : List Int) (hm : breakPatternsOrdered_slices_int p0 p1 p2 = some RES) : Spec Tryz.prog 179 [ow 0 p0.length, pI p1, pI p2] [roI p0] (.p (.tup [])) [roI RES] [] := by
 unfold breakPatternsOrdered_slices_int at hm
 refine SO Tryz.func179 rfl rfl [(0, ow 0 p0.length), (1, pI p1), (2, pI p2)] [(0, ob0 (roI p0))] ?_
 intro cx hnt
 refine Sq (RD hnt (nn 4 []) [2] [(6, pI (w64 (p2 - p1)))] [] [] tv ?_)
 refine Sq (RD hnt (nn 2 []) [] [(15, pB (decide ((w64 (p2 - p1)) ≥ 8)))] [] [] tv ?_)
 refine condM hm ?_ ?_
 ·intro h1 hm
  refine Sq (RD hnt (nn 4 []) [15] [(7, rr 1056)] [] [(1056, bx [.p (vk .u64 (IntKind.u64.wrap (w64 (p2 - p1))))])] tv ?_)
  obtain ⟨r2, hr2, hm⟩ := bo hm
  refine Sq (RD hnt (.no :: o101 [] true r2 :: .no :: []) [] [(8, .p (vk .u64 r2))] [] [] (an (nextPowerOfTwo_slicesSpec (w64 (p2 - p1)) r2 hr2) tv) ?_)
  refine Sq (RD hnt (nn 7 []) [] [(9, pI (w64 ((w64 (p1 + (w64 ((w64 (Int.tdiv (w64 (p2 - p1)) 4)) * 2)))) - 1)))] [] [] (an (by decide : (4 : Int) ≠ 0) tv) ?_)
  refine Bk ?_
  refine DW.whileO (fun (s1 : (List Int) × Int × Int) => mkSt [(0, ow 0 s1.1.length), (1, pI p1), (6, pI (w64 (p2 - p1))), (7, rr 1056), (8, .p (vk .u64 r2)), (9, pI s1.2.2)] [(0, ob0 (roI s1.1)), (1056, bx [.p (vk .u64 s1.2.1)])]) hm Conv.eqK ?_
  intro s1 n1 hm
  unfold breakPatternsOrdered_slices_intL1 at hm
  refine Sq (Sq (RD hnt (nn 8 []) [] [(33, pB (decide (s1.2.2 ≤ (w64 ((w64 (p1 + (w64 ((w64 (Int.tdiv (w64 (p2 - p1)) 4)) * 2)))) + 1)))))] [] [] (an (by decide : (4 : Int) ≠ 0) tv) ?_))
  refine condM hm ?_ ?_
  ·intro h14 hm
   refine Sk ?_
   refine Sq (Bk ?_)
   obtain ⟨r15, hr15, hm⟩ := bo hm
   refine Sq (RD hnt (o102 [1056] true r15 :: nn 5 []) [33] [(10, pI (c100e3 r15 r2))] [] [(1056, bx [.p (vk .u64 r15.2)])] (an (Next_xorshift_slicesSpec s1.2.1 r15 hr15) (an tv tv)) ?_)
   refine Sq (Sq (RD hnt (nn 3 []) [] [(43, pB (decide ((c100e3 r15 r2) ≥ (w64 (p2 - p1)))))] [] [] tv ?_))
   refine Jn (ι := Int) (fun (y2 : Int) => mkSt [(0, ow 0 s1.1.length), (1, pI p1), (6, pI (w64 (p2 - p1))), (7, rr 1056), (8, .p (vk .u64 r2)), (9, pI s1.2.2), (10, pI y2)] [(0, ob0 (roI s1.1)), (1056, bx [.p (vk .u64 r15.2)])]) (fun y2 => (breakPatternsOrdered_slices_intJ2 p1 s1 n1 r15) y2 = some RES) ?_ ?_
   ·intro y2 hm
    unfold breakPatternsOrdered_slices_intJ2 at hm
    obtain ⟨g17, g18, g19, g20, hm⟩ := go4 hm
    obtain ⟨g21, g22, g23, g24, hm⟩ := go4 hm
    refine RN hnt (nn 20 []) [(0, ow 0 (c100e2 s1 p1 y2).length), (1, pI p1), (6, pI (w64 (p2 - p1))), (7, rr 1056), (8, .p (vk .u64 r2)), (9, pI s1.2.2)] [(0, ob0 (roI (c100e2 s1 p1 y2))), (1056, bx [.p (vk .u64 r15.2)])] [(0, ow 0 s1.1.length)] [(0, .row 1 s1.1.length (c100e1 s1 p1 y2))] (an g17.1 (an g17.2 (an g18 (an g19.1 (an g19.2 (an g20 (an g21.1 (an g21.2 (an g22 (an g23.1 (an g23.2 (an g24 tv)))))))))))) (by kernel_rfl) (.cons rfl (MLe.ownLen (enc := encI) (d := 0) (f := (c100e1 s1 p1 y2)) (RowIs.updR (RowIs.upd RowIs.elems (s1.1.getD (Int.toNat (w64 (p1 + y2))) 0) rfl) (by omega) (s1.1.getD (Int.toNat s1.2.2) 0) rfl)) .nil) (.cons rfl (BLe.typed (RowIs.updR (RowIs.upd RowIs.elems (s1.1.getD (Int.toNat (w64 (p1 + y2))) 0) rfl) (by omega) (s1.1.getD (Int.toNat s1.2.2) 0) rfl)) .nil) ?_
    refine DW.done ?_
    show DW _ _ _ _ _
    refine RD hnt (nn 3 []) [] [(9, pI (w64 (s1.2.2 + 1)))] [] [] tv ?_
    exact jD ((c100e2 s1 p1 y2), r15.2, (w64 (s1.2.2 + 1))) hm Conv.eqK
   ·refine condM hm ?_ ?_
    ·intro h16 hm
     refine RD hnt (nn 4 []) [43] [(10, pI (w64 ((c100e3 r15 r2) - (w64 (p2 - p1)))))] [] [] tv ?_
     exact jD (w64 ((c100e3 r15 r2) - (w64 (p2 - p1)))) hm Conv.eqK
    ·intro h16 hm
     refine Sk ?_
     exact jD (c100e3 r15 r2) hm Conv.t0
  ·intro h14 hm
   refine DW.exit ?_
   refine joinQ_exit ?_
   refine KQ_exit ?_
   refine blockQ_exit ?_
   show DW _ _ _ _ _
   refine DW.done ?_
   obtain rfl := sj hm
   exact endK [roI s1.1] [] (.p (.tup []))
 ·intro h1 hm
  refine Sk ?_
  refine DW.done ?_
  obtain rfl := sj hm
  exact endK [roI p0] [] (.p (.tup []))
abbrev o100 (ks : List Nat) (b : Bool) (RES : List Int) : Orc := .call 179 ks b (.p (.tup [])) [roI RES] []

abbrev c86e1 (s1 : (List Int) × Int × Int × Int × Bool × Bool) : Nat × MV := (10, pI (w64 (s1.2.2.1 - s1.2.1)))
abbrev c86e2 (s1 : (List Int) × Int × Int × Int × Bool × Bool) := (w64 (Int.tdiv (w64 (s1.2.2.1 - s1.2.1)) 8))
theorem pdqsortOrdered_slices_intBSpec (rec : (List Int) → Int → Int → Int → Option (List Int)) (ih : ∀ (p0 : List Int) (p1 : Int) (p2 : Int) (p3 : Int) (RES : List Int), rec p0 p1 p2 p3 = some RES → Spec Tryz.prog 168 [ow 0 p0.length, pI p1, pI p2, pI p3] [roI p0] (.p (.tup [])) [roI RES] []) (p0 : List Int) (p1 : Int) (p2 : Int) (p3 : Int) (RES : List Int) (hm : pdqsortOrdered_slices_intB rec p0 p1 p2 p3 = some RES) : Spec Tryz.prog 168 [ow 0 p0.length, pI p1, pI p2, pI p3] [roI p0] (.p (.tup [])) [roI RES] [] := by
 unfold pdqsortOrdered_slices_intB at hm
 refine SO Tryz.func168 rfl rfl [(0, ow 0 p0.length), (1, pI p1), (2, pI p2), (3, pI p3)] [(0, ob0 (roI p0))] ?_
 intro cx hnt
 refine Sq (RD hnt (.no :: []) [] [(8, pB true)] [] [] tv ?_)
 refine Sq (RD hnt (.no :: []) [] [(9, pB true)] [] [] tv ?_)
 refine Bk ?_
 refine DW.whileO (fun (s1 : (List Int) × Int × Int × Int × Bool × Bool) => mkSt [(0, ow 0 s1.1.length), (1, pI s1.2.1), (2, pI s1.2.2.1), (3, pI s1.2.2.2.1), (8, pB s1.2.2.2.2.1), (9, pB s1.2.2.2.2.2)] [(0, ob0 (roI s1.1))]) hm Conv.eqK ?_
 intro s1 n1 hm
 unfold pdqsortOrdered_slices_intL1 at hm
 refine Bk ?_
 refine Sq (RD hnt (nn 4 []) [] [(c86e1 s1)] [] [] tv ?_)
 refine Sq (Sq (RD hnt (nn 2 []) [] [(23, pB (decide ((w64 (s1.2.2.1 - s1.2.1)) ≤ 12)))] [] [] tv ?_))
 refine condM hm ?_ ?_
 ·intro h66 hm
  obtain ⟨r67, hr67, hm⟩ := bo hm
  obtain ⟨g68, hm⟩ := go1 hm
  refine Sq (RK hnt (nn 3 (o87 [0] true r67 :: [])) [] [(0, ob0 (roI r67))] (an (insertionSortOrdered_slices_intSpec s1.1 s1.2.1 s1.2.2.1 r67 hr67) (an (⟨rfl, g68⟩ : Body.same (roI s1.1) (roI r67)) tv)) ?_)
  obtain rfl := sj hm
  exact DW.ret (retK [roI r67] [] (.p (.tup [])))
 ·intro h66 hm
  refine Sk ?_
  refine Sq (Sq (RD hnt (nn 2 []) [23] [(29, pB (s1.2.2.2.1 == 0))] [] [] tv ?_))
  refine condM hm ?_ ?_
  ·intro h69 hm
   obtain ⟨r70, hr70, hm⟩ := bo hm
   obtain ⟨g71, hm⟩ := go1 hm
   refine Sq (RK hnt (nn 3 (o90 [0] true r70 :: [])) [] [(0, ob0 (roI r70))] (an (heapSortOrdered_slices_intSpec s1.1 s1.2.1 s1.2.2.1 r70 hr70) (an (⟨rfl, g71⟩ : Body.same (roI s1.1) (roI r70)) tv)) ?_)
   obtain rfl := sj hm
   exact DW.ret (retK [roI r70] [] (.p (.tup [])))
  ·intro h69 hm
   refine Sk ?_
   refine Sq (Sq (RD hnt (nn 2 []) [29] [(35, pB (!s1.2.2.2.2.1))] [] [] tv ?_))
   refine Jn (ι := (List Int) × Int) (fun (y8 : (List Int) × Int) => mkSt [(0, ow 0 y8.1.length), (1, pI s1.2.1), (2, pI s1.2.2.1), (3, pI y8.2), (8, pB s1.2.2.2.2.1), (9, pB s1.2.2.2.2.2), (c86e1 s1)] [(0, ob0 (roI y8.1))]) (fun y8 => (pdqsortOrdered_slices_intJ8 rec s1 n1) y8 = some RES) ?_ ?_
   ·intro y8 hm
    unfold pdqsortOrdered_slices_intJ8 at hm
    obtain ⟨r75, hr75, hm⟩ := bo hm
    refine Sq (RD hnt (nn 3 (o92 [] true r75 :: nn 5 [])) [] [(11, pI r75.1), (12, pI r75.2)] [] [] (an (choosePivotOrdered_slices_intSpec y8.1 s1.2.1 s1.2.2.1 r75 hr75) tv) ?_)
    refine Sq (Sq (RD hnt (nn 2 []) [] [(50, pB (r75.2 == 2))] [] [] tv ?_))
    refine Jn (ι := (List Int) × Int × Int) (fun (y9 : (List Int) × Int × Int) => mkSt [(0, ow 0 y9.1.length), (1, pI s1.2.1), (2, pI s1.2.2.1), (3, pI y8.2), (8, pB s1.2.2.2.2.1), (9, pB s1.2.2.2.2.2), (c86e1 s1), (11, pI y9.2.1), (12, pI y9.2.2)] [(0, ob0 (roI y9.1))]) (fun y9 => (pdqsortOrdered_slices_intJ9 rec s1 n1 y8) y9 = some RES) ?_ ?_
    ·intro y9 hm
     unfold pdqsortOrdered_slices_intJ9 at hm
     refine Sq (Sq (DW.regJ (sl2 := [(0, ow 0 y9.1.length), (1, pI s1.2.1), (2, pI s1.2.2.1), (3, pI y8.2), (8, pB s1.2.2.2.2.1), (9, pB s1.2.2.2.2.2), (c86e1 s1), (11, pI y9.2.1), (68, pB ((s1.2.2.2.2.1 && s1.2.2.2.2.2) && (y9.2.2 == 1)))]) (ob2 := [(0, ob0 (roI y9.1))]) ?_ ?_))
     ·rcases bt s1.2.2.2.2.1 with h79 | h79
      ·rcases bt s1.2.2.2.2.2 with h80 | h80
       ·exact RT hnt (nn 3 (pT :: nn 3 (pT :: []))) [(68, pB (y9.2.2 == 1))] (an2 h79 (an3 h80 tv)) (by kernel_rfl) (.cons rfl (.of_eq (by rw [h79, h80]; try rfl)) .nil)
       ·exact RT hnt (nn 3 (pT :: .no :: sk 2 (pF :: []))) [(68, pB false)] (an2 h79 (an3 h80 tv)) (by kernel_rfl) (.cons rfl (.of_eq (by rw [h79, h80]; try rfl)) .nil)
      ·exact RT hnt (nn 2 (.skip :: pF :: .no :: sk 2 (pF :: []))) [(68, pB false)] (an2 h79 (an3 ff tv)) (by kernel_rfl) (.cons rfl (.of_eq (by rw [h79]; try rfl)) .nil)
     ·refine Jn (ι := List Int) (fun (y10 : List Int) => mkSt [(0, ow 0 y10.length), (1, pI s1.2.1), (2, pI s1.2.2.1), (3, pI y8.2), (8, pB s1.2.2.2.2.1), (9, pB s1.2.2.2.2.2), (c86e1 s1), (11, pI y9.2.1)] [(0, ob0 (roI y10))]) (fun y10 => (pdqsortOrdered_slices_intJ10 rec s1 n1 y8 y9) y10 = some RES) ?_ ?_
      ·intro y10 hm
       unfold pdqsortOrdered_slices_intJ10 at hm
       refine Sq (Sq ?_)
       refine Jn (ι := Bool) (fun (y11 : Bool) => mkSt [(0, ow 0 y10.length), (1, pI s1.2.1), (2, pI s1.2.2.1), (3, pI y8.2), (8, pB s1.2.2.2.2.1), (9, pB s1.2.2.2.2.2), (c86e1 s1), (11, pI y9.2.1), (87, pB y11)] [(0, ob0 (roI y10))]) (fun y11 => (pdqsortOrdered_slices_intJ11 rec s1 n1 y8 y9 y10) y11 = some RES) ?_ ?_
       ·intro y11 hm
        unfold pdqsortOrdered_slices_intJ11 at hm
        refine condM hm ?_ ?_
        ·intro h91 hm
         obtain ⟨r92, hr92, hm⟩ := bo hm
         obtain ⟨g93, hm⟩ := go1 hm
         refine Sq (RN hnt (nn 4 (o98 [0] true r92 :: .no :: [])) [(0, ow 0 r92.2.length), (2, pI s1.2.2.1), (3, pI y8.2), (8, pB s1.2.2.2.2.1), (9, pB s1.2.2.2.2.2), (13, pI r92.1)] [(0, ob0 (roI r92.2))] [(0, ow 0 y10.length)] [] (an (partitionEqualOrdered_slices_intSpec y10 s1.2.1 s1.2.2.1 y9.2.1 r92 hr92) (an (⟨rfl, g93⟩ : Body.same (roI y10) (roI r92.2)) tv)) (by kernel_rfl) (.cons rfl (MLe.of_eq (congrArg (MV.own 0 0 0) g93)) .nil) .nil ?_)
         refine Sq (RD hnt (nn 2 []) [13] [(1, pI r92.1)] [] [] tv ?_)
         refine DW.exit ?_
         refine blockQ_exit ?_
         show DW _ _ _ _ _
         exact jD (r92.2, r92.1, s1.2.2.1, y8.2, s1.2.2.2.2.1, s1.2.2.2.2.2) hm Conv.eqK
        ·intro h91 hm
         refine Sk ?_
         obtain ⟨r94, hr94, hm⟩ := bo hm
         obtain ⟨g95, hm⟩ := go1 hm
         refine Sq (RN hnt (nn 4 (o99 [0] true r94 :: nn 5 [])) [(0, ow 0 r94.2.2.length), (1, pI s1.2.1), (2, pI s1.2.2.1), (3, pI y8.2), (c86e1 s1), (14, pI r94.1), (15, pB r94.2.1)] [(0, ob0 (roI r94.2.2))] [(0, ow 0 y10.length)] [] (an (partitionOrdered_slices_intSpec y10 s1.2.1 s1.2.2.1 y9.2.1 r94 hr94) (an (⟨rfl, g95⟩ : Body.same (roI y10) (roI r94.2.2)) tv)) (by kernel_rfl) (.cons rfl (MLe.of_eq (congrArg (MV.own 0 0 0) g95)) .nil) .nil ?_)
         refine Sq (RD hnt (nn 2 []) [15] [(9, pB r94.2.1)] [] [] tv ?_)
         refine Sq (RD hnt (nn 8 []) [] [(16, pI (w64 (r94.1 - s1.2.1))), (17, pI (w64 (s1.2.2.1 - r94.1)))] [] [] tv ?_)
         refine Sq (RD hnt (nn 3 []) [10] [(18, pI (c86e2 s1))] [] [] (an (by decide : (8 : Int) ≠ 0) tv) ?_)
         refine Sq (RD hnt (nn 3 []) [] [(113, pB (decide ((w64 (r94.1 - s1.2.1)) < (w64 (s1.2.2.1 - r94.1)))))] [] [] tv ?_)
         refine condM hm ?_ ?_
         ·intro h96 hm
          refine Sq (RD hnt (nn 4 []) [16, 17, 18, 113] [(8, pB (decide ((w64 (r94.1 - s1.2.1)) ≥ (c86e2 s1))))] [] [] tv ?_)
          obtain ⟨r97, hr97, hm⟩ := bo hm
          obtain ⟨g98, hm⟩ := go1 hm
          refine Sq (RN hnt (nn 4 (.call 168 [0] true (.p (.tup [])) [roI r97] [] :: [])) [(0, ow 0 r97.length), (2, pI s1.2.2.1), (3, pI y8.2), (8, pB (decide ((w64 (r94.1 - s1.2.1)) ≥ (c86e2 s1)))), (9, pB r94.2.1), (14, pI r94.1)] [(0, ob0 (roI r97))] [(0, ow 0 r94.2.2.length)] [] (an (ih r94.2.2 s1.2.1 r94.1 y8.2 r97 hr97) (an (⟨rfl, g98⟩ : Body.same (roI r94.2.2) (roI r97)) tv)) (by kernel_rfl) (.cons rfl (MLe.of_eq (congrArg (MV.own 0 0 0) g98)) .nil) .nil ?_)
          refine RD hnt (nn 3 []) [14] [(1, pI (w64 (r94.1 + 1)))] [] [] tv ?_
          refine DW.done ?_
          show DW _ _ _ _ _
          exact jD (r97, (w64 (r94.1 + 1)), s1.2.2.1, y8.2, (decide ((w64 (r94.1 - s1.2.1)) ≥ (c86e2 s1))), r94.2.1) hm Conv.eqK
         ·intro h96 hm
          refine Sq (RD hnt (nn 4 []) [16, 17, 18, 113] [(8, pB (decide ((w64 (s1.2.2.1 - r94.1)) ≥ (c86e2 s1))))] [] [] tv ?_)
          obtain ⟨r99, hr99, hm⟩ := bo hm
          obtain ⟨g100, hm⟩ := go1 hm
          refine Sq (RN hnt (nn 5 (.call 168 [0] true (.p (.tup [])) [roI r99] [] :: [])) [(0, ow 0 r99.length), (1, pI s1.2.1), (3, pI y8.2), (8, pB (decide ((w64 (s1.2.2.1 - r94.1)) ≥ (c86e2 s1)))), (9, pB r94.2.1), (14, pI r94.1)] [(0, ob0 (roI r99))] [(0, ow 0 r94.2.2.length)] [] (an (ih r94.2.2 (w64 (r94.1 + 1)) s1.2.2.1 y8.2 r99 hr99) (an (⟨rfl, g100⟩ : Body.same (roI r94.2.2) (roI r99)) tv)) (by kernel_rfl) (.cons rfl (MLe.of_eq (congrArg (MV.own 0 0 0) g100)) .nil) .nil ?_)
          refine RD hnt (nn 2 []) [14] [(2, pI r94.1)] [] [] tv ?_
          refine DW.done ?_
          show DW _ _ _ _ _
          exact jD (r99, s1.2.1, r94.1, y8.2, (decide ((w64 (s1.2.2.1 - r94.1)) ≥ (c86e2 s1))), r94.2.1) hm Conv.eqK
       ·rcases bt (decide (s1.2.1 > 0)) with h85 | h85
        ·replace hm := if_t h85 hm
         obtain ⟨g86, g87, g88, g89, hm⟩ := go4 hm
         obtain ⟨r90, hr90, hm⟩ := bo hm
         refine RD hnt (nn 12 (o88 [] true r90 :: .no :: pT :: [])) [] [(87, pB (!r90))] [] [] (an4 h85 (an g86.1 (an g86.2 (an h85 (an g87 (an3 h85 (an g88.1 (an g88.2 (an h85 (an g89 (an h85 (an (Less_cmp_intSpec (y10.getD (Int.toNat (w64 (s1.2.1 - 1))) 0) (y10.getD (Int.toNat y9.2.1) 0) r90 hr90) (an2 h85 tv))))))))))))) ?_
         exact jD (!r90) hm Conv.eqK
        ·replace hm := if_f h85 hm
         refine RD hnt (nn 3 (sk 11 (pF :: []))) [] [(87, pB false)] [] [] (an6 h85 (an6 h85 tv)) ?_
         exact jD false hm Conv.eqK
      ·refine condM hm ?_ ?_
       ·intro h81 hm
        obtain ⟨r82, hr82, hm⟩ := bo hm
        obtain ⟨g83, hm⟩ := go1 hm
        refine Sq (RN hnt (nn 3 (o97 [0] true r82 :: [])) [(0, ow 0 r82.2.length), (1, pI s1.2.1), (2, pI s1.2.2.1), (3, pI y8.2), (8, pB s1.2.2.2.2.1), (9, pB s1.2.2.2.2.2), (c86e1 s1), (11, pI y9.2.1), (72, pB r82.1)] [(0, ob0 (roI r82.2))] [(0, ow 0 y9.1.length)] [] (an (partialInsertionSortOrdered_slices_intSpec y9.1 s1.2.1 s1.2.2.1 r82 hr82) (an (⟨rfl, g83⟩ : Body.same (roI y9.1) (roI r82.2)) tv)) (by kernel_rfl) (.cons rfl (MLe.of_eq (congrArg (MV.own 0 0 0) g83)) .nil) .nil ?_)
        refine condM hm ?_ ?_
        ·intro h84 hm
         obtain rfl := sj hm
         exact DW.ret (retK [roI r82.2] [] (.p (.tup [])))
        ·intro h84 hm
         refine Sk ?_
         exact jD r82.2 hm Conv.t0
       ·intro h81 hm
        refine Sk ?_
        exact jD y9.1 hm Conv.t0
    ·refine condM hm ?_ ?_
     ·intro h76 hm
      obtain ⟨r77, hr77, hm⟩ := bo hm
      obtain ⟨g78, hm⟩ := go1 hm
      refine Sq (RN hnt (nn 3 (o96 [0] true r77 :: [])) [(0, ow 0 r77.length), (1, pI s1.2.1), (2, pI s1.2.2.1), (3, pI y8.2), (8, pB s1.2.2.2.2.1), (9, pB s1.2.2.2.2.2), (c86e1 s1), (11, pI r75.1)] [(0, ob0 (roI r77))] [(0, ow 0 y8.1.length)] [] (an (reverseRangeOrdered_slices_intSpec y8.1 s1.2.1 s1.2.2.1 r77 hr77) (an (⟨rfl, g78⟩ : Body.same (roI y8.1) (roI r77)) tv)) (by kernel_rfl) (.cons rfl (MLe.of_eq (congrArg (MV.own 0 0 0) g78)) .nil) .nil ?_)
      refine Sq (RD hnt (nn 7 []) [] [(11, pI (w64 ((w64 (s1.2.2.1 - 1)) - (w64 (r75.1 - s1.2.1)))))] [] [] tv ?_)
      refine RD hnt (.no :: []) [] [(12, pI 1)] [] [] tv ?_
      exact jD (r77, (w64 ((w64 (s1.2.2.1 - 1)) - (w64 (r75.1 - s1.2.1)))), 1) hm Conv.eqK
     ·intro h76 hm
      refine Sk ?_
      exact jD (y8.1, r75.1, r75.2) hm Conv.t0
   ·refine condM hm ?_ ?_
    ·intro h72 hm
     obtain ⟨r73, hr73, hm⟩ := bo hm
     obtain ⟨g74, hm⟩ := go1 hm
     refine Sq (RN hnt (nn 3 (o100 [0] true r73 :: [])) [(0, ow 0 r73.length), (1, pI s1.2.1), (2, pI s1.2.2.1), (3, pI s1.2.2.2.1), (8, pB s1.2.2.2.2.1), (9, pB s1.2.2.2.2.2), (c86e1 s1)] [(0, ob0 (roI r73))] [(0, ow 0 s1.1.length)] [] (an (breakPatternsOrdered_slices_intSpec s1.1 s1.2.1 s1.2.2.1 r73 hr73) (an (⟨rfl, g74⟩ : Body.same (roI s1.1) (roI r73)) tv)) (by kernel_rfl) (.cons rfl (MLe.of_eq (congrArg (MV.own 0 0 0) g74)) .nil) .nil ?_)
     refine RD hnt (nn 3 []) [] [(3, pI (w64 (s1.2.2.2.1 - 1)))] [] [] tv ?_
     exact jD (r73, (w64 (s1.2.2.2.1 - 1))) hm Conv.eqK
    ·intro h72 hm
     refine Sk ?_
     exact jD (s1.1, s1.2.2.2.1) hm Conv.t0
theorem pdqsortOrdered_slices_intFSpec : ∀ (n : Nat) (p0 : List Int) (p1 : Int) (p2 : Int) (p3 : Int) (RES : List Int), pdqsortOrdered_slices_intF n p0 p1 p2 p3 = some RES → Spec Tryz.prog 168 [ow 0 p0.length, pI p1, pI p2, pI p3] [roI p0] (.p (.tup [])) [roI RES] []
  | 0, p0, p1, p2, p3, RES, hm => by simp [pdqsortOrdered_slices_intF] at hm
  | n + 1, p0, p1, p2, p3, RES, hm => pdqsortOrdered_slices_intBSpec (pdqsortOrdered_slices_intF n) (pdqsortOrdered_slices_intFSpec n) p0 p1 p2 p3 RES hm
theorem pdqsortOrdered_slices_intSpec (p0 : List Int) (p1 : Int) (p2 : Int) (p3 : Int) (RES : List Int) (hm : pdqsortOrdered_slices_int p0 p1 p2 p3 = some RES) : Spec Tryz.prog 168 [ow 0 p0.length, pI p1, pI p2, pI p3] [roI p0] (.p (.tup [])) [roI RES] [] := pdqsortOrdered_slices_intFSpec FUEL p0 p1 p2 p3 RES hm
abbrev o86 (ks : List Nat) (b : Bool) (RES : List Int) : Orc := .call 168 ks b (.p (.tup [])) [roI RES] []

theorem Sort_slices_intSpec (p0 : List Int) (RES : List Int) (hm : Sort_slices_int p0 = some RES) : Spec Tryz.prog 155 [ow 0 p0.length] [roI p0] (.p (.tup [])) [roI RES] [] := by
 unfold Sort_slices_int at hm
 refine SO Tryz.func155 rfl rfl [(0, ow 0 p0.length)] [(0, ob0 (roI p0))] ?_
 intro cx hnt
 refine Sq (RD hnt (nn 3 []) [] [(2, pI ((p0.length : Nat) : Int))] [] [] tv ?_)
 obtain ⟨r1, hr1, hm⟩ := bo hm
 obtain ⟨r2, hr2, hm⟩ := bo hm
 obtain ⟨g3, hm⟩ := go1 hm
 refine RK hnt (nn 4 (o84 [] true r1 :: o86 [0] true r2 :: [])) [] [(0, ob0 (roI r2))] (an (Len_bitsSpec (IntKind.u64.wrap ((p0.length : Nat) : Int)) r1 hr1) (an (pdqsortOrdered_slices_intSpec p0 0 ((p0.length : Nat) : Int) r1 r2 hr2) (an (⟨rfl, g3⟩ : Body.same (roI p0) (roI r2)) tv))) ?_
 refine DW.done ?_
 obtain rfl := sj hm
 exact endK [roI r2] [] (.p (.tup []))
abbrev o83 (ks : List Nat) (b : Bool) (RES : List Int) : Orc := .call 155 ks b (.p (.tup [])) [roI RES] []

abbrev c103e1 (s4 : (List Int) × Int) (k1 : Int) (k4 : Int) := (s4.1.getD (addN (Int.toNat k1) (Int.toNat k4)) 0)
abbrev c103e2 (k1 : Int) (p0 : List Int) : Nat × MV := (4, .own 0 0 (Int.toNat k1) (subN p0.length (Int.toNat k1)))
abbrev c103e3 (s4 : (List Int) × Int) := (fillL s4.1 (Int.toNat s4.2) (subN s4.1.length (Int.toNat s4.2)) 0)
theorem Compact_slices_intSpec (p0 : List Int) (RES : Nat × (List Int)) (hm : Compact_slices_int p0 = some RES) : Spec Tryz.prog 156 [ow 0 p0.length] [roI p0] (ow 0 RES.1) [roI RES.2] [] := by
 unfold Compact_slices_int at hm
 refine SO Tryz.func156 rfl rfl [(0, ow 0 p0.length)] [(0, ob0 (roI p0))] ?_
 intro cx hnt
 refine Sq (RD hnt (.no :: []) [] [] [] [] tv ?_)
 refine Sq (Sq (RD hnt (nn 3 []) [] [(8, pB (decide (((p0.length : Nat) : Int) < 2)))] [] [] tv ?_))
 refine condM hm ?_ ?_
 ·intro h1 hm
  refine Sq (RK hnt (nn 2 []) [(2, ow 0 p0.length)] [(0, ob0 (roI p0))] tv ?_)
  obtain rfl := sj hm
  exact DW.ret (retK [roI p0] [] (ow 0 p0.length))
 ·intro h1 hm
  refine Sk ?_
  refine Sq (Sq (RD hnt (.no :: []) [8] [(3, pI 1)] [] [] tv ?_))
  refine Bk ?_
  obtain ⟨hc1, hm⟩ := go1 hm
  refine DW.forO (fun (k1 : Int) (s1 : Unit) => mkSt [(0, ow 0 p0.length), (3, pI k1)] [(0, ob0 (roI p0))]) (lo := 1) (hi := ((p0.length : Nat) : Int)) hm Conv.eqK ?_
  intro k1 s1 n1 hk1 hs1 he1
  refine Sq (Sq (RD hnt (nn 4 []) [] [(13, pB (decide (k1 < ((p0.length : Nat) : Int))))] [] [] tv ?_))
  refine condK (decide (k1 < ((p0.length : Nat) : Int))) ?_ ?_
  ·intro h94
   have hlt1 : k1 < ((p0.length : Nat) : Int) := by have := of_decide_eq_true h94; omega
   have hm := hs1 hlt1
   unfold Compact_slices_intL1 at hm
   refine Sk ?_
   refine Sq (Bk ?_)
   obtain ⟨g95, g96, g97, g98, hm⟩ := go4 hm
   refine Sq (RD hnt (nn 10 []) [13] [(25, pB ((p0.getD (Int.toNat k1) 0) == (p0.getD (Int.toNat (w64 (k1 - 1))) 0)))] [] [] (an g95.1 (an g95.2 (an g96 (an g97.1 (an g97.2 (an g98 tv)))))) ?_)
   refine condM hm ?_ ?_
   ·intro h99 hm
    obtain ⟨g100, hm⟩ := go1 hm
    refine Sq (RD hnt (nn 4 []) [25] [(c103e2 k1 p0)] [] [] (an (by omega : (0 : Int) ≤ k1) (an (by omega : k1 ≤ ((p0.length : Nat) : Int)) (an (by omega : ((p0.length : Nat) : Int) ≤ ((p0.length : Nat) : Int)) tv))) ?_)
    refine Sq (Sq (RD hnt (.no :: []) [] [(5, pI 1)] [] [] tv ?_))
    refine Bk ?_
    obtain ⟨hc4, hm⟩ := go1 hm
    refine DW.forO (fun (k4 : Int) (s4 : (List Int) × Int) => mkSt [(0, ow 0 s4.1.length), (3, pI s4.2), (c103e2 k1 p0), (5, pI k4)] [(0, ob0 (roI s4.1))]) (lo := 1) (hi := (((subN p0.length (Int.toNat k1)) : Nat) : Int)) hm Conv.eqK ?_
    intro k4 s4 n4 hk4 hs4 he4
    refine Sq (Sq (RD hnt (nn 4 []) [] [(32, pB (decide (k4 < (((subN p0.length (Int.toNat k1)) : Nat) : Int))))] [] [] tv ?_))
    refine condK (decide (k4 < (((subN p0.length (Int.toNat k1)) : Nat) : Int))) ?_ ?_
    ·intro h127
     have hlt4 : k4 < (((subN p0.length (Int.toNat k1)) : Nat) : Int) := by have := of_decide_eq_true h127; omega
     have hm := hs4 hlt4
     unfold Compact_slices_intL4 at hm
     refine Sk ?_
     refine Sq ?_
     refine Jn (ι := (List Int) × Int) (fun (y9 : (List Int) × Int) => mkSt [(0, ow 0 y9.1.length), (3, pI y9.2), (c103e2 k1 p0), (5, pI k4)] [(0, ob0 (roI y9.1))]) (fun y9 => (Compact_slices_intJ9 n4) y9 = some RES) ?_ ?_
     ·intro y9 hm
      unfold Compact_slices_intJ9 at hm
      refine RD hnt (nn 3 []) [] [(5, pI (w64 (k4 + 1)))] [] [] tv ?_
      exact jD (y9.1, y9.2) ⟨hlt4, hm⟩ (Conv.tp [(5, pI (w64 (k4 + 1)))] [] (by kernel_rfl) (.cons rfl (.of_eq (congrArg pI (w64_for (lo := 1) (hi := (((subN p0.length (Int.toNat k1)) : Nat) : Int)) (by omega) hk4 hlt4 (by omega)))) .nil) .nil)
     ·refine Bk ?_
      obtain ⟨g128, g129, g130, g131, hm⟩ := go4 hm
      refine Sq (RD hnt (nn 10 []) [32] [(44, pB ((c103e1 s4 k1 k4) != (s4.1.getD (addN (Int.toNat k1) (Int.toNat (w64 (k4 - 1)))) 0)))] [] [] (an g128.1 (an g128.2 (an g129 (an g130.1 (an g130.2 (an g131 tv)))))) ?_)
      refine condM hm ?_ ?_
      ·intro h132 hm
       obtain ⟨g133, g134, g135, g136, hm⟩ := go4 hm
       refine Sq (RN hnt (nn 8 []) [(0, ow 0 (s4.1.set (Int.toNat s4.2) (c103e1 s4 k1 k4)).length), (3, pI s4.2), (c103e2 k1 p0), (5, pI k4)] [(0, ob0 (roI (s4.1.set (Int.toNat s4.2) (c103e1 s4 k1 k4))))] [(0, ow 0 s4.1.length)] [(0, .row 1 s4.1.length (updF (elI s4.1) (Int.toNat s4.2) [vi (c103e1 s4 k1 k4)]))] (an g133.1 (an g133.2 (an g134 (an g135.1 (an g135.2 (an g136 tv)))))) (by kernel_rfl) (.cons rfl (MLe.ownLen (enc := encI) (d := 0) (f := (updF (elI s4.1) (Int.toNat s4.2) [vi (c103e1 s4 k1 k4)])) (RowIs.upd RowIs.elems (c103e1 s4 k1 k4) rfl)) .nil) (.cons rfl (BLe.typed (RowIs.upd RowIs.elems (c103e1 s4 k1 k4) rfl)) .nil) ?_)
       refine RD hnt (nn 3 []) [] [(3, pI (w64 (s4.2 + 1)))] [] [] tv ?_
       exact bD ((s4.1.set (Int.toNat s4.2) (c103e1 s4 k1 k4)), (w64 (s4.2 + 1))) hm Conv.eqK
      ·intro h132 hm
       refine Sk ?_
       exact bD (s4.1, s4.2) hm Conv.t0
    ·intro h127
     have hge4 : ¬ k4 < (((subN p0.length (Int.toNat k1)) : Nat) : Int) := by have := of_decide_eq_false h127; omega
     have hm := he4 hge4
     unfold Compact_slices_intD4 at hm
     refine DW.exit ?_
     refine joinQ_exit ?_
     refine KQ_exit ?_
     refine blockQ_exit ?_
     show DW _ _ _ _ _
     obtain ⟨g137, g138, hm⟩ := go2 hm
     refine Sq (RN hnt (nn 4 []) [(0, ow 0 (c103e3 s4).length), (3, pI s4.2)] [(0, ob0 (roI (c103e3 s4)))] [(0, ow 0 s4.1.length)] [(0, .row 1 s4.1.length (overF (elI s4.1) (Int.toNat s4.2) (subN s4.1.length (Int.toNat s4.2)) (fun _ => [vi 0])))] (an (by omega : (0 : Int) ≤ s4.2) (an (by omega : s4.2 ≤ ((s4.1.length : Nat) : Int)) (an (by omega : ((s4.1.length : Nat) : Int) ≤ ((s4.1.length : Nat) : Int)) (an g138 tv)))) (by kernel_rfl) (.cons rfl (MLe.ownLen (enc := encI) (d := 0) (f := (overF (elI s4.1) (Int.toNat s4.2) (subN s4.1.length (Int.toNat s4.2)) (fun _ => [vi 0]))) (RowIs.fill RowIs.elems 0 rfl (by first | exact g138 | omega))) .nil) (.cons rfl (BLe.typed (RowIs.fill RowIs.elems 0 rfl (by first | exact g138 | omega))) .nil) ?_)
     obtain ⟨g139, hm⟩ := go1 hm
     refine Sq (RD hnt (nn 4 []) [0, 3] [(2, ow 0 (Int.toNat s4.2))] [] [] (an (by omega : (0 : Int) ≤ 0) (an (by omega : (0 : Int) ≤ s4.2) (an (by omega : s4.2 ≤ (((fillL s4.1 (Int.toNat s4.2) (subN s4.1.length (Int.toNat s4.2)) 0).length : Nat) : Int)) tv))) ?_)
     obtain rfl := sj hm
     exact DW.ret (retK [roI (c103e3 s4)] [] (ow 0 (Int.toNat s4.2)))
   ·intro h99 hm
    refine Sk ?_
    refine DW.done ?_
    show DW _ _ _ _ _
    refine RD hnt (nn 3 []) [25] [(3, pI (w64 (k1 + 1)))] [] [] tv ?_
    exact jD () ⟨hlt1, hm⟩ (Conv.tp [(3, pI (w64 (k1 + 1)))] [] (by kernel_rfl) (.cons rfl (.of_eq (congrArg pI (w64_for (lo := 1) (hi := ((p0.length : Nat) : Int)) (by omega) hk1 hlt1 (by omega)))) .nil) .nil)
  ·intro h94
   have hge1 : ¬ k1 < ((p0.length : Nat) : Int) := by have := of_decide_eq_false h94; omega
   have hm := he1 hge1
   unfold Compact_slices_intD1 at hm
   refine DW.exit ?_
   refine joinQ_exit ?_
   refine KQ_exit ?_
   refine blockQ_exit ?_
   show DW _ _ _ _ _
   refine Sq (RK hnt (nn 2 []) [(2, ow 0 p0.length)] [(0, ob0 (roI p0))] tv ?_)
   obtain rfl := sj hm
   exact DW.ret (retK [roI p0] [] (ow 0 p0.length))
abbrev o103 (ks : List Nat) (b : Bool) (RES : Nat × (List Int)) : Orc := .call 156 ks b (ow 0 RES.1) [roI RES.2] []

abbrev c80e1 (p0 : Hierarchy) : Nat × MV := (12, pI ((p0.tasks.length : Nat) : Int))
theorem Those_crewQThreadsFa_crewQID_crewSpec (p0 : Hierarchy) (p1c0 : Int) (RES : List Int) (hm : Those_crewQThreadsFa_crewQID_crew p0 p1c0 = some RES) : Spec Tryz.prog 112 [.p (.agg (encHierarchy p0)), .fn 147 [rr 0], .p (.fn 148 [])] [.box [pI p1c0]] (.p (slI RES)) [.box [pI p1c0]] [] := by
 unfold Those_crewQThreadsFa_crewQID_crew at hm
 refine SO Tryz.func112 rfl rfl [(0, .p (.agg (encHierarchy p0))), (1, .fn 147 [rr 0]), (2, .p (.fn 148 []))] [(0, bx [pI p1c0])] ?_
 intro cx hnt
 refine Sq (RD hnt (nn 2 []) [0] [(3, rr 1024)] [] [(1024, bx (pm (encHierarchy p0)))] tv ?_)
 refine Sq (RD hnt (.no :: []) [] [(7, .p (.sl .nil 0 0 (fun _ => [])))] [] [] tv ?_)
 refine Sq (Sq (RD hnt (nn 4 []) [3] [(11, .p (slTask p0.tasks)), (c80e1 p0), (13, pI 0)] [1024] [] tv ?_))
 refine Bk ?_
 obtain ⟨hc1, hm⟩ := go1 hm
 refine DW.rangeO (fun (k1 : Nat) (s1 : List Int) => mkSt [(1, .fn 147 [rr 0]), (2, .p (.fn 148 [])), (7, ow 1200 s1.length), (11, .p (slTask p0.tasks)), (c80e1 p0), (13, pI ((k1 : Nat) : Int))] [(0, bx [pI p1c0]), (1200, ob0 (roI s1))]) dTask hm (Conv.ads [(.s 7, 1200, 1, elems encI 0 [])]) ?_
 intro k1 s1 n1 hk1 hs1 he1
 refine Sq (RD hnt (.no :: []) [] [(14, pB (decide (((k1 : Nat) : Int) < ((p0.tasks.length : Nat) : Int))))] [] [] tv ?_)
 refine Sq (condK (decide (((k1 : Nat) : Int) < ((p0.tasks.length : Nat) : Int))) ?_ ?_)
 ·intro h22
  have hlt1 : k1 < p0.tasks.length := by have := of_decide_eq_true h22; omega
  have hm := hs1 hlt1
  unfold Those_crewQThreadsFa_crewQID_crewL1 at hm
  refine Sk ?_
  refine Sq ?_
  refine Jn (ι := List Int) (fun (y3 : List Int) => mkSt [(1, .fn 147 [rr 0]), (2, .p (.fn 148 [])), (7, ow 1200 y3.length), (11, .p (slTask p0.tasks)), (c80e1 p0), (13, pI ((k1 : Nat) : Int))] [(0, bx [pI p1c0]), (1200, ob0 (roI y3))]) (fun y3 => (Those_crewQThreadsFa_crewQID_crewJ3 n1) y3 = some RES) ?_ ?_
  ·intro y3 hm
   unfold Those_crewQThreadsFa_crewQID_crewJ3 at hm
   refine RD hnt (nn 2 []) [] [(13, pI (w64 (((k1 : Nat) : Int) + 1)))] [] [] tv ?_
   exact jD y3 ⟨hlt1, hm⟩ (Conv.tp [(13, pI (w64 (((k1 : Nat) : Int) + 1)))] [] (by kernel_rfl) (.cons rfl (.of_eq (congrArg pI (w64_succ hlt1 hc1))) .nil) .nil)
  ·refine Bk ?_
   refine Sq (RD hnt (nn 4 []) [14] [(9, rr 1072)] [] [(1072, bx (pm (encTask (p0.tasks.getD k1 (default : Task)))))] (an (nn0 k1) (an (ltc hlt1) tv)) ?_)
   obtain ⟨r23, hr23, hm⟩ := bo hm
   refine Sq (RD hnt (nn 2 (.call 147 [0] true (pB r23) [.box [pI p1c0]] [] :: [])) [] [(19, pB r23)] [] [] (an (ThreadsFa_crewSpec (p0.tasks.getD k1 (default : Task)) p1c0 r23 hr23) (an tv tv)) ?_)
   refine condM hm ?_ ?_
   ·intro h24 hm
    obtain ⟨r25, hr25, hm⟩ := bo hm
    obtain ⟨g26, hm⟩ := go1 hm
    refine RN hnt (nn 3 (o82 [] true r25 :: nn 3 [])) [(1, .fn 147 [rr 0]), (2, .p (.fn 148 [])), (7, ow 1200 (s1 ++ [r25]).length), (11, .p (slTask p0.tasks)), (c80e1 p0), (13, pI ((k1 : Nat) : Int))] [(0, bx [pI p1c0]), (1200, ob0 (roI (s1 ++ [r25])))] [(7, ow 1200 (s1.length + 1))] [(1200, .row 1 (s1.length + 1) (catF s1.length (elI s1) (cut 1 [vi r25])))] (an (ID_crewSpec (p0.tasks.getD k1 (default : Task)) r25 hr25) (an (by omega : (s1.length + 1) * 8 ≤ 140737488355328) tv)) (by kernel_rfl) (.cons rfl (MLe.ownLen (enc := encI) (d := 0) (f := (catF s1.length (elI s1) (cut 1 [vi r25]))) (RowIs.cat RowIs.elems (RowIs.lit (enc := encI) (d := 0) (n := 1) (f := (cut 1 [vi r25])) [r25] rfl (fun | 0, _ => rfl | n + 1, h => absurd h (by omega))))) .nil) (.cons rfl (BLe.typed (RowIs.cat RowIs.elems (RowIs.lit (enc := encI) (d := 0) (n := 1) (f := (cut 1 [vi r25])) [r25] rfl (fun | 0, _ => rfl | n + 1, h => absurd h (by omega))))) .nil) ?_
    exact bD (s1 ++ [r25]) hm .refl
   ·intro h24 hm
    refine Sk ?_
    exact bD s1 hm Conv.t0
 ·intro h22
  have hge1 : ¬ k1 < p0.tasks.length := by have := of_decide_eq_false h22; omega
  have hm := he1 hge1
  unfold Those_crewQThreadsFa_crewQID_crewD1 at hm
  refine DW.exit ?_
  refine joinQ_exit ?_
  refine KQ_exit ?_
  refine blockQ_exit ?_
  show DW _ _ _ _ _
  obtain ⟨r27, hr27, hm⟩ := bo hm
  obtain ⟨g28, hm⟩ := go1 hm
  refine Sq (RN hnt (.no :: o83 [1200] true r27 :: []) [(7, ow 1200 r27.length)] [(0, bx [pI p1c0]), (1200, ob0 (roI r27))] [(7, ow 1200 s1.length)] [] (an (Sort_slices_intSpec s1 r27 hr27) (an (⟨rfl, g28⟩ : Body.same (roI s1) (roI r27)) tv)) (by kernel_rfl) (.cons rfl (MLe.of_eq (congrArg (MV.own 1200 0 0) g28)) .nil) .nil ?_)
  obtain ⟨r29, hr29, hm⟩ := bo hm
  obtain ⟨g30, g31, hm⟩ := go2 hm
  refine Sq (RD hnt (.no :: o103 [1200] true r29 :: .no :: []) [7] [(6, ow 1200 r29.1)] [] [(1200, ob0 (roI r29.2))] (an (Compact_slices_intSpec r27 r29 hr29) (an (⟨rfl, g30⟩ : Body.same (roI r27) (roI r29.2)) tv)) ?_)
  refine DW.conv (τ := mkSt [(6, .p (slI (r29.2.take r29.1)))] [(0, bx [pI p1c0])]) (Conv.trans (τ := mkSt [(6, .p (.sl .unk 1 r29.1 (elI r29.2)))] [(0, bx [pI p1c0])]) (Conv.frz [1200]) (Conv.tp [(6, .p (.sl .unk 1 r29.1 (elI r29.2)))] [] (by kernel_rfl) (.cons rfl (MLe.typed (RowIs.take RowIs.elems (by first | omega | (simp only [subN_eq, addN_eq] at *; omega)))) .nil) .nil)) ?_
  obtain rfl := sj hm
  exact DW.ret (retK [.box [pI p1c0]] [] (.p (slI (r29.2.take r29.1))))

theorem Threads_crewSpec (p0 : Hierarchy) (p1 : Int) (RES : List Int) (hm : Threads_crew p0 p1 = some RES) : Spec Tryz.prog 99 [.p (.agg (encHierarchy p0)), pI p1] [] (.p (slI RES)) [] [] := by
 unfold Threads_crew at hm
 refine SO Tryz.func99 rfl rfl [(0, .p (.agg (encHierarchy p0))), (1, pI p1)] [] ?_
 intro cx hnt
 refine Sq (RK hnt (nn 3 []) [(2, rr 1016), (3, rr 1024)] [(1016, bx (pm (encHierarchy p0))), (1024, bx [pI p1])] tv ?_)
 obtain ⟨r1, hr1, hm⟩ := bo hm
 refine Sq (RK hnt (nn 2 (.call 112 [1024] true (.p (slI r1)) [.box [pI p1]] [] :: .no :: [])) [(4, .p (slI r1))] [] (an (Those_crewQThreadsFa_crewQID_crewSpec p0 p1 r1 hr1) (an tv tv)) ?_)
 obtain rfl := sj hm
 exact DW.ret (retK [] [] (.p (slI r1)))
abbrev o79 (ks : List Nat) (b : Bool) (RES : List Int) : Orc := .call 99 ks b (.p (slI RES)) [] []

theorem Threads_memberSpec (p0 : Hierarchy) (p1 : Int) (RES : List Int) (hm : Threads_member p0 p1 = some RES) : Spec Tryz.prog 44 [.p (.agg (encHierarchy p0)), pI p1] [] (.p (slI RES)) [] [] := by
 unfold Threads_member at hm
 refine SO Tryz.func44 rfl rfl [(0, .p (.agg (encHierarchy p0))), (1, pI p1)] [] ?_
 intro cx hnt
 refine Sq (RK hnt (nn 2 []) [(1, pI p1), (2, rr 1016)] [(1016, bx (pm (encHierarchy p0)))] tv ?_)
 obtain ⟨r1, hr1, hm⟩ := bo hm
 obtain ⟨r2, hr2, hm⟩ := bo hm
 refine Sq (RK hnt (.no :: o78 [] true r1 :: .no :: o79 [] true r2 :: .no :: []) [(4, .p (slI r2))] [] (an (checked_memberSpec p0 r1 hr1) (an (Threads_crewSpec r1 p1 r2 hr2) tv)) ?_)
 obtain rfl := sj hm
 exact DW.ret (retK [] [] (.p (slI r2)))
abbrev o77 (ks : List Nat) (b : Bool) (RES : List Int) : Orc := .call 44 ks b (.p (slI RES)) [] []

theorem TasksFa_crewSpec (p0 : Task) (p1 : Int) (RES : Bool) (hm : TasksFa_crew p0 p1 = some RES) : Spec Tryz.prog 151 [.p (.agg (encTask p0)), rr 0] [.box [pI p1]] (pB RES) [.box [pI p1]] [] := by
 unfold TasksFa_crew at hm
 refine SO Tryz.func151 rfl rfl [(0, .p (.agg (encTask p0))), (1, rr 0)] [(0, bx [pI p1])] ?_
 intro cx hnt
 refine Sq (RD hnt (nn 2 []) [0] [(2, rr 1016)] [] [(1016, bx (pm (encTask p0)))] tv ?_)
 refine Sq (RK hnt (nn 5 []) [(3, pB (p0.group == p1))] [(0, bx [pI p1])] tv ?_)
 obtain rfl := sj hm
 exact DW.ret (retK [.box [pI p1]] [] (pB (p0.group == p1)))

abbrev c106e1 (p0 : Hierarchy) : Nat × MV := (12, pI ((p0.tasks.length : Nat) : Int))
theorem Those_crewQTasksFa_crewQID_crewSpec (p0 : Hierarchy) (p1c0 : Int) (RES : List Int) (hm : Those_crewQTasksFa_crewQID_crew p0 p1c0 = some RES) : Spec Tryz.prog 112 [.p (.agg (encHierarchy p0)), .fn 151 [rr 0], .p (.fn 148 [])] [.box [pI p1c0]] (.p (slI RES)) [.box [pI p1c0]] [] := by
 unfold Those_crewQTasksFa_crewQID_crew at hm
 refine SO Tryz.func112 rfl rfl [(0, .p (.agg (encHierarchy p0))), (1, .fn 151 [rr 0]), (2, .p (.fn 148 []))] [(0, bx [pI p1c0])] ?_
 intro cx hnt
 refine Sq (RD hnt (nn 2 []) [0] [(3, rr 1024)] [] [(1024, bx (pm (encHierarchy p0)))] tv ?_)
 refine Sq (RD hnt (.no :: []) [] [(7, .p (.sl .nil 0 0 (fun _ => [])))] [] [] tv ?_)
 refine Sq (Sq (RD hnt (nn 4 []) [3] [(11, .p (slTask p0.tasks)), (c106e1 p0), (13, pI 0)] [1024] [] tv ?_))
 refine Bk ?_
 obtain ⟨hc1, hm⟩ := go1 hm
 refine DW.rangeO (fun (k1 : Nat) (s1 : List Int) => mkSt [(1, .fn 151 [rr 0]), (2, .p (.fn 148 [])), (7, ow 1200 s1.length), (11, .p (slTask p0.tasks)), (c106e1 p0), (13, pI ((k1 : Nat) : Int))] [(0, bx [pI p1c0]), (1200, ob0 (roI s1))]) dTask hm (Conv.ads [(.s 7, 1200, 1, elems encI 0 [])]) ?_
 intro k1 s1 n1 hk1 hs1 he1
 refine Sq (RD hnt (.no :: []) [] [(14, pB (decide (((k1 : Nat) : Int) < ((p0.tasks.length : Nat) : Int))))] [] [] tv ?_)
 refine Sq (condK (decide (((k1 : Nat) : Int) < ((p0.tasks.length : Nat) : Int))) ?_ ?_)
 ·intro h22
  have hlt1 : k1 < p0.tasks.length := by have := of_decide_eq_true h22; omega
  have hm := hs1 hlt1
  unfold Those_crewQTasksFa_crewQID_crewL1 at hm
  refine Sk ?_
  refine Sq ?_
  refine Jn (ι := List Int) (fun (y3 : List Int) => mkSt [(1, .fn 151 [rr 0]), (2, .p (.fn 148 [])), (7, ow 1200 y3.length), (11, .p (slTask p0.tasks)), (c106e1 p0), (13, pI ((k1 : Nat) : Int))] [(0, bx [pI p1c0]), (1200, ob0 (roI y3))]) (fun y3 => (Those_crewQTasksFa_crewQID_crewJ3 n1) y3 = some RES) ?_ ?_
  ·intro y3 hm
   unfold Those_crewQTasksFa_crewQID_crewJ3 at hm
   refine RD hnt (nn 2 []) [] [(13, pI (w64 (((k1 : Nat) : Int) + 1)))] [] [] tv ?_
   exact jD y3 ⟨hlt1, hm⟩ (Conv.tp [(13, pI (w64 (((k1 : Nat) : Int) + 1)))] [] (by kernel_rfl) (.cons rfl (.of_eq (congrArg pI (w64_succ hlt1 hc1))) .nil) .nil)
  ·refine Bk ?_
   refine Sq (RD hnt (nn 4 []) [14] [(9, rr 1072)] [] [(1072, bx (pm (encTask (p0.tasks.getD k1 (default : Task)))))] (an (nn0 k1) (an (ltc hlt1) tv)) ?_)
   obtain ⟨r23, hr23, hm⟩ := bo hm
   refine Sq (RD hnt (nn 2 (.call 151 [0] true (pB r23) [.box [pI p1c0]] [] :: [])) [] [(19, pB r23)] [] [] (an (TasksFa_crewSpec (p0.tasks.getD k1 (default : Task)) p1c0 r23 hr23) (an tv tv)) ?_)
   refine condM hm ?_ ?_
   ·intro h24 hm
    obtain ⟨r25, hr25, hm⟩ := bo hm
    obtain ⟨g26, hm⟩ := go1 hm
    refine RN hnt (nn 3 (o82 [] true r25 :: nn 3 [])) [(1, .fn 151 [rr 0]), (2, .p (.fn 148 [])), (7, ow 1200 (s1 ++ [r25]).length), (11, .p (slTask p0.tasks)), (c106e1 p0), (13, pI ((k1 : Nat) : Int))] [(0, bx [pI p1c0]), (1200, ob0 (roI (s1 ++ [r25])))] [(7, ow 1200 (s1.length + 1))] [(1200, .row 1 (s1.length + 1) (catF s1.length (elI s1) (cut 1 [vi r25])))] (an (ID_crewSpec (p0.tasks.getD k1 (default : Task)) r25 hr25) (an (by omega : (s1.length + 1) * 8 ≤ 140737488355328) tv)) (by kernel_rfl) (.cons rfl (MLe.ownLen (enc := encI) (d := 0) (f := (catF s1.length (elI s1) (cut 1 [vi r25]))) (RowIs.cat RowIs.elems (RowIs.lit (enc := encI) (d := 0) (n := 1) (f := (cut 1 [vi r25])) [r25] rfl (fun | 0, _ => rfl | n + 1, h => absurd h (by omega))))) .nil) (.cons rfl (BLe.typed (RowIs.cat RowIs.elems (RowIs.lit (enc := encI) (d := 0) (n := 1) (f := (cut 1 [vi r25])) [r25] rfl (fun | 0, _ => rfl | n + 1, h => absurd h (by omega))))) .nil) ?_
    exact bD (s1 ++ [r25]) hm .refl
   ·intro h24 hm
    refine Sk ?_
    exact bD s1 hm Conv.t0
 ·intro h22
  have hge1 : ¬ k1 < p0.tasks.length := by have := of_decide_eq_false h22; omega
  have hm := he1 hge1
  unfold Those_crewQTasksFa_crewQID_crewD1 at hm
  refine DW.exit ?_
  refine joinQ_exit ?_
  refine KQ_exit ?_
  refine blockQ_exit ?_
  show DW _ _ _ _ _
  obtain ⟨r27, hr27, hm⟩ := bo hm
  obtain ⟨g28, hm⟩ := go1 hm
  refine Sq (RN hnt (.no :: o83 [1200] true r27 :: []) [(7, ow 1200 r27.length)] [(0, bx [pI p1c0]), (1200, ob0 (roI r27))] [(7, ow 1200 s1.length)] [] (an (Sort_slices_intSpec s1 r27 hr27) (an (⟨rfl, g28⟩ : Body.same (roI s1) (roI r27)) tv)) (by kernel_rfl) (.cons rfl (MLe.of_eq (congrArg (MV.own 1200 0 0) g28)) .nil) .nil ?_)
  obtain ⟨r29, hr29, hm⟩ := bo hm
  obtain ⟨g30, g31, hm⟩ := go2 hm
  refine Sq (RD hnt (.no :: o103 [1200] true r29 :: .no :: []) [7] [(6, ow 1200 r29.1)] [] [(1200, ob0 (roI r29.2))] (an (Compact_slices_intSpec r27 r29 hr29) (an (⟨rfl, g30⟩ : Body.same (roI r27) (roI r29.2)) tv)) ?_)
  refine DW.conv (τ := mkSt [(6, .p (slI (r29.2.take r29.1)))] [(0, bx [pI p1c0])]) (Conv.trans (τ := mkSt [(6, .p (.sl .unk 1 r29.1 (elI r29.2)))] [(0, bx [pI p1c0])]) (Conv.frz [1200]) (Conv.tp [(6, .p (.sl .unk 1 r29.1 (elI r29.2)))] [] (by kernel_rfl) (.cons rfl (MLe.typed (RowIs.take RowIs.elems (by first | omega | (simp only [subN_eq, addN_eq] at *; omega)))) .nil) .nil)) ?_
  obtain rfl := sj hm
  exact DW.ret (retK [.box [pI p1c0]] [] (.p (slI (r29.2.take r29.1))))

theorem Tasks_crewSpec (p0 : Hierarchy) (p1 : Int) (RES : List Int) (hm : Tasks_crew p0 p1 = some RES) : Spec Tryz.prog 103 [.p (.agg (encHierarchy p0)), pI p1] [] (.p (slI RES)) [] [] := by
 unfold Tasks_crew at hm
 refine SO Tryz.func103 rfl rfl [(0, .p (.agg (encHierarchy p0))), (1, pI p1)] [] ?_
 intro cx hnt
 refine Sq (RK hnt (nn 3 []) [(2, rr 1016), (3, rr 1024)] [(1016, bx (pm (encHierarchy p0))), (1024, bx [pI p1])] tv ?_)
 obtain ⟨r1, hr1, hm⟩ := bo hm
 refine Sq (RK hnt (nn 2 (.call 112 [1024] true (.p (slI r1)) [.box [pI p1]] [] :: .no :: [])) [(4, .p (slI r1))] [] (an (Those_crewQTasksFa_crewQID_crewSpec p0 p1 r1 hr1) (an tv tv)) ?_)
 obtain rfl := sj hm
 exact DW.ret (retK [] [] (.p (slI r1)))
abbrev o105 (ks : List Nat) (b : Bool) (RES : List Int) : Orc := .call 103 ks b (.p (slI RES)) [] []

theorem Tasks_memberSpec (p0 : Hierarchy) (p1 : Int) (RES : List Int) (hm : Tasks_member p0 p1 = some RES) : Spec Tryz.prog 46 [.p (.agg (encHierarchy p0)), pI p1] [] (.p (slI RES)) [] [] := by
 unfold Tasks_member at hm
 refine SO Tryz.func46 rfl rfl [(0, .p (.agg (encHierarchy p0))), (1, pI p1)] [] ?_
 intro cx hnt
 refine Sq (RK hnt (nn 2 []) [(1, pI p1), (2, rr 1016)] [(1016, bx (pm (encHierarchy p0)))] tv ?_)
 obtain ⟨r1, hr1, hm⟩ := bo hm
 obtain ⟨r2, hr2, hm⟩ := bo hm
 refine Sq (RK hnt (.no :: o78 [] true r1 :: .no :: o105 [] true r2 :: .no :: []) [(4, .p (slI r2))] [] (an (checked_memberSpec p0 r1 hr1) (an (Tasks_crewSpec r1 p1 r2 hr2) tv)) ?_)
 obtain rfl := sj hm
 exact DW.ret (retK [] [] (.p (slI r2)))
abbrev o104 (ks : List Nat) (b : Bool) (RES : List Int) : Orc := .call 46 ks b (.p (slI RES)) [] []

theorem Find_memberSpec (p0 : Hierarchy) (p1 : Int) (RES : Task × Bool) (hm : Find_member p0 p1 = some RES) : Spec Tryz.prog 48 [.p (.agg (encHierarchy p0)), pI p1] [] (.p (.tup [.agg (encTask RES.1), vb RES.2])) [] [] := by
 unfold Find_member at hm
 refine SO Tryz.func48 rfl rfl [(0, .p (.agg (encHierarchy p0))), (1, pI p1)] [] ?_
 intro cx hnt
 refine Sq (RK hnt (nn 3 []) [(1, pI p1), (2, rr 1016), (4, rr 1032)] [(1016, bx (pm (encHierarchy p0))), (1032, bx [pI 0, pI 0, pI 0, pI 0])] tv ?_)
 obtain ⟨r1, hr1, hm⟩ := bo hm
 obtain ⟨r2, hr2, hm⟩ := bo hm
 refine Sq (RK hnt (.no :: o78 [] true r1 :: .no :: o14 [] true r2 :: nn 4 []) [(4, rr 1032), (5, pB r2.2)] [(1032, bx (pm (encTask r2.1)))] (an (checked_memberSpec p0 r1 hr1) (an (Find_crewSpec r1 p1 r2 hr2) tv)) ?_)
 obtain rfl := sj hm
 exact DW.ret (retK [] [] (.p (.tup [.agg (encTask r2.1), vb r2.2])))
abbrev o108 (ks : List Nat) (b : Bool) (RES : Task × Bool) : Orc := .call 48 ks b (.p (.tup [.agg (encTask RES.1), vb RES.2])) [] []

abbrev c1e1 (r5 : Hierarchy × Dice) : Nat × Obj := (1032, bx (pm (encHierarchy r5.1)))
abbrev c1e2 (r5 : Hierarchy × Dice) : Nat × Obj := (1176, bx (pm (encDice r5.2)))
theorem MemberThreads_law6Spec (p0 : List Int) (RES : Bool) (hm : MemberThreads_law6 p0 = some RES) : Spec Tryz.prog 8 [.p (slI p0)] [] (pB RES) [] [] := by
 unfold MemberThreads_law6 at hm
 refine SO Tryz.func8 rfl rfl [(0, .p (slI p0))] [] ?_
 intro cx hnt
 refine Sq (RK hnt (.no :: []) [(0, .p (slI p0))] [] tv ?_)
 obtain ⟨r1, hr1, hm⟩ := bo hm
 refine Sq (Sq (RD hnt (.no :: o2 [] true r1 :: .no :: []) [] [(19, pB (!r1))] [] [] (an (Light_madeSpec p0 r1 hr1) tv) ?_))
 refine condM hm ?_ ?_
 ·intro h2 hm
  obtain ⟨r3, hr3, hm⟩ := bo hm
  refine Sq (RK hnt (o3 [] true r3 :: .no :: []) [(2, pB r3)] [] (an (sane_law6Spec r3 hr3) tv) ?_)
  obtain rfl := sj hm
  exact DW.ret (retK [] [] (pB r3))
 ·intro h2 hm
  refine Sk ?_
  obtain ⟨r4, hr4, hm⟩ := bo hm
  refine Sq (RK hnt (.no :: o30 [] true r4 :: .no :: []) [(3, rr 1176)] [(1176, bx (pm (encDice r4)))] (an (Roll_madeSpec p0 r4 hr4) tv) ?_)
  obtain ⟨r5, hr5, hm⟩ := bo hm
  refine Sq (RK hnt (.no :: o31 [1176] true r5 :: nn 2 []) [(3, rr 1176), (4, rr 1032)] [(c1e1 r5), (c1e2 r5)] (an (Hierarchy_Dice_madeSpec r4 6 9 r5 hr5) (an tv tv)) ?_)
  refine Sq (RD hnt (nn 2 []) [] [(5, pI 0), (6, pI 0)] [] [] tv ?_)
  refine Sq (Sq (RD hnt (nn 4 []) [] [(27, pI ((r5.1.tasks.length : Nat) : Int)), (28, pI 0)] [] [] tv ?_))
  refine Bk ?_
  obtain ⟨hc1, hm⟩ := go1 hm
  refine DW.rangeO (fun (k1 : Nat) (s1 : Int) => mkSt [(3, rr 1176), (4, rr 1032), (5, pI s1), (6, pI 0), (27, pI ((r5.1.tasks.length : Nat) : Int)), (28, pI ((k1 : Nat) : Int))] [(c1e1 r5), (c1e2 r5)]) dTask hm Conv.eqK ?_
  intro k1 s1 n1 hk1 hs1 he1
  refine Sq (RD hnt (.no :: []) [] [(29, pB (decide (((k1 : Nat) : Int) < ((r5.1.tasks.length : Nat) : Int))))] [] [] tv ?_)
  refine Sq (condK (decide (((k1 : Nat) : Int) < ((r5.1.tasks.length : Nat) : Int))) ?_ ?_)
  ·intro h130
   have hlt1 : k1 < r5.1.tasks.length := by have := of_decide_eq_true h130; omega
   have hm := hs1 hlt1
   unfold MemberThreads_law6L1 at hm
   refine Sk ?_
   refine Sq ?_
   refine Jn (ι := Int) (fun (y15 : Int) => mkSt [(3, rr 1176), (4, rr 1032), (5, pI y15), (6, pI 0), (27, pI ((r5.1.tasks.length : Nat) : Int)), (28, pI ((k1 : Nat) : Int))] [(c1e1 r5), (c1e2 r5)]) (fun y15 => (MemberThreads_law6J15 n1) y15 = some RES) ?_ ?_
   ·intro y15 hm
    unfold MemberThreads_law6J15 at hm
    refine RD hnt (nn 2 []) [] [(28, pI (w64 (((k1 : Nat) : Int) + 1)))] [] [] tv ?_
    exact jD y15 ⟨hlt1, hm⟩ (Conv.tp [(28, pI (w64 (((k1 : Nat) : Int) + 1)))] [] (by kernel_rfl) (.cons rfl (.of_eq (congrArg pI (w64_succ hlt1 hc1))) .nil) .nil)
   ·refine Bk ?_
    refine Sq (RD hnt (nn 2 []) [29] [(7, pI ((k1 : Nat) : Int))] [] [] tv ?_)
    refine Sq (RD hnt (nn 13 []) [] [(43, pB ((r5.1.tasks.getD k1 (default : Task)).id == (r5.1.tasks.getD k1 (default : Task)).process))] [] [] (an (nn0 k1) (an (ltc hlt1) (an (nn0 k1) (an (ltc hlt1) tv)))) ?_)
    refine condM hm ?_ ?_
    ·intro h131 hm
     obtain ⟨r132, hr132, hm⟩ := bo hm
     refine RD hnt (nn 8 (o77 [] true r132 :: nn 3 [])) [7, 43] [(5, pI (w64 (s1 + ((r132.length : Nat) : Int))))] [] [] (an (nn0 k1) (an (ltc hlt1) (an (Threads_memberSpec r5.1 (r5.1.tasks.getD k1 (default : Task)).id r132 hr132) tv))) ?_
     exact bD (w64 (s1 + ((r132.length : Nat) : Int))) hm Conv.eqK
    ·intro h131 hm
     refine Sk ?_
     exact bD s1 hm Conv.t0
  ·intro h130
   have hge1 : ¬ k1 < r5.1.tasks.length := by have := of_decide_eq_false h130; omega
   have hm := he1 hge1
   unfold MemberThreads_law6D1 at hm
   refine DW.exit ?_
   refine joinQ_exit ?_
   refine KQ_exit ?_
   refine blockQ_exit ?_
   show DW _ _ _ _ _
   refine Sq (Sq (RD hnt (nn 5 []) [27, 28, 29] [(59, pI ((r5.1.tree.nodes.length : Nat) : Int)), (60, pI 0)] [] [] tv ?_))
   refine Bk ?_
   obtain ⟨hc4, hm⟩ := go1 hm
   refine DW.rangeO (fun (k4 : Nat) (s4 : Int) => mkSt [(3, rr 1176), (4, rr 1032), (5, pI s1), (6, pI s4), (59, pI ((r5.1.tree.nodes.length : Nat) : Int)), (60, pI ((k4 : Nat) : Int))] [(c1e1 r5), (c1e2 r5)]) dNode hm Conv.eqK ?_
   intro k4 s4 n4 hk4 hs4 he4
   refine Sq (RD hnt (.no :: []) [] [(61, pB (decide (((k4 : Nat) : Int) < ((r5.1.tree.nodes.length : Nat) : Int))))] [] [] tv ?_)
   refine Sq (condK (decide (((k4 : Nat) : Int) < ((r5.1.tree.nodes.length : Nat) : Int))) ?_ ?_)
   ·intro h171
    have hlt4 : k4 < r5.1.tree.nodes.length := by have := of_decide_eq_true h171; omega
    have hm := hs4 hlt4
    unfold MemberThreads_law6L4 at hm
    refine Sk ?_
    refine Sq (Bk ?_)
    refine Sq (RD hnt (nn 2 []) [61] [(8, pI ((k4 : Nat) : Int))] [] [] tv ?_)
    obtain ⟨r172, hr172, hm⟩ := bo hm
    refine RD hnt (nn 9 (o104 [] true r172 :: nn 3 [])) [8] [(6, pI (w64 (s4 + ((r172.length : Nat) : Int))))] [] [] (an (nn0 k4) (an (ltc hlt4) (an (Tasks_memberSpec r5.1 (r5.1.tree.nodes.getD k4 (default : Node)).id r172 hr172) tv))) ?_
    refine DW.done ?_
    show DW _ _ _ _ _
    refine RD hnt (nn 2 []) [] [(60, pI (w64 (((k4 : Nat) : Int) + 1)))] [] [] tv ?_
    exact jD (w64 (s4 + ((r172.length : Nat) : Int))) ⟨hlt4, hm⟩ (Conv.tp [(60, pI (w64 (((k4 : Nat) : Int) + 1)))] [] (by kernel_rfl) (.cons rfl (.of_eq (congrArg pI (w64_succ hlt4 hc4))) .nil) .nil)
   ·intro h171
    have hge4 : ¬ k4 < r5.1.tree.nodes.length := by have := of_decide_eq_false h171; omega
    have hm := he4 hge4
    unfold MemberThreads_law6D4 at hm
    refine DW.exit ?_
    refine joinQ_exit ?_
    refine KQ_exit ?_
    refine blockQ_exit ?_
    show DW _ _ _ _ _
    refine Sq (Sq (DW.regJ (sl2 := [(3, rr 1176), (4, rr 1032), (87, pB ((s1 != ((r5.1.tasks.length : Nat) : Int)) || (s4 != ((r5.1.tasks.length : Nat) : Int))))]) (ob2 := [(c1e1 r5), (c1e2 r5)]) ?_ ?_))
    ·rcases bt (s1 != ((r5.1.tasks.length : Nat) : Int)) with h173 | h173
     ·exact RT hnt (nn 6 (sk 5 (pT :: []))) [(87, pB true)] (an6 h173 tv) (by kernel_rfl) (.cons rfl (.of_eq (by rw [h173]; try rfl)) .nil)
     ·exact RT hnt (nn 11 (pF :: [])) [(87, pB (s4 != ((r5.1.tasks.length : Nat) : Int)))] (an6 h173 tv) (by kernel_rfl) (.cons rfl (.of_eq (by rw [h173]; try rfl)) .nil)
    ·refine condM hm ?_ ?_
     ·intro h174 hm
      refine Sq (RK hnt (.no :: []) [(2, pB false)] [] tv ?_)
      obtain rfl := sj hm
      exact DW.ret (retK [] [] (pB false))
     ·intro h174 hm
      refine Sk ?_
      obtain ⟨r175, hr175, hm⟩ := bo hm
      refine Sq (RD hnt (nn 2 (o72 [1176] true r175 :: .no :: [])) [3, 87] [(9, pI r175.1)] [1176] [] (an (Task_Dice_madeSpec r5.2 r5.1 r175 hr175) (an tv tv)) ?_)
      obtain ⟨r176, hr176, hm⟩ := bo hm
      refine Sq (RD hnt (nn 2 (o108 [] true r176 :: nn 6 [])) [] [(10, rr 1080), (11, pB r176.2)] [] [(1080, bx (pm (encTask r176.1)))] (an (Find_memberSpec r5.1 r175.1 r176 hr176) tv) ?_)
      obtain ⟨r177, hr177, hm⟩ := bo hm
      refine Sq (RD hnt (nn 2 (o25 [] true r177 :: nn 8 [])) [4] [(12, rr 1096), (13, pI r177.2.1), (14, pI r177.2.2)] [1032] [(1096, bx [ow 1800 r177.1.tree.nodes.length, pI r177.1.tree.next, ow 1801 r177.1.tasks.length, pI r177.1.next]), (1800, ob0 (roNode r177.1.tree.nodes)), (1801, ob0 (roTask r177.1.tasks))] (an (Clone_memberSpec r5.1 r175.1 r177 hr177) tv) ?_)
      refine Sq (Sq (RD hnt (nn 2 []) [11] [(105, pB (!r176.2))] [] [] tv ?_))
      refine condM hm ?_ ?_
      ·intro h178 hm
       refine Sq ?_
       refine Jn (ι := Bool) (fun (y20 : Bool) => mkSt [(2, pB y20)] []) (fun y20 => MemberThreads_law6J20 y20 = some RES) ?_ ?_
       ·intro y20 hm
        unfold MemberThreads_law6J20 at hm
        obtain rfl := sj hm
        exact DW.ret (retK [] [] (pB y20))
       ·rcases bt (r177.2.2 == 4) with h179 | h179
        ·replace hm := if_t h179 hm
         obtain ⟨r180, hr180, hm⟩ := bo hm
         refine RK hnt (nn 3 (o3 [] true r180 :: pT :: .no :: [])) [(2, pB r180)] [] (an h179 (an (sane_law6Spec r180 hr180) (an h179 tv))) ?_
         exact jD r180 hm .refl
        ·replace hm := if_f h179 hm
         refine RK hnt (nn 3 (.skip :: pF :: .no :: [])) [(2, pB false)] [] (an2 h179 tv) ?_
         exact jD false hm .refl
      ·intro h178 hm
       refine Sk ?_
       obtain ⟨r181, hr181, hm⟩ := bo hm
       refine Sq (RD hnt (nn 2 (o108 [] true r181 :: nn 6 [])) [12, 105] [(15, rr 1120), (16, pB r181.2)] [1096, 1800, 1801] [(1120, bx (pm (encTask r181.1)))] (an (Find_memberSpec r177.1 r177.2.1 r181 hr181) tv) ?_)
       refine Sq ?_
       refine Jn (ι := Bool) (fun (y21 : Bool) => mkSt [(2, pB y21)] []) (fun y21 => MemberThreads_law6J21 y21 = some RES) ?_ ?_
       ·intro y21 hm
        unfold MemberThreads_law6J21 at hm
        obtain rfl := sj hm
        exact DW.ret (retK [] [] (pB y21))
       ·rcases bt (r177.2.2 == 0) with h182 | h182
        ·replace hm := if_t h182 hm
         rcases bt r181.2 with h183 | h183
         ·replace hm := if_t h183 hm
          rcases bt (r181.1.process == r176.1.process) with h184 | h184
          ·replace hm := if_t h184 hm
           rcases bt (r181.1.group == r176.1.group) with h185 | h185
           ·replace hm := if_t h185 hm
            rcases bt (r181.1.user == r176.1.user) with h186 | h186
            ·replace hm := if_t h186 hm
             rcases bt (r177.2.1 != r175.1) with h187 | h187
             ·replace hm := if_t h187 hm
              obtain ⟨r188, hr188, hm⟩ := bo hm
              refine RK hnt (nn 4 (pT :: nn 6 (pT :: nn 6 (pT :: nn 6 (pT :: nn 4 (pT :: .no :: o3 [] true r188 :: pT :: .no :: [])))))) [(2, pB r188)] [] (an2 h182 (an6 h183 (an6 h184 (an6 h185 (an4 h186 (an h187 (an (sane_law6Spec r188 hr188) (an h187 tv)))))))) ?_
              exact jD r188 hm .refl
             ·replace hm := if_f h187 hm
              refine RK hnt (nn 4 (pT :: nn 6 (pT :: nn 6 (pT :: nn 6 (pT :: nn 4 (pT :: .no :: .skip :: pF :: .no :: [])))))) [(2, pB false)] [] (an2 h182 (an6 h183 (an6 h184 (an6 h185 (an4 h186 (an2 h187 tv)))))) ?_
              exact jD false hm .refl
            ·replace hm := if_f h186 hm
             refine RK hnt (nn 4 (pT :: nn 6 (pT :: nn 6 (pT :: nn 6 (pT :: .no :: sk 3 (pF :: .no :: .skip :: pF :: .no :: [])))))) [(2, pB false)] [] (an2 h182 (an6 h183 (an6 h184 (an6 h185 (an4 h186 (an2 ff tv)))))) ?_
             exact jD false hm .refl
           ·replace hm := if_f h185 hm
            refine RK hnt (nn 4 (pT :: nn 6 (pT :: nn 6 (pT :: .no :: sk 5 (pF :: .no :: sk 3 (pF :: .no :: .skip :: pF :: .no :: [])))))) [(2, pB false)] [] (an2 h182 (an6 h183 (an6 h184 (an6 h185 (an6 ff tv))))) ?_
            exact jD false hm .refl
          ·replace hm := if_f h184 hm
           refine RK hnt (nn 4 (pT :: nn 6 (pT :: .no :: sk 5 (pF :: .no :: sk 5 (pF :: .no :: sk 3 (pF :: .no :: .skip :: pF :: .no :: [])))))) [(2, pB false)] [] (an2 h182 (an6 h183 (an6 h184 (an6 ff (an6 ff tv))))) ?_
           exact jD false hm .refl
         ·replace hm := if_f h183 hm
          refine RK hnt (nn 4 (pT :: .no :: sk 5 (pF :: .no :: sk 5 (pF :: .no :: sk 5 (pF :: .no :: sk 3 (pF :: .no :: .skip :: pF :: .no :: [])))))) [(2, pB false)] [] (an2 h182 (an6 h183 (an6 ff (an6 ff (an6 ff tv))))) ?_
          exact jD false hm .refl
        ·replace hm := if_f h182 hm
         refine RK hnt (nn 3 (.skip :: pF :: .no :: sk 5 (pF :: .no :: sk 5 (pF :: .no :: sk 5 (pF :: .no :: sk 3 (pF :: .no :: .skip :: pF :: .no :: [])))))) [(2, pB false)] [] (an2 h182 (an6 ff (an6 ff (an6 ff (an6 ff tv))))) ?_
         exact jD false hm .refl
abbrev o1 (ks : List Nat) (b : Bool) (RES : Bool) : Orc := .call 8 ks b (pB RES) [] []
end Go.Dm

