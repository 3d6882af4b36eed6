/- Texts of the proof of CpusetApart: the data machine, the models of the Go functions, their contracts. -/
import Derived.Test.YtkkeddafdmjhlaaGreatCpusetApartA4
set_option linter.unusedVariables false
set_option linter.unusedSimpArgs false
/- Go functions compute their models, printed by a program. -/
namespace Go.Dm
open Go.Proofs
set_option linter.unusedVariables false
abbrev c74e1 (p0 : List Int) (p1 : Int) (p3 : Int) := (Bw (Bw (elI p0) (Int.toNat p1) [vi (p0.getD (Int.toNat p3) 0)]) (Int.toNat p3) (setRange ((Bw (elI p0) (Int.toNat p1) [vi (p0.getD (Int.toNat p3) 0)]) (Int.toNat p3)) 0 [vi (p0.getD (Int.toNat p1) 0)]))
abbrev c74e2 (s1 : (List Int) × Int × Int) (s5 : Int) (s7 : Int) := (Bw (Bw (elI s1.1) (Int.toNat s5) [vi (s1.1.getD (Int.toNat s7) 0)]) (Int.toNat s7) (setRange ((Bw (elI s1.1) (Int.toNat s5) [vi (s1.1.getD (Int.toNat s7) 0)]) (Int.toNat s7)) 0 [vi (s1.1.getD (Int.toNat s5) 0)]))
abbrev c74e3 (s1 : (List Int) × Int × Int) (s5 : Int) (s7 : Int) := ((s1.1.set (Int.toNat s5) (s1.1.getD (Int.toNat s7) 0)).set (Int.toNat s7) (s1.1.getD (Int.toNat s5) 0))
theorem Qx (p0 : List Int) (p1 : Int) (p2 : Int) (p3 : Int) (RES : Int × (List Int)) (hm : Es p0 p1 p2 p3 = some RES) : Spec Tryz.prog 160 [ow 0 p0.length,pI p1,pI p2,pI p3] [roI p0] (pI RES.1) [roI RES.2] [] := by
 unfold Es at hm
 refine SO Tryz.func160 rfl rfl [(0,ow 0 p0.length),(1,pI p1),(2,pI p2),(3,pI p3)] [(0,ob0 (roI p0))] ?_
 intro cx hnt
 refine Sq (RD hnt (.no :: []) [] [] [] [] tv ?_)
 obtain ⟨g1,g2,g3,g4,hm⟩ := go4 hm
 obtain ⟨g5,g6,g7,g8,hm⟩ := go4 hm
 refine Sq (RN hnt (nn 16 []) [(0,ow 0 ((p0.set (Int.toNat p1) (p0.getD (Int.toNat p3) 0)).set (Int.toNat p3) (p0.getD (Int.toNat p1) 0)).length),(1,pI p1),(2,pI p2)] [(0,ob0 (roI ((p0.set (Int.toNat p1) (p0.getD (Int.toNat p3) 0)).set (Int.toNat p3) (p0.getD (Int.toNat p1) 0))))] [(0,ow 0 p0.length)] [(0,.row 1 p0.length (c74e1 p0 p1 p3))] (an g1.1 (an g1.2 (an g2 (an g3.1 (an g3.2 (an g4 (an g5.1 (an g5.2 (an g6 (an g7.1 (an g7.2 (an g8 tv)))))))))))) (by kernel_rfl) (.cons rfl (MLe.ownLen (enc := Bi) (d := 0) (f := (c74e1 p0 p1 p3)) (RowIs.updR (RowIs.upd RowIs.elems (p0.getD (Int.toNat p3) 0) rfl) (by omega) (p0.getD (Int.toNat p1) 0) rfl)) .nil) (.cons rfl (BLe.typed (RowIs.updR (RowIs.upd RowIs.elems (p0.getD (Int.toNat p3) 0) rfl) (by omega) (p0.getD (Int.toNat p1) 0) rfl)) .nil) ?_)
 refine Sq (RD hnt (nn 6 []) [2] [(9,pI (w64 (p1 + 1))),(10,pI (w64 (p2 - 1)))] [] [] tv ?_)
 refine Sq (Bk ?_)
 refine DW.whileO (fun (s1 : (List Int) × Int × Int) => Af [(0,ow 0 s1.1.length),(1,pI p1),(9,pI s1.2.2),(10,pI s1.2.1)] [(0,ob0 (roI s1.1))]) hm Conv.eqK ?_
 intro s1 n1 hm
 unfold Hw at hm
 refine Bk ?_
 refine Sq (Bk ?_)
 refine DW.whileO (fun (s5 : Int) => Af [(0,ow 0 s1.1.length),(1,pI p1),(9,pI s5),(10,pI s1.2.1)] [(0,ob0 (roI s1.1))]) hm .refl ?_
 intro s5 n5 hm
 unfold Hx at hm
 refine Sq (Sq ?_)
 refine Jn (ι := Bool) (fun (y10 : Bool) => Af [(0,ow 0 s1.1.length),(1,pI p1),(9,pI s5),(10,pI s1.2.1),(43,pB y10)] [(0,ob0 (roI s1.1))]) (fun y10 => (Ef p1 s1 n1 s5 n5) y10 = some RES) ?_ ?_
 ·intro y10 hm
  unfold Ef at hm
  refine Aq hm ?_ ?_
  ·intro h156 hm
   refine Sk ?_
   refine Bk ?_
   refine RD hnt (nn 3 []) [43] [(9,pI (w64 (s5 + 1)))] [] [] tv ?_
   refine DW.done ?_
   show DW _ _ _ _ _
   exact jD (w64 (s5 + 1)) hm Conv.eqK
  ·intro h156 hm
   refine DW.exit ?_
   refine As ?_
   refine Bb ?_
   refine An ?_
   show DW _ _ _ _ _
   refine Sq (Bk ?_)
   refine DW.whileO (fun (s7 : Int) => Af [(0,ow 0 s1.1.length),(1,pI p1),(9,pI s5),(10,pI s7)] [(0,ob0 (roI s1.1))]) hm Conv.t0 ?_
   intro s7 n7 hm
   unfold Fz at hm
   refine Sq (Sq ?_)
   refine Jn (ι := Bool) (fun (y12 : Bool) => Af [(0,ow 0 s1.1.length),(1,pI p1),(9,pI s5),(10,pI s7),(59,pB y12)] [(0,ob0 (roI s1.1))]) (fun y12 => (Ee s1 n1 s5 s7 n7) y12 = some RES) ?_ ?_
   ·intro y12 hm
    unfold Ee at hm
    refine Aq hm ?_ ?_
    ·intro h179 hm
     refine Sk ?_
     refine Bk ?_
     refine RD hnt (nn 3 []) [59] [(10,pI (w64 (s7 - 1)))] [] [] tv ?_
     refine DW.done ?_
     show DW _ _ _ _ _
     exact jD (w64 (s7 - 1)) hm Conv.eqK
    ·intro h179 hm
     refine DW.exit ?_
     refine As ?_
     refine Bb ?_
     refine An ?_
     show DW _ _ _ _ _
     refine Sq (Sq (RD hnt (nn 3 []) [59] [(64,pB (decide (s5 > s7)))] [] [] tv ?_))
     refine Aq hm ?_ ?_
     ·intro h180 hm
      refine DW.exit ?_
      refine Nt (by decide) ?_
      refine Bb ?_
      refine As ?_
      refine Bb ?_
      refine An ?_
      show DW _ _ _ _ _
      refine Sq (RK hnt (nn 2 []) [(8,pI s5)] [(0,ob0 (roI s1.1))] tv ?_)
      obtain rfl := sj hm
      exact DW.ret (Am [roI s1.1] [] (pI s5))
     ·intro h180 hm
      refine Sk ?_
      obtain ⟨g181,g182,g183,g184,hm⟩ := go4 hm
      obtain ⟨g185,g186,g187,g188,hm⟩ := go4 hm
      refine Sq (RN hnt (nn 16 []) [(0,ow 0 (c74e3 s1 s5 s7).length),(1,pI p1),(9,pI s5),(10,pI s7)] [(0,ob0 (roI (c74e3 s1 s5 s7)))] [(0,ow 0 s1.1.length)] [(0,.row 1 s1.1.length (c74e2 s1 s5 s7))] (an g181.1 (an g181.2 (an g182 (an g183.1 (an g183.2 (an g184 (an g185.1 (an g185.2 (an g186 (an g187.1 (an g187.2 (an g188 tv)))))))))))) (by kernel_rfl) (.cons rfl (MLe.ownLen (enc := Bi) (d := 0) (f := (c74e2 s1 s5 s7)) (RowIs.updR (RowIs.upd RowIs.elems (s1.1.getD (Int.toNat s7) 0) rfl) (by omega) (s1.1.getD (Int.toNat s5) 0) rfl)) .nil) (.cons rfl (BLe.typed (RowIs.updR (RowIs.upd RowIs.elems (s1.1.getD (Int.toNat s7) 0) rfl) (by omega) (s1.1.getD (Int.toNat s5) 0) rfl)) .nil) ?_)
      refine Sq (RD hnt (nn 3 []) [] [(9,pI (w64 (s5 + 1)))] [] [] tv ?_)
      refine RD hnt (nn 3 []) [] [(10,pI (w64 (s7 - 1)))] [] [] tv ?_
      refine DW.done ?_
      show DW _ _ _ _ _
      exact jD ((c74e3 s1 s5 s7),(w64 (s7 - 1)),(w64 (s5 + 1))) hm Conv.eqK
   ·rcases bt (decide (s5 ≤ s7)) with h173 | h173
    ·replace hm := Ax h173 hm
     obtain ⟨g174,g175,g176,g177,hm⟩ := go4 hm
     obtain ⟨r178,hr178,hm⟩ := bo hm
     refine RD hnt (nn 12 (o64 [] true r178 :: pT :: [])) [] [(59,pB r178)] [] [] (an3 h173 (an g174.1 (an g174.2 (an h173 (an g175 (an3 h173 (an g176.1 (an g176.2 (an h173 (an g177 (an h173 (an (Dj (s1.1.getD (Int.toNat p1) 0) (s1.1.getD (Int.toNat s7) 0) r178 hr178) (an h173 tv))))))))))))) ?_
     exact jD r178 hm Conv.eqK
    ·replace hm := Ay h173 hm
     refine RD hnt (nn 4 (sk 9 (pF :: []))) [] [(59,pB false)] [] [] (an4 h173 (an6 h173 tv)) ?_
     exact jD false hm Conv.eqK
 ·rcases bt (decide (s5 ≤ s1.2.1)) with h150 | h150
  ·replace hm := Ax h150 hm
   obtain ⟨g151,g152,g153,g154,hm⟩ := go4 hm
   obtain ⟨r155,hr155,hm⟩ := bo hm
   refine RD hnt (nn 12 (o64 [] true r155 :: .no :: pT :: [])) [] [(43,pB (!r155))] [] [] (an3 h150 (an g151.1 (an g151.2 (an h150 (an g152 (an3 h150 (an g153.1 (an g153.2 (an h150 (an g154 (an h150 (an (Dj (s1.1.getD (Int.toNat p1) 0) (s1.1.getD (Int.toNat s5) 0) r155 hr155) (an2 h150 tv))))))))))))) ?_
   exact jD (!r155) hm Conv.eqK
  ·replace hm := Ay h150 hm
   refine RD hnt (nn 4 (sk 10 (pF :: []))) [] [(43,pB false)] [] [] (an5 h150 (an6 h150 tv)) ?_
   exact jD false hm Conv.eqK
abbrev o74 (ks : List Nat) (b : Bool) (RES : Int × (List Int)) (sm : List Nat := []) : Orc := .call 160 ks b (pI RES.1) [roI RES.2] [] sm

abbrev Du (p0 : List Int) (p1 : Int) (p3 : Int) := ((p0.set (Int.toNat p1) (p0.getD (Int.toNat p3) 0)).set (Int.toNat p3) (p0.getD (Int.toNat p1) 0))
abbrev c75e2 (p0 : List Int) (p1 : Int) (p3 : Int) (s1 : Int) (s17 : Int) := (Bw (Bw (elI (Du p0 p1 p3)) (Int.toNat s1) [vi ((Du p0 p1 p3).getD (Int.toNat s17) 0)]) (Int.toNat s17) (setRange ((Bw (elI (Du p0 p1 p3)) (Int.toNat s1) [vi ((Du p0 p1 p3).getD (Int.toNat s17) 0)]) (Int.toNat s17)) 0 [vi ((Du p0 p1 p3).getD (Int.toNat s1) 0)]))
abbrev c75e3 (p0 : List Int) (p1 : Int) (p3 : Int) := (Bw (Bw (elI p0) (Int.toNat p1) [vi (p0.getD (Int.toNat p3) 0)]) (Int.toNat p3) (setRange ((Bw (elI p0) (Int.toNat p1) [vi (p0.getD (Int.toNat p3) 0)]) (Int.toNat p3)) 0 [vi (p0.getD (Int.toNat p1) 0)]))
abbrev c75e4 (s25 : (List Int) × Int × Int) (s29 : Int) (s31 : Int) := (Bw (Bw (elI s25.1) (Int.toNat s29) [vi (s25.1.getD (Int.toNat s31) 0)]) (Int.toNat s31) (setRange ((Bw (elI s25.1) (Int.toNat s29) [vi (s25.1.getD (Int.toNat s31) 0)]) (Int.toNat s31)) 0 [vi (s25.1.getD (Int.toNat s29) 0)]))
abbrev c75e5 (s25 : (List Int) × Int × Int) (s29 : Int) (s31 : Int) := ((s25.1.set (Int.toNat s29) (s25.1.getD (Int.toNat s31) 0)).set (Int.toNat s31) (s25.1.getD (Int.toNat s29) 0))
theorem Tl (p0 : List Int) (p1 : Int) (p2 : Int) (p3 : Int) (RES : Int × Bool × (List Int)) (hm : Gk p0 p1 p2 p3 = some RES) : Spec Tryz.prog 161 [ow 0 p0.length,pI p1,pI p2,pI p3] [roI p0] (.p (.tup [vi RES.1,vb RES.2.1])) [roI RES.2.2] [] := by
 unfold Gk at hm
 refine SO Tryz.func161 rfl rfl [(0,ow 0 p0.length),(1,pI p1),(2,pI p2),(3,pI p3)] [(0,ob0 (roI p0))] ?_
 intro cx hnt
 refine Sq (RD hnt (nn 2 []) [] [] [] [] tv ?_)
 obtain ⟨g1,g2,g3,g4,hm⟩ := go4 hm
 obtain ⟨g5,g6,g7,g8,hm⟩ := go4 hm
 refine Sq (RN hnt (nn 16 []) [(0,ow 0 (Du p0 p1 p3).length),(1,pI p1),(2,pI p2)] [(0,ob0 (roI (Du p0 p1 p3)))] [(0,ow 0 p0.length)] [(0,.row 1 p0.length (c75e3 p0 p1 p3))] (an g1.1 (an g1.2 (an g2 (an g3.1 (an g3.2 (an g4 (an g5.1 (an g5.2 (an g6 (an g7.1 (an g7.2 (an g8 tv)))))))))))) (by kernel_rfl) (.cons rfl (MLe.ownLen (enc := Bi) (d := 0) (f := (c75e3 p0 p1 p3)) (RowIs.updR (RowIs.upd RowIs.elems (p0.getD (Int.toNat p3) 0) rfl) (by omega) (p0.getD (Int.toNat p1) 0) rfl)) .nil) (.cons rfl (BLe.typed (RowIs.updR (RowIs.upd RowIs.elems (p0.getD (Int.toNat p3) 0) rfl) (by omega) (p0.getD (Int.toNat p1) 0) rfl)) .nil) ?_)
 refine Sq (RD hnt (nn 6 []) [2] [(10,pI (w64 (p1 + 1))),(11,pI (w64 (p2 - 1)))] [] [] tv ?_)
 refine Sq (Bk ?_)
 refine DW.whileO (fun (s1 : Int) => Af [(0,ow 0 (Du p0 p1 p3).length),(1,pI p1),(10,pI s1),(11,pI (w64 (p2 - 1)))] [(0,ob0 (roI (Du p0 p1 p3)))]) hm Conv.eqK ?_
 intro s1 n1 hm
 unfold Jp at hm
 refine Sq (Sq ?_)
 refine Jn (ι := Bool) (fun (y28 : Bool) => Af [(0,ow 0 (Du p0 p1 p3).length),(1,pI p1),(10,pI s1),(11,pI (w64 (p2 - 1))),(43,pB y28)] [(0,ob0 (roI (Du p0 p1 p3)))]) (fun y28 => (Fq p0 p1 p2 p3 s1 n1) y28 = some RES) ?_ ?_
 ·intro y28 hm
  unfold Fq at hm
  refine Aq hm ?_ ?_
  ·intro h588 hm
   refine Sk ?_
   refine Bk ?_
   refine RD hnt (nn 3 []) [43] [(10,pI (w64 (s1 + 1)))] [] [] tv ?_
   refine DW.done ?_
   show DW _ _ _ _ _
   exact jD (w64 (s1 + 1)) hm Conv.eqK
  ·intro h588 hm
   refine DW.exit ?_
   refine As ?_
   refine Bb ?_
   refine An ?_
   show DW _ _ _ _ _
   refine Sq (Bk ?_)
   refine DW.whileO (fun (s17 : Int) => Af [(0,ow 0 (Du p0 p1 p3).length),(1,pI p1),(10,pI s1),(11,pI s17)] [(0,ob0 (roI (Du p0 p1 p3)))]) hm Conv.t0 ?_
   intro s17 n17 hm
   unfold Gx at hm
   refine Sq (Sq ?_)
   refine Jn (ι := Bool) (fun (y42 : Bool) => Af [(0,ow 0 (Du p0 p1 p3).length),(1,pI p1),(10,pI s1),(11,pI s17),(60,pB y42)] [(0,ob0 (roI (Du p0 p1 p3)))]) (fun y42 => (Fp p0 p1 p3 s1 s17 n17) y42 = some RES) ?_ ?_
   ·intro y42 hm
    unfold Fp at hm
    refine Aq hm ?_ ?_
    ·intro h875 hm
     refine Sk ?_
     refine Bk ?_
     refine RD hnt (nn 3 []) [60] [(11,pI (w64 (s17 - 1)))] [] [] tv ?_
     refine DW.done ?_
     show DW _ _ _ _ _
     exact jD (w64 (s17 - 1)) hm Conv.eqK
    ·intro h875 hm
     refine DW.exit ?_
     refine As ?_
     refine Bb ?_
     refine An ?_
     show DW _ _ _ _ _
     refine Sq (Sq (RD hnt (nn 3 []) [60] [(65,pB (decide (s1 > s17)))] [] [] tv ?_))
     refine Aq hm ?_ ?_
     ·intro h876 hm
      obtain ⟨g877,g878,g879,g880,hm⟩ := go4 hm
      obtain ⟨g881,g882,g883,g884,hm⟩ := go4 hm
      refine Sq (RN hnt (nn 16 []) [(11,pI s17)] [(0,ob0 (roI (((Du p0 p1 p3).set (Int.toNat s17) ((Du p0 p1 p3).getD (Int.toNat p1) 0)).set (Int.toNat p1) ((Du p0 p1 p3).getD (Int.toNat s17) 0))))] [] [(0,.row 1 (Du p0 p1 p3).length (Bw (Bw (elI (Du p0 p1 p3)) (Int.toNat s17) [vi ((Du p0 p1 p3).getD (Int.toNat p1) 0)]) (Int.toNat p1) (setRange ((Bw (elI (Du p0 p1 p3)) (Int.toNat s17) [vi ((Du p0 p1 p3).getD (Int.toNat p1) 0)]) (Int.toNat p1)) 0 [vi ((Du p0 p1 p3).getD (Int.toNat s17) 0)])))] (an g877.1 (an g877.2 (an g878 (an g879.1 (an g879.2 (an g880 (an g881.1 (an g881.2 (an g882 (an g883.1 (an g883.2 (an g884 tv)))))))))))) (by kernel_rfl) .nil (.cons rfl (BLe.typed (RowIs.updR (RowIs.upd RowIs.elems ((Du p0 p1 p3).getD (Int.toNat p1) 0) rfl) (by omega) ((Du p0 p1 p3).getD (Int.toNat s17) 0) rfl)) .nil) ?_)
      refine Sq (RD hnt (nn 3 []) [11] [(8,pI s17),(9,pB true)] [] [] tv ?_)
      obtain rfl := sj hm
      exact DW.ret (Am [roI (((Du p0 p1 p3).set (Int.toNat s17) ((Du p0 p1 p3).getD (Int.toNat p1) 0)).set (Int.toNat p1) ((Du p0 p1 p3).getD (Int.toNat s17) 0))] [] (.p (.tup [vi s17,vb true])))
     ·intro h876 hm
      refine Sk ?_
      obtain ⟨g885,g886,g887,g888,hm⟩ := go4 hm
      obtain ⟨g889,g890,g891,g892,hm⟩ := go4 hm
      refine Sq (RN hnt (nn 16 []) [(0,ow 0 (((Du p0 p1 p3).set (Int.toNat s1) ((Du p0 p1 p3).getD (Int.toNat s17) 0)).set (Int.toNat s17) ((Du p0 p1 p3).getD (Int.toNat s1) 0)).length),(1,pI p1),(10,pI s1),(11,pI s17)] [(0,ob0 (roI (((Du p0 p1 p3).set (Int.toNat s1) ((Du p0 p1 p3).getD (Int.toNat s17) 0)).set (Int.toNat s17) ((Du p0 p1 p3).getD (Int.toNat s1) 0))))] [(0,ow 0 (Du p0 p1 p3).length)] [(0,.row 1 (Du p0 p1 p3).length (c75e2 p0 p1 p3 s1 s17))] (an g885.1 (an g885.2 (an g886 (an g887.1 (an g887.2 (an g888 (an g889.1 (an g889.2 (an g890 (an g891.1 (an g891.2 (an g892 tv)))))))))))) (by kernel_rfl) (.cons rfl (MLe.ownLen (enc := Bi) (d := 0) (f := (c75e2 p0 p1 p3 s1 s17)) (RowIs.updR (RowIs.upd RowIs.elems ((Du p0 p1 p3).getD (Int.toNat s17) 0) rfl) (by omega) ((Du p0 p1 p3).getD (Int.toNat s1) 0) rfl)) .nil) (.cons rfl (BLe.typed (RowIs.updR (RowIs.upd RowIs.elems ((Du p0 p1 p3).getD (Int.toNat s17) 0) rfl) (by omega) ((Du p0 p1 p3).getD (Int.toNat s1) 0) rfl)) .nil) ?_)
      refine Sq (RD hnt (nn 3 []) [] [(10,pI (w64 (s1 + 1)))] [] [] tv ?_)
      refine Sq (RD hnt (nn 3 []) [] [(11,pI (w64 (s17 - 1)))] [] [] tv ?_)
      refine Sq (Bk ?_)
      refine DW.whileO (fun (s25 : (List Int) × Int × Int) => Af [(0,ow 0 s25.1.length),(1,pI p1),(10,pI s25.2.1),(11,pI s25.2.2)] [(0,ob0 (roI s25.1))]) hm Conv.eqK ?_
      intro s25 n25 hm
      unfold Gy at hm
      refine Bk ?_
      refine Sq (Bk ?_)
      refine DW.whileO (fun (s29 : Int) => Af [(0,ow 0 s25.1.length),(1,pI p1),(10,pI s29),(11,pI s25.2.2)] [(0,ob0 (roI s25.1))]) hm .refl ?_
      intro s29 n29 hm
      unfold Jc at hm
      refine Sq (Sq ?_)
      refine Jn (ι := Bool) (fun (y52 : Bool) => Af [(0,ow 0 s25.1.length),(1,pI p1),(10,pI s29),(11,pI s25.2.2),(112,pB y52)] [(0,ob0 (roI s25.1))]) (fun y52 => (Fn p1 s25 n25 s29 n29) y52 = some RES) ?_ ?_
      ·intro y52 hm
       unfold Fn at hm
       refine Aq hm ?_ ?_
       ·intro h1088 hm
        refine Sk ?_
        refine Bk ?_
        refine RD hnt (nn 3 []) [112] [(10,pI (w64 (s29 + 1)))] [] [] tv ?_
        refine DW.done ?_
        show DW _ _ _ _ _
        exact jD (w64 (s29 + 1)) hm Conv.eqK
       ·intro h1088 hm
        refine DW.exit ?_
        refine As ?_
        refine Bb ?_
        refine An ?_
        show DW _ _ _ _ _
        refine Sq (Bk ?_)
        refine DW.whileO (fun (s31 : Int) => Af [(0,ow 0 s25.1.length),(1,pI p1),(10,pI s29),(11,pI s31)] [(0,ob0 (roI s25.1))]) hm Conv.t0 ?_
        intro s31 n31 hm
        unfold Gz at hm
        refine Sq (Sq ?_)
        refine Jn (ι := Bool) (fun (y54 : Bool) => Af [(0,ow 0 s25.1.length),(1,pI p1),(10,pI s29),(11,pI s31),(129,pB y54)] [(0,ob0 (roI s25.1))]) (fun y54 => (Fm p1 s25 n25 s29 s31 n31) y54 = some RES) ?_ ?_
        ·intro y54 hm
         unfold Fm at hm
         refine Aq hm ?_ ?_
         ·intro h1119 hm
          refine Sk ?_
          refine Bk ?_
          refine RD hnt (nn 3 []) [129] [(11,pI (w64 (s31 - 1)))] [] [] tv ?_
          refine DW.done ?_
          show DW _ _ _ _ _
          exact jD (w64 (s31 - 1)) hm Conv.eqK
         ·intro h1119 hm
          refine DW.exit ?_
          refine As ?_
          refine Bb ?_
          refine An ?_
          show DW _ _ _ _ _
          refine Sq (Sq (RD hnt (nn 3 []) [129] [(134,pB (decide (s29 > s31)))] [] [] tv ?_))
          refine Aq hm ?_ ?_
          ·intro h1120 hm
           refine DW.exit ?_
           refine Nt (by decide) ?_
           refine Bb ?_
           refine As ?_
           refine Bb ?_
           refine An ?_
           show DW _ _ _ _ _
           obtain ⟨g1121,g1122,g1123,g1124,hm⟩ := go4 hm
           obtain ⟨g1125,g1126,g1127,g1128,hm⟩ := go4 hm
           refine Sq (RN hnt (nn 16 []) [(11,pI s31)] [(0,ob0 (roI ((s25.1.set (Int.toNat s31) (s25.1.getD (Int.toNat p1) 0)).set (Int.toNat p1) (s25.1.getD (Int.toNat s31) 0))))] [] [(0,.row 1 s25.1.length (Bw (Bw (elI s25.1) (Int.toNat s31) [vi (s25.1.getD (Int.toNat p1) 0)]) (Int.toNat p1) (setRange ((Bw (elI s25.1) (Int.toNat s31) [vi (s25.1.getD (Int.toNat p1) 0)]) (Int.toNat p1)) 0 [vi (s25.1.getD (Int.toNat s31) 0)])))] (an g1121.1 (an g1121.2 (an g1122 (an g1123.1 (an g1123.2 (an g1124 (an g1125.1 (an g1125.2 (an g1126 (an g1127.1 (an g1127.2 (an g1128 tv)))))))))))) (by kernel_rfl) .nil (.cons rfl (BLe.typed (RowIs.updR (RowIs.upd RowIs.elems (s25.1.getD (Int.toNat p1) 0) rfl) (by omega) (s25.1.getD (Int.toNat s31) 0) rfl)) .nil) ?_)
           refine Sq (RD hnt (nn 3 []) [11] [(8,pI s31),(9,pB false)] [] [] tv ?_)
           obtain rfl := sj hm
           exact DW.ret (Am [roI ((s25.1.set (Int.toNat s31) (s25.1.getD (Int.toNat p1) 0)).set (Int.toNat p1) (s25.1.getD (Int.toNat s31) 0))] [] (.p (.tup [vi s31,vb false])))
          ·intro h1120 hm
           refine Sk ?_
           obtain ⟨g1129,g1130,g1131,g1132,hm⟩ := go4 hm
           obtain ⟨g1133,g1134,g1135,g1136,hm⟩ := go4 hm
           refine Sq (RN hnt (nn 16 []) [(0,ow 0 (c75e5 s25 s29 s31).length),(1,pI p1),(10,pI s29),(11,pI s31)] [(0,ob0 (roI (c75e5 s25 s29 s31)))] [(0,ow 0 s25.1.length)] [(0,.row 1 s25.1.length (c75e4 s25 s29 s31))] (an g1129.1 (an g1129.2 (an g1130 (an g1131.1 (an g1131.2 (an g1132 (an g1133.1 (an g1133.2 (an g1134 (an g1135.1 (an g1135.2 (an g1136 tv)))))))))))) (by kernel_rfl) (.cons rfl (MLe.ownLen (enc := Bi) (d := 0) (f := (c75e4 s25 s29 s31)) (RowIs.updR (RowIs.upd RowIs.elems (s25.1.getD (Int.toNat s31) 0) rfl) (by omega) (s25.1.getD (Int.toNat s29) 0) rfl)) .nil) (.cons rfl (BLe.typed (RowIs.updR (RowIs.upd RowIs.elems (s25.1.getD (Int.toNat s31) 0) rfl) (by omega) (s25.1.getD (Int.toNat s29) 0) rfl)) .nil) ?_)
           refine Sq (RD hnt (nn 3 []) [] [(10,pI (w64 (s29 + 1)))] [] [] tv ?_)
           refine RD hnt (nn 3 []) [] [(11,pI (w64 (s31 - 1)))] [] [] tv ?_
           refine DW.done ?_
           show DW _ _ _ _ _
           exact jD ((c75e5 s25 s29 s31),(w64 (s29 + 1)),(w64 (s31 - 1))) hm Conv.eqK
        ·rcases bt (decide (s29 ≤ s31)) with h1113 | h1113
         ·replace hm := Ax h1113 hm
          obtain ⟨g1114,g1115,g1116,g1117,hm⟩ := go4 hm
          obtain ⟨r1118,hr1118,hm⟩ := bo hm
          refine RD hnt (nn 12 (o64 [] true r1118 :: .no :: pT :: [])) [] [(129,pB (!r1118))] [] [] (an3 h1113 (an g1114.1 (an g1114.2 (an h1113 (an g1115 (an3 h1113 (an g1116.1 (an g1116.2 (an h1113 (an g1117 (an h1113 (an (Dj (s25.1.getD (Int.toNat s31) 0) (s25.1.getD (Int.toNat p1) 0) r1118 hr1118) (an2 h1113 tv))))))))))))) ?_
          exact jD (!r1118) hm Conv.eqK
         ·replace hm := Ay h1113 hm
          refine RD hnt (nn 4 (sk 10 (pF :: []))) [] [(129,pB false)] [] [] (an5 h1113 (an6 h1113 tv)) ?_
          exact jD false hm Conv.eqK
      ·rcases bt (decide (s29 ≤ s25.2.2)) with h1082 | h1082
       ·replace hm := Ax h1082 hm
        obtain ⟨g1083,g1084,g1085,g1086,hm⟩ := go4 hm
        obtain ⟨r1087,hr1087,hm⟩ := bo hm
        refine RD hnt (nn 12 (o64 [] true r1087 :: pT :: [])) [] [(112,pB r1087)] [] [] (an3 h1082 (an g1083.1 (an g1083.2 (an h1082 (an g1084 (an3 h1082 (an g1085.1 (an g1085.2 (an h1082 (an g1086 (an h1082 (an (Dj (s25.1.getD (Int.toNat s29) 0) (s25.1.getD (Int.toNat p1) 0) r1087 hr1087) (an h1082 tv))))))))))))) ?_
        exact jD r1087 hm Conv.eqK
       ·replace hm := Ay h1082 hm
        refine RD hnt (nn 4 (sk 9 (pF :: []))) [] [(112,pB false)] [] [] (an4 h1082 (an6 h1082 tv)) ?_
        exact jD false hm Conv.eqK
   ·rcases bt (decide (s1 ≤ s17)) with h869 | h869
    ·replace hm := Ax h869 hm
     obtain ⟨g870,g871,g872,g873,hm⟩ := go4 hm
     obtain ⟨r874,hr874,hm⟩ := bo hm
     refine RD hnt (nn 12 (o64 [] true r874 :: .no :: pT :: [])) [] [(60,pB (!r874))] [] [] (an3 h869 (an g870.1 (an g870.2 (an h869 (an g871 (an3 h869 (an g872.1 (an g872.2 (an h869 (an g873 (an h869 (an (Dj ((Du p0 p1 p3).getD (Int.toNat s17) 0) ((Du p0 p1 p3).getD (Int.toNat p1) 0) r874 hr874) (an2 h869 tv))))))))))))) ?_
     exact jD (!r874) hm Conv.eqK
    ·replace hm := Ay h869 hm
     refine RD hnt (nn 4 (sk 10 (pF :: []))) [] [(60,pB false)] [] [] (an5 h869 (an6 h869 tv)) ?_
     exact jD false hm Conv.eqK
 ·rcases bt (decide (s1 ≤ (w64 (p2 - 1)))) with h582 | h582
  ·replace hm := Ax h582 hm
   obtain ⟨g583,g584,g585,g586,hm⟩ := go4 hm
   obtain ⟨r587,hr587,hm⟩ := bo hm
   refine RD hnt (nn 12 (o64 [] true r587 :: pT :: [])) [] [(43,pB r587)] [] [] (an3 h582 (an g583.1 (an g583.2 (an h582 (an g584 (an3 h582 (an g585.1 (an g585.2 (an h582 (an g586 (an h582 (an (Dj ((Du p0 p1 p3).getD (Int.toNat s1) 0) ((Du p0 p1 p3).getD (Int.toNat p1) 0) r587 hr587) (an h582 tv))))))))))))) ?_
   exact jD r587 hm Conv.eqK
  ·replace hm := Ay h582 hm
   refine RD hnt (nn 4 (sk 9 (pF :: []))) [] [(43,pB false)] [] [] (an4 h582 (an6 h582 tv)) ?_
   exact jD false hm Conv.eqK
abbrev o75 (ks : List Nat) (b : Bool) (RES : Int × Bool × (List Int)) (sm : List Nat := []) : Orc := .call 161 ks b (.p (.tup [vi RES.1,vb RES.2.1])) [roI RES.2.2] [] sm

theorem Xd (p0 : Int) (RES : Int) (hm : Hc p0 = some RES) : Spec Tryz.prog 191 [pI p0] [] (.p (vk .u64 RES)) [] [] := by
 unfold Hc at hm
 refine SO Tryz.func191 rfl rfl [(0,pI p0)] [] ?_
 intro cx hnt
 refine Sq (RK hnt (.no :: []) [(0,pI p0)] [] tv ?_)
 obtain ⟨r1,hr1,hm⟩ := bo hm
 obtain ⟨g2,hm⟩ := go1 hm
 refine Sq (RK hnt (nn 2 (o60 [] true r1 :: nn 2 [])) [(2,.p (vk .u64 (kshl .u64 1 r1)))] [] (an (AbQ (IntKind.u64.wrap p0) r1 hr1) (an g2 tv)) ?_)
 obtain rfl := sj hm
 exact DW.ret (Am [] [] (.p (vk .u64 (kshl .u64 1 r1))))
abbrev o77 (ks : List Nat) (b : Bool) (RES : Int) (sm : List Nat := []) : Orc := .call 191 ks b (.p (vk .u64 RES)) [] [] sm

theorem Yk (p0 : Int) (RES : Int × Int) (hm : Le p0 = some RES) : Spec Tryz.prog 192 [rr 0] [.box [.p (vk .u64 p0)]] (.p (vk .u64 RES.1)) [.box [.p (vk .u64 RES.2)]] [] := by
 unfold Le at hm
 refine SO Tryz.func192 rfl rfl [(0,rr 0)] [(0,bx [.p (vk .u64 p0)])] ?_
 intro cx hnt
 refine Sq (RD hnt (.no :: []) [] [] [] [] tv ?_)
 refine Sq (RK hnt (nn 10 []) [(0,rr 0)] [(0,bx [.p (vk .u64 (kxor .u64 p0 (kshl .u64 p0 13)))])] (an (by decide : (0 : Int) ≤ 13) tv) ?_)
 refine Sq (RK hnt (nn 10 []) [(0,rr 0)] [(0,bx [.p (vk .u64 (kxor .u64 (kxor .u64 p0 (kshl .u64 p0 13)) (kshr .u64 (kxor .u64 p0 (kshl .u64 p0 13)) 7)))])] (an (by decide : (0 : Int) ≤ 7) tv) ?_)
 refine Sq (RK hnt (nn 10 []) [(0,rr 0)] [(0,bx [.p (vk .u64 (kxor .u64 (kxor .u64 (kxor .u64 p0 (kshl .u64 p0 13)) (kshr .u64 (kxor .u64 p0 (kshl .u64 p0 13)) 7)) (kshl .u64 (kxor .u64 (kxor .u64 p0 (kshl .u64 p0 13)) (kshr .u64 (kxor .u64 p0 (kshl .u64 p0 13)) 7)) 17)))])] (an (by decide : (0 : Int) ≤ 17) tv) ?_)
 refine Sq (RD hnt (nn 4 []) [0] [(2,.p (vk .u64 (kxor .u64 (kxor .u64 (kxor .u64 p0 (kshl .u64 p0 13)) (kshr .u64 (kxor .u64 p0 (kshl .u64 p0 13)) 7)) (kshl .u64 (kxor .u64 (kxor .u64 p0 (kshl .u64 p0 13)) (kshr .u64 (kxor .u64 p0 (kshl .u64 p0 13)) 7)) 17))))] [] [] tv ?_)
 obtain rfl := sj hm
 exact DW.ret (Am [.box [.p (vk .u64 (kxor .u64 (kxor .u64 (kxor .u64 p0 (kshl .u64 p0 13)) (kshr .u64 (kxor .u64 p0 (kshl .u64 p0 13)) 7)) (kshl .u64 (kxor .u64 (kxor .u64 p0 (kshl .u64 p0 13)) (kshr .u64 (kxor .u64 p0 (kshl .u64 p0 13)) 7)) 17)))]] [] (.p (vk .u64 (kxor .u64 (kxor .u64 (kxor .u64 p0 (kshl .u64 p0 13)) (kshr .u64 (kxor .u64 p0 (kshl .u64 p0 13)) 7)) (kshl .u64 (kxor .u64 (kxor .u64 p0 (kshl .u64 p0 13)) (kshr .u64 (kxor .u64 p0 (kshl .u64 p0 13)) 7)) 17)))))
abbrev o78 (ks : List Nat) (b : Bool) (RES : Int × Int) (sm : List Nat := []) : Orc := .call 192 ks b (.p (vk .u64 RES.1)) [.box [.p (vk .u64 RES.2)]] [] sm

abbrev c76e1 (s1 : (List Int) × Int × Int) (p1 : Int) (y2 : Int) := (Bw (Bw (elI s1.1) (Int.toNat s1.2.2) [vi (s1.1.getD (Int.toNat (w64 (p1 + y2))) 0)]) (Int.toNat (w64 (p1 + y2))) (setRange ((Bw (elI s1.1) (Int.toNat s1.2.2) [vi (s1.1.getD (Int.toNat (w64 (p1 + y2))) 0)]) (Int.toNat (w64 (p1 + y2)))) 0 [vi (s1.1.getD (Int.toNat s1.2.2) 0)]))
abbrev c76e2 (s1 : (List Int) × Int × Int) (p1 : Int) (y2 : Int) := ((s1.1.set (Int.toNat s1.2.2) (s1.1.getD (Int.toNat (w64 (p1 + y2))) 0)).set (Int.toNat (w64 (p1 + y2))) (s1.1.getD (Int.toNat s1.2.2) 0))
abbrev c76e3 (r15 : Int × Int) (r2 : Int) := (w64 (kand .u64 r15.1 (IntKind.u64.wrap (r2 - 1))))
theorem Rf (p0 : List Int) (p1 : Int) (p2 : Int) (RES : List Int) (hm : Fc p0 p1 p2 = some RES) : Spec Tryz.prog 155 [ow 0 p0.length,pI p1,pI p2] [roI p0] (.p (.tup [])) [roI RES] [] := by
 unfold Fc at hm
 refine SO Tryz.func155 rfl rfl [(0,ow 0 p0.length),(1,pI p1),(2,pI p2)] [(0,ob0 (roI p0))] ?_
 intro cx hnt
 refine Sq (RD hnt (nn 4 []) [2] [(6,pI (w64 (p2 - p1)))] [] [] tv ?_)
 refine Sq (RD hnt (nn 2 []) [] [(15,pB (decide ((w64 (p2 - p1)) ≥ 8)))] [] [] tv ?_)
 refine Aq hm ?_ ?_
 ·intro h1 hm
  refine Sq (RD hnt (nn 4 []) [15] [(7,rr 1056)] [] [(1056,bx [.p (vk .u64 (IntKind.u64.wrap (w64 (p2 - p1))))])] tv ?_)
  obtain ⟨r2,hr2,hm⟩ := bo hm
  refine Sq (RD hnt (.no :: o77 [] true r2 :: .no :: []) [] [(8,.p (vk .u64 r2))] [] [] (an (Xd (w64 (p2 - p1)) r2 hr2) tv) ?_)
  refine Sq (RD hnt (nn 7 []) [] [(9,pI (w64 ((w64 (p1 + (w64 ((w64 (Int.tdiv (w64 (p2 - p1)) 4)) * 2)))) - 1)))] [] [] (an (by decide : (4 : Int) ≠ 0) tv) ?_)
  refine Bk ?_
  refine DW.whileO (fun (s1 : (List Int) × Int × Int) => Af [(0,ow 0 s1.1.length),(1,pI p1),(6,pI (w64 (p2 - p1))),(7,rr 1056),(8,.p (vk .u64 r2)),(9,pI s1.2.2)] [(0,ob0 (roI s1.1)),(1056,bx [.p (vk .u64 s1.2.1)])]) hm Conv.eqK ?_
  intro s1 n1 hm
  unfold Ik at hm
  refine Sq (Sq (RD hnt (nn 8 []) [] [(33,pB (decide (s1.2.2 ≤ (w64 ((w64 (p1 + (w64 ((w64 (Int.tdiv (w64 (p2 - p1)) 4)) * 2)))) + 1)))))] [] [] (an (by decide : (4 : Int) ≠ 0) tv) ?_))
  refine Aq hm ?_ ?_
  ·intro h14 hm
   refine Sk ?_
   refine Sq (Bk ?_)
   obtain ⟨r15,hr15,hm⟩ := bo hm
   refine Sq (RD hnt (o78 [1056] true r15 :: nn 5 []) [33] [(10,pI (c76e3 r15 r2))] [] [(1056,bx [.p (vk .u64 r15.2)])] (an (Yk s1.2.1 r15 hr15) (an tv tv)) ?_)
   refine Sq (Sq (RD hnt (nn 3 []) [] [(43,pB (decide ((c76e3 r15 r2) ≥ (w64 (p2 - p1)))))] [] [] tv ?_))
   refine Jn (ι := Int) (fun (y2 : Int) => Af [(0,ow 0 s1.1.length),(1,pI p1),(6,pI (w64 (p2 - p1))),(7,rr 1056),(8,.p (vk .u64 r2)),(9,pI s1.2.2),(10,pI y2)] [(0,ob0 (roI s1.1)),(1056,bx [.p (vk .u64 r15.2)])]) (fun y2 => (Dt p1 s1 n1 r15) y2 = some RES) ?_ ?_
   ·intro y2 hm
    unfold Dt at hm
    obtain ⟨g17,g18,g19,g20,hm⟩ := go4 hm
    obtain ⟨g21,g22,g23,g24,hm⟩ := go4 hm
    refine RN hnt (nn 20 []) [(0,ow 0 (c76e2 s1 p1 y2).length),(1,pI p1),(6,pI (w64 (p2 - p1))),(7,rr 1056),(8,.p (vk .u64 r2)),(9,pI s1.2.2)] [(0,ob0 (roI (c76e2 s1 p1 y2))),(1056,bx [.p (vk .u64 r15.2)])] [(0,ow 0 s1.1.length)] [(0,.row 1 s1.1.length (c76e1 s1 p1 y2))] (an g17.1 (an g17.2 (an g18 (an g19.1 (an g19.2 (an g20 (an g21.1 (an g21.2 (an g22 (an g23.1 (an g23.2 (an g24 tv)))))))))))) (by kernel_rfl) (.cons rfl (MLe.ownLen (enc := Bi) (d := 0) (f := (c76e1 s1 p1 y2)) (RowIs.updR (RowIs.upd RowIs.elems (s1.1.getD (Int.toNat (w64 (p1 + y2))) 0) rfl) (by omega) (s1.1.getD (Int.toNat s1.2.2) 0) rfl)) .nil) (.cons rfl (BLe.typed (RowIs.updR (RowIs.upd RowIs.elems (s1.1.getD (Int.toNat (w64 (p1 + y2))) 0) rfl) (by omega) (s1.1.getD (Int.toNat s1.2.2) 0) rfl)) .nil) ?_
    refine DW.done ?_
    show DW _ _ _ _ _
    refine RD hnt (nn 3 []) [] [(9,pI (w64 (s1.2.2 + 1)))] [] [] tv ?_
    exact jD ((c76e2 s1 p1 y2),r15.2,(w64 (s1.2.2 + 1))) hm Conv.eqK
   ·refine Aq hm ?_ ?_
    ·intro h16 hm
     refine RD hnt (nn 4 []) [43] [(10,pI (w64 ((c76e3 r15 r2) - (w64 (p2 - p1)))))] [] [] tv ?_
     exact jD (w64 ((c76e3 r15 r2) - (w64 (p2 - p1)))) hm Conv.eqK
    ·intro h16 hm
     refine Sk ?_
     exact jD (c76e3 r15 r2) hm Conv.t0
  ·intro h14 hm
   refine DW.exit ?_
   refine As ?_
   refine Bb ?_
   refine An ?_
   show DW _ _ _ _ _
   refine DW.done ?_
   obtain rfl := sj hm
   exact endK [roI s1.1] [] (.p (.tup []))
 ·intro h1 hm
  refine Sk ?_
  refine DW.done ?_
  obtain rfl := sj hm
  exact endK [roI p0] [] (.p (.tup []))
abbrev o76 (ks : List Nat) (b : Bool) (RES : List Int) (sm : List Nat := []) : Orc := .call 155 ks b (.p (.tup [])) [roI RES] [] sm

abbrev Vh (s1 : (List Int) × Int × Int × Int × Bool × Bool) : Nat × MV := (10,pI (w64 (s1.2.2.1 - s1.2.1)))
abbrev AaT (s1 : (List Int) × Int × Int × Int × Bool × Bool) := (w64 (Int.tdiv (w64 (s1.2.2.1 - s1.2.1)) 8))
theorem Tx (rec : (List Int) → Int → Int → Int → Option (List Int)) (ih : ∀ (p0 : List Int) (p1 : Int) (p2 : Int) (p3 : Int) (RES : List Int),rec p0 p1 p2 p3 = some RES → Spec Tryz.prog 105 [ow 0 p0.length,pI p1,pI p2,pI p3] [roI p0] (.p (.tup [])) [roI RES] []) (p0 : List Int) (p1 : Int) (p2 : Int) (p3 : Int) (RES : List Int) (hm : Io rec p0 p1 p2 p3 = some RES) : Spec Tryz.prog 105 [ow 0 p0.length,pI p1,pI p2,pI p3] [roI p0] (.p (.tup [])) [roI RES] [] := by
 unfold Io at hm
 refine SO Tryz.func105 rfl rfl [(0,ow 0 p0.length),(1,pI p1),(2,pI p2),(3,pI p3)] [(0,ob0 (roI p0))] ?_
 intro cx hnt
 refine Sq (RD hnt (.no :: []) [] [(8,pB true)] [] [] tv ?_)
 refine Sq (RD hnt (.no :: []) [] [(9,pB true)] [] [] tv ?_)
 refine Bk ?_
 refine DW.whileO (fun (s1 : (List Int) × Int × Int × Int × Bool × Bool) => Af [(0,ow 0 s1.1.length),(1,pI s1.2.1),(2,pI s1.2.2.1),(3,pI s1.2.2.2.1),(8,pB s1.2.2.2.2.1),(9,pB s1.2.2.2.2.2)] [(0,ob0 (roI s1.1))]) hm Conv.eqK ?_
 intro s1 n1 hm
 unfold Ki at hm
 refine Bk ?_
 refine Sq (RD hnt (nn 4 []) [] [(Vh s1)] [] [] tv ?_)
 refine Sq (Sq (RD hnt (nn 2 []) [] [(23,pB (decide ((w64 (s1.2.2.1 - s1.2.1)) ≤ 12)))] [] [] tv ?_))
 refine Aq hm ?_ ?_
 ·intro h66 hm
  obtain ⟨r67,hr67,hm⟩ := bo hm
  obtain ⟨g68,hm⟩ := go1 hm
  refine Sq (RK hnt (nn 3 (o63 [0] true r67 :: [])) [] [(0,ob0 (roI r67))] (an (Rk s1.1 s1.2.1 s1.2.2.1 r67 hr67) (an (⟨rfl,g68⟩ : Body.same (roI s1.1) (roI r67)) tv)) ?_)
  obtain rfl := sj hm
  exact DW.ret (Am [roI r67] [] (.p (.tup [])))
 ·intro h66 hm
  refine Sk ?_
  refine Sq (Sq (RD hnt (nn 2 []) [23] [(29,pB (s1.2.2.2.1 == 0))] [] [] tv ?_))
  refine Aq hm ?_ ?_
  ·intro h69 hm
   obtain ⟨r70,hr70,hm⟩ := bo hm
   obtain ⟨g71,hm⟩ := go1 hm
   refine Sq (RK hnt (nn 3 (o66 [0] true r70 :: [])) [] [(0,ob0 (roI r70))] (an (Tw s1.1 s1.2.1 s1.2.2.1 r70 hr70) (an (⟨rfl,g71⟩ : Body.same (roI s1.1) (roI r70)) tv)) ?_)
   obtain rfl := sj hm
   exact DW.ret (Am [roI r70] [] (.p (.tup [])))
  ·intro h69 hm
   refine Sk ?_
   refine Sq (Sq (RD hnt (nn 2 []) [29] [(35,pB (!s1.2.2.2.2.1))] [] [] tv ?_))
   refine Jn (ι := (List Int) × Int) (fun (y8 : (List Int) × Int) => Af [(0,ow 0 y8.1.length),(1,pI s1.2.1),(2,pI s1.2.2.1),(3,pI y8.2),(8,pB s1.2.2.2.2.1),(9,pB s1.2.2.2.2.2),(Vh s1)] [(0,ob0 (roI y8.1))]) (fun y8 => (Ez rec s1 n1) y8 = some RES) ?_ ?_
   ·intro y8 hm
    unfold Ez at hm
    obtain ⟨r75,hr75,hm⟩ := bo hm
    refine Sq (RD hnt (nn 3 (o68 [] true r75 :: nn 5 [])) [] [(11,pI r75.1),(12,pI r75.2)] [] [] (an (Ry y8.1 s1.2.1 s1.2.2.1 r75 hr75) tv) ?_)
    refine Sq (Sq (RD hnt (nn 2 []) [] [(50,pB (r75.2 == 2))] [] [] tv ?_))
    refine Jn (ι := (List Int) × Int × Int) (fun (y9 : (List Int) × Int × Int) => Af [(0,ow 0 y9.1.length),(1,pI s1.2.1),(2,pI s1.2.2.1),(3,pI y8.2),(8,pB s1.2.2.2.2.1),(9,pB s1.2.2.2.2.2),(Vh s1),(11,pI y9.2.1),(12,pI y9.2.2)] [(0,ob0 (roI y9.1))]) (fun y9 => (Ew rec s1 n1 y8) y9 = some RES) ?_ ?_
    ·intro y9 hm
     unfold Ew at hm
     refine Sq (Sq (DW.regJ (sl2 := [(0,ow 0 y9.1.length),(1,pI s1.2.1),(2,pI s1.2.2.1),(3,pI y8.2),(8,pB s1.2.2.2.2.1),(9,pB s1.2.2.2.2.2),(Vh s1),(11,pI y9.2.1),(68,pB ((s1.2.2.2.2.1 && s1.2.2.2.2.2) && (y9.2.2 == 1)))]) (ob2 := [(0,ob0 (roI y9.1))]) ?_ ?_))
     ·rcases bt s1.2.2.2.2.1 with h79 | h79
      ·rcases bt s1.2.2.2.2.2 with h80 | h80
       ·exact RT hnt (nn 3 (pT :: nn 3 (pT :: []))) [(68,pB (y9.2.2 == 1))] (an2 h79 (an3 h80 tv)) (by kernel_rfl) (.cons rfl (.of_eq (by rw [h79,h80]; try rfl)) .nil)
       ·exact RT hnt (nn 3 (pT :: .no :: sk 2 (pF :: []))) [(68,pB false)] (an2 h79 (an3 h80 tv)) (by kernel_rfl) (.cons rfl (.of_eq (by rw [h79,h80]; try rfl)) .nil)
      ·exact RT hnt (nn 2 (.skip :: pF :: .no :: sk 2 (pF :: []))) [(68,pB false)] (an2 h79 (an3 ff tv)) (by kernel_rfl) (.cons rfl (.of_eq (by rw [h79]; try rfl)) .nil)
     ·refine Jn (ι := List Int) (fun (y10 : List Int) => Af [(0,ow 0 y10.length),(1,pI s1.2.1),(2,pI s1.2.2.1),(3,pI y8.2),(8,pB s1.2.2.2.2.1),(9,pB s1.2.2.2.2.2),(Vh s1),(11,pI y9.2.1)] [(0,ob0 (roI y10))]) (fun y10 => (Ep rec s1 n1 y8 y9) y10 = some RES) ?_ ?_
      ·intro y10 hm
       unfold Ep at hm
       refine Sq (Sq ?_)
       refine Jn (ι := Bool) (fun (y11 : Bool) => Af [(0,ow 0 y10.length),(1,pI s1.2.1),(2,pI s1.2.2.1),(3,pI y8.2),(8,pB s1.2.2.2.2.1),(9,pB s1.2.2.2.2.2),(Vh s1),(11,pI y9.2.1),(87,pB y11)] [(0,ob0 (roI y10))]) (fun y11 => (En rec s1 n1 y8 y9 y10) y11 = some RES) ?_ ?_
       ·intro y11 hm
        unfold En at hm
        refine Aq hm ?_ ?_
        ·intro h91 hm
         obtain ⟨r92,hr92,hm⟩ := bo hm
         obtain ⟨g93,hm⟩ := go1 hm
         refine Sq (RN hnt (nn 4 (o74 [0] true r92 :: .no :: [])) [(0,ow 0 r92.2.length),(2,pI s1.2.2.1),(3,pI y8.2),(8,pB s1.2.2.2.2.1),(9,pB s1.2.2.2.2.2),(13,pI r92.1)] [(0,ob0 (roI r92.2))] [(0,ow 0 y10.length)] [] (an (Qx y10 s1.2.1 s1.2.2.1 y9.2.1 r92 hr92) (an (⟨rfl,g93⟩ : Body.same (roI y10) (roI r92.2)) tv)) (by kernel_rfl) (.cons rfl (MLe.of_eq (congrArg (MV.own 0 0 0) g93)) .nil) .nil ?_)
         refine Sq (RD hnt (nn 2 []) [13] [(1,pI r92.1)] [] [] tv ?_)
         refine DW.exit ?_
         refine An ?_
         show DW _ _ _ _ _
         exact jD (r92.2,r92.1,s1.2.2.1,y8.2,s1.2.2.2.2.1,s1.2.2.2.2.2) hm Conv.eqK
        ·intro h91 hm
         refine Sk ?_
         obtain ⟨r94,hr94,hm⟩ := bo hm
         obtain ⟨g95,hm⟩ := go1 hm
         refine Sq (RN hnt (nn 4 (o75 [0] true r94 :: nn 5 [])) [(0,ow 0 r94.2.2.length),(1,pI s1.2.1),(2,pI s1.2.2.1),(3,pI y8.2),(Vh s1),(14,pI r94.1),(15,pB r94.2.1)] [(0,ob0 (roI r94.2.2))] [(0,ow 0 y10.length)] [] (an (Tl y10 s1.2.1 s1.2.2.1 y9.2.1 r94 hr94) (an (⟨rfl,g95⟩ : Body.same (roI y10) (roI r94.2.2)) tv)) (by kernel_rfl) (.cons rfl (MLe.of_eq (congrArg (MV.own 0 0 0) g95)) .nil) .nil ?_)
         refine Sq (RD hnt (nn 2 []) [15] [(9,pB r94.2.1)] [] [] tv ?_)
         refine Sq (RD hnt (nn 8 []) [] [(16,pI (w64 (r94.1 - s1.2.1))),(17,pI (w64 (s1.2.2.1 - r94.1)))] [] [] tv ?_)
         refine Sq (RD hnt (nn 3 []) [10] [(18,pI (AaT s1))] [] [] (an (by decide : (8 : Int) ≠ 0) tv) ?_)
         refine Sq (RD hnt (nn 3 []) [] [(113,pB (decide ((w64 (r94.1 - s1.2.1)) < (w64 (s1.2.2.1 - r94.1)))))] [] [] tv ?_)
         refine Aq hm ?_ ?_
         ·intro h96 hm
          refine Sq (RD hnt (nn 4 []) [16,17,18,113] [(8,pB (decide ((w64 (r94.1 - s1.2.1)) ≥ (AaT s1))))] [] [] tv ?_)
          obtain ⟨r97,hr97,hm⟩ := bo hm
          obtain ⟨g98,hm⟩ := go1 hm
          refine Sq (RN hnt (nn 4 (.call 105 [0] true (.p (.tup [])) [roI r97] [] [] :: [])) [(0,ow 0 r97.length),(2,pI s1.2.2.1),(3,pI y8.2),(8,pB (decide ((w64 (r94.1 - s1.2.1)) ≥ (AaT s1)))),(9,pB r94.2.1),(14,pI r94.1)] [(0,ob0 (roI r97))] [(0,ow 0 r94.2.2.length)] [] (an (ih r94.2.2 s1.2.1 r94.1 y8.2 r97 hr97) (an (⟨rfl,g98⟩ : Body.same (roI r94.2.2) (roI r97)) tv)) (by kernel_rfl) (.cons rfl (MLe.of_eq (congrArg (MV.own 0 0 0) g98)) .nil) .nil ?_)
          refine RD hnt (nn 3 []) [14] [(1,pI (w64 (r94.1 + 1)))] [] [] tv ?_
          refine DW.done ?_
          show DW _ _ _ _ _
          exact jD (r97,(w64 (r94.1 + 1)),s1.2.2.1,y8.2,(decide ((w64 (r94.1 - s1.2.1)) ≥ (AaT s1))),r94.2.1) hm Conv.eqK
         ·intro h96 hm
          refine Sq (RD hnt (nn 4 []) [16,17,18,113] [(8,pB (decide ((w64 (s1.2.2.1 - r94.1)) ≥ (AaT s1))))] [] [] tv ?_)
          obtain ⟨r99,hr99,hm⟩ := bo hm
          obtain ⟨g100,hm⟩ := go1 hm
          refine Sq (RN hnt (nn 5 (.call 105 [0] true (.p (.tup [])) [roI r99] [] [] :: [])) [(0,ow 0 r99.length),(1,pI s1.2.1),(3,pI y8.2),(8,pB (decide ((w64 (s1.2.2.1 - r94.1)) ≥ (AaT s1)))),(9,pB r94.2.1),(14,pI r94.1)] [(0,ob0 (roI r99))] [(0,ow 0 r94.2.2.length)] [] (an (ih r94.2.2 (w64 (r94.1 + 1)) s1.2.2.1 y8.2 r99 hr99) (an (⟨rfl,g100⟩ : Body.same (roI r94.2.2) (roI r99)) tv)) (by kernel_rfl) (.cons rfl (MLe.of_eq (congrArg (MV.own 0 0 0) g100)) .nil) .nil ?_)
          refine RD hnt (nn 2 []) [14] [(2,pI r94.1)] [] [] tv ?_
          refine DW.done ?_
          show DW _ _ _ _ _
          exact jD (r99,s1.2.1,r94.1,y8.2,(decide ((w64 (s1.2.2.1 - r94.1)) ≥ (AaT s1))),r94.2.1) hm Conv.eqK
       ·rcases bt (decide (s1.2.1 > 0)) with h85 | h85
        ·replace hm := Ax h85 hm
         obtain ⟨g86,g87,g88,g89,hm⟩ := go4 hm
         obtain ⟨r90,hr90,hm⟩ := bo hm
         refine RD hnt (nn 12 (o64 [] true r90 :: .no :: pT :: [])) [] [(87,pB (!r90))] [] [] (an4 h85 (an g86.1 (an g86.2 (an h85 (an g87 (an3 h85 (an g88.1 (an g88.2 (an h85 (an g89 (an h85 (an (Dj (y10.getD (Int.toNat (w64 (s1.2.1 - 1))) 0) (y10.getD (Int.toNat y9.2.1) 0) r90 hr90) (an2 h85 tv))))))))))))) ?_
         exact jD (!r90) hm Conv.eqK
        ·replace hm := Ay h85 hm
         refine RD hnt (nn 3 (sk 11 (pF :: []))) [] [(87,pB false)] [] [] (an6 h85 (an6 h85 tv)) ?_
         exact jD false hm Conv.eqK
      ·refine Aq hm ?_ ?_
       ·intro h81 hm
        obtain ⟨r82,hr82,hm⟩ := bo hm
        obtain ⟨g83,hm⟩ := go1 hm
        refine Sq (RN hnt (nn 3 (o73 [0] true r82 :: [])) [(0,ow 0 r82.2.length),(1,pI s1.2.1),(2,pI s1.2.2.1),(3,pI y8.2),(8,pB s1.2.2.2.2.1),(9,pB s1.2.2.2.2.2),(Vh s1),(11,pI y9.2.1),(72,pB r82.1)] [(0,ob0 (roI r82.2))] [(0,ow 0 y9.1.length)] [] (an (Nn y9.1 s1.2.1 s1.2.2.1 r82 hr82) (an (⟨rfl,g83⟩ : Body.same (roI y9.1) (roI r82.2)) tv)) (by kernel_rfl) (.cons rfl (MLe.of_eq (congrArg (MV.own 0 0 0) g83)) .nil) .nil ?_)
        refine Aq hm ?_ ?_
        ·intro h84 hm
         obtain rfl := sj hm
         exact DW.ret (Am [roI r82.2] [] (.p (.tup [])))
        ·intro h84 hm
         refine Sk ?_
         exact jD r82.2 hm Conv.t0
       ·intro h81 hm
        refine Sk ?_
        exact jD y9.1 hm Conv.t0
    ·refine Aq hm ?_ ?_
     ·intro h76 hm
      obtain ⟨r77,hr77,hm⟩ := bo hm
      obtain ⟨g78,hm⟩ := go1 hm
      refine Sq (RN hnt (nn 3 (o72 [0] true r77 :: [])) [(0,ow 0 r77.length),(1,pI s1.2.1),(2,pI s1.2.2.1),(3,pI y8.2),(8,pB s1.2.2.2.2.1),(9,pB s1.2.2.2.2.2),(Vh s1),(11,pI r75.1)] [(0,ob0 (roI r77))] [(0,ow 0 y8.1.length)] [] (an (Rq y8.1 s1.2.1 s1.2.2.1 r77 hr77) (an (⟨rfl,g78⟩ : Body.same (roI y8.1) (roI r77)) tv)) (by kernel_rfl) (.cons rfl (MLe.of_eq (congrArg (MV.own 0 0 0) g78)) .nil) .nil ?_)
      refine Sq (RD hnt (nn 7 []) [] [(11,pI (w64 ((w64 (s1.2.2.1 - 1)) - (w64 (r75.1 - s1.2.1)))))] [] [] tv ?_)
      refine RD hnt (.no :: []) [] [(12,pI 1)] [] [] tv ?_
      exact jD (r77,(w64 ((w64 (s1.2.2.1 - 1)) - (w64 (r75.1 - s1.2.1)))),1) hm Conv.eqK
     ·intro h76 hm
      refine Sk ?_
      exact jD (y8.1,r75.1,r75.2) hm Conv.t0
   ·refine Aq hm ?_ ?_
    ·intro h72 hm
     obtain ⟨r73,hr73,hm⟩ := bo hm
     obtain ⟨g74,hm⟩ := go1 hm
     refine Sq (RN hnt (nn 3 (o76 [0] true r73 :: [])) [(0,ow 0 r73.length),(1,pI s1.2.1),(2,pI s1.2.2.1),(3,pI s1.2.2.2.1),(8,pB s1.2.2.2.2.1),(9,pB s1.2.2.2.2.2),(Vh s1)] [(0,ob0 (roI r73))] [(0,ow 0 s1.1.length)] [] (an (Rf s1.1 s1.2.1 s1.2.2.1 r73 hr73) (an (⟨rfl,g74⟩ : Body.same (roI s1.1) (roI r73)) tv)) (by kernel_rfl) (.cons rfl (MLe.of_eq (congrArg (MV.own 0 0 0) g74)) .nil) .nil ?_)
     refine RD hnt (nn 3 []) [] [(3,pI (w64 (s1.2.2.2.1 - 1)))] [] [] tv ?_
     exact jD (r73,(w64 (s1.2.2.2.1 - 1))) hm Conv.eqK
    ·intro h72 hm
     refine Sk ?_
     exact jD (s1.1,s1.2.2.2.1) hm Conv.t0
theorem Mr : ∀ (n : Nat) (p0 : List Int) (p1 : Int) (p2 : Int) (p3 : Int) (RES : List Int),Ch n p0 p1 p2 p3 = some RES → Spec Tryz.prog 105 [ow 0 p0.length,pI p1,pI p2,pI p3] [roI p0] (.p (.tup [])) [roI RES] []
  | 0,p0,p1,p2,p3,RES,hm => by simp [Ch] at hm
  | n + 1,p0,p1,p2,p3,RES,hm => Tx (Ch n) (Mr n) p0 p1 p2 p3 RES hm
theorem Ur (p0 : List Int) (p1 : Int) (p2 : Int) (p3 : Int) (RES : List Int) (hm : Ld p0 p1 p2 p3 = some RES) : Spec Tryz.prog 105 [ow 0 p0.length,pI p1,pI p2,pI p3] [roI p0] (.p (.tup [])) [roI RES] [] := Mr Fg p0 p1 p2 p3 RES hm
abbrev o62 (ks : List Nat) (b : Bool) (RES : List Int) (sm : List Nat := []) : Orc := .call 105 ks b (.p (.tup [])) [roI RES] [] sm

theorem Ut (p0 : List Int) (RES : List Int) (hm : Hz p0 = some RES) : Spec Tryz.prog 52 [ow 0 p0.length] [roI p0] (.p (.tup [])) [roI RES] [] := by
 unfold Hz at hm
 refine SO Tryz.func52 rfl rfl [(0,ow 0 p0.length)] [(0,ob0 (roI p0))] ?_
 intro cx hnt
 refine Sq (RD hnt (nn 3 []) [] [(2,pI ((p0.length : Nat) : Int))] [] [] tv ?_)
 obtain ⟨r1,hr1,hm⟩ := bo hm
 obtain ⟨r2,hr2,hm⟩ := bo hm
 obtain ⟨g3,hm⟩ := go1 hm
 refine RK hnt (nn 4 (o60 [] true r1 :: o62 [0] true r2 :: [])) [] [(0,ob0 (roI r2))] (an (AbQ (IntKind.u64.wrap ((p0.length : Nat) : Int)) r1 hr1) (an (Ur p0 0 ((p0.length : Nat) : Int) r1 r2 hr2) (an (⟨rfl,g3⟩ : Body.same (roI p0) (roI r2)) tv))) ?_
 refine DW.done ?_
 obtain rfl := sj hm
 exact endK [roI r2] [] (.p (.tup []))
abbrev o59 (ks : List Nat) (b : Bool) (RES : List Int) (sm : List Nat := []) : Orc := .call 52 ks b (.p (.tup [])) [roI RES] [] sm

abbrev Zr (s4 : (List Int) × Int) (k1 : Int) (k4 : Int) := (s4.1.getD (Uh (Int.toNat k1) (Int.toNat k4)) 0)
abbrev c79e2 (k1 : Int) (p0 : List Int) : Nat × MV := (4,.own 0 0 (Int.toNat k1) (Gm p0.length (Int.toNat k1)))
abbrev c79e3 (s4 : (List Int) × Int) := (Iz s4.1 (Int.toNat s4.2) (Gm s4.1.length (Int.toNat s4.2)) 0)
theorem Aad (p0 : List Int) (RES : Nat × (List Int)) (hm : It p0 = some RES) : Spec Tryz.prog 132 [ow 0 p0.length] [roI p0] (ow 0 RES.1) [roI RES.2] [] := by
 unfold It at hm
 refine SO Tryz.func132 rfl rfl [(0,ow 0 p0.length)] [(0,ob0 (roI p0))] ?_
 intro cx hnt
 refine Sq (RD hnt (.no :: []) [] [] [] [] tv ?_)
 refine Sq (Sq (RD hnt (nn 3 []) [] [(8,pB (decide (((p0.length : Nat) : Int) < 2)))] [] [] tv ?_))
 refine Aq hm ?_ ?_
 ·intro h1 hm
  refine Sq (RK hnt (nn 2 []) [(2,ow 0 p0.length)] [(0,ob0 (roI p0))] tv ?_)
  obtain rfl := sj hm
  exact DW.ret (Am [roI p0] [] (ow 0 p0.length))
 ·intro h1 hm
  refine Sk ?_
  refine Sq (Sq (RD hnt (.no :: []) [8] [(3,pI 1)] [] [] tv ?_))
  refine Bk ?_
  obtain ⟨hc1,hm⟩ := go1 hm
  refine DW.forO (fun (k1 : Int) (s1 : Unit) => Af [(0,ow 0 p0.length),(3,pI k1)] [(0,ob0 (roI p0))]) (lo := 1) (hi := ((p0.length : Nat) : Int)) hm Conv.eqK ?_
  intro k1 s1 n1 hk1 hs1 he1
  refine Sq (Sq (RD hnt (nn 4 []) [] [(13,pB (decide (k1 < ((p0.length : Nat) : Int))))] [] [] tv ?_))
  refine Eg (decide (k1 < ((p0.length : Nat) : Int))) ?_ ?_
  ·intro h94
   have hlt1 : k1 < ((p0.length : Nat) : Int) := by have := of_decide_eq_true h94; omega
   have hm := hs1 hlt1
   unfold Oj at hm
   refine Sk ?_
   refine Sq (Bk ?_)
   obtain ⟨g95,g96,g97,g98,hm⟩ := go4 hm
   refine Sq (RD hnt (nn 10 []) [13] [(25,pB ((p0.getD (Int.toNat k1) 0) == (p0.getD (Int.toNat (w64 (k1 - 1))) 0)))] [] [] (an g95.1 (an g95.2 (an g96 (an g97.1 (an g97.2 (an g98 tv)))))) ?_)
   refine Aq hm ?_ ?_
   ·intro h99 hm
    obtain ⟨g100,hm⟩ := go1 hm
    refine Sq (RD hnt (nn 4 []) [25] [(c79e2 k1 p0)] [] [] (an (by omega : (0 : Int) ≤ k1) (an (by omega : k1 ≤ ((p0.length : Nat) : Int)) (an (by omega : ((p0.length : Nat) : Int) ≤ ((p0.length : Nat) : Int)) tv))) ?_)
    refine Sq (Sq (RD hnt (.no :: []) [] [(5,pI 1)] [] [] tv ?_))
    refine Bk ?_
    obtain ⟨hc4,hm⟩ := go1 hm
    refine DW.forO (fun (k4 : Int) (s4 : (List Int) × Int) => Af [(0,ow 0 s4.1.length),(3,pI s4.2),(c79e2 k1 p0),(5,pI k4)] [(0,ob0 (roI s4.1))]) (lo := 1) (hi := (((Gm p0.length (Int.toNat k1)) : Nat) : Int)) hm Conv.eqK ?_
    intro k4 s4 n4 hk4 hs4 he4
    refine Sq (Sq (RD hnt (nn 4 []) [] [(32,pB (decide (k4 < (((Gm p0.length (Int.toNat k1)) : Nat) : Int))))] [] [] tv ?_))
    refine Eg (decide (k4 < (((Gm p0.length (Int.toNat k1)) : Nat) : Int))) ?_ ?_
    ·intro h127
     have hlt4 : k4 < (((Gm p0.length (Int.toNat k1)) : Nat) : Int) := by have := of_decide_eq_true h127; omega
     have hm := hs4 hlt4
     unfold Oy at hm
     refine Sk ?_
     refine Sq ?_
     refine Jn (ι := (List Int) × Int) (fun (y9 : (List Int) × Int) => Af [(0,ow 0 y9.1.length),(3,pI y9.2),(c79e2 k1 p0),(5,pI k4)] [(0,ob0 (roI y9.1))]) (fun y9 => (Lf n4) y9 = some RES) ?_ ?_
     ·intro y9 hm
      unfold Lf at hm
      refine RD hnt (nn 3 []) [] [(5,pI (w64 (k4 + 1)))] [] [] tv ?_
      exact jD (y9.1,y9.2) ⟨hlt4,hm⟩ (Conv.tp [(5,pI (w64 (k4 + 1)))] [] (by kernel_rfl) (.cons rfl (.of_eq (congrArg pI (Qy (lo := 1) (hi := (((Gm p0.length (Int.toNat k1)) : Nat) : Int)) (by omega) hk4 hlt4 (by omega)))) .nil) .nil)
     ·refine Bk ?_
      obtain ⟨g128,g129,g130,g131,hm⟩ := go4 hm
      refine Sq (RD hnt (nn 10 []) [32] [(44,pB ((Zr s4 k1 k4) != (s4.1.getD (Uh (Int.toNat k1) (Int.toNat (w64 (k4 - 1)))) 0)))] [] [] (an g128.1 (an g128.2 (an g129 (an g130.1 (an g130.2 (an g131 tv)))))) ?_)
      refine Aq hm ?_ ?_
      ·intro h132 hm
       obtain ⟨g133,g134,g135,g136,hm⟩ := go4 hm
       refine Sq (RN hnt (nn 8 []) [(0,ow 0 (s4.1.set (Int.toNat s4.2) (Zr s4 k1 k4)).length),(3,pI s4.2),(c79e2 k1 p0),(5,pI k4)] [(0,ob0 (roI (s4.1.set (Int.toNat s4.2) (Zr s4 k1 k4))))] [(0,ow 0 s4.1.length)] [(0,.row 1 s4.1.length (Bw (elI s4.1) (Int.toNat s4.2) [vi (Zr s4 k1 k4)]))] (an g133.1 (an g133.2 (an g134 (an g135.1 (an g135.2 (an g136 tv)))))) (by kernel_rfl) (.cons rfl (MLe.ownLen (enc := Bi) (d := 0) (f := (Bw (elI s4.1) (Int.toNat s4.2) [vi (Zr s4 k1 k4)])) (RowIs.upd RowIs.elems (Zr s4 k1 k4) rfl)) .nil) (.cons rfl (BLe.typed (RowIs.upd RowIs.elems (Zr s4 k1 k4) rfl)) .nil) ?_)
       refine RD hnt (nn 3 []) [] [(3,pI (w64 (s4.2 + 1)))] [] [] tv ?_
       exact bD ((s4.1.set (Int.toNat s4.2) (Zr s4 k1 k4)),(w64 (s4.2 + 1))) hm Conv.eqK
      ·intro h132 hm
       refine Sk ?_
       exact bD (s4.1,s4.2) hm Conv.t0
    ·intro h127
     have hge4 : ¬ k4 < (((Gm p0.length (Int.toNat k1)) : Nat) : Int) := by have := of_decide_eq_false h127; omega
     have hm := he4 hge4
     unfold Ot at hm
     refine DW.exit ?_
     refine As ?_
     refine Bb ?_
     refine An ?_
     show DW _ _ _ _ _
     obtain ⟨g137,g138,hm⟩ := go2 hm
     refine Sq (RN hnt (nn 4 []) [(0,ow 0 (c79e3 s4).length),(3,pI s4.2)] [(0,ob0 (roI (c79e3 s4)))] [(0,ow 0 s4.1.length)] [(0,.row 1 s4.1.length (Lg (elI s4.1) (Int.toNat s4.2) (Gm s4.1.length (Int.toNat s4.2)) (fun _ => [vi 0])))] (an (by omega : (0 : Int) ≤ s4.2) (an (by omega : s4.2 ≤ ((s4.1.length : Nat) : Int)) (an (by omega : ((s4.1.length : Nat) : Int) ≤ ((s4.1.length : Nat) : Int)) (an g138 tv)))) (by kernel_rfl) (.cons rfl (MLe.ownLen (enc := Bi) (d := 0) (f := (Lg (elI s4.1) (Int.toNat s4.2) (Gm s4.1.length (Int.toNat s4.2)) (fun _ => [vi 0]))) (RowIs.fill RowIs.elems 0 rfl (by first | exact g138 | omega))) .nil) (.cons rfl (BLe.typed (RowIs.fill RowIs.elems 0 rfl (by first | exact g138 | omega))) .nil) ?_)
     obtain ⟨g139,hm⟩ := go1 hm
     refine Sq (RD hnt (nn 4 []) [0,3] [(2,ow 0 (Int.toNat s4.2))] [] [] (an (by omega : (0 : Int) ≤ 0) (an (by omega : (0 : Int) ≤ s4.2) (an (by omega : s4.2 ≤ (((Iz s4.1 (Int.toNat s4.2) (Gm s4.1.length (Int.toNat s4.2)) 0).length : Nat) : Int)) tv))) ?_)
     obtain rfl := sj hm
     exact DW.ret (Am [roI (c79e3 s4)] [] (ow 0 (Int.toNat s4.2)))
   ·intro h99 hm
    refine Sk ?_
    refine DW.done ?_
    show DW _ _ _ _ _
    refine RD hnt (nn 3 []) [25] [(3,pI (w64 (k1 + 1)))] [] [] tv ?_
    exact jD () ⟨hlt1,hm⟩ (Conv.tp [(3,pI (w64 (k1 + 1)))] [] (by kernel_rfl) (.cons rfl (.of_eq (congrArg pI (Qy (lo := 1) (hi := ((p0.length : Nat) : Int)) (by omega) hk1 hlt1 (by omega)))) .nil) .nil)
  ·intro h94
   have hge1 : ¬ k1 < ((p0.length : Nat) : Int) := by have := of_decide_eq_false h94; omega
   have hm := he1 hge1
   unfold Un at hm
   refine DW.exit ?_
   refine As ?_
   refine Bb ?_
   refine An ?_
   show DW _ _ _ _ _
   refine Sq (RK hnt (nn 2 []) [(2,ow 0 p0.length)] [(0,ob0 (roI p0))] tv ?_)
   obtain rfl := sj hm
   exact DW.ret (Am [roI p0] [] (ow 0 p0.length))
abbrev o79 (ks : List Nat) (b : Bool) (RES : Nat × (List Int)) (sm : List Nat := []) : Orc := .call 132 ks b (ow 0 RES.1) [roI RES.2] [] sm

theorem Zn (p0 : List Int) (RES : List Int) (hm : Mu p0 = some RES) : Spec Tryz.prog 203 [.p (slI p0)] [] (ow 0 RES.length) [] [roI RES] := by
 unfold Mu at hm
 refine SO Tryz.func203 rfl rfl [(0,.p (slI p0))] [] ?_
 intro cx hnt
 refine Sq (RK hnt (.no :: []) [(0,.p (slI p0))] [] tv ?_)
 obtain ⟨r1,hr1,hm⟩ := bo hm
 refine Sq (RK hnt (.no :: o39 [] true r1 :: .no :: []) [(3,ow 1040 r1.length)] [(1040,ob0 (roI r1))] (an (Gl p0 r1 hr1) tv) ?_)
 obtain ⟨r2,hr2,hm⟩ := bo hm
 obtain ⟨g3,hm⟩ := go1 hm
 refine Sq (RN hnt (.no :: o59 [1040] true r2 :: []) [(3,ow 1040 r2.length)] [(1040,ob0 (roI r2))] [(3,ow 1040 r1.length)] [] (an (Ut r1 r2 hr2) (an (⟨rfl,g3⟩ : Body.same (roI r1) (roI r2)) tv)) (by kernel_rfl) (.cons rfl (MLe.of_eq (congrArg (MV.own 1040 0 0) g3)) .nil) .nil ?_)
 obtain ⟨r4,hr4,hm⟩ := bo hm
 obtain ⟨g5,g6,hm⟩ := go2 hm
 refine Sq (RK hnt (.no :: o79 [1040] true r4 :: .no :: []) [(2,ow 1040 r4.1)] [(1040,ob0 (roI r4.2))] (an (Aad r2 r4 hr4) (an (⟨rfl,g5⟩ : Body.same (roI r2) (roI r4.2)) tv)) ?_)
 refine DW.conv (τ := Af [(2,ow 1040 (r4.2.take r4.1).length)] [(1040,ob0 (roI (r4.2.take r4.1)))]) (Conv.trans (τ := Af [(2,ow 1040 r4.1)] [(1040,ob0 (.row 1 r4.1 (elI r4.2)))]) (Conv.cut 1040 r4.1 (And.intro (show r4.1 ≤ r4.2.length by omega) (an (Nat.le_of_eq (Nat.zero_add r4.1)) tv))) (Conv.tp [(2,ow 1040 r4.1)] [(1040,.row 1 r4.1 (elI r4.2))] (by kernel_rfl) (.cons rfl (MLe.ownLen (enc := Bi) (d := 0) (f := (elI r4.2)) (RowIs.elems.take (by omega))) .nil) (.cons rfl (BLe.typed (RowIs.elems.take (by omega))) .nil))) ?_
 obtain rfl := sj hm
 exact DW.ret (Am [roI (r4.2.take r4.1)] [1040] (ow 0 (r4.2.take r4.1).length))
abbrev o58 (ks : List Nat) (b : Bool) (RES : List Int) (sm : List Nat := []) : Orc := .call 203 ks b (ow 0 RES.length) [] [roI RES] sm

theorem AdB (p0 : Int) (p1 : List Int) (RES : Bool) (hm : Uo p0 p1 = some RES) : Spec Tryz.prog 189 [pI p0,rr 0] [.box [.p (slI p1)]] (pB RES) [.box [.p (slI p1)]] [] := by
 unfold Uo at hm
 refine SO Tryz.func189 rfl rfl [(0,pI p0),(1,rr 0)] [(0,bx [.p (slI p1)])] ?_
 intro cx hnt
 refine Sq (RD hnt (.no :: []) [] [] [] [] tv ?_)
 obtain ⟨r1,hr1,hm⟩ := bo hm
 refine Sq (RD hnt (nn 2 (o53 [] true r1 :: nn 2 [])) [0,1] [(3,pB (!r1))] [] [] (an (Xx p1 p0 r1 hr1) tv) ?_)
 obtain rfl := sj hm
 exact DW.ret (Am [.box [.p (slI p1)]] [] (pB (!r1)))

theorem Nc (p0 : Int) (p1c0 : List Int) (RES : Bool) (hm : Fv p0 p1c0 = some RES) : Spec Tryz.prog 204 [pI p0,rr 0] [.box [.fn 189 [rr 1]],.box [.p (slI p1c0)]] (pB RES) [.box [.fn 189 [rr 1]],.box [.p (slI p1c0)]] [] := by
 unfold Fv at hm
 refine SO Tryz.func204 rfl rfl [(0,pI p0),(1,rr 0)] [(0,bx [.fn 189 [rr 1]]),(1,bx [.p (slI p1c0)])] ?_
 intro cx hnt
 refine Sq (RD hnt (.no :: []) [] [] [] [] tv ?_)
 obtain ⟨r1,hr1,hm⟩ := bo hm
 refine Sq (RD hnt (nn 2 (.call 189 [1] true (pB r1) [.box [.p (slI p1c0)]] [] [] :: nn 2 [])) [0,1] [(3,pB (!r1))] [] [] (an (AdB p0 p1c0 r1 hr1) (an tv tv)) ?_)
 obtain rfl := sj hm
 exact DW.ret (Am [.box [.fn 189 [rr 1]],.box [.p (slI p1c0)]] [] (pB (!r1)))

theorem Ky (p0 : List Int) (p1c0c0 : List Int) (RES : Int) (hm : Dr p0 p1c0c0 = some RES) : Spec Tryz.prog 196 [ow 0 p0.length,.fn 204 [rr 1]] [roI p0,.box [.fn 189 [rr 2]],.box [.p (slI p1c0c0)]] (pI RES) [roI p0,.box [.fn 189 [rr 2]],.box [.p (slI p1c0c0)]] [] := by
 unfold Dr at hm
 refine SO Tryz.func196 rfl rfl [(0,ow 0 p0.length),(1,.fn 204 [rr 1])] [(0,ob0 (roI p0)),(1,bx [.fn 189 [rr 2]]),(2,bx [.p (slI p1c0c0)])] ?_
 intro cx hnt
 refine Sq (RD hnt (.no :: []) [] [] [] [] tv ?_)
 refine Sq (Sq (RD hnt (nn 3 []) [] [(7,pI ((p0.length : Nat) : Int)),(8,pI 0)] [] [] tv ?_))
 refine Bk ?_
 obtain ⟨hc1,hm⟩ := go1 hm
 refine DW.rangeO (fun (k1 : Nat) (s1 : Unit) => Af [(0,ow 0 p0.length),(1,.fn 204 [rr 1]),(7,pI ((p0.length : Nat) : Int)),(8,pI ((k1 : Nat) : Int))] [(0,ob0 (roI p0)),(1,bx [.fn 189 [rr 2]]),(2,bx [.p (slI p1c0c0)])]) 0 hm Conv.eqK ?_
 intro k1 s1 n1 hk1 hs1 he1
 refine Sq (RD hnt (.no :: []) [] [(9,pB (decide (((k1 : Nat) : Int) < ((p0.length : Nat) : Int))))] [] [] tv ?_)
 refine Sq (Eg (decide (((k1 : Nat) : Int) < ((p0.length : Nat) : Int))) ?_ ?_)
 ·intro h11
  have hlt1 : k1 < p0.length := by have := of_decide_eq_true h11; omega
  have hm := hs1 hlt1
  unfold El at hm
  refine Sk ?_
  refine Sq (Bk ?_)
  refine Sq (RD hnt (nn 2 []) [9] [(5,pI ((k1 : Nat) : Int))] [] [] tv ?_)
  obtain ⟨r12,hr12,hm⟩ := bo hm
  refine Sq (RD hnt (nn 5 (.call 204 [1,2] true (pB r12) [.box [.fn 189 [rr 1]],.box [.p (slI p1c0c0)]] [] [] :: [])) [] [(16,pB r12)] [] [] (an (nn0 k1) (an (ltc hlt1) (an (by omega : k1 < p0.length) (an (Nc (p0.getD k1 0) p1c0c0 r12 hr12) (an2 tv tv))))) ?_)
  refine Aq hm ?_ ?_
  ·intro h13 hm
   refine Sq (RD hnt (nn 2 []) [0,1,5,7,8,16] [(4,pI ((k1 : Nat) : Int))] [] [] tv ?_)
   obtain rfl := sj hm
   exact DW.ret (Am [roI p0,.box [.fn 189 [rr 2]],.box [.p (slI p1c0c0)]] [] (pI ((k1 : Nat) : Int)))
  ·intro h13 hm
   refine Sk ?_
   refine DW.done ?_
   show DW _ _ _ _ _
   refine RD hnt (nn 2 []) [5,16] [(8,pI (w64 (((k1 : Nat) : Int) + 1)))] [] [] tv ?_
   exact jD () ⟨hlt1,hm⟩ (Conv.tp [(8,pI (w64 (((k1 : Nat) : Int) + 1)))] [] (by kernel_rfl) (.cons rfl (.of_eq (congrArg pI (Cw hlt1 hc1))) .nil) .nil)
 ·intro h11
  have hge1 : ¬ k1 < p0.length := by have := of_decide_eq_false h11; omega
  have hm := he1 hge1
  unfold Hf at hm
  refine DW.exit ?_
  refine As ?_
  refine Bb ?_
  refine An ?_
  show DW _ _ _ _ _
  refine Sq (RD hnt (.no :: []) [0,1,7,8,9] [(4,pI (-1))] [] [] tv ?_)
  obtain rfl := sj hm
  exact DW.ret (Am [roI p0,.box [.fn 189 [rr 2]],.box [.p (slI p1c0c0)]] [] (pI (-1)))

abbrev Wu (s1 : (List Int) × Int × Int) := (s1.1.getD (Int.toNat s1.2.2) 0)
abbrev c80e2 (s1 : (List Int) × Int × Int) := (Iz s1.1 (Int.toNat s1.2.1) (Gm s1.1.length (Int.toNat s1.2.1)) 0)
theorem Ku (p0 : List Int) (p1c0c0 : List Int) (RES : Nat × (List Int) × (List Int)) (hm : Cm p0 p1c0c0 = some RES) : Spec Tryz.prog 165 [ow 0 p0.length,.fn 204 [rr 1]] [roI p0,.box [.fn 189 [rr 2]],.box [.p (slI p1c0c0)]] (ow 0 RES.1) [roI RES.2.1,.box [.fn 189 [rr 2]],.box [.p (slI RES.2.2)]] [] := by
 unfold Cm at hm
 refine SO Tryz.func165 rfl rfl [(0,ow 0 p0.length),(1,.fn 204 [rr 1])] [(0,ob0 (roI p0)),(1,bx [.fn 189 [rr 2]]),(2,bx [.p (slI p1c0c0)])] ?_
 intro cx hnt
 refine Sq (RD hnt (.no :: []) [] [] [] [] tv ?_)
 obtain ⟨r1,hr1,hm⟩ := bo hm
 refine Sq (RD hnt (nn 2 (.call 196 [0,1,2] true (pI r1) [roI p0,.box [.fn 189 [rr 2]],.box [.p (slI p1c0c0)]] [] [] :: .no :: [])) [] [(5,pI r1)] [] [] (an (Ky p0 p1c0c0 r1 hr1) (an (⟨rfl,rfl⟩ : Body.same (roI p0) (roI p0)) (an2 tv tv))) ?_)
 refine Sq (Sq (RD hnt (nn 2 []) [] [(12,pB (r1 == (-1)))] [] [] tv ?_))
 refine Aq hm ?_ ?_
 ·intro h2 hm
  refine Sq (RD hnt (nn 2 []) [0,1,5,12] [(4,ow 0 p0.length)] [] [] tv ?_)
  obtain rfl := sj hm
  exact DW.ret (Am [roI p0,.box [.fn 189 [rr 2]],.box [.p (slI p1c0c0)]] [] (ow 0 p0.length))
 ·intro h2 hm
  refine Sk ?_
  refine Sq (Sq (RD hnt (nn 3 []) [12] [(6,pI (w64 (r1 + 1)))] [] [] tv ?_))
  refine Bk ?_
  refine DW.whileO (fun (s1 : (List Int) × Int × Int) => Af [(0,ow 0 s1.1.length),(1,.fn 204 [rr 1]),(5,pI s1.2.1),(6,pI s1.2.2)] [(0,ob0 (roI s1.1)),(1,bx [.fn 189 [rr 2]]),(2,bx [.p (slI p1c0c0)])]) hm Conv.eqK ?_
  intro s1 n1 hm
  unfold Dg at hm
  refine Sq (Sq (RD hnt (nn 4 []) [] [(19,pB (decide (s1.2.2 < ((s1.1.length : Nat) : Int))))] [] [] tv ?_))
  refine Aq hm ?_ ?_
  ·intro h13 hm
   refine Sk ?_
   refine Sq ?_
   refine Jn (ι := (List Int) × Int) (fun (y2 : (List Int) × Int) => Af [(0,ow 0 y2.1.length),(1,.fn 204 [rr 1]),(5,pI y2.2),(6,pI s1.2.2)] [(0,ob0 (roI y2.1)),(1,bx [.fn 189 [rr 2]]),(2,bx [.p (slI p1c0c0)])]) (fun y2 => (Ci s1 n1) y2 = some RES) ?_ ?_
   ·intro y2 hm
    unfold Ci at hm
    refine RD hnt (nn 3 []) [] [(6,pI (w64 (s1.2.2 + 1)))] [] [] tv ?_
    exact jD (y2.1,y2.2,(w64 (s1.2.2 + 1))) hm Conv.eqK
   ·refine Bk ?_
    obtain ⟨g14,g15,hm⟩ := go2 hm
    refine Sq (RD hnt (nn 5 []) [19] [(7,pI (Wu s1))] [] [] (an g14.1 (an g14.2 (an g15 tv))) ?_)
    obtain ⟨r16,hr16,hm⟩ := bo hm
    refine Sq (RD hnt (nn 2 (.call 204 [1,2] true (pB r16) [.box [.fn 189 [rr 1]],.box [.p (slI p1c0c0)]] [] [] :: .no :: [])) [] [(29,pB (!r16))] [] [] (an (Nc (Wu s1) p1c0c0 r16 hr16) (an2 tv tv)) ?_)
    refine Aq hm ?_ ?_
    ·intro h17 hm
     obtain ⟨g18,g19,hm⟩ := go2 hm
     refine Sq (RN hnt (nn 5 []) [(0,ow 0 (s1.1.set (Int.toNat s1.2.1) (Wu s1)).length),(1,.fn 204 [rr 1]),(5,pI s1.2.1),(6,pI s1.2.2)] [(0,ob0 (roI (s1.1.set (Int.toNat s1.2.1) (Wu s1)))),(1,bx [.fn 189 [rr 2]]),(2,bx [.p (slI p1c0c0)])] [(0,ow 0 s1.1.length)] [(0,.row 1 s1.1.length (Bw (elI s1.1) (Int.toNat s1.2.1) [vi (Wu s1)]))] (an g18.1 (an g18.2 (an g19 tv))) (by kernel_rfl) (.cons rfl (MLe.ownLen (enc := Bi) (d := 0) (f := (Bw (elI s1.1) (Int.toNat s1.2.1) [vi (Wu s1)])) (RowIs.upd RowIs.elems (Wu s1) rfl)) .nil) (.cons rfl (BLe.typed (RowIs.upd RowIs.elems (Wu s1) rfl)) .nil) ?_)
     refine RD hnt (nn 3 []) [] [(5,pI (w64 (s1.2.1 + 1)))] [] [] tv ?_
     exact bD ((s1.1.set (Int.toNat s1.2.1) (Wu s1)),(w64 (s1.2.1 + 1))) hm Conv.eqK
    ·intro h17 hm
     refine Sk ?_
     exact bD (s1.1,s1.2.1) hm Conv.t0
  ·intro h13 hm
   refine DW.exit ?_
   refine As ?_
   refine Bb ?_
   refine An ?_
   show DW _ _ _ _ _
   obtain ⟨g20,g21,hm⟩ := go2 hm
   refine Sq (RN hnt (nn 4 []) [(0,ow 0 (c80e2 s1).length),(5,pI s1.2.1)] [(0,ob0 (roI (c80e2 s1))),(1,bx [.fn 189 [rr 2]]),(2,bx [.p (slI p1c0c0)])] [(0,ow 0 s1.1.length)] [(0,.row 1 s1.1.length (Lg (elI s1.1) (Int.toNat s1.2.1) (Gm s1.1.length (Int.toNat s1.2.1)) (fun _ => [vi 0])))] (an (by omega : (0 : Int) ≤ s1.2.1) (an (by omega : s1.2.1 ≤ ((s1.1.length : Nat) : Int)) (an (by omega : ((s1.1.length : Nat) : Int) ≤ ((s1.1.length : Nat) : Int)) (an g21 tv)))) (by kernel_rfl) (.cons rfl (MLe.ownLen (enc := Bi) (d := 0) (f := (Lg (elI s1.1) (Int.toNat s1.2.1) (Gm s1.1.length (Int.toNat s1.2.1)) (fun _ => [vi 0]))) (RowIs.fill RowIs.elems 0 rfl (by first | exact g21 | omega))) .nil) (.cons rfl (BLe.typed (RowIs.fill RowIs.elems 0 rfl (by first | exact g21 | omega))) .nil) ?_)
   obtain ⟨g22,hm⟩ := go1 hm
   refine Sq (RD hnt (nn 4 []) [0,5] [(4,ow 0 (Int.toNat s1.2.1))] [] [] (an (by omega : (0 : Int) ≤ 0) (an (by omega : (0 : Int) ≤ s1.2.1) (an (by omega : s1.2.1 ≤ (((Iz s1.1 (Int.toNat s1.2.1) (Gm s1.1.length (Int.toNat s1.2.1)) 0).length : Nat) : Int)) tv))) ?_)
   obtain rfl := sj hm
   exact DW.ret (Am [roI (c80e2 s1),.box [.fn 189 [rr 2]],.box [.p (slI p1c0c0)]] [] (ow 0 (Int.toNat s1.2.1)))
abbrev o80 (ks : List Nat) (b : Bool) (RES : Nat × (List Int) × (List Int)) (sm : List Nat := []) : Orc := .call 165 ks b (ow 0 RES.1) [roI RES.2.1,.box [.fn 189 [rr 2]],.box [.p (slI RES.2.2)]] [] sm

theorem We (p0 : List Int) (p1c0 : List Int) (RES : (List Int) × (List Int)) (hm : Jq p0 p1c0 = some RES) : Spec Tryz.prog 179 [.p (slI p0),.fn 189 [rr 0]] [.box [.p (slI p1c0)]] (ow 1 RES.1.length) [.box [.p (slI RES.2)]] [roI RES.1] := by
 unfold Jq at hm
 refine SO Tryz.func179 rfl rfl [(0,.p (slI p0)),(1,.fn 189 [rr 0])] [(0,bx [.p (slI p1c0)])] ?_
 intro cx hnt
 refine Sq (RD hnt (nn 2 []) [1] [(3,rr 1024)] [] [(1024,bx [.fn 189 [rr 0]])] tv ?_)
 obtain ⟨r1,hr1,hm⟩ := bo hm
 obtain ⟨r2,hr2,hm⟩ := bo hm
 obtain ⟨g3,g4,hm⟩ := go2 hm
 refine Sq (RK hnt (.no :: o58 [] true r1 :: .no :: o80 [1048,1024,0] true r2 :: .no :: []) [(4,ow 1048 r2.1)] [(0,bx [.p (slI r2.2.2)]),(1048,ob0 (roI r2.2.1))] (an (Zn p0 r1 hr1) (an (Ku r1 p1c0 r2 hr2) (an (⟨rfl,g3⟩ : Body.same (roI r1) (roI r2.2.1)) (an2 tv tv)))) ?_)
 refine DW.conv (τ := Af [(4,ow 1048 (r2.2.1.take r2.1).length)] [(0,bx [.p (slI r2.2.2)]),(1048,ob0 (roI (r2.2.1.take r2.1)))]) (Conv.trans (τ := Af [(4,ow 1048 r2.1)] [(0,bx [.p (slI r2.2.2)]),(1048,ob0 (.row 1 r2.1 (elI r2.2.1)))]) (Conv.cut 1048 r2.1 (And.intro (show r2.1 ≤ r2.2.1.length by omega) (an (Nat.le_of_eq (Nat.zero_add r2.1)) tv))) (Conv.tp [(4,ow 1048 r2.1)] [(1048,.row 1 r2.1 (elI r2.2.1))] (by kernel_rfl) (.cons rfl (MLe.ownLen (enc := Bi) (d := 0) (f := (elI r2.2.1)) (RowIs.elems.take (by omega))) .nil) (.cons rfl (BLe.typed (RowIs.elems.take (by omega))) .nil))) ?_
 obtain rfl := sj hm
 exact DW.ret (Am [.box [.p (slI r2.2.2)],roI (r2.2.1.take r2.1)] [1048] (ow 1 (r2.2.1.take r2.1).length))
abbrev o57 (ks : List Nat) (b : Bool) (RES : (List Int) × (List Int)) (sm : List Nat := []) : Orc := .call 179 ks b (ow 1 RES.1.length) [.box [.p (slI RES.2)]] [roI RES.1] sm

theorem AeD (p0 : List Int) (p1 : List Int) (RES : List Int) (hm : Rj p0 p1 = some RES) : Spec Tryz.prog 152 [.p (slI p0),.p (slI p1)] [] (ow 0 RES.length) [] [roI RES] := by
 unfold Rj at hm
 refine SO Tryz.func152 rfl rfl [(0,.p (slI p0)),(1,.p (slI p1))] [] ?_
 intro cx hnt
 refine Sq (RD hnt (nn 2 []) [1] [(3,rr 1024)] [] [(1024,bx [.p (slI p1)])] tv ?_)
 obtain ⟨r1,hr1,hm⟩ := bo hm
 refine Sq (RK hnt (nn 2 (o57 [1024] true r1 :: .no :: [])) [(4,ow 1056 r1.1.length)] [(1056,ob0 (roI r1.1))] (an (We p0 p1 r1 hr1) (an tv tv)) ?_)
 obtain rfl := sj hm
 exact DW.ret (Am [roI r1.1] [1056] (ow 0 r1.1.length))
abbrev o56 (ks : List Nat) (b : Bool) (RES : List Int) (sm : List Nat := []) : Orc := .call 152 ks b (ow 0 RES.length) [] [roI RES] sm

theorem Abh (p0 : Int) (p1 : List Int) (RES : Bool) (hm : Ow p0 p1 = some RES) : Spec Tryz.prog 180 [pI p0,rr 0] [.box [.p (slI p1)]] (pB RES) [.box [.p (slI p1)]] [] := by
 unfold Ow at hm
 refine SO Tryz.func180 rfl rfl [(0,pI p0),(1,rr 0)] [(0,bx [.p (slI p1)])] ?_
 intro cx hnt
 refine Sq (RD hnt (.no :: []) [] [] [] [] tv ?_)
 obtain ⟨r1,hr1,hm⟩ := bo hm
 refine Sq (RD hnt (nn 2 (o53 [] true r1 :: .no :: [])) [0,1] [(3,pB r1)] [] [] (an (Xx p1 p0 r1 hr1) tv) ?_)
 obtain rfl := sj hm
 exact DW.ret (Am [.box [.p (slI p1)]] [] (pB r1))

theorem Li (p0 : Int) (p1c0 : List Int) (RES : Bool) (hm : Eh p0 p1c0 = some RES) : Spec Tryz.prog 204 [pI p0,rr 0] [.box [.fn 180 [rr 1]],.box [.p (slI p1c0)]] (pB RES) [.box [.fn 180 [rr 1]],.box [.p (slI p1c0)]] [] := by
 unfold Eh at hm
 refine SO Tryz.func204 rfl rfl [(0,pI p0),(1,rr 0)] [(0,bx [.fn 180 [rr 1]]),(1,bx [.p (slI p1c0)])] ?_
 intro cx hnt
 refine Sq (RD hnt (.no :: []) [] [] [] [] tv ?_)
 obtain ⟨r1,hr1,hm⟩ := bo hm
 refine Sq (RD hnt (nn 2 (.call 180 [1] true (pB r1) [.box [.p (slI p1c0)]] [] [] :: nn 2 [])) [0,1] [(3,pB (!r1))] [] [] (an (Abh p0 p1c0 r1 hr1) (an tv tv)) ?_)
 obtain rfl := sj hm
 exact DW.ret (Am [.box [.fn 180 [rr 1]],.box [.p (slI p1c0)]] [] (pB (!r1)))

theorem Kg (p0 : List Int) (p1c0c0 : List Int) (RES : Int) (hm : Db p0 p1c0c0 = some RES) : Spec Tryz.prog 196 [ow 0 p0.length,.fn 204 [rr 1]] [roI p0,.box [.fn 180 [rr 2]],.box [.p (slI p1c0c0)]] (pI RES) [roI p0,.box [.fn 180 [rr 2]],.box [.p (slI p1c0c0)]] [] := by
 unfold Db at hm
 refine SO Tryz.func196 rfl rfl [(0,ow 0 p0.length),(1,.fn 204 [rr 1])] [(0,ob0 (roI p0)),(1,bx [.fn 180 [rr 2]]),(2,bx [.p (slI p1c0c0)])] ?_
 intro cx hnt
 refine Sq (RD hnt (.no :: []) [] [] [] [] tv ?_)
 refine Sq (Sq (RD hnt (nn 3 []) [] [(7,pI ((p0.length : Nat) : Int)),(8,pI 0)] [] [] tv ?_))
 refine Bk ?_
 obtain ⟨hc1,hm⟩ := go1 hm
 refine DW.rangeO (fun (k1 : Nat) (s1 : Unit) => Af [(0,ow 0 p0.length),(1,.fn 204 [rr 1]),(7,pI ((p0.length : Nat) : Int)),(8,pI ((k1 : Nat) : Int))] [(0,ob0 (roI p0)),(1,bx [.fn 180 [rr 2]]),(2,bx [.p (slI p1c0c0)])]) 0 hm Conv.eqK ?_
 intro k1 s1 n1 hk1 hs1 he1
 refine Sq (RD hnt (.no :: []) [] [(9,pB (decide (((k1 : Nat) : Int) < ((p0.length : Nat) : Int))))] [] [] tv ?_)
 refine Sq (Eg (decide (((k1 : Nat) : Int) < ((p0.length : Nat) : Int))) ?_ ?_)
 ·intro h11
  have hlt1 : k1 < p0.length := by have := of_decide_eq_true h11; omega
  have hm := hs1 hlt1
  unfold Ed at hm
  refine Sk ?_
  refine Sq (Bk ?_)
  refine Sq (RD hnt (nn 2 []) [9] [(5,pI ((k1 : Nat) : Int))] [] [] tv ?_)
  obtain ⟨r12,hr12,hm⟩ := bo hm
  refine Sq (RD hnt (nn 5 (.call 204 [1,2] true (pB r12) [.box [.fn 180 [rr 1]],.box [.p (slI p1c0c0)]] [] [] :: [])) [] [(16,pB r12)] [] [] (an (nn0 k1) (an (ltc hlt1) (an (by omega : k1 < p0.length) (an (Li (p0.getD k1 0) p1c0c0 r12 hr12) (an2 tv tv))))) ?_)
  refine Aq hm ?_ ?_
  ·intro h13 hm
   refine Sq (RD hnt (nn 2 []) [0,1,5,7,8,16] [(4,pI ((k1 : Nat) : Int))] [] [] tv ?_)
   obtain rfl := sj hm
   exact DW.ret (Am [roI p0,.box [.fn 180 [rr 2]],.box [.p (slI p1c0c0)]] [] (pI ((k1 : Nat) : Int)))
  ·intro h13 hm
   refine Sk ?_
   refine DW.done ?_
   show DW _ _ _ _ _
   refine RD hnt (nn 2 []) [5,16] [(8,pI (w64 (((k1 : Nat) : Int) + 1)))] [] [] tv ?_
   exact jD () ⟨hlt1,hm⟩ (Conv.tp [(8,pI (w64 (((k1 : Nat) : Int) + 1)))] [] (by kernel_rfl) (.cons rfl (.of_eq (congrArg pI (Cw hlt1 hc1))) .nil) .nil)
 ·intro h11
  have hge1 : ¬ k1 < p0.length := by have := of_decide_eq_false h11; omega
  have hm := he1 hge1
  unfold Gq at hm
  refine DW.exit ?_
  refine As ?_
  refine Bb ?_
  refine An ?_
  show DW _ _ _ _ _
  refine Sq (RD hnt (.no :: []) [0,1,7,8,9] [(4,pI (-1))] [] [] tv ?_)
  obtain rfl := sj hm
  exact DW.ret (Am [roI p0,.box [.fn 180 [rr 2]],.box [.p (slI p1c0c0)]] [] (pI (-1)))

abbrev Wz (s1 : (List Int) × Int × Int) := (s1.1.getD (Int.toNat s1.2.2) 0)
abbrev c87e2 (s1 : (List Int) × Int × Int) := (Iz s1.1 (Int.toNat s1.2.1) (Gm s1.1.length (Int.toNat s1.2.1)) 0)
theorem Jw (p0 : List Int) (p1c0c0 : List Int) (RES : Nat × (List Int) × (List Int)) (hm : Cg p0 p1c0c0 = some RES) : Spec Tryz.prog 165 [ow 0 p0.length,.fn 204 [rr 1]] [roI p0,.box [.fn 180 [rr 2]],.box [.p (slI p1c0c0)]] (ow 0 RES.1) [roI RES.2.1,.box [.fn 180 [rr 2]],.box [.p (slI RES.2.2)]] [] := by
 unfold Cg at hm
 refine SO Tryz.func165 rfl rfl [(0,ow 0 p0.length),(1,.fn 204 [rr 1])] [(0,ob0 (roI p0)),(1,bx [.fn 180 [rr 2]]),(2,bx [.p (slI p1c0c0)])] ?_
 intro cx hnt
 refine Sq (RD hnt (.no :: []) [] [] [] [] tv ?_)
 obtain ⟨r1,hr1,hm⟩ := bo hm
 refine Sq (RD hnt (nn 2 (.call 196 [0,1,2] true (pI r1) [roI p0,.box [.fn 180 [rr 2]],.box [.p (slI p1c0c0)]] [] [] :: .no :: [])) [] [(5,pI r1)] [] [] (an (Kg p0 p1c0c0 r1 hr1) (an (⟨rfl,rfl⟩ : Body.same (roI p0) (roI p0)) (an2 tv tv))) ?_)
 refine Sq (Sq (RD hnt (nn 2 []) [] [(12,pB (r1 == (-1)))] [] [] tv ?_))
 refine Aq hm ?_ ?_
 ·intro h2 hm
  refine Sq (RD hnt (nn 2 []) [0,1,5,12] [(4,ow 0 p0.length)] [] [] tv ?_)
  obtain rfl := sj hm
  exact DW.ret (Am [roI p0,.box [.fn 180 [rr 2]],.box [.p (slI p1c0c0)]] [] (ow 0 p0.length))
 ·intro h2 hm
  refine Sk ?_
  refine Sq (Sq (RD hnt (nn 3 []) [12] [(6,pI (w64 (r1 + 1)))] [] [] tv ?_))
  refine Bk ?_
  refine DW.whileO (fun (s1 : (List Int) × Int × Int) => Af [(0,ow 0 s1.1.length),(1,.fn 204 [rr 1]),(5,pI s1.2.1),(6,pI s1.2.2)] [(0,ob0 (roI s1.1)),(1,bx [.fn 180 [rr 2]]),(2,bx [.p (slI p1c0c0)])]) hm Conv.eqK ?_
  intro s1 n1 hm
  unfold Ct at hm
  refine Sq (Sq (RD hnt (nn 4 []) [] [(19,pB (decide (s1.2.2 < ((s1.1.length : Nat) : Int))))] [] [] tv ?_))
  refine Aq hm ?_ ?_
  ·intro h13 hm
   refine Sk ?_
   refine Sq ?_
   refine Jn (ι := (List Int) × Int) (fun (y2 : (List Int) × Int) => Af [(0,ow 0 y2.1.length),(1,.fn 204 [rr 1]),(5,pI y2.2),(6,pI s1.2.2)] [(0,ob0 (roI y2.1)),(1,bx [.fn 180 [rr 2]]),(2,bx [.p (slI p1c0c0)])]) (fun y2 => (Cd s1 n1) y2 = some RES) ?_ ?_
   ·intro y2 hm
    unfold Cd at hm
    refine RD hnt (nn 3 []) [] [(6,pI (w64 (s1.2.2 + 1)))] [] [] tv ?_
    exact jD (y2.1,y2.2,(w64 (s1.2.2 + 1))) hm Conv.eqK
   ·refine Bk ?_
    obtain ⟨g14,g15,hm⟩ := go2 hm
    refine Sq (RD hnt (nn 5 []) [19] [(7,pI (Wz s1))] [] [] (an g14.1 (an g14.2 (an g15 tv))) ?_)
    obtain ⟨r16,hr16,hm⟩ := bo hm
    refine Sq (RD hnt (nn 2 (.call 204 [1,2] true (pB r16) [.box [.fn 180 [rr 1]],.box [.p (slI p1c0c0)]] [] [] :: .no :: [])) [] [(29,pB (!r16))] [] [] (an (Li (Wz s1) p1c0c0 r16 hr16) (an2 tv tv)) ?_)
    refine Aq hm ?_ ?_
    ·intro h17 hm
     obtain ⟨g18,g19,hm⟩ := go2 hm
     refine Sq (RN hnt (nn 5 []) [(0,ow 0 (s1.1.set (Int.toNat s1.2.1) (Wz s1)).length),(1,.fn 204 [rr 1]),(5,pI s1.2.1),(6,pI s1.2.2)] [(0,ob0 (roI (s1.1.set (Int.toNat s1.2.1) (Wz s1)))),(1,bx [.fn 180 [rr 2]]),(2,bx [.p (slI p1c0c0)])] [(0,ow 0 s1.1.length)] [(0,.row 1 s1.1.length (Bw (elI s1.1) (Int.toNat s1.2.1) [vi (Wz s1)]))] (an g18.1 (an g18.2 (an g19 tv))) (by kernel_rfl) (.cons rfl (MLe.ownLen (enc := Bi) (d := 0) (f := (Bw (elI s1.1) (Int.toNat s1.2.1) [vi (Wz s1)])) (RowIs.upd RowIs.elems (Wz s1) rfl)) .nil) (.cons rfl (BLe.typed (RowIs.upd RowIs.elems (Wz s1) rfl)) .nil) ?_)
     refine RD hnt (nn 3 []) [] [(5,pI (w64 (s1.2.1 + 1)))] [] [] tv ?_
     exact bD ((s1.1.set (Int.toNat s1.2.1) (Wz s1)),(w64 (s1.2.1 + 1))) hm Conv.eqK
    ·intro h17 hm
     refine Sk ?_
     exact bD (s1.1,s1.2.1) hm Conv.t0
  ·intro h13 hm
   refine DW.exit ?_
   refine As ?_
   refine Bb ?_
   refine An ?_
   show DW _ _ _ _ _
   obtain ⟨g20,g21,hm⟩ := go2 hm
   refine Sq (RN hnt (nn 4 []) [(0,ow 0 (c87e2 s1).length),(5,pI s1.2.1)] [(0,ob0 (roI (c87e2 s1))),(1,bx [.fn 180 [rr 2]]),(2,bx [.p (slI p1c0c0)])] [(0,ow 0 s1.1.length)] [(0,.row 1 s1.1.length (Lg (elI s1.1) (Int.toNat s1.2.1) (Gm s1.1.length (Int.toNat s1.2.1)) (fun _ => [vi 0])))] (an (by omega : (0 : Int) ≤ s1.2.1) (an (by omega : s1.2.1 ≤ ((s1.1.length : Nat) : Int)) (an (by omega : ((s1.1.length : Nat) : Int) ≤ ((s1.1.length : Nat) : Int)) (an g21 tv)))) (by kernel_rfl) (.cons rfl (MLe.ownLen (enc := Bi) (d := 0) (f := (Lg (elI s1.1) (Int.toNat s1.2.1) (Gm s1.1.length (Int.toNat s1.2.1)) (fun _ => [vi 0]))) (RowIs.fill RowIs.elems 0 rfl (by first | exact g21 | omega))) .nil) (.cons rfl (BLe.typed (RowIs.fill RowIs.elems 0 rfl (by first | exact g21 | omega))) .nil) ?_)
   obtain ⟨g22,hm⟩ := go1 hm
   refine Sq (RD hnt (nn 4 []) [0,5] [(4,ow 0 (Int.toNat s1.2.1))] [] [] (an (by omega : (0 : Int) ≤ 0) (an (by omega : (0 : Int) ≤ s1.2.1) (an (by omega : s1.2.1 ≤ (((Iz s1.1 (Int.toNat s1.2.1) (Gm s1.1.length (Int.toNat s1.2.1)) 0).length : Nat) : Int)) tv))) ?_)
   obtain rfl := sj hm
   exact DW.ret (Am [roI (c87e2 s1),.box [.fn 180 [rr 2]],.box [.p (slI p1c0c0)]] [] (ow 0 (Int.toNat s1.2.1)))
abbrev o87 (ks : List Nat) (b : Bool) (RES : Nat × (List Int) × (List Int)) (sm : List Nat := []) : Orc := .call 165 ks b (ow 0 RES.1) [roI RES.2.1,.box [.fn 180 [rr 2]],.box [.p (slI RES.2.2)]] [] sm

theorem Tn (p0 : List Int) (p1c0 : List Int) (RES : (List Int) × (List Int)) (hm : Ia p0 p1c0 = some RES) : Spec Tryz.prog 179 [.p (slI p0),.fn 180 [rr 0]] [.box [.p (slI p1c0)]] (ow 1 RES.1.length) [.box [.p (slI RES.2)]] [roI RES.1] := by
 unfold Ia at hm
 refine SO Tryz.func179 rfl rfl [(0,.p (slI p0)),(1,.fn 180 [rr 0])] [(0,bx [.p (slI p1c0)])] ?_
 intro cx hnt
 refine Sq (RD hnt (nn 2 []) [1] [(3,rr 1024)] [] [(1024,bx [.fn 180 [rr 0]])] tv ?_)
 obtain ⟨r1,hr1,hm⟩ := bo hm
 obtain ⟨r2,hr2,hm⟩ := bo hm
 obtain ⟨g3,g4,hm⟩ := go2 hm
 refine Sq (RK hnt (.no :: o58 [] true r1 :: .no :: o87 [1048,1024,0] true r2 :: .no :: []) [(4,ow 1048 r2.1)] [(0,bx [.p (slI r2.2.2)]),(1048,ob0 (roI r2.2.1))] (an (Zn p0 r1 hr1) (an (Jw r1 p1c0 r2 hr2) (an (⟨rfl,g3⟩ : Body.same (roI r1) (roI r2.2.1)) (an2 tv tv)))) ?_)
 refine DW.conv (τ := Af [(4,ow 1048 (r2.2.1.take r2.1).length)] [(0,bx [.p (slI r2.2.2)]),(1048,ob0 (roI (r2.2.1.take r2.1)))]) (Conv.trans (τ := Af [(4,ow 1048 r2.1)] [(0,bx [.p (slI r2.2.2)]),(1048,ob0 (.row 1 r2.1 (elI r2.2.1)))]) (Conv.cut 1048 r2.1 (And.intro (show r2.1 ≤ r2.2.1.length by omega) (an (Nat.le_of_eq (Nat.zero_add r2.1)) tv))) (Conv.tp [(4,ow 1048 r2.1)] [(1048,.row 1 r2.1 (elI r2.2.1))] (by kernel_rfl) (.cons rfl (MLe.ownLen (enc := Bi) (d := 0) (f := (elI r2.2.1)) (RowIs.elems.take (by omega))) .nil) (.cons rfl (BLe.typed (RowIs.elems.take (by omega))) .nil))) ?_
 obtain rfl := sj hm
 exact DW.ret (Am [.box [.p (slI r2.2.2)],roI (r2.2.1.take r2.1)] [1048] (ow 1 (r2.2.1.take r2.1).length))
abbrev o86 (ks : List Nat) (b : Bool) (RES : (List Int) × (List Int)) (sm : List Nat := []) : Orc := .call 179 ks b (ow 1 RES.1.length) [.box [.p (slI RES.2)]] [roI RES.1] sm

theorem AbO (p0 : List Int) (p1 : List Int) (RES : List Int) (hm : Ni p0 p1 = some RES) : Spec Tryz.prog 143 [.p (slI p0),.p (slI p1)] [] (ow 0 RES.length) [] [roI RES] := by
 unfold Ni at hm
 refine SO Tryz.func143 rfl rfl [(0,.p (slI p0)),(1,.p (slI p1))] [] ?_
 intro cx hnt
 refine Sq (RD hnt (nn 2 []) [1] [(3,rr 1024)] [] [(1024,bx [.p (slI p1)])] tv ?_)
 obtain ⟨r1,hr1,hm⟩ := bo hm
 refine Sq (RK hnt (nn 2 (o86 [1024] true r1 :: .no :: [])) [(4,ow 1056 r1.1.length)] [(1056,ob0 (roI r1.1))] (an (Tn p0 p1 r1 hr1) (an tv tv)) ?_)
 obtain rfl := sj hm
 exact DW.ret (Am [roI r1.1] [1056] (ow 0 r1.1.length))
abbrev o85 (ks : List Nat) (b : Bool) (RES : List Int) (sm : List Nat := []) : Orc := .call 143 ks b (ow 0 RES.length) [] [roI RES] sm

theorem Wp (p0 : List Int) (p1 : List Int) (RES : List Int) (hm : Nz p0 p1 = some RES) : Spec Tryz.prog 91 [.p (slI p0),.p (slI p1)] [] (.p (slI RES)) [] [] := by
 unfold Nz at hm
 refine SO Tryz.func91 rfl rfl [(0,.p (slI p0)),(1,.p (slI p1))] [] ?_
 intro cx hnt
 refine Sq (RD hnt (.no :: []) [] [] [] [] tv ?_)
 obtain ⟨r1,hr1,hm⟩ := bo hm
 refine Sq (Sq (RD hnt (nn 2 (o85 [] true r1 :: .no :: [])) [0] [(5,ow 1064 r1.length)] [] [(1064,ob0 (roI r1))] (an (AbO p0 p1 r1 hr1) tv) ?_))
 refine Sq (RD hnt (nn 3 []) [] [(11,pB (decide (((r1.length : Nat) : Int) > 0)))] [] [] tv ?_)
 refine Aq hm ?_ ?_
 ·intro h2 hm
  refine Sq (RK hnt (nn 2 []) [(4,ow 1064 r1.length)] [(1064,ob0 (roI r1))] tv ?_)
  obtain rfl := sj hm
  exact DW.ret (Am [] [] (.p (slI r1)))
 ·intro h2 hm
  refine Sk ?_
  obtain ⟨r3,hr3,hm⟩ := bo hm
  refine Sq (RK hnt (.no :: o39 [] true r3 :: .no :: []) [(4,ow 1112 r3.length)] [(1112,ob0 (roI r3))] (an (Gl p1 r3 hr3) tv) ?_)
  obtain rfl := sj hm
  exact DW.ret (Am [] [] (.p (slI r3)))
abbrev o91 (ks : List Nat) (b : Bool) (RES : List Int) (sm : List Nat := []) : Orc := .call 91 ks b (.p (slI RES)) [] [] sm

abbrev AaV (p0 : plan) : Nat × Obj := (0,bx [.p (De p0.tree.nodes),pI p0.tree.next,.p (At p0.configs),.mref 1 0,.mref 2 0])
abbrev c40e2 (r77 : Al) : Nat × Obj := (1080,bx [pI r77.pidsMax,pI r77.weight,pI r77.quota,pI r77.period,pI r77.burst,pI r77.clampMin,pI r77.clampMax,ow 1256 r77.cpus.length,ow 1257 r77.mems.length,pI r77.partition,pI r77.memory.min,pI r77.memory.low,pI r77.memory.high,pI r77.memory.max,pI r77.memory.swapMax,pB r77.memory.together,ow 1258 r77.devices.length])
abbrev c40e3 (r77 : Al) : Nat × Obj := (1080,bx [pI r77.pidsMax,pI r77.weight,pI r77.quota,pI r77.period,pI r77.burst,pI r77.clampMin,pI r77.clampMax,.p (slI r77.cpus),ow 1257 r77.mems.length,pI r77.partition,pI r77.memory.min,pI r77.memory.low,pI r77.memory.high,pI r77.memory.max,pI r77.memory.swapMax,pB r77.memory.together,ow 1258 r77.devices.length])
abbrev Acw (p0 : plan) : Nat × Obj := (1,ob0 (Cf slI (slI []) p0.sets))
abbrev AcD (r1 : List Int) : Nat × MV := (22,pI ((r1.length : Nat) : Int))
theorem Yh (rec : plan → Int → (List Int) → Option plan) (ih : ∀ (p0 : plan) (p1 : Int) (p2 : List Int) (RES : plan),rec p0 p1 p2 = some RES → Spec Tryz.prog 104 [rr 0,pI p1,.p (slI p2)] [.box [.p (De p0.tree.nodes),pI p0.tree.next,.p (At p0.configs),.mref 1 0,.mref 2 0],Cf slI (slI []) p0.sets,Cf vb (vb false) p0.partitions] (.p (.tup [])) [.box [.p (De RES.tree.nodes),pI RES.tree.next,.p (At RES.configs),.mref 1 0,.mref 2 0],Cf slI (slI []) RES.sets,Cf vb (vb false) RES.partitions] []) (p0 : plan) (p1 : Int) (p2 : List Int) (RES : plan) (hm : Ji rec p0 p1 p2 = some RES) : Spec Tryz.prog 104 [rr 0,pI p1,.p (slI p2)] [.box [.p (De p0.tree.nodes),pI p0.tree.next,.p (At p0.configs),.mref 1 0,.mref 2 0],Cf slI (slI []) p0.sets,Cf vb (vb false) p0.partitions] (.p (.tup [])) [.box [.p (De RES.tree.nodes),pI RES.tree.next,.p (At RES.configs),.mref 1 0,.mref 2 0],Cf slI (slI []) RES.sets,Cf vb (vb false) RES.partitions] [] := by
 unfold Ji at hm
 refine SO Tryz.func104 rfl rfl [(0,rr 0),(1,pI p1),(2,.p (slI p2))] [(AaV p0),(Acw p0),(2,ob0 (Cf vb (vb false) p0.partitions))] ?_
 intro cx hnt
 refine Sq (RD hnt (.no :: []) [] [(6,.p (.sl .nil 0 0 (fun _ => [])))] [] [] tv ?_)
 refine Sq (RD hnt (.asM (slI []) (IMap.empty ([] : List Int)).has (fun j => slI ((IMap.empty ([] : List Int)).get j)) :: .no :: []) [] [(7,.mref 1120 0)] [] [(1120,ob0 (Cf slI (slI []) (IMap.empty ([] : List Int))))] (an (mnew_le slI (.sl .nil 0 0 fun _ => []) ([] : List Int) PLe.nilL) tv) ?_)
 obtain ⟨r1,hr1,hm⟩ := bo hm
 refine Sq (Sq (RD hnt (nn 5 (o41 [] true r1 :: nn 2 [])) [] [(21,ow 1168 r1.length),(AcD r1),(23,pI 0)] [] [(1168,ob0 (roI r1))] (an (Aby p0.tree p1 r1 hr1) tv) ?_))
 refine Bk ?_
 obtain ⟨hc1,hm⟩ := go1 hm
 refine DW.rangeO (fun (k1 : Nat) (s1 : (IMap (List Int)) × (List Int) × (IMap Bool) × (List Int)) => Af [(0,rr 0),(1,pI p1),(2,.p (slI s1.2.2.2)),(6,ow 1656 s1.2.1.length),(7,.mref 1120 0),(21,ow 1168 r1.length),(AcD r1),(23,pI ((k1 : Nat) : Int))] [(AaV p0),(Acw p0),(2,ob0 (Cf vb (vb false) s1.2.2.1)),(1120,ob0 (Cf slI (slI []) s1.1)),(1168,ob0 (roI r1)),(1656,ob0 (roI s1.2.1))]) 0 hm (Conv.ads [(.s 6,1656,1,elems Bi 0 [])]) ?_
 intro k1 s1 n1 hk1 hs1 he1
 refine Sq (RD hnt (.no :: []) [] [(24,pB (decide (((k1 : Nat) : Int) < ((r1.length : Nat) : Int))))] [] [] tv ?_)
 refine Sq (Eg (decide (((k1 : Nat) : Int) < ((r1.length : Nat) : Int))) ?_ ?_)
 ·intro h76
  have hlt1 : k1 < r1.length := by have := of_decide_eq_true h76; omega
  have hm := hs1 hlt1
  unfold Nh at hm
  refine Sk ?_
  refine Sq ?_
  refine Jn (ι := (IMap (List Int)) × (List Int) × (IMap Bool) × (List Int)) (fun (y5 : (IMap (List Int)) × (List Int) × (IMap Bool) × (List Int)) => Af [(0,rr 0),(1,pI p1),(2,.p (slI y5.2.2.2)),(6,ow 1656 y5.2.1.length),(7,.mref 1120 0),(21,ow 1168 r1.length),(AcD r1),(23,pI ((k1 : Nat) : Int))] [(AaV p0),(Acw p0),(2,ob0 (Cf vb (vb false) y5.2.2.1)),(1120,ob0 (Cf slI (slI []) y5.1)),(1168,ob0 (roI r1)),(1656,ob0 (roI y5.2.1))]) (fun y5 => (Iu n1) y5 = some RES) ?_ ?_
  ·intro y5 hm
   unfold Iu at hm
   refine RD hnt (nn 2 []) [] [(23,pI (w64 (((k1 : Nat) : Int) + 1)))] [] [] tv ?_
   exact jD (y5.1,y5.2.1,y5.2.2.1,y5.2.2.2) ⟨hlt1,hm⟩ (Conv.tp [(23,pI (w64 (((k1 : Nat) : Int) + 1)))] [] (by kernel_rfl) (.cons rfl (.of_eq (congrArg pI (Cw hlt1 hc1))) .nil) .nil)
  ·refine Bk ?_
   refine Sq (RD hnt (nn 3 []) [24] [(9,pI (r1.getD k1 0))] [] [] (an (nn0 k1) (an (ltc hlt1) (an (by omega : k1 < r1.length) tv))) ?_)
   obtain ⟨r77,hr77,hm⟩ := bo hm
   refine Sq (RD hnt (nn 5 (o42 [] true r77 :: nn 2 [])) [] [(10,rr 1080)] [] [(c40e2 r77),(1256,ob0 (roI r77.cpus)),(1257,ob0 (roI r77.mems)),(1258,ob0 (Ai r77.devices))] (an (Ta p0.configs (r1.getD k1 0) r77 hr77) tv) ?_)
   refine Sq ?_
   refine Jn (ι := Bool) (fun (y6 : Bool) => Af [(0,rr 0),(1,pI p1),(2,.p (slI s1.2.2.2)),(6,ow 1656 s1.2.1.length),(7,.mref 1120 0),(9,pI (r1.getD k1 0)),(10,rr 1080),(21,ow 1168 r1.length),(AcD r1),(23,pI ((k1 : Nat) : Int)),(63,pB y6)] [(AaV p0),(Acw p0),(2,ob0 (Cf vb (vb false) s1.2.2.1)),(c40e2 r77),(1120,ob0 (Cf slI (slI []) s1.1)),(1168,ob0 (roI r1)),(1256,ob0 (roI r77.cpus)),(1257,ob0 (roI r77.mems)),(1258,ob0 (Ai r77.devices)),(1656,ob0 (roI s1.2.1))]) (fun y6 => (Ev (r1.getD k1 0) s1 n1 r77) y6 = some RES) ?_ ?_
   ·intro y6 hm
    unfold Ev at hm
    refine Aq hm ?_ ?_
    ·intro h83 hm
     refine Sq ?_
     refine DW.openMap 2 ?_
     intro B84 C84
     refine DW.cv [] [] [1256] [(c40e3 r77)] (Conv.frz [1256]) ?_
     refine RN hnt (nn 11 (.ky (r1.getD k1 0) :: .asM (slI []) (s1.1.set (r1.getD k1 0) r77.cpus).has (fun j => slI ((s1.1.set (r1.getD k1 0) r77.cpus).get j)) :: [])) [(0,rr 0),(1,pI p1),(2,.p (slI s1.2.2.2)),(6,ow 1656 s1.2.1.length),(7,.mref 1120 0),(10,rr 1080),(21,ow 1168 r1.length),(AcD r1),(23,pI ((k1 : Nat) : Int))] [(AaV p0),(Acw p0),(2,ob0 (Cf vb (vb false) (s1.2.2.1.set (r1.getD k1 0) true))),(c40e3 r77),(1120,ob0 (Cf slI (slI []) (s1.1.set (r1.getD k1 0) r77.cpus))),(1168,ob0 (roI r1)),(1257,ob0 (roI r77.mems)),(1258,ob0 (Ai r77.devices)),(1656,ob0 (roI s1.2.1))] [] [(2,.mq (.clk (vb false) (Bd s1.2.2.1.has (r1.getD k1 0) true) (Bd (fun j => vb (s1.2.2.1.get j)) (r1.getD k1 0) (vb true)) (Bd B84 (r1.getD k1 0) (bif s1.2.2.1.has (r1.getD k1 0) then B84 (r1.getD k1 0) else C84)) (bif s1.2.2.1.has (r1.getD k1 0) then C84 else C84 + 1)))] (an (PLe.rfl : PLe (vb false) (vb false)) (an (updI_at s1.2.2.1.has (r1.getD k1 0) true) (an (updI_nat B84 (r1.getD k1 0) (bif s1.2.2.1.has (r1.getD k1 0) then B84 (r1.getD k1 0) else C84)) (an (Xj slI (slI []) s1.1 (r1.getD k1 0) r77.cpus PLe.rfl) tv)))) (by kernel_rfl) .nil (.cons rfl (.clk (Xj vb (vb false) s1.2.2.1 (r1.getD k1 0) true PLe.rfl)) .nil) ?_
     obtain ⟨r85,hr85,hm⟩ := bo hm
     refine RD hnt (nn 3 (o56 [] true r85 :: .no :: [])) [10] [(2,ow 1624 r85.length)] [1080,1257,1258] [(1624,ob0 (roI r85))] (an (AeD s1.2.2.2 r77.cpus r85 hr85) tv) ?_
     exact bD ((s1.1.set (r1.getD k1 0) r77.cpus),s1.2.1,(s1.2.2.1.set (r1.getD k1 0) true),r85) hm (Conv.frz [1624])
    ·intro h83 hm
     obtain ⟨g86,hm⟩ := go1 hm
     refine RN hnt (nn 5 []) [(0,rr 0),(1,pI p1),(2,.p (slI s1.2.2.2)),(6,ow 1656 (s1.2.1 ++ [(r1.getD k1 0)]).length),(7,.mref 1120 0),(21,ow 1168 r1.length),(AcD r1),(23,pI ((k1 : Nat) : Int))] [(AaV p0),(Acw p0),(2,ob0 (Cf vb (vb false) s1.2.2.1)),(1120,ob0 (Cf slI (slI []) s1.1)),(1168,ob0 (roI r1)),(1656,ob0 (roI (s1.2.1 ++ [(r1.getD k1 0)])))] [(6,ow 1656 (s1.2.1.length + 1))] [(1656,.row 1 (s1.2.1.length + 1) (Ff s1.2.1.length (elI s1.2.1) (cut 1 [vi (r1.getD k1 0)])))] (an (by omega : (s1.2.1.length + 1) * 8 ≤ 140737488355328) tv) (by kernel_rfl) (.cons rfl (MLe.ownLen (enc := Bi) (d := 0) (f := (Ff s1.2.1.length (elI s1.2.1) (cut 1 [vi (r1.getD k1 0)]))) (RowIs.cat RowIs.elems (RowIs.lit (enc := Bi) (d := 0) (n := 1) (f := (cut 1 [vi (r1.getD k1 0)])) [(r1.getD k1 0)] rfl (fun | 0,_ => rfl | n + 1,h => absurd h (by omega))))) .nil) (.cons rfl (BLe.typed (RowIs.cat RowIs.elems (RowIs.lit (enc := Bi) (d := 0) (n := 1) (f := (cut 1 [vi (r1.getD k1 0)])) [(r1.getD k1 0)] rfl (fun | 0,_ => rfl | n + 1,h => absurd h (by omega))))) .nil) ?_
     exact bD (s1.1,(s1.2.1 ++ [(r1.getD k1 0)]),s1.2.2.1,s1.2.2.2) hm .refl
   ·rcases bt (r77.partition == 1) with h78 | h78
    ·replace hm := Ax h78 hm
     rcases bt (s1.2.2.1.get p1) with h79 | h79
     ·replace hm := Ax h79 hm
      rcases bt (decide (((r77.cpus.length : Nat) : Int) > 0)) with h80 | h80
      ·replace hm := Ax h80 hm
       obtain ⟨r81,hr81,hm⟩ := bo hm
       rcases bt r81 with h82 | h82
       ·replace hm := Ax h82 hm
        refine RD hnt (nn 10 (pT :: nn 5 (pT :: nn 4 (o49 [] true r81 :: pT :: nn 7 (pT :: []))))) [] [(63,pB (decide (((s1.2.2.2.length : Nat) : Int) > ((r77.cpus.length : Nat) : Int))))] [] [] (an6 h78 (an (PLe.rfl : PLe (vb false) (vb false)) (an h78 (an5 h79 (an4 h80 (an (Zv r77.cpus s1.2.2.2 r81 hr81) (an h80 (an h82 (an6 h82 tv))))))))) ?_
        exact jD (decide (((s1.2.2.2.length : Nat) : Int) > ((r77.cpus.length : Nat) : Int))) hm Conv.eqK
       ·replace hm := Ay h82 hm
        refine RD hnt (nn 10 (pT :: nn 5 (pT :: nn 4 (o49 [] true r81 :: pT :: .no :: sk 6 (pF :: []))))) [] [(63,pB false)] [] [] (an6 h78 (an (PLe.rfl : PLe (vb false) (vb false)) (an h78 (an5 h79 (an4 h80 (an (Zv r77.cpus s1.2.2.2 r81 hr81) (an h80 (an h82 (an6 h82 tv))))))))) ?_
        exact jD false hm Conv.eqK
      ·replace hm := Ay h80 hm
       refine RD hnt (nn 10 (pT :: nn 5 (pT :: .no :: sk 4 (pF :: .no :: sk 6 (pF :: []))))) [] [(63,pB false)] [] [] (an6 h78 (an (PLe.rfl : PLe (vb false) (vb false)) (an h78 (an5 h79 (an5 h80 (an ff (an6 ff tv))))))) ?_
       exact jD false hm Conv.eqK
     ·replace hm := Ay h79 hm
      refine RD hnt (nn 10 (pT :: .no :: sk 4 (pF :: .no :: sk 4 (pF :: .no :: sk 6 (pF :: []))))) [] [(63,pB false)] [] [] (an6 h78 (an (PLe.rfl : PLe (vb false) (vb false)) (an h78 (an5 h79 (an6 ff (an6 ff tv)))))) ?_
      exact jD false hm Conv.eqK
    ·replace hm := Ay h78 hm
     refine RD hnt (nn 4 (sk 6 (pF :: .no :: sk 4 (pF :: .no :: sk 4 (pF :: .no :: sk 6 (pF :: [])))))) [] [(63,pB false)] [] [] (an h78 (an6 h78 (an5 ff (an6 ff (an6 ff tv))))) ?_
     exact jD false hm Conv.eqK
 ·intro h76
  have hge1 : ¬ k1 < r1.length := by have := of_decide_eq_false h76; omega
  have hm := he1 hge1
  unfold Ix at hm
  refine DW.exit ?_
  refine As ?_
  refine Bb ?_
  refine An ?_
  show DW _ _ _ _ _
  refine Sq (RD hnt (nn 6 (.asM (slI []) (p0.sets.set p1 s1.2.2.2).has (fun j => slI ((p0.sets.set p1 s1.2.2.2).get j)) :: [])) [1,21,22,23,24] [] [1168] [(1,ob0 (Cf slI (slI []) (p0.sets.set p1 s1.2.2.2)))] (an (Xj slI (slI []) p0.sets p1 s1.2.2.2 PLe.rfl) tv) ?_)
  refine Sq (Sq (RD hnt (nn 3 []) [6] [(90,ow 1656 s1.2.1.length),(91,pI ((s1.2.1.length : Nat) : Int)),(92,pI 0)] [] [] tv ?_))
  refine Bk ?_
  obtain ⟨hc10,hm⟩ := go1 hm
  refine DW.rangeO (fun (k10 : Nat) (s10 : IMap (List Int)) => Af [(0,rr 0),(2,.p (slI s1.2.2.2)),(7,.mref 1120 0),(90,ow 1656 s1.2.1.length),(91,pI ((s1.2.1.length : Nat) : Int)),(92,pI ((k10 : Nat) : Int))] [(AaV p0),(1,ob0 (Cf slI (slI []) (p0.sets.set p1 s1.2.2.2))),(2,ob0 (Cf vb (vb false) s1.2.2.1)),(1120,ob0 (Cf slI (slI []) s10)),(1656,ob0 (roI s1.2.1))]) 0 hm Conv.eqK ?_
  intro k10 s10 n10 hk10 hs10 he10
  refine Sq (RD hnt (.no :: []) [] [(93,pB (decide (((k10 : Nat) : Int) < ((s1.2.1.length : Nat) : Int))))] [] [] tv ?_)
  refine Sq (Eg (decide (((k10 : Nat) : Int) < ((s1.2.1.length : Nat) : Int))) ?_ ?_)
  ·intro h105
   have hlt10 : k10 < s1.2.1.length := by have := of_decide_eq_true h105; omega
   have hm := hs10 hlt10
   unfold Mw at hm
   refine Sk ?_
   refine Sq (Bk ?_)
   refine Sq (RD hnt (nn 3 []) [93] [(12,pI (s1.2.1.getD k10 0))] [] [] (an (nn0 k10) (an (ltc hlt10) (an (by omega : k10 < s1.2.1.length) tv))) ?_)
   obtain ⟨r108,hr108,hm⟩ := bo hm
   obtain ⟨r109,hr109,hm⟩ := bo hm
   refine RD hnt (nn 7 (o42 [] true r108 :: nn 2 (o91 [] false r109 :: .asM (slI []) (s10.set (s1.2.1.getD k10 0) r109).has (fun j => slI ((s10.set (s1.2.1.getD k10 0) r109).get j)) :: []))) [12] [] [] [(1120,ob0 (Cf slI (slI []) (s10.set (s1.2.1.getD k10 0) r109)))] (an (Ta p0.configs (s1.2.1.getD k10 0) r108 hr108) (an (Wp r108.cpus s1.2.2.2 r109 hr109) (an (Xj slI (slI []) s10 (s1.2.1.getD k10 0) r109 PLe.rfl) tv))) ?_
   refine DW.done ?_
   show DW _ _ _ _ _
   refine RD hnt (nn 2 []) [] [(92,pI (w64 (((k10 : Nat) : Int) + 1)))] [] [] tv ?_
   exact jD (s10.set (s1.2.1.getD k10 0) r109) ⟨hlt10,hm⟩ (Conv.tp [(92,pI (w64 (((k10 : Nat) : Int) + 1)))] [] (by kernel_rfl) (.cons rfl (.of_eq (congrArg pI (Cw hlt10 hc10))) .nil) .nil)
  ·intro h105
   have hge10 : ¬ k10 < s1.2.1.length := by have := of_decide_eq_false h105; omega
   have hm := he10 hge10
   unfold Kb at hm
   refine DW.exit ?_
   refine As ?_
   refine Bb ?_
   refine An ?_
   show DW _ _ _ _ _
   refine Sq (RD hnt (nn 2 []) [2,7,90,91,92,93] [(109,rr 1872)] [1120,1656] [(1872,ob0 (.mq (.it (fun j => slI (s10.get j)) s10.has none)))] tv ?_)
   refine Bk ?_
   refine DW.rangeM (fun (q13 : Int → Bool) (s13 : (List Aj) × Int × (List Ac) × (IMap (List Int)) × (IMap Bool)) => Af [(0,rr 0),(109,rr 1872)] [(0,bx [.p (De s13.1),pI s13.2.1,.p (At s13.2.2.1),.mref 1 0,.mref 2 0]),(1,ob0 (Cf slI (slI []) s13.2.2.2.1)),(2,ob0 (Cf vb (vb false) s13.2.2.2.2)),(1872,ob0 (.mq (.it (fun j => slI (s10.get j)) q13 none)))]) hm Conv.eqK ?_
   intro q13 s13 n13 hs13 he13
   refine Sq (DW.next (t := 109) (d := 110) (d2 := 111) (k := 1872) (f := fun j => slI (s10.get j)) (rem := q13) (cur := none) hnt ?_ ?_)
   ·intro k13 hlt13
    have hm := hs13 k13 hlt13
    unfold Mz at hm
    refine Sq (condT tt ?_)
    refine Sk ?_
    refine Bk ?_
    refine Sq (RK hnt (nn 5 []) [(0,rr 0),(13,pI k13),(14,.p (slI (s10.get k13))),(109,rr 1872)] [(0,bx [.p (De s13.1),pI s13.2.1,.p (At s13.2.2.1),.mref 1 0,.mref 2 0]),(1,ob0 (Cf slI (slI []) s13.2.2.2.1)),(2,ob0 (Cf vb (vb false) s13.2.2.2.2)),(1872,ob0 (.mq (.it (fun j => slI (s10.get j)) (Bd q13 k13 false) (some k13))))] tv ?_)
    obtain ⟨r111,hr111,hm⟩ := bo hm
    refine RD hnt (nn 3 (.call 104 [0,1,2] true (.p (.tup [])) [.box [.p (De r111.tree.nodes),pI r111.tree.next,.p (At r111.configs),.mref 1 0,.mref 2 0],Cf slI (slI []) r111.sets,Cf vb (vb false) r111.partitions] [] [] :: [])) [13,14] [] [] [(0,bx [.p (De r111.tree.nodes),pI r111.tree.next,.p (At r111.configs),.mref 1 0,.mref 2 0]),(1,ob0 (Cf slI (slI []) r111.sets)),(2,ob0 (Cf vb (vb false) r111.partitions))] (an (ih ({ tree := ({ nodes := s13.1,next := s13.2.1 } : Ae),configs := s13.2.2.1,sets := s13.2.2.2.1,partitions := s13.2.2.2.2 } : plan) k13 (s10.get k13) r111 hr111) (an3 tv tv)) ?_
    refine DW.done ?_
    show DW _ _ _ _ _
    exact jD (k13,(r111.tree.nodes,r111.tree.next,r111.configs,r111.sets,r111.partitions)) ⟨hlt13,hm⟩ (Conv.tp [] [(1872,.mq (.it (fun j => slI (s10.get j)) (Bd q13 k13 false) (some k13)))] (by kernel_rfl) .nil (.cons rfl .it .nil))
   ·intro hlt13
    have hm := he13 hlt13
    unfold Nb at hm
    refine Sq (condF ff ?_)
    refine DW.exit ?_
    refine As ?_
    refine Bb ?_
    refine An ?_
    show DW _ _ _ _ _
    refine DW.done ?_
    obtain rfl := sj hm
    exact endK [.box [.p (De s13.1),pI s13.2.1,.p (At s13.2.2.1),.mref 1 0,.mref 2 0],Cf slI (slI []) s13.2.2.2.1,Cf vb (vb false) s13.2.2.2.2] [] (.p (.tup []))
theorem Qo : ∀ (n : Nat) (p0 : plan) (p1 : Int) (p2 : List Int) (RES : plan),Gn n p0 p1 p2 = some RES → Spec Tryz.prog 104 [rr 0,pI p1,.p (slI p2)] [.box [.p (De p0.tree.nodes),pI p0.tree.next,.p (At p0.configs),.mref 1 0,.mref 2 0],Cf slI (slI []) p0.sets,Cf vb (vb false) p0.partitions] (.p (.tup [])) [.box [.p (De RES.tree.nodes),pI RES.tree.next,.p (At RES.configs),.mref 1 0,.mref 2 0],Cf slI (slI []) RES.sets,Cf vb (vb false) RES.partitions] []
  | 0,p0,p1,p2,RES,hm => by simp [Gn] at hm
  | n + 1,p0,p1,p2,RES,hm => Yh (Gn n) (Qo n) p0 p1 p2 RES hm
theorem Yq (p0 : plan) (p1 : Int) (p2 : List Int) (RES : plan) (hm : Pv p0 p1 p2 = some RES) : Spec Tryz.prog 104 [rr 0,pI p1,.p (slI p2)] [.box [.p (De p0.tree.nodes),pI p0.tree.next,.p (At p0.configs),.mref 1 0,.mref 2 0],Cf slI (slI []) p0.sets,Cf vb (vb false) p0.partitions] (.p (.tup [])) [.box [.p (De RES.tree.nodes),pI RES.tree.next,.p (At RES.configs),.mref 1 0,.mref 2 0],Cf slI (slI []) RES.sets,Cf vb (vb false) RES.partitions] [] := Qo Fg p0 p1 p2 RES hm
abbrev o40 (ks : List Nat) (b : Bool) (RES : plan) (sm : List Nat := []) : Orc := .call 104 ks b (.p (.tup [])) [.box [.p (De RES.tree.nodes),pI RES.tree.next,.p (At RES.configs),.mref 1 0,.mref 2 0],Cf slI (slI []) RES.sets,Cf vb (vb false) RES.partitions] [] sm

theorem Abo (p0 : Ae) (p1 : List Ac) (p2 : List Int) (RES : plan) (hm : Tj p0 p1 p2 = some RES) : Spec Tryz.prog 51 [.p (.agg (Ag p0)),.p (At p1),.p (slI p2)] [] (rr 0) [] [.box [.p (De RES.tree.nodes),pI RES.tree.next,.p (At RES.configs),.mref 1 0,.mref 2 0],Cf slI (slI []) RES.sets,Cf vb (vb false) RES.partitions] := by
 unfold Tj at hm
 refine SO Tryz.func51 rfl rfl [(0,.p (.agg (Ag p0))),(1,.p (At p1)),(2,.p (slI p2))] [] ?_
 intro cx hnt
 refine Sq (RD hnt (nn 2 []) [0] [(3,rr 1024)] [] [(1024,bx (pm (Ag p0)))] tv ?_)
 refine Sq (RK hnt (nn 2 (.asM (slI []) (IMap.empty ([] : List Int)).has (fun j => slI ((IMap.empty ([] : List Int)).get j)) :: .no :: .asM (vb false) ((IMap.empty false).set 1 true).has (fun j => vb (((IMap.empty false).set 1 true).get j)) :: nn 4 [])) [(2,.p (slI p2)),(7,rr 1112)] [(1080,ob0 (Cf slI (slI []) (IMap.empty ([] : List Int)))),(1088,ob0 (Cf vb (vb false) ((IMap.empty false).set 1 true))),(1112,bx [.p (De p0.nodes),pI p0.next,.p (At p1),.mref 1080 0,.mref 1088 0])] (an (mnew_le slI (.sl .nil 0 0 fun _ => []) ([] : List Int) PLe.nilL) (an (Xj vb (vb false) (IMap.empty false) 1 true PLe.rfl) tv)) ?_)
 obtain ⟨r1,hr1,hm⟩ := bo hm
 obtain ⟨r2,hr2,hm⟩ := bo hm
 refine Sq (RK hnt (nn 2 (o39 [] true r1 :: o40 [1112,1080,1088] false r2 :: [])) [(7,rr 1112)] [(1080,ob0 (Cf slI (slI []) r2.sets)),(1088,ob0 (Cf vb (vb false) r2.partitions)),(1112,bx [.p (De r2.tree.nodes),pI r2.tree.next,.p (At r2.configs),.mref 1080 0,.mref 1088 0])] (an (Gl p2 r1 hr1) (an (Yq ({ tree := p0,configs := p1,sets := (IMap.empty ([] : List Int)),partitions := ((IMap.empty false).set 1 true) } : plan) 1 r1 r2 hr2) (an3 tv tv))) ?_)
 refine Sq (RD hnt (nn 4 (.asM (vb false) (r2.partitions.del 1 false).has (fun j => vb ((r2.partitions.del 1 false).get j)) :: [])) [] [] [] [(1088,ob0 (Cf vb (vb false) (r2.partitions.del 1 false)))] (an (mdel_le vb (vb false) r2.partitions 1 false rfl) tv) ?_)
 refine Sq (RD hnt (nn 2 []) [7] [(6,rr 1112)] [] [] tv ?_)
 obtain rfl := sj hm
 exact DW.ret (Am [.box [.p (De r2.tree.nodes),pI r2.tree.next,.p (At r2.configs),.mref 1 0,.mref 2 0],Cf slI (slI []) r2.sets,Cf vb (vb false) (r2.partitions.del 1 false)] [1112,1080,1088] (rr 0))
abbrev o38 (ks : List Nat) (b : Bool) (RES : plan) (sm : List Nat := []) : Orc := .call 51 ks b (rr 0) [] [.box [.p (De RES.tree.nodes),pI RES.tree.next,.p (At RES.configs),.mref 1 0,.mref 2 0],Cf slI (slI []) RES.sets,Cf vb (vb false) RES.partitions] sm

theorem Ft (p0 : Ae) (p1 : List Ac) (p2 : List Int) (p3 : Int) (RES : List Int) (hm : Fu p0 p1 p2 p3 = some RES) : Spec Tryz.prog 15 [.p (.agg (Ag p0)),.p (At p1),.p (slI p2),pI p3] [] (ow 0 RES.length) [] [roI RES] := by
 unfold Fu at hm
 refine SO Tryz.func15 rfl rfl [(0,.p (.agg (Ag p0))),(1,.p (At p1)),(2,.p (slI p2)),(3,pI p3)] [] ?_
 intro cx hnt
 refine Sq (RD hnt (nn 2 []) [0] [(4,rr 1032)] [] [(1032,bx (pm (Ag p0)))] tv ?_)
 obtain ⟨r1,hr1,hm⟩ := bo hm
 refine Sq (Sq (RD hnt (nn 3 (o24 [] true r1 :: .no :: [])) [] [(13,pB (!r1))] [] [] (an (Rw p0 p1 p2 16 r1 hr1) tv) ?_))
 refine Aq hm ?_ ?_
 ·intro h2 hm
  refine Sq (RK hnt (.no :: []) [(8,.p (.sl .nil 0 0 (fun _ => [])))] [] tv ?_)
  refine DW.cv [] [(8,ow 100000 0)] [] [(100000,ob0 (roI []))] (Conv.ads [(.s 8,100000,1,elems Bi 0 [])]) ?_
  obtain rfl := sj hm
  exact DW.ret (Am [roI []] [100000] (ow 0 0))
 ·intro h2 hm
  refine Sk ?_
  obtain ⟨r3,hr3,hm⟩ := bo hm
  obtain ⟨r4,hr4,hm⟩ := bo hm
  refine Sq (RK hnt (nn 3 (o38 [] true r3 :: nn 5 (o39 [] true r4 :: .no :: []))) [(8,ow 1184 r4.length)] [(1184,ob0 (roI r4))] (an (Abo p0 p1 p2 r3 hr3) (an (PLe.nilL : PLe (.sl .nil 0 0 fun _ => []) (slI [])) (an (Gl (r3.sets.get p3) r4 hr4) tv))) ?_)
  obtain rfl := sj hm
  exact DW.ret (Am [roI r4] [1184] (ow 0 r4.length))
abbrev o23 (ks : List Nat) (b : Bool) (RES : List Int) (sm : List Nat := []) : Orc := .call 15 ks b (ow 0 RES.length) [] [roI RES] sm

theorem Gr (p0 : List Int) (p1 : List Int) (RES : Bool) (hm : Ib p0 p1 = some RES) : Spec Tryz.prog 20 [.p (slI p0),.p (slI p1)] [] (pB RES) [] [] := by
 unfold Ib at hm
 refine SO Tryz.func20 rfl rfl [(0,.p (slI p0)),(1,.p (slI p1))] [] ?_
 intro cx hnt
 refine Sq (RD hnt (.no :: []) [] [] [] [] tv ?_)
 refine Sq (Sq (RD hnt (nn 5 []) [] [(10,pB (((p0.length : Nat) : Int) != ((p1.length : Nat) : Int)))] [] [] tv ?_))
 refine Aq hm ?_ ?_
 ·intro h1 hm
  refine Sq (RK hnt (.no :: []) [(4,pB false)] [] tv ?_)
  obtain rfl := sj hm
  exact DW.ret (Am [] [] (pB false))
 ·intro h1 hm
  refine Sk ?_
  refine Sq (Sq (RD hnt (.no :: []) [10] [(5,pI 0)] [] [] tv ?_))
  refine Bk ?_
  obtain ⟨hc1,hm⟩ := go1 hm
  refine DW.rangeO (fun (k1 : Nat) (s1 : Unit) => Af [(0,.p (slI p0)),(1,.p (slI p1)),(5,pI ((k1 : Nat) : Int))] []) 0 hm Conv.eqK ?_
  intro k1 s1 n1 hk1 hs1 he1
  refine Sq (Sq (RD hnt (nn 4 []) [] [(14,pB (decide (((k1 : Nat) : Int) < ((p0.length : Nat) : Int))))] [] [] tv ?_))
  refine Eg (decide (((k1 : Nat) : Int) < ((p0.length : Nat) : Int))) ?_ ?_
  ·intro h10
   have hlt1 : k1 < p0.length := by have := of_decide_eq_true h10; omega
   have hm := hs1 hlt1
   unfold Aag at hm
   refine Sk ?_
   refine Sq (Bk ?_)
   obtain ⟨g11,hm⟩ := go1 hm
   refine Sq (RD hnt (nn 9 []) [14] [(25,pB ((p0.getD k1 0) != (p1.getD k1 0)))] [] [] (an (nn0 k1) (an (ltc hlt1) (an (nn0 k1) (an (ltc g11) tv)))) ?_)
   refine Aq hm ?_ ?_
   ·intro h12 hm
    refine Sq (RK hnt (.no :: []) [(4,pB false)] [] tv ?_)
    obtain rfl := sj hm
    exact DW.ret (Am [] [] (pB false))
   ·intro h12 hm
    refine Sk ?_
    refine DW.done ?_
    show DW _ _ _ _ _
    refine RD hnt (nn 3 []) [25] [(5,pI (w64 (((k1 : Nat) : Int) + 1)))] [] [] tv ?_
    exact jD () ⟨hlt1,hm⟩ (Conv.tp [(5,pI (w64 (((k1 : Nat) : Int) + 1)))] [] (by kernel_rfl) (.cons rfl (.of_eq (congrArg pI (Cw hlt1 hc1))) .nil) .nil)
  ·intro h10
   have hge1 : ¬ k1 < p0.length := by have := of_decide_eq_false h10; omega
   have hm := he1 hge1
   unfold Adi at hm
   refine DW.exit ?_
   refine As ?_
   refine Bb ?_
   refine An ?_
   show DW _ _ _ _ _
   refine Sq (RK hnt (.no :: []) [(4,pB true)] [] tv ?_)
   obtain rfl := sj hm
   exact DW.ret (Am [] [] (pB true))
abbrev o92 (ks : List Nat) (b : Bool) (RES : Bool) (sm : List Nat := []) : Orc := .call 20 ks b (pB RES) [] [] sm

theorem Aaz (p0 : Ae) (p1 : List Ac) (p2 : List Int) (RES : List Int) (hm : La p0 p1 p2 = some RES) : Spec Tryz.prog 14 [.p (.agg (Ag p0)),.p (At p1),.p (slI p2)] [] (ow 0 RES.length) [] [roI RES] := by
 unfold La at hm
 refine SO Tryz.func14 rfl rfl [(0,.p (.agg (Ag p0))),(1,.p (At p1)),(2,.p (slI p2))] [] ?_
 intro cx hnt
 refine Sq (RD hnt (nn 2 []) [0] [(3,rr 1024)] [] [(1024,bx (pm (Ag p0)))] tv ?_)
 obtain ⟨r1,hr1,hm⟩ := bo hm
 refine Sq (Sq (RD hnt (nn 3 (o24 [] true r1 :: .no :: [])) [] [(13,pB (!r1))] [] [] (an (Rw p0 p1 p2 16 r1 hr1) tv) ?_))
 refine Aq hm ?_ ?_
 ·intro h2 hm
  refine Sq (RK hnt (.no :: []) [(6,.p (.sl .nil 0 0 (fun _ => [])))] [] tv ?_)
  refine DW.cv [] [(6,ow 100000 0)] [] [(100000,ob0 (roI []))] (Conv.ads [(.s 6,100000,1,elems Bi 0 [])]) ?_
  obtain rfl := sj hm
  exact DW.ret (Am [roI []] [100000] (ow 0 0))
 ·intro h2 hm
  refine Sk ?_
  refine Sq (RD hnt (.no :: []) [13] [(7,.p (.sl .nil 0 0 (fun _ => [])))] [] [] tv ?_)
  obtain ⟨r3,hr3,hm⟩ := bo hm
  refine Sq (Sq (RD hnt (nn 3 (o38 [] true r3 :: nn 4 [])) [1,2,3] [(21,rr 1168)] [1024] [(1168,ob0 (.mq (.it (fun j => vb (r3.partitions.get j)) r3.partitions.has none)))] (an (Abo p0 p1 p2 r3 hr3) tv) ?_))
  refine Bk ?_
  refine DW.rangeM (fun (q1 : Int → Bool) (s1 : List Int) => Af [(7,ow 1232 s1.length),(21,rr 1168)] [(1168,ob0 (.mq (.it (fun j => vb (r3.partitions.get j)) q1 none))),(1232,ob0 (roI s1))]) hm (Conv.ads [(.s 7,1232,1,elems Bi 0 [])]) ?_
  intro q1 s1 n1 hs1 he1
  refine Sq (DW.next (t := 21) (d := 22) (d2 := 23) (k := 1168) (f := fun j => vb (r3.partitions.get j)) (rem := q1) (cur := none) hnt ?_ ?_)
  ·intro k1 hlt1
   have hm := hs1 k1 hlt1
   unfold Pu at hm
   refine Sq (condT tt ?_)
   refine Sk ?_
   refine Bk ?_
   refine Sq (RK hnt (nn 3 []) [(7,ow 1232 s1.length),(8,pI k1),(21,rr 1168)] [(1168,ob0 (.mq (.it (fun j => vb (r3.partitions.get j)) (Bd q1 k1 false) (some k1)))),(1232,ob0 (roI s1))] tv ?_)
   obtain ⟨g6,hm⟩ := go1 hm
   refine RN hnt (nn 5 []) [(7,ow 1232 (s1 ++ [k1]).length),(21,rr 1168)] [(1168,ob0 (.mq (.it (fun j => vb (r3.partitions.get j)) (Bd q1 k1 false) (some k1)))),(1232,ob0 (roI (s1 ++ [k1])))] [(7,ow 1232 (s1.length + 1))] [(1232,.row 1 (s1.length + 1) (Ff s1.length (elI s1) (cut 1 [vi k1])))] (an (by omega : (s1.length + 1) * 8 ≤ 140737488355328) tv) (by kernel_rfl) (.cons rfl (MLe.ownLen (enc := Bi) (d := 0) (f := (Ff s1.length (elI s1) (cut 1 [vi k1]))) (RowIs.cat RowIs.elems (RowIs.lit (enc := Bi) (d := 0) (n := 1) (f := (cut 1 [vi k1])) [k1] rfl (fun | 0,_ => rfl | n + 1,h => absurd h (by omega))))) .nil) (.cons rfl (BLe.typed (RowIs.cat RowIs.elems (RowIs.lit (enc := Bi) (d := 0) (n := 1) (f := (cut 1 [vi k1])) [k1] rfl (fun | 0,_ => rfl | n + 1,h => absurd h (by omega))))) .nil) ?_
   refine DW.done ?_
   show DW _ _ _ _ _
   exact jD (k1,(s1 ++ [k1])) ⟨hlt1,hm⟩ (Conv.tp [] [(1168,.mq (.it (fun j => vb (r3.partitions.get j)) (Bd q1 k1 false) (some k1)))] (by kernel_rfl) .nil (.cons rfl .it .nil))
  ·intro hlt1
   have hm := he1 hlt1
   unfold Pw at hm
   refine Sq (condF ff ?_)
   refine DW.exit ?_
   refine As ?_
   refine Bb ?_
   refine An ?_
   show DW _ _ _ _ _
   obtain ⟨r7,hr7,hm⟩ := bo hm
   obtain ⟨g8,hm⟩ := go1 hm
   refine Sq (RN hnt (.no :: o59 [1232] true r7 :: []) [(7,ow 1232 r7.length)] [(1232,ob0 (roI r7))] [(7,ow 1232 s1.length)] [] (an (Ut s1 r7 hr7) (an (⟨rfl,g8⟩ : Body.same (roI s1) (roI r7)) tv)) (by kernel_rfl) (.cons rfl (MLe.of_eq (congrArg (MV.own 1232 0 0) g8)) .nil) .nil ?_)
   refine Sq (RD hnt (nn 2 []) [7] [(6,ow 1232 r7.length)] [] [] tv ?_)
   obtain rfl := sj hm
   exact DW.ret (Am [roI r7] [1232] (ow 0 r7.length))
abbrev o94 (ks : List Nat) (b : Bool) (RES : List Int) (sm : List Nat := []) : Orc := .call 14 ks b (ow 0 RES.length) [] [roI RES] sm

theorem Abg (p0 : Ae) (p1 : List Ac) (p2 : List Int) (p3 : Int) (RES : Bool) (hm : Ip p0 p1 p2 p3 = some RES) : Spec Tryz.prog 40 [.p (.agg (Ag p0)),.p (At p1),.p (slI p2),pI p3] [] (pB RES) [] [] := by
 unfold Ip at hm
 refine SO Tryz.func40 rfl rfl [(0,.p (.agg (Ag p0))),(1,.p (At p1)),(2,.p (slI p2)),(3,pI p3)] [] ?_
 intro cx hnt
 refine Sq (RD hnt (nn 2 []) [0] [(4,rr 1032)] [] [(1032,bx (pm (Ag p0)))] tv ?_)
 obtain ⟨r1,hr1,hm⟩ := bo hm
 obtain ⟨r2,hr2,hm⟩ := bo hm
 refine Sq (RK hnt (nn 3 (o94 [] true r1 :: .no :: o54 [] true r2 :: .no :: [])) [(8,pB r2)] [] (an (Aaz p0 p1 p2 r1 hr1) (an (Ro r1 p3 r2 hr2) tv)) ?_)
 obtain rfl := sj hm
 exact DW.ret (Am [] [] (pB r2))
abbrev o93 (ks : List Nat) (b : Bool) (RES : Bool) (sm : List Nat := []) : Orc := .call 40 ks b (pB RES) [] [] sm
end Go.Dm


/- Go functions compute their models, printed by a program. -/
namespace Go.Dm
open Go.Proofs
set_option linter.unusedVariables false
abbrev c3e1 (r5 : List Ac) := (Bw (Vd r5) 1 [vi (r5.getD 1 Be).group,vi (r5.getD 1 Be).settings.pidsMax,vi (r5.getD 1 Be).settings.weight,vi (r5.getD 1 Be).settings.quota,vi (r5.getD 1 Be).settings.period,vi (r5.getD 1 Be).settings.burst,vi (r5.getD 1 Be).settings.clampMin,vi (r5.getD 1 Be).settings.clampMax,slI [2,3],slI (r5.getD 1 Be).settings.mems,vi (r5.getD 1 Be).settings.partition,vi (r5.getD 1 Be).settings.memory.min,vi (r5.getD 1 Be).settings.memory.low,vi (r5.getD 1 Be).settings.memory.high,vi (r5.getD 1 Be).settings.memory.max,vi (r5.getD 1 Be).settings.memory.swapMax,vb (r5.getD 1 Be).settings.memory.together,Cl (r5.getD 1 Be).settings.devices])
abbrev c3e2 (r5 : List Ac) := ({ group := (r5.getD 1 Be).group,settings := ({ pidsMax := (r5.getD 1 Be).settings.pidsMax,weight := (r5.getD 1 Be).settings.weight,quota := (r5.getD 1 Be).settings.quota,period := (r5.getD 1 Be).settings.period,burst := (r5.getD 1 Be).settings.burst,clampMin := (r5.getD 1 Be).settings.clampMin,clampMax := (r5.getD 1 Be).settings.clampMax,cpus := [2,3],mems := (r5.getD 1 Be).settings.mems,partition := (r5.getD 1 Be).settings.partition,memory := (r5.getD 1 Be).settings.memory,devices := (r5.getD 1 Be).settings.devices } : Al) } : Ac)
abbrev c3e3 (r10 : List Ac) := ({ group := (r10.getD 1 Be).group,settings := ({ pidsMax := (r10.getD 1 Be).settings.pidsMax,weight := (r10.getD 1 Be).settings.weight,quota := (r10.getD 1 Be).settings.quota,period := (r10.getD 1 Be).settings.period,burst := (r10.getD 1 Be).settings.burst,clampMin := (r10.getD 1 Be).settings.clampMin,clampMax := (r10.getD 1 Be).settings.clampMax,cpus := (r10.getD 1 Be).settings.cpus,mems := (r10.getD 1 Be).settings.mems,partition := 1,memory := (r10.getD 1 Be).settings.memory,devices := (r10.getD 1 Be).settings.devices } : Al) } : Ac)
theorem AaB (RES : Bool) (hm : Oi = some RES) : Spec Tryz.prog 9 [] [] (pB RES) [] [] := by
 unfold Oi at hm
 refine SO Tryz.func9 rfl rfl [] [] ?_
 intro cx hnt
 refine Sq (RK hnt (.no :: []) [] [] tv ?_)
 obtain ⟨r1,hr1,hm⟩ := bo hm
 obtain ⟨r2,hr2,hm⟩ := bo hm
 refine Sq (RK hnt (o4 [] true r1 :: o5 [] true r2 :: nn 8 []) [(1,rr 1008),(2,pI r2.2.1)] [(1008,bx [ow 1080 r2.1.nodes.length,pI r2.1.next]),(1080,ob0 (Dd r2.1.nodes))] (an (Acl r1 hr1) (an (Yc r1 1 (bs [97]) r2 hr2) (an ((fun _ => rfl) : ∀ i,((Vn r2.1.nodes) i).all PV.flat = true) tv))) ?_)
 obtain ⟨r3,hr3,hm⟩ := bo hm
 refine Sq (RD hnt (.no :: o5 [] true r3 :: nn 7 []) [] [(4,pI r3.2.1)] [1080] [(1008,bx [ow 1128 r3.1.nodes.length,pI r3.1.next]),(1128,ob0 (Dd r3.1.nodes))] (an (Yc r2.1 1 (bs [98]) r3 hr3) (an ((fun _ => rfl) : ∀ i,((Vn r3.1.nodes) i).all PV.flat = true) tv)) ?_)
 refine Sq (DW.cv [] [] [1128] [(1008,bx (pm (Ag r3.1)))] (Conv.frz [1128]) ?_)
 obtain ⟨r5,hr5,hm⟩ := bo hm
 refine RD hnt (.no :: o15 [] true r5 :: .no :: []) [] [(6,ow 1168 r5.length)] [] [(1168,ob0 (Bz r5))] (an (AfT r3.1 r5 hr5) tv) ?_
 obtain ⟨g8,g9,hm⟩ := go2 hm
 obtain ⟨r10,hr10,hm⟩ := bo hm
 obtain ⟨g11,g12,hm⟩ := go2 hm
 obtain ⟨r13,hr13,hm⟩ := bo hm
 refine Sq (RN hnt (nn 2 (.frz 2 (elems Bi 0 [2,3]) :: nn 8 [])) [(1,rr 1008),(2,pI r2.2.1),(4,pI r3.2.1),(6,ow 1168 r13.length)] [(1008,bx (pm (Ag r3.1))),(1168,ob0 (Bz r13))] [(6,ow 1168 r5.length)] [(1168,.row 18 r5.length (Bw (c3e1 r5) 1 (setRange ((c3e1 r5) 1) 10 [vi 1])))] (an ((RowIs.asP (enc := Bi) (d := 0) (L := [2,3]) (RowIs.lit (enc := Bi) (d := 0) (n := 2) (f := (cut 1 [vi 2,vi 3])) [2,3] rfl (fun | 0,_ => rfl | 1,_ => rfl | n + 2,h => absurd h (by omega)))) : 2 = 2 ∧ ∀ i,i < 2 → (cut 1 [vi 2,vi 3]) i = (elems Bi 0 [2,3]) i) (an (nn0 1) (an (ltc g8) (an g9 (an (nn0 1) (an (ltc g11) (an g12 tv))))))) (by kernel_rfl) (.cons rfl (MLe.ownLen (enc := Ey) (d := Be) (f := (Bw (c3e1 r5) 1 (setRange ((c3e1 r5) 1) 10 [vi 1]))) (RowIs.named hr13 (RowIs.updR (RowIs.named hr10 (RowIs.upd RowIs.elems (c3e2 r5) rfl)) (by omega) (c3e3 r10) rfl))) .nil) (.cons rfl (BLe.typed (RowIs.named hr13 (RowIs.updR (RowIs.named hr10 (RowIs.upd RowIs.elems (c3e2 r5) rfl)) (by omega) (c3e3 r10) rfl))) .nil) ?_)
 refine Sq (RN hnt (nn 2 []) [(1,rr 1008),(2,pI r2.2.1),(4,pI r3.2.1),(6,ow 1168 r13.length),(7,ow 1248 [0,1,2,3].length)] [(1008,bx (pm (Ag r3.1))),(1168,ob0 (Bz r13)),(1248,ob0 (roI [0,1,2,3]))] [(7,ow 1248 4)] [(1248,.row 1 4 (cut 1 [vi 0,vi 1,vi 2,vi 3]))] tv (by kernel_rfl) (.cons rfl (MLe.ownLen (enc := Bi) (d := 0) (f := (cut 1 [vi 0,vi 1,vi 2,vi 3])) (RowIs.lit (enc := Bi) (d := 0) (n := 4) (f := (cut 1 [vi 0,vi 1,vi 2,vi 3])) [0,1,2,3] rfl (fun | 0,_ => rfl | 1,_ => rfl | 2,_ => rfl | 3,_ => rfl | n + 4,h => absurd h (by omega)))) .nil) (.cons rfl (BLe.typed (RowIs.lit (enc := Bi) (d := 0) (n := 4) (f := (cut 1 [vi 0,vi 1,vi 2,vi 3])) [0,1,2,3] rfl (fun | 0,_ => rfl | 1,_ => rfl | 2,_ => rfl | 3,_ => rfl | n + 4,h => absurd h (by omega)))) .nil) ?_)
 obtain ⟨r14,hr14,hm⟩ := bo hm
 obtain ⟨r15,hr15,hm⟩ := bo hm
 refine Sq ?_
 refine Jn (ι := Bool) (fun (y1 : Bool) => Af [(0,pB y1)] []) (fun y1 => Mc y1 = some RES) ?_ ?_
 ·intro y1 hm
  unfold Mc at hm
  obtain rfl := sj hm
  exact DW.ret (Am [] [] (pB y1))
 ·rcases bt r15 with h16 | h16
  ·replace hm := Ax h16 hm
   obtain ⟨r17,hr17,hm⟩ := bo hm
   obtain ⟨r18,hr18,hm⟩ := bo hm
   rcases bt r18 with h19 | h19
   ·replace hm := Ax h19 hm
    obtain ⟨r20,hr20,hm⟩ := bo hm
    obtain ⟨r21,hr21,hm⟩ := bo hm
    rcases bt r21 with h22 | h22
    ·replace hm := Ax h22 hm
     obtain ⟨r23,hr23,hm⟩ := bo hm
     refine RK hnt (nn 4 (o23 [] true r14 :: .no :: o92 [] true r15 :: nn 5 (o23 [] true r17 :: .no :: o92 [] true r18 :: pT :: nn 4 (o23 [] true r20 :: .no :: o92 [] true r21 :: pT :: nn 5 (o93 [] true r23 :: pT :: .no :: []))))) [(0,pB r23)] [] (an (Ft r3.1 r13 [0,1,2,3] r2.2.1 r14 hr14) (an ((fun _ => rfl) : ∀ i,((elI r14) i).all PV.flat = true) (an (Spec.args (xs := [.p (slI r14),.p (.sl .unk 1 2 (cut 1 [vi 2,vi 3]))]) (Gr r14 [2,3] r15 hr15) (.cons .rfl (.cons (.p (PLe.typed (RowIs.lit (enc := Bi) (d := 0) (n := 2) (f := (cut 1 [vi 2,vi 3])) [2,3] rfl (fun | 0,_ => rfl | 1,_ => rfl | n + 2,h => absurd h (by omega))))) .nil))) (an5 h16 (an (Ft r3.1 r13 [0,1,2,3] r3.2.1 r17 hr17) (an ((fun _ => rfl) : ∀ i,((elI r17) i).all PV.flat = true) (an2 h16 (an (Spec.args (xs := [.p (slI r17),.p (.sl .unk 1 2 (cut 1 [vi 0,vi 1]))]) (Gr r17 [0,1] r18 hr18) (.cons .rfl (.cons (.p (PLe.typed (RowIs.lit (enc := Bi) (d := 0) (n := 2) (f := (cut 1 [vi 0,vi 1])) [0,1] rfl (fun | 0,_ => rfl | 1,_ => rfl | n + 2,h => absurd h (by omega))))) .nil))) (an h16 (an4 h19 (an (Ft r3.1 r13 [0,1,2,3] 1 r20 hr20) (an ((fun _ => rfl) : ∀ i,((elI r20) i).all PV.flat = true) (an2 h19 (an (Spec.args (xs := [.p (slI r20),.p (.sl .unk 1 2 (cut 1 [vi 0,vi 1]))]) (Gr r20 [0,1] r21 hr21) (.cons .rfl (.cons (.p (PLe.typed (RowIs.lit (enc := Bi) (d := 0) (n := 2) (f := (cut 1 [vi 0,vi 1])) [0,1] rfl (fun | 0,_ => rfl | 1,_ => rfl | n + 2,h => absurd h (by omega))))) .nil))) (an h19 (an5 h22 (an (Abg r3.1 r13 [0,1,2,3] r2.2.1 r23 hr23) (an h22 tv)))))))))))))))))) ?_
     exact jD r23 hm .refl
    ·replace hm := Ay h22 hm
     refine RK hnt (nn 4 (o23 [] true r14 :: .no :: o92 [] true r15 :: nn 5 (o23 [] true r17 :: .no :: o92 [] true r18 :: pT :: nn 4 (o23 [] true r20 :: .no :: o92 [] true r21 :: pT :: .no :: sk 5 (pF :: .no :: []))))) [(0,pB false)] [] (an (Ft r3.1 r13 [0,1,2,3] r2.2.1 r14 hr14) (an ((fun _ => rfl) : ∀ i,((elI r14) i).all PV.flat = true) (an (Spec.args (xs := [.p (slI r14),.p (.sl .unk 1 2 (cut 1 [vi 2,vi 3]))]) (Gr r14 [2,3] r15 hr15) (.cons .rfl (.cons (.p (PLe.typed (RowIs.lit (enc := Bi) (d := 0) (n := 2) (f := (cut 1 [vi 2,vi 3])) [2,3] rfl (fun | 0,_ => rfl | 1,_ => rfl | n + 2,h => absurd h (by omega))))) .nil))) (an5 h16 (an (Ft r3.1 r13 [0,1,2,3] r3.2.1 r17 hr17) (an ((fun _ => rfl) : ∀ i,((elI r17) i).all PV.flat = true) (an2 h16 (an (Spec.args (xs := [.p (slI r17),.p (.sl .unk 1 2 (cut 1 [vi 0,vi 1]))]) (Gr r17 [0,1] r18 hr18) (.cons .rfl (.cons (.p (PLe.typed (RowIs.lit (enc := Bi) (d := 0) (n := 2) (f := (cut 1 [vi 0,vi 1])) [0,1] rfl (fun | 0,_ => rfl | 1,_ => rfl | n + 2,h => absurd h (by omega))))) .nil))) (an h16 (an4 h19 (an (Ft r3.1 r13 [0,1,2,3] 1 r20 hr20) (an ((fun _ => rfl) : ∀ i,((elI r20) i).all PV.flat = true) (an2 h19 (an (Spec.args (xs := [.p (slI r20),.p (.sl .unk 1 2 (cut 1 [vi 0,vi 1]))]) (Gr r20 [0,1] r21 hr21) (.cons .rfl (.cons (.p (PLe.typed (RowIs.lit (enc := Bi) (d := 0) (n := 2) (f := (cut 1 [vi 0,vi 1])) [0,1] rfl (fun | 0,_ => rfl | 1,_ => rfl | n + 2,h => absurd h (by omega))))) .nil))) (an h19 (an6 h22 tv)))))))))))))))) ?_
     exact jD false hm .refl
   ·replace hm := Ay h19 hm
    refine RK hnt (nn 4 (o23 [] true r14 :: .no :: o92 [] true r15 :: nn 5 (o23 [] true r17 :: .no :: o92 [] true r18 :: pT :: .no :: sk 6 (pF :: .no :: sk 5 (pF :: .no :: []))))) [(0,pB false)] [] (an (Ft r3.1 r13 [0,1,2,3] r2.2.1 r14 hr14) (an ((fun _ => rfl) : ∀ i,((elI r14) i).all PV.flat = true) (an (Spec.args (xs := [.p (slI r14),.p (.sl .unk 1 2 (cut 1 [vi 2,vi 3]))]) (Gr r14 [2,3] r15 hr15) (.cons .rfl (.cons (.p (PLe.typed (RowIs.lit (enc := Bi) (d := 0) (n := 2) (f := (cut 1 [vi 2,vi 3])) [2,3] rfl (fun | 0,_ => rfl | 1,_ => rfl | n + 2,h => absurd h (by omega))))) .nil))) (an5 h16 (an (Ft r3.1 r13 [0,1,2,3] r3.2.1 r17 hr17) (an ((fun _ => rfl) : ∀ i,((elI r17) i).all PV.flat = true) (an2 h16 (an (Spec.args (xs := [.p (slI r17),.p (.sl .unk 1 2 (cut 1 [vi 0,vi 1]))]) (Gr r17 [0,1] r18 hr18) (.cons .rfl (.cons (.p (PLe.typed (RowIs.lit (enc := Bi) (d := 0) (n := 2) (f := (cut 1 [vi 0,vi 1])) [0,1] rfl (fun | 0,_ => rfl | 1,_ => rfl | n + 2,h => absurd h (by omega))))) .nil))) (an h16 (an h19 (an6 h19 (an6 ff tv)))))))))))) ?_
    exact jD false hm .refl
  ·replace hm := Ay h16 hm
   refine RK hnt (nn 4 (o23 [] true r14 :: .no :: o92 [] true r15 :: .no :: sk 7 (pF :: .no :: sk 6 (pF :: .no :: sk 5 (pF :: .no :: []))))) [(0,pB false)] [] (an (Ft r3.1 r13 [0,1,2,3] r2.2.1 r14 hr14) (an ((fun _ => rfl) : ∀ i,((elI r14) i).all PV.flat = true) (an (Spec.args (xs := [.p (slI r14),.p (.sl .unk 1 2 (cut 1 [vi 2,vi 3]))]) (Gr r14 [2,3] r15 hr15) (.cons .rfl (.cons (.p (PLe.typed (RowIs.lit (enc := Bi) (d := 0) (n := 2) (f := (cut 1 [vi 2,vi 3])) [2,3] rfl (fun | 0,_ => rfl | 1,_ => rfl | n + 2,h => absurd h (by omega))))) .nil))) (an2 h16 (an6 h16 (an ff (an6 ff (an6 ff tv)))))))) ?_
   exact jD false hm .refl
abbrev o3 (ks : List Nat) (b : Bool) (RES : Bool) (sm : List Nat := []) : Orc := .call 9 ks b (pB RES) [] [] sm

theorem AfK (p0 : List Int) (RES : Ak) (hm : Acs p0 = some RES) : Spec Tryz.prog 10 [.p (slI p0)] [] (rr 0) [] [.box (pm (Ar RES))] := by
 unfold Acs at hm
 refine SO Tryz.func10 rfl rfl [(0,.p (slI p0))] [] ?_
 intro cx hnt
 refine Sq (RK hnt (.no :: []) [(0,.p (slI p0))] [] tv ?_)
 refine Sq (RK hnt (nn 4 []) [(2,rr 1040)] [(1040,bx [.p (slI p0),pI 0])] tv ?_)
 obtain rfl := sj hm
 exact DW.ret (Am [.box [.p (slI p0),pI 0]] [1040] (rr 0))
abbrev o95 (ks : List Nat) (b : Bool) (RES : Ak) (sm : List Nat := []) : Orc := .call 10 ks b (rr 0) [] [.box (pm (Ar RES))] sm

abbrev c97e1 (p0 : Ak) := (p0.l.getD (Int.toNat (w64 ((w64 (p0.atF + 1)) - 1))) 0)
theorem Cs (p0 : Ak) (p1 : Int) (RES : Int × Ak) (hm : Cp p0 p1 = some RES) : Spec Tryz.prog 25 [rr 0,pI p1] [.box (pm (Ar p0))] (pI RES.1) [.box (pm (Ar RES.2))] [] := by
 unfold Cp at hm
 refine SO Tryz.func25 rfl rfl [(0,rr 0),(1,pI p1)] [(0,bx (pm (Ar p0)))] ?_
 intro cx hnt
 refine Sq (RD hnt (.no :: []) [] [] [] [] tv ?_)
 refine Sq (Sq (DW.regJ (sl2 := [(0,rr 0),(1,pI p1),(19,pB ((decide (p0.atF ≥ ((p0.l.length : Nat) : Int))) || (decide (p1 < 1))))]) (ob2 := [(0,bx (pm (Ar p0)))]) ?_ ?_))
 ·rcases bt (decide (p0.atF ≥ ((p0.l.length : Nat) : Int))) with h1 | h1
  ·exact RT hnt (nn 11 (sk 2 (pT :: []))) [(19,pB true)] (an3 h1 tv) (by kernel_rfl) (.cons rfl (.of_eq (by rw [h1]; try rfl)) .nil)
  ·exact RT hnt (nn 13 (pF :: [])) [(19,pB (decide (p1 < 1)))] (an3 h1 tv) (by kernel_rfl) (.cons rfl (.of_eq (by rw [h1]; try rfl)) .nil)
 ·refine Aq hm ?_ ?_
  ·intro h2 hm
   refine Sq (RD hnt (.no :: []) [0,1,19] [(4,pI 0)] [] [] tv ?_)
   obtain rfl := sj hm
   exact DW.ret (Am [.box (pm (Ar p0))] [] (pI 0))
  ·intro h2 hm
   refine Sk ?_
   refine Sq (RD hnt (nn 8 []) [19] [] [] [(0,bx [.p (slI p0.l),pI (w64 (p0.atF + 1))])] tv ?_)
   obtain ⟨g3,g4,hm⟩ := go2 hm
   refine Sq (RD hnt (nn 14 []) [0] [(5,pI (Int.tmod (c97e1 p0) p1))] [] [] (an g3.1 (an g3.2 (an g4 tv))) ?_)
   refine Sq (Sq (RD hnt (nn 2 []) [] [(41,pB (decide ((Int.tmod (c97e1 p0) p1) < 0)))] [] [] tv ?_))
   refine Jn (ι := Int) (fun (y1 : Int) => Af [(5,pI y1)] [(0,bx [.p (slI p0.l),pI (w64 (p0.atF + 1))])]) (fun y1 => (Ma p0) y1 = some RES) ?_ ?_
   ·intro y1 hm
    unfold Ma at hm
    refine Sq (RD hnt (nn 2 []) [5] [(4,pI y1)] [] [] tv ?_)
    obtain rfl := sj hm
    exact DW.ret (Am [.box [.p (slI p0.l),pI (w64 (p0.atF + 1))]] [] (pI y1))
   ·refine Aq hm ?_ ?_
    ·intro h5 hm
     refine RD hnt (nn 4 []) [1,41] [(5,pI (w64 ((Int.tmod (c97e1 p0) p1) + p1)))] [] [] tv ?_
     exact jD (w64 ((Int.tmod (c97e1 p0) p1) + p1)) hm Conv.eqK
    ·intro h5 hm
     refine Sk ?_
     exact jD (Int.tmod (c97e1 p0) p1) hm Conv.t0
abbrev o97 (ks : List Nat) (b : Bool) (RES : Int × Ak) (sm : List Nat := []) : Orc := .call 25 ks b (pI RES.1) [.box (pm (Ar RES.2))] [] sm

theorem AbP (p0 : Ak) (RES : ByteArray × Ak) (hm : Ob p0 = some RES) : Spec Tryz.prog 46 [rr 0] [.box (pm (Ar p0))] (pS RES.1) [.box (pm (Ar RES.2))] [] := by
 unfold Ob at hm
 refine SO Tryz.func46 rfl rfl [(0,rr 0)] [(0,bx (pm (Ar p0)))] ?_
 intro cx hnt
 refine Sq (RD hnt (.no :: []) [] [] [] [] tv ?_)
 obtain ⟨r3,hr3,hm⟩ := bo hm
 obtain ⟨g4,g5,hm⟩ := go2 hm
 refine Sq (RK hnt (.asR (ow 1024 [(bs [97]),(bs [98]),(bs [99]),(bs [119,101,98]),(bs [100,98,45,49]),(bs [88,95,57])].length) [(bs [97]),(bs [98]),(bs [99]),(bs [119,101,98]),(bs [100,98,45,49]),(bs [88,95,57])].length (elems encS ByteArray.empty [(bs [97]),(bs [98]),(bs [99]),(bs [119,101,98]),(bs [100,98,45,49]),(bs [88,95,57])]) :: .no :: o97 [0] true r3 :: nn 3 []) [(2,pS ([(bs [97]),(bs [98]),(bs [99]),(bs [119,101,98]),(bs [100,98,45,49]),(bs [88,95,57])].getD (Int.toNat r3.1) ByteArray.empty))] [(0,bx (pm (Ar r3.2)))] (an (congrArg (MV.own 1024 0 0) (RowIs.asP (enc := encS) (d := ByteArray.empty) (L := [(bs [97]),(bs [98]),(bs [99]),(bs [119,101,98]),(bs [100,98,45,49]),(bs [88,95,57])]) (RowIs.lit (enc := encS) (d := ByteArray.empty) (n := 6) (f := (cut 1 [vs (bs [97]),vs (bs [98]),vs (bs [99]),vs (bs [119,101,98]),vs (bs [100,98,45,49]),vs (bs [88,95,57])])) [(bs [97]),(bs [98]),(bs [99]),(bs [119,101,98]),(bs [100,98,45,49]),(bs [88,95,57])] rfl (fun | 0,_ => rfl | 1,_ => rfl | 2,_ => rfl | 3,_ => rfl | 4,_ => rfl | 5,_ => rfl | n + 6,h => absurd h (by omega)))).1) (an (RowIs.asP (enc := encS) (d := ByteArray.empty) (L := [(bs [97]),(bs [98]),(bs [99]),(bs [119,101,98]),(bs [100,98,45,49]),(bs [88,95,57])]) (RowIs.lit (enc := encS) (d := ByteArray.empty) (n := 6) (f := (cut 1 [vs (bs [97]),vs (bs [98]),vs (bs [99]),vs (bs [119,101,98]),vs (bs [100,98,45,49]),vs (bs [88,95,57])])) [(bs [97]),(bs [98]),(bs [99]),(bs [119,101,98]),(bs [100,98,45,49]),(bs [88,95,57])] rfl (fun | 0,_ => rfl | 1,_ => rfl | 2,_ => rfl | 3,_ => rfl | 4,_ => rfl | 5,_ => rfl | n + 6,h => absurd h (by omega)))) (an (Cs p0 6 r3 hr3) (an tv (an g4.1 (an g4.2 (an g5 tv))))))) ?_)
 obtain rfl := sj hm
 exact DW.ret (Am [.box (pm (Ar r3.2))] [] (pS ([(bs [97]),(bs [98]),(bs [99]),(bs [119,101,98]),(bs [100,98,45,49]),(bs [88,95,57])].getD (Int.toNat r3.1) ByteArray.empty)))
abbrev o98 (ks : List Nat) (b : Bool) (RES : ByteArray × Ak) (sm : List Nat := []) : Orc := .call 46 ks b (pS RES.1) [.box (pm (Ar RES.2))] [] sm

theorem Gj (p0 : Ak) (p1 : Int) (RES : Bool × Ak) (hm : Fh p0 p1 = some RES) : Spec Tryz.prog 27 [rr 0,pI p1] [.box (pm (Ar p0))] (pB RES.1) [.box (pm (Ar RES.2))] [] := by
 unfold Fh at hm
 refine SO Tryz.func27 rfl rfl [(0,rr 0),(1,pI p1)] [(0,bx (pm (Ar p0)))] ?_
 intro cx hnt
 refine Sq (RD hnt (.no :: []) [] [] [] [] tv ?_)
 obtain ⟨r1,hr1,hm⟩ := bo hm
 refine Sq (RK hnt (nn 2 (o97 [0] true r1 :: nn 4 [])) [(4,pB (r1.1 == (w64 (p1 - 1))))] [(0,bx (pm (Ar r1.2)))] (an (Cs p0 p1 r1 hr1) (an tv tv)) ?_)
 obtain rfl := sj hm
 exact DW.ret (Am [.box (pm (Ar r1.2))] [] (pB (r1.1 == (w64 (p1 - 1)))))
abbrev o99 (ks : List Nat) (b : Bool) (RES : Bool × Ak) (sm : List Nat := []) : Orc := .call 27 ks b (pB RES.1) [.box (pm (Ar RES.2))] [] sm

abbrev Sc (p0 : Ae) (k1 : Nat) := (p0.nodes.getD k1 (default : Aj))
theorem Wn (p0 : Ae) (p1 : Int) (RES : List Int) (hm : Kt p0 p1 = some RES) : Spec Tryz.prog 88 [.p (.agg (Ag p0)),pI p1] [] (ow 0 RES.length) [] [roI RES] := by
 unfold Kt at hm
 refine SO Tryz.func88 rfl rfl [(0,.p (.agg (Ag p0))),(1,pI p1)] [] ?_
 intro cx hnt
 refine Sq (RK hnt (nn 2 []) [(1,pI p1),(2,rr 1016)] [(1016,bx (pm (Ag p0)))] tv ?_)
 obtain ⟨r1,hr1,hm⟩ := bo hm
 refine Sq (Sq (RD hnt (nn 2 (o10 [] true r1 :: .no :: [])) [] [(10,pB (!r1))] [] [] (an (Nu p0 p1 r1 hr1) tv) ?_))
 refine Aq hm ?_ ?_
 ·intro h2 hm
  refine Sq (RK hnt (.no :: []) [(4,.p (.sl .nil 0 0 (fun _ => [])))] [] tv ?_)
  refine DW.cv [] [(4,ow 100000 0)] [] [(100000,ob0 (roI []))] (Conv.ads [(.s 4,100000,1,elems Bi 0 [])]) ?_
  obtain rfl := sj hm
  exact DW.ret (Am [roI []] [100000] (ow 0 0))
 ·intro h2 hm
  refine Sk ?_
  refine Sq (RD hnt (.no :: []) [10] [(5,.p (.sl .nil 0 0 (fun _ => [])))] [] [] tv ?_)
  refine Sq (Sq (RD hnt (.no :: []) [] [(6,pI 0)] [] [] tv ?_))
  refine Bk ?_
  obtain ⟨hc1,hm⟩ := go1 hm
  refine DW.rangeO (fun (k1 : Nat) (s1 : List Int) => Af [(1,pI p1),(2,rr 1016),(5,ow 1272 s1.length),(6,pI ((k1 : Nat) : Int))] [(1016,bx (pm (Ag p0))),(1272,ob0 (roI s1))]) Da hm (Conv.ads [(.s 5,1272,1,elems Bi 0 [])]) ?_
  intro k1 s1 n1 hk1 hs1 he1
  refine Sq (Sq (RD hnt (nn 5 []) [] [(15,pB (decide (((k1 : Nat) : Int) < ((p0.nodes.length : Nat) : Int))))] [] [] tv ?_))
  refine Eg (decide (((k1 : Nat) : Int) < ((p0.nodes.length : Nat) : Int))) ?_ ?_
  ·intro h12
   have hlt1 : k1 < p0.nodes.length := by have := of_decide_eq_true h12; omega
   have hm := hs1 hlt1
   unfold Up at hm
   refine Sk ?_
   refine Sq ?_
   refine Jn (ι := List Int) (fun (y3 : List Int) => Af [(1,pI p1),(2,rr 1016),(5,ow 1272 y3.length),(6,pI ((k1 : Nat) : Int))] [(1016,bx (pm (Ag p0))),(1272,ob0 (roI y3))]) (fun y3 => (Mq n1) y3 = some RES) ?_ ?_
   ·intro y3 hm
    unfold Mq at hm
    refine RD hnt (nn 3 []) [] [(6,pI (w64 (((k1 : Nat) : Int) + 1)))] [] [] tv ?_
    exact jD y3 ⟨hlt1,hm⟩ (Conv.tp [(6,pI (w64 (((k1 : Nat) : Int) + 1)))] [] (by kernel_rfl) (.cons rfl (.of_eq (congrArg pI (Cw hlt1 hc1))) .nil) .nil)
   ·refine Bk ?_
    refine Sq (RD hnt (nn 8 []) [15] [(25,pB ((Sc p0 k1).parent == p1))] [] [] (an (nn0 k1) (an (ltc hlt1) tv)) ?_)
    refine Aq hm ?_ ?_
    ·intro h13 hm
     obtain ⟨g14,hm⟩ := go1 hm
     refine RN hnt (nn 10 []) [(1,pI p1),(2,rr 1016),(5,ow 1272 (s1 ++ [(Sc p0 k1).id]).length),(6,pI ((k1 : Nat) : Int))] [(1016,bx (pm (Ag p0))),(1272,ob0 (roI (s1 ++ [(Sc p0 k1).id])))] [(5,ow 1272 (s1.length + 1))] [(1272,.row 1 (s1.length + 1) (Ff s1.length (elI s1) (cut 1 [vi (Sc p0 k1).id])))] (an (nn0 k1) (an (ltc hlt1) (an (by omega : (s1.length + 1) * 8 ≤ 140737488355328) tv))) (by kernel_rfl) (.cons rfl (MLe.ownLen (enc := Bi) (d := 0) (f := (Ff s1.length (elI s1) (cut 1 [vi (Sc p0 k1).id]))) (RowIs.cat RowIs.elems (RowIs.lit (enc := Bi) (d := 0) (n := 1) (f := (cut 1 [vi (Sc p0 k1).id])) [(Sc p0 k1).id] rfl (fun | 0,_ => rfl | n + 1,h => absurd h (by omega))))) .nil) (.cons rfl (BLe.typed (RowIs.cat RowIs.elems (RowIs.lit (enc := Bi) (d := 0) (n := 1) (f := (cut 1 [vi (Sc p0 k1).id])) [(Sc p0 k1).id] rfl (fun | 0,_ => rfl | n + 1,h => absurd h (by omega))))) .nil) ?_
     exact bD (s1 ++ [(Sc p0 k1).id]) hm .refl
    ·intro h13 hm
     refine Sk ?_
     exact bD s1 hm Conv.t0
  ·intro h12
   have hge1 : ¬ k1 < p0.nodes.length := by have := of_decide_eq_false h12; omega
   have hm := he1 hge1
   unfold Zg at hm
   refine DW.exit ?_
   refine As ?_
   refine Bb ?_
   refine An ?_
   show DW _ _ _ _ _
   refine Sq (RK hnt (nn 2 []) [(4,ow 1272 s1.length)] [(1272,ob0 (roI s1))] tv ?_)
   obtain rfl := sj hm
   exact DW.ret (Am [roI s1] [1272] (ow 0 s1.length))
abbrev o101 (ks : List Nat) (b : Bool) (RES : List Int) (sm : List Nat := []) : Orc := .call 88 ks b (ow 0 RES.length) [] [roI RES] sm

abbrev Fa (p0 : Ae) (k1 : Nat) := (p0.nodes.getD k1 (default : Aj))
abbrev AdQ : Nat × Obj := (1032,bx [.p (.sl .nil 0 0 (fun _ => [])),pI 0])
abbrev Aed : Nat × Obj := (1032,bx [ow 100000 0,pI 0])
theorem AdR (p0 : Ae) (p1 : Int) (RES : Ae × Int) (hm : Sh p0 p1 = some RES) : Spec Tryz.prog 47 [.p (.agg (Ag p0)),pI p1] [] (.tup [.agg [ow 0 RES.1.nodes.length,pI RES.1.next],pI RES.2]) [] [Dd RES.1.nodes] := by
 unfold Sh at hm
 refine SO Tryz.func47 rfl rfl [(0,.p (.agg (Ag p0))),(1,pI p1)] [] ?_
 intro cx hnt
 refine Sq (RK hnt (nn 3 []) [(1,pI p1),(2,rr 1016),(4,rr 1032)] [(1016,bx (pm (Ag p0))),(AdQ)] tv ?_)
 refine Sq (Bk ?_)
 obtain ⟨r1,hr1,hm⟩ := bo hm
 refine Sq (RD hnt (.no :: o6 [] true r1 :: nn 2 []) [] [(8,pB (!r1))] [] [] (an (Jt p0 r1 hr1) tv) ?_)
 refine Aq hm ?_ ?_
 ·intro h2 hm
  refine Sq (RD hnt (nn 3 []) [1,2,8] [(5,pI 1)] [1016] [] tv ?_)
  refine DW.cv [] [] [] [(Aed),(100000,ob0 (Dd []))] (Conv.ads [(.o 1032 0,100000,6,elems Bu Da [])]) ?_
  obtain rfl := sj hm
  exact DW.ret (Am [Dd []] [100000] (.tup [.agg [ow 0 0,pI 0],pI 1]))
 ·intro h2 hm
  obtain ⟨r3,hr3,hm⟩ := bo hm
  refine Sq (RD hnt (nn 2 (o10 [] true r3 :: nn 2 [])) [8] [(13,pB (!r3))] [] [] (an (Nu p0 p1 r3 hr3) tv) ?_)
  refine Aq hm ?_ ?_
  ·intro h4 hm
   refine Sq (RD hnt (nn 3 []) [1,2,13] [(5,pI 4)] [1016] [] tv ?_)
   refine DW.cv [] [] [] [(Aed),(100000,ob0 (Dd []))] (Conv.ads [(.o 1032 0,100000,6,elems Bu Da [])]) ?_
   obtain rfl := sj hm
   exact DW.ret (Am [Dd []] [100000] (.tup [.agg [ow 0 0,pI 0],pI 4]))
  ·intro h4 hm
   refine Sq (RD hnt (nn 3 []) [13] [(19,pB (p1 == 1))] [] [] tv ?_)
   refine Aq hm ?_ ?_
   ·intro h5 hm
    refine Sq (RD hnt (nn 3 []) [1,2,19] [(5,pI 9)] [1016] [] tv ?_)
    refine DW.cv [] [] [] [(Aed),(100000,ob0 (Dd []))] (Conv.ads [(.o 1032 0,100000,6,elems Bu Da [])]) ?_
    obtain rfl := sj hm
    exact DW.ret (Am [Dd []] [100000] (.tup [.agg [ow 0 0,pI 0],pI 9]))
   ·intro h5 hm
    obtain ⟨r6,hr6,hm⟩ := bo hm
    refine Sq (RD hnt (nn 2 (o101 [] true r6 :: nn 3 [])) [19] [(23,pB (decide (((r6.length : Nat) : Int) > 0)))] [] [] (an (Wn p0 p1 r6 hr6) tv) ?_)
    refine Aq hm ?_ ?_
    ·intro h7 hm
     refine Sq (RD hnt (nn 3 []) [1,2,23] [(5,pI 6)] [1016] [] tv ?_)
     refine DW.cv [] [] [] [(Aed),(100000,ob0 (Dd []))] (Conv.ads [(.o 1032 0,100000,6,elems Bu Da [])]) ?_
     obtain rfl := sj hm
     exact DW.ret (Am [Dd []] [100000] (.tup [.agg [ow 0 0,pI 0],pI 6]))
    ·intro h7 hm
     refine Sk ?_
     refine DW.done ?_
     show DW _ _ _ _ _
     refine Sq (RD hnt (nn 5 []) [23] [(6,rr 1048)] [] [(1048,bx [.p (.sl .nil 0 0 (fun _ => [])),pI p0.next])] tv ?_)
     refine Sq (Sq (RD hnt (.no :: []) [] [(7,pI 0)] [] [] tv ?_))
     refine Bk ?_
     obtain ⟨hc1,hm⟩ := go1 hm
     refine DW.rangeO (fun (k1 : Nat) (s1 : List Aj) => Af [(1,pI p1),(2,rr 1016),(4,rr 1032),(6,rr 1048),(7,pI ((k1 : Nat) : Int))] [(1016,bx (pm (Ag p0))),(AdQ),(1048,bx [ow 1448 s1.length,pI p0.next]),(1448,ob0 (Dd s1))]) Da hm (Conv.ads [(.o 1048 0,1448,6,elems Bu Da [])]) ?_
     intro k1 s1 n1 hk1 hs1 he1
     refine Sq (Sq (RD hnt (nn 5 []) [] [(37,pB (decide (((k1 : Nat) : Int) < ((p0.nodes.length : Nat) : Int))))] [] [] tv ?_))
     refine Eg (decide (((k1 : Nat) : Int) < ((p0.nodes.length : Nat) : Int))) ?_ ?_
     ·intro h17
      have hlt1 : k1 < p0.nodes.length := by have := of_decide_eq_true h17; omega
      have hm := hs1 hlt1
      unfold Sp at hm
      refine Sk ?_
      refine Sq ?_
      refine Jn (ι := List Aj) (fun (y3 : List Aj) => Af [(1,pI p1),(2,rr 1016),(4,rr 1032),(6,rr 1048),(7,pI ((k1 : Nat) : Int))] [(1016,bx (pm (Ag p0))),(AdQ),(1048,bx [ow 1448 y3.length,pI p0.next]),(1448,ob0 (Dd y3))]) (fun y3 => (Pd n1) y3 = some RES) ?_ ?_
      ·intro y3 hm
       unfold Pd at hm
       refine RD hnt (nn 3 []) [] [(7,pI (w64 (((k1 : Nat) : Int) + 1)))] [] [] tv ?_
       exact jD y3 ⟨hlt1,hm⟩ (Conv.tp [(7,pI (w64 (((k1 : Nat) : Int) + 1)))] [] (by kernel_rfl) (.cons rfl (.of_eq (congrArg pI (Cw hlt1 hc1))) .nil) .nil)
      ·refine Bk ?_
       refine Sq (RD hnt (nn 8 []) [37] [(47,pB ((Fa p0 k1).id != p1))] [] [] (an (nn0 k1) (an (ltc hlt1) tv)) ?_)
       refine Aq hm ?_ ?_
       ·intro h18 hm
        obtain ⟨g19,hm⟩ := go1 hm
        refine RN hnt (nn 11 []) [(1,pI p1),(2,rr 1016),(4,rr 1032),(6,rr 1048),(7,pI ((k1 : Nat) : Int))] [(1016,bx (pm (Ag p0))),(AdQ),(1048,bx [ow 1448 (s1 ++ [(Fa p0 k1)]).length,pI p0.next]),(1448,ob0 (Dd (s1 ++ [(Fa p0 k1)])))] [] [(1048,.box [ow 1448 (s1.length + 1),pI p0.next]),(1448,.row 6 (s1.length + 1) (Ff s1.length (Vn s1) (cut 6 [vi (Fa p0 k1).id,vi (Fa p0 k1).parent,vs (Fa p0 k1).name,vi (Fa p0 k1).control,vi (Fa p0 k1).kind,vi (Fa p0 k1).owner])))] (an (nn0 k1) (an (ltc hlt1) (an (by omega : (s1.length + 1) * 56 ≤ 140737488355328) tv))) (by kernel_rfl) .nil (.cons rfl (.box (.cons (MLe.ownLen (enc := Bu) (d := Da) (f := (Ff s1.length (Vn s1) (cut 6 [vi (Fa p0 k1).id,vi (Fa p0 k1).parent,vs (Fa p0 k1).name,vi (Fa p0 k1).control,vi (Fa p0 k1).kind,vi (Fa p0 k1).owner]))) (RowIs.cat RowIs.elems (RowIs.lit (enc := Bu) (d := Da) (n := 1) (f := (cut 6 [vi (Fa p0 k1).id,vi (Fa p0 k1).parent,vs (Fa p0 k1).name,vi (Fa p0 k1).control,vi (Fa p0 k1).kind,vi (Fa p0 k1).owner])) [(Fa p0 k1)] rfl (fun | 0,_ => rfl | n + 1,h => absurd h (by omega))))) (.cons .rfl .nil))) (.cons rfl (BLe.typed (RowIs.cat RowIs.elems (RowIs.lit (enc := Bu) (d := Da) (n := 1) (f := (cut 6 [vi (Fa p0 k1).id,vi (Fa p0 k1).parent,vs (Fa p0 k1).name,vi (Fa p0 k1).control,vi (Fa p0 k1).kind,vi (Fa p0 k1).owner])) [(Fa p0 k1)] rfl (fun | 0,_ => rfl | n + 1,h => absurd h (by omega))))) .nil)) ?_
        exact bD (s1 ++ [(Fa p0 k1)]) hm .refl
       ·intro h18 hm
        refine Sk ?_
        exact bD s1 hm Conv.t0
     ·intro h17
      have hge1 : ¬ k1 < p0.nodes.length := by have := of_decide_eq_false h17; omega
      have hm := he1 hge1
      unfold So at hm
      refine DW.exit ?_
      refine As ?_
      refine Bb ?_
      refine An ?_
      show DW _ _ _ _ _
      refine Sq (RK hnt (nn 3 []) [(4,rr 1032),(5,pI 0)] [(1032,bx [ow 1448 s1.length,pI p0.next]),(1448,ob0 (Dd s1))] tv ?_)
      obtain rfl := sj hm
      exact DW.ret (Am [Dd s1] [1448] (.tup [.agg [ow 0 s1.length,pI p0.next],pI 0]))
abbrev o100 (ks : List Nat) (b : Bool) (RES : Ae × Int) (sm : List Nat := []) : Orc := .call 47 ks b (.tup [.agg [ow 0 RES.1.nodes.length,pI RES.1.next],pI RES.2]) [] [Dd RES.1.nodes] sm

abbrev c96e1 : Nat × Obj := (1032,bx [.p (.sl .nil 0 0 (fun _ => [])),pI 0])
theorem Acd (p0 : Ak) (p1 : Int) (RES : Ae × Ak) (hm : Nl p0 p1 = some RES) : Spec Tryz.prog 11 [rr 0,pI p1] [.box (pm (Ar p0))] (.p (.agg (Ag RES.1))) [.box (pm (Ar RES.2))] [] := by
 unfold Nl at hm
 refine SO Tryz.func11 rfl rfl [(0,rr 0),(1,pI p1)] [(0,bx (pm (Ar p0)))] ?_
 intro cx hnt
 refine Sq (RD hnt (.no :: []) [] [(4,rr 1032)] [] [(c96e1)] tv ?_)
 obtain ⟨r1,hr1,hm⟩ := bo hm
 refine Sq (RD hnt (o4 [] true r1 :: nn 2 []) [] [(5,rr 1040)] [] [(1040,bx [ow 1104 r1.nodes.length,pI r1.next]),(1104,ob0 (Dd r1.nodes))] (an (Acl r1 hr1) tv) ?_)
 obtain ⟨r2,hr2,hm⟩ := bo hm
 refine Sq (Sq (RD hnt (nn 3 (o97 [0] true r2 :: .no :: [])) [1] [(6,pI r2.1)] [] [(0,bx (pm (Ar r2.2)))] (an (Cs p0 (w64 (p1 + 1)) r2 hr2) (an tv tv)) ?_))
 refine Bk ?_
 refine DW.whileO (fun (s1 : Ak × Ae × Int) => Af [(0,rr 0),(4,rr 1032),(5,rr 1040),(6,pI s1.2.2)] [(0,bx (pm (Ar s1.1))),(c96e1),(1040,bx (pm (Ag s1.2.1)))]) hm (Conv.frz [1104]) ?_
 intro s1 n1 hm
 unfold Sz at hm
 refine Sq (Sq (RD hnt (nn 2 []) [] [(19,pB (decide (s1.2.2 > 0)))] [] [] tv ?_))
 refine Aq hm ?_ ?_
 ·intro h18 hm
  refine Sk ?_
  refine Sq ?_
  refine Jn (ι := Ak × Ae) (fun (y3 : Ak × Ae) => Af [(0,rr 0),(4,rr 1032),(5,rr 1040),(6,pI s1.2.2)] [(0,bx (pm (Ar y3.1))),(c96e1),(1040,bx (pm (Ag y3.2)))]) (fun y3 => (Ir s1 n1) y3 = some RES) ?_ ?_
  ·intro y3 hm
   unfold Ir at hm
   refine RD hnt (nn 3 []) [] [(6,pI (w64 (s1.2.2 - 1)))] [] [] tv ?_
   exact jD (y3.1,y3.2,(w64 (s1.2.2 - 1))) hm Conv.eqK
  ·refine Bk ?_
   obtain ⟨r19,hr19,hm⟩ := bo hm
   obtain ⟨g20,hm⟩ := go1 hm
   refine Sq (RD hnt (nn 6 (o97 [0] true r19 :: nn 4 [])) [19] [(7,pI (s1.2.1.nodes.getD (Int.toNat r19.1) Da).id)] [] [(0,bx (pm (Ar r19.2)))] (an (Cs s1.1 ((s1.2.1.nodes.length : Nat) : Int) r19 hr19) (an tv (an g20.1 (an g20.2 tv)))) ?_)
   obtain ⟨r21,hr21,hm⟩ := bo hm
   obtain ⟨r22,hr22,hm⟩ := bo hm
   refine Sq (Sq (RD hnt (nn 3 (o98 [0] true r21 :: o5 [] true r22 :: nn 8 [])) [7] [(8,rr 1064),(10,pI r22.2.2)] [] [(0,bx (pm (Ar r21.2))),(1064,bx [ow 1296 r22.1.nodes.length,pI r22.1.next]),(1296,ob0 (Dd r22.1.nodes))] (an (AbP r19.2 r21 hr21) (an tv (an (Yc s1.2.1 (s1.2.1.nodes.getD (Int.toNat r19.1) Da).id r21.1 r22 hr22) tv))) ?_))
   refine Sq (RD hnt (nn 2 []) [10] [(42,pB (r22.2.2 == 0))] [] [] tv ?_)
   refine Jn (ι := Ae) (fun (y4 : Ae) => Af [(0,rr 0),(4,rr 1032),(5,rr 1040),(6,pI s1.2.2)] [(0,bx (pm (Ar r21.2))),(c96e1),(1040,bx (pm (Ag y4)))]) (fun y4 => (Ka s1 n1 r21) y4 = some RES) ?_ ?_
   ·intro y4 hm
    unfold Ka at hm
    obtain ⟨r24,hr24,hm⟩ := bo hm
    refine Sq (RD hnt (.no :: o99 [0] true r24 :: []) [] [(45,pB r24.1)] [] [(0,bx (pm (Ar r24.2)))] (an (Gj r21.2 6 r24 hr24) (an tv tv)) ?_)
    refine Aq hm ?_ ?_
    ·intro h25 hm
     obtain ⟨r26,hr26,hm⟩ := bo hm
     obtain ⟨g27,hm⟩ := go1 hm
     obtain ⟨r28,hr28,hm⟩ := bo hm
     refine Sq (RD hnt (nn 7 (o97 [0] true r26 :: nn 3 (o100 [] true r28 :: nn 6 []))) [45] [(11,rr 1088),(12,pI r28.2)] [] [(0,bx (pm (Ar r26.2))),(1088,bx [ow 1464 r28.1.nodes.length,pI r28.1.next]),(1464,ob0 (Dd r28.1.nodes))] (an (Cs r24.2 ((y4.nodes.length : Nat) : Int) r26 hr26) (an tv (an g27.1 (an g27.2 (an (AdR y4 (y4.nodes.getD (Int.toNat r26.1) Da).id r28 hr28) tv))))) ?_)
     refine Sq (RD hnt (nn 2 []) [12] [(62,pB (r28.2 == 0))] [] [] tv ?_)
     refine Aq hm ?_ ?_
     ·intro h29 hm
      refine RD hnt (nn 2 []) [11,62] [] [1088] [(1040,bx [ow 1464 r28.1.nodes.length,pI r28.1.next])] tv ?_
      exact bD (r26.2,r28.1) hm (Conv.frz [1464])
     ·intro h29 hm
      refine Sk ?_
      exact bD (r26.2,y4) hm Conv.t0
    ·intro h25 hm
     refine Sk ?_
     exact bD (r24.2,y4) hm Conv.t0
   ·refine Aq hm ?_ ?_
    ·intro h23 hm
     refine RD hnt (nn 2 []) [8,42] [] [1064] [(1040,bx [ow 1296 r22.1.nodes.length,pI r22.1.next])] tv ?_
     exact jD r22.1 hm (Conv.frz [1296])
    ·intro h23 hm
     refine Sk ?_
     exact jD s1.2.1 hm Conv.t0
 ·intro h18 hm
  refine DW.exit ?_
  refine As ?_
  refine Bb ?_
  refine An ?_
  show DW _ _ _ _ _
  refine Sq (RD hnt (nn 2 []) [0,5,6,19] [] [1040] [(1032,bx (pm (Ag s1.2.1)))] tv ?_)
  obtain rfl := sj hm
  exact DW.ret (Am [.box (pm (Ar s1.1))] [] (.p (.agg (Ag s1.2.1))))
abbrev o96 (ks : List Nat) (b : Bool) (RES : Ae × Ak) (sm : List Nat := []) : Orc := .call 11 ks b (.p (.agg (Ag RES.1))) [.box (pm (Ar RES.2))] [] sm

theorem Abc (p0 : Ak) (RES : Int × Ak) (hm : Lo p0 = some RES) : Spec Tryz.prog 87 [rr 0] [.box (pm (Ar p0))] (pI RES.1) [.box (pm (Ar RES.2))] [] := by
 unfold Lo at hm
 refine SO Tryz.func87 rfl rfl [(0,rr 0)] [(0,bx (pm (Ar p0)))] ?_
 intro cx hnt
 refine Sq (RD hnt (.no :: []) [] [] [] [] tv ?_)
 obtain ⟨r4,hr4,hm⟩ := bo hm
 obtain ⟨r5,hr5,hm⟩ := bo hm
 obtain ⟨g6,g7,hm⟩ := go2 hm
 refine Sq (RK hnt (.no :: o97 [0] true r4 :: .no :: .asR (ow 1048 [1,100,300,10000,50,200,7,(w64 (1 + r4.1))].length) [1,100,300,10000,50,200,7,(w64 (1 + r4.1))].length (elems Bi 0 [1,100,300,10000,50,200,7,(w64 (1 + r4.1))]) :: .no :: o97 [0] true r5 :: nn 3 []) [(2,pI ([1,100,300,10000,50,200,7,(w64 (1 + r4.1))].getD (Int.toNat r5.1) 0))] [(0,bx (pm (Ar r5.2)))] (an (Cs p0 1000 r4 hr4) (an tv (an (congrArg (MV.own 1048 0 0) (RowIs.asP (enc := Bi) (d := 0) (L := [1,100,300,10000,50,200,7,(w64 (1 + r4.1))]) (RowIs.lit (enc := Bi) (d := 0) (n := 8) (f := (cut 1 [vi 1,vi 100,vi 300,vi 10000,vi 50,vi 200,vi 7,vi (w64 (1 + r4.1))])) [1,100,300,10000,50,200,7,(w64 (1 + r4.1))] rfl (fun | 0,_ => rfl | 1,_ => rfl | 2,_ => rfl | 3,_ => rfl | 4,_ => rfl | 5,_ => rfl | 6,_ => rfl | 7,_ => rfl | n + 8,h => absurd h (by omega)))).1) (an (RowIs.asP (enc := Bi) (d := 0) (L := [1,100,300,10000,50,200,7,(w64 (1 + r4.1))]) (RowIs.lit (enc := Bi) (d := 0) (n := 8) (f := (cut 1 [vi 1,vi 100,vi 300,vi 10000,vi 50,vi 200,vi 7,vi (w64 (1 + r4.1))])) [1,100,300,10000,50,200,7,(w64 (1 + r4.1))] rfl (fun | 0,_ => rfl | 1,_ => rfl | 2,_ => rfl | 3,_ => rfl | 4,_ => rfl | 5,_ => rfl | 6,_ => rfl | 7,_ => rfl | n + 8,h => absurd h (by omega)))) (an (Cs r4.2 8 r5 hr5) (an tv (an g6.1 (an g6.2 (an g7 tv))))))))) ?_)
 obtain rfl := sj hm
 exact DW.ret (Am [.box (pm (Ar r5.2))] [] (pI ([1,100,300,10000,50,200,7,(w64 (1 + r4.1))].getD (Int.toNat r5.1) 0)))
abbrev o104 (ks : List Nat) (b : Bool) (RES : Int × Ak) (sm : List Nat := []) : Orc := .call 87 ks b (pI RES.1) [.box (pm (Ar RES.2))] [] sm

theorem Rv (p0 : Ak) (p1 : Int) (RES : (List Int) × Ak) (hm : Ks p0 p1 = some RES) : Spec Tryz.prog 49 [rr 0,pI p1] [.box (pm (Ar p0))] (ow 1 RES.1.length) [.box (pm (Ar RES.2))] [roI RES.1] := by
 unfold Ks at hm
 refine SO Tryz.func49 rfl rfl [(0,rr 0),(1,pI p1)] [(0,bx (pm (Ar p0)))] ?_
 intro cx hnt
 refine Sq (RD hnt (.no :: []) [] [] [] [] tv ?_)
 refine Sq (RD hnt (.no :: []) [] [(5,.p (.sl .nil 0 0 (fun _ => [])))] [] [] tv ?_)
 refine Sq (Sq (RD hnt (.no :: []) [] [(6,pI 0)] [] [] tv ?_))
 refine Bk ?_
 obtain ⟨hc1,hm⟩ := go1 hm
 refine DW.forO (fun (k1 : Int) (s1 : Ak × (List Int)) => Af [(0,rr 0),(1,pI p1),(5,ow 1136 s1.2.length),(6,pI k1)] [(0,bx (pm (Ar s1.1))),(1136,ob0 (roI s1.2))]) (lo := 0) (hi := p1) hm (Conv.ads [(.s 5,1136,1,elems Bi 0 [])]) ?_
 intro k1 s1 n1 hk1 hs1 he1
 refine Sq (Sq (RD hnt (nn 3 []) [] [(9,pB (decide (k1 < p1)))] [] [] tv ?_))
 refine Eg (decide (k1 < p1)) ?_ ?_
 ·intro h8
  have hlt1 : k1 < p1 := by have := of_decide_eq_true h8; omega
  have hm := hs1 hlt1
  unfold Uj at hm
  refine Sk ?_
  refine Sq ?_
  refine Jn (ι := Ak × (List Int)) (fun (y3 : Ak × (List Int)) => Af [(0,rr 0),(1,pI p1),(5,ow 1136 y3.2.length),(6,pI k1)] [(0,bx (pm (Ar y3.1))),(1136,ob0 (roI y3.2))]) (fun y3 => (Mp n1) y3 = some RES) ?_ ?_
  ·intro y3 hm
   unfold Mp at hm
   refine RD hnt (nn 3 []) [] [(6,pI (w64 (k1 + 1)))] [] [] tv ?_
   exact jD (y3.1,y3.2) ⟨hlt1,hm⟩ (Conv.tp [(6,pI (w64 (k1 + 1)))] [] (by kernel_rfl) (.cons rfl (.of_eq (congrArg pI (Qy (lo := 0) (hi := p1) (by omega) hk1 hlt1 (by omega)))) .nil) .nil)
  ·refine Bk ?_
   obtain ⟨r9,hr9,hm⟩ := bo hm
   refine Sq (RD hnt (.no :: o99 [0] true r9 :: []) [9] [(13,pB r9.1)] [] [(0,bx (pm (Ar r9.2)))] (an (Gj s1.1 3 r9 hr9) (an tv tv)) ?_)
   refine Aq hm ?_ ?_
   ·intro h10 hm
    obtain ⟨g11,hm⟩ := go1 hm
    refine RN hnt (nn 5 []) [(0,rr 0),(1,pI p1),(5,ow 1136 (s1.2 ++ [k1]).length),(6,pI k1)] [(0,bx (pm (Ar r9.2))),(1136,ob0 (roI (s1.2 ++ [k1])))] [(5,ow 1136 (s1.2.length + 1))] [(1136,.row 1 (s1.2.length + 1) (Ff s1.2.length (elI s1.2) (cut 1 [vi k1])))] (an (by omega : (s1.2.length + 1) * 8 ≤ 140737488355328) tv) (by kernel_rfl) (.cons rfl (MLe.ownLen (enc := Bi) (d := 0) (f := (Ff s1.2.length (elI s1.2) (cut 1 [vi k1]))) (RowIs.cat RowIs.elems (RowIs.lit (enc := Bi) (d := 0) (n := 1) (f := (cut 1 [vi k1])) [k1] rfl (fun | 0,_ => rfl | n + 1,h => absurd h (by omega))))) .nil) (.cons rfl (BLe.typed (RowIs.cat RowIs.elems (RowIs.lit (enc := Bi) (d := 0) (n := 1) (f := (cut 1 [vi k1])) [k1] rfl (fun | 0,_ => rfl | n + 1,h => absurd h (by omega))))) .nil) ?_
    exact bD (r9.2,(s1.2 ++ [k1])) hm .refl
   ·intro h10 hm
    refine Sk ?_
    exact bD (r9.2,s1.2) hm Conv.t0
 ·intro h8
  have hge1 : ¬ k1 < p1 := by have := of_decide_eq_false h8; omega
  have hm := he1 hge1
  unfold Uk at hm
  refine DW.exit ?_
  refine As ?_
  refine Bb ?_
  refine An ?_
  show DW _ _ _ _ _
  refine Sq (RD hnt (nn 2 []) [0,1,5,6,9] [(4,ow 1136 s1.2.length)] [] [] tv ?_)
  obtain rfl := sj hm
  exact DW.ret (Am [.box (pm (Ar s1.1)),roI s1.2] [1136] (ow 1 s1.2.length))
abbrev o105 (ks : List Nat) (b : Bool) (RES : (List Int) × Ak) (sm : List Nat := []) : Orc := .call 49 ks b (ow 1 RES.1.length) [.box (pm (Ar RES.2))] [roI RES.1] sm

abbrev Vv : Nat × Obj := (1016,bx [pI 0,pI 0,pI 0,pI 0,pI 0,pI 0,pI 0,.p (.sl .nil 0 0 (fun _ => [])),.p (.sl .nil 0 0 (fun _ => [])),pI 0,pI 0,pI 0,pI 0,pI 0,pI 0,pB false,.p (.sl .nil 0 0 (fun _ => []))])
abbrev Wb (r1 : Al) : Nat × Obj := (1034,ob0 (Ai r1.devices))
theorem Sb (p0 : Ak) (RES : Al × Ak) (hm : Iv p0 = some RES) : Spec Tryz.prog 32 [rr 0] [.box (pm (Ar p0))] (.agg [pI RES.1.pidsMax,pI RES.1.weight,pI RES.1.quota,pI RES.1.period,pI RES.1.burst,pI RES.1.clampMin,pI RES.1.clampMax,.p (slI RES.1.cpus),.p (slI RES.1.mems),pI RES.1.partition,pI RES.1.memory.min,pI RES.1.memory.low,pI RES.1.memory.high,pI RES.1.memory.max,pI RES.1.memory.swapMax,pB RES.1.memory.together,ow 1 RES.1.devices.length]) [.box (pm (Ar RES.2))] [Ai RES.1.devices] := by
 unfold Iv at hm
 refine SO Tryz.func32 rfl rfl [(0,rr 0)] [(0,bx (pm (Ar p0)))] ?_
 intro cx hnt
 refine Sq (RD hnt (.no :: []) [] [(2,rr 1016)] [] [(Vv)] tv ?_)
 obtain ⟨r1,hr1,hm⟩ := bo hm
 refine Sq (RD hnt (o19 [] true r1 :: nn 2 []) [] [(3,rr 1024)] [] [(1024,bx [pI r1.pidsMax,pI r1.weight,pI r1.quota,pI r1.period,pI r1.burst,pI r1.clampMin,pI r1.clampMax,ow 1032 r1.cpus.length,ow 1033 r1.mems.length,pI r1.partition,pI r1.memory.min,pI r1.memory.low,pI r1.memory.high,pI r1.memory.max,pI r1.memory.swapMax,pB r1.memory.together,ow 1034 r1.devices.length]),(1032,ob0 (roI r1.cpus)),(1033,ob0 (roI r1.mems)),(Wb r1)] (an (Nf r1 hr1) tv) ?_)
 obtain ⟨r2,hr2,hm⟩ := bo hm
 refine Sq (Sq (RD hnt (.no :: o99 [0] true r2 :: []) [] [(6,pB r2.1)] [] [(0,bx (pm (Ar r2.2)))] (an (Gj p0 2 r2 hr2) (an tv tv)) ?_))
 refine Jn (ι := Ak × Int) (fun (y1 : Ak × Int) => Af [(0,rr 0),(2,rr 1016),(3,rr 1024)] [(0,bx (pm (Ar y1.1))),(Vv),(1024,bx [pI y1.2,pI r1.weight,pI r1.quota,pI r1.period,pI r1.burst,pI r1.clampMin,pI r1.clampMax,ow 1032 r1.cpus.length,ow 1033 r1.mems.length,pI r1.partition,pI r1.memory.min,pI r1.memory.low,pI r1.memory.high,pI r1.memory.max,pI r1.memory.swapMax,pB r1.memory.together,ow 1034 r1.devices.length]),(1032,ob0 (roI r1.cpus)),(1033,ob0 (roI r1.mems)),(Wb r1)]) (fun y1 => (Hq r1) y1 = some RES) ?_ ?_
 ·intro y1 hm
  unfold Hq at hm
  obtain ⟨r5,hr5,hm⟩ := bo hm
  refine Sq (RD hnt (.no :: o104 [0] true r5 :: nn 2 []) [] [] [] [(0,bx (pm (Ar r5.2))),(1024,bx [pI y1.2,pI r5.1,pI r1.quota,pI r1.period,pI r1.burst,pI r1.clampMin,pI r1.clampMax,ow 1032 r1.cpus.length,ow 1033 r1.mems.length,pI r1.partition,pI r1.memory.min,pI r1.memory.low,pI r1.memory.high,pI r1.memory.max,pI r1.memory.swapMax,pB r1.memory.together,ow 1034 r1.devices.length])] (an (Abc y1.1 r5 hr5) (an tv tv)) ?_)
  obtain ⟨r6,hr6,hm⟩ := bo hm
  refine Sq (Sq (RD hnt (.no :: o99 [0] true r6 :: []) [] [(14,pB r6.1)] [] [(0,bx (pm (Ar r6.2)))] (an (Gj r5.2 2 r6 hr6) (an tv tv)) ?_))
  refine Jn (ι := Ak × Int × Int) (fun (y2 : Ak × Int × Int) => Af [(0,rr 0),(2,rr 1016),(3,rr 1024)] [(0,bx (pm (Ar y2.1))),(Vv),(1024,bx [pI y1.2,pI r5.1,pI y2.2.1,pI r1.period,pI y2.2.2,pI r1.clampMin,pI r1.clampMax,ow 1032 r1.cpus.length,ow 1033 r1.mems.length,pI r1.partition,pI r1.memory.min,pI r1.memory.low,pI r1.memory.high,pI r1.memory.max,pI r1.memory.swapMax,pB r1.memory.together,ow 1034 r1.devices.length]),(1032,ob0 (roI r1.cpus)),(1033,ob0 (roI r1.mems)),(Wb r1)]) (fun y2 => (Hu r1 y1 r5) y2 = some RES) ?_ ?_
  ·intro y2 hm
   unfold Hu at hm
   obtain ⟨r10,hr10,hm⟩ := bo hm
   refine Sq (RD hnt (.no :: o97 [0] true r10 :: nn 3 []) [] [] [] [(0,bx (pm (Ar r10.2))),(1024,bx [pI y1.2,pI r5.1,pI y2.2.1,pI (w64 (1 + r10.1)),pI y2.2.2,pI r1.clampMin,pI r1.clampMax,ow 1032 r1.cpus.length,ow 1033 r1.mems.length,pI r1.partition,pI r1.memory.min,pI r1.memory.low,pI r1.memory.high,pI r1.memory.max,pI r1.memory.swapMax,pB r1.memory.together,ow 1034 r1.devices.length])] (an (Cs y2.1 9 r10 hr10) (an tv tv)) ?_)
   obtain ⟨r11,hr11,hm⟩ := bo hm
   obtain ⟨r12,hr12,hm⟩ := bo hm
   refine Sq (RD hnt (.no :: o97 [0] true r11 :: .no :: o97 [0] true r12 :: nn 4 []) [] [] [] [(0,bx (pm (Ar r12.2))),(1024,bx [pI y1.2,pI r5.1,pI y2.2.1,pI (w64 (1 + r10.1)),pI y2.2.2,pI r11.1,pI r12.1,ow 1032 r1.cpus.length,ow 1033 r1.mems.length,pI r1.partition,pI r1.memory.min,pI r1.memory.low,pI r1.memory.high,pI r1.memory.max,pI r1.memory.swapMax,pB r1.memory.together,ow 1034 r1.devices.length])] (an (Cs r10.2 10001 r11 hr11) (an tv (an (Cs r11.2 10001 r12 hr12) (an tv tv)))) ?_)
   obtain ⟨r13,hr13,hm⟩ := bo hm
   refine Sq (Sq (RD hnt (.no :: o99 [0] true r13 :: []) [] [(36,pB r13.1)] [] [(0,bx (pm (Ar r13.2)))] (an (Gj r12.2 2 r13 hr13) (an tv tv)) ?_))
   refine Jn (ι := Ak × (List Int)) (fun (y3 : Ak × (List Int)) => Af [(0,rr 0),(2,rr 1016),(3,rr 1024)] [(0,bx (pm (Ar y3.1))),(Vv),(1024,bx [pI y1.2,pI r5.1,pI y2.2.1,pI (w64 (1 + r10.1)),pI y2.2.2,pI r11.1,pI r12.1,.p (slI y3.2),ow 1033 r1.mems.length,pI r1.partition,pI r1.memory.min,pI r1.memory.low,pI r1.memory.high,pI r1.memory.max,pI r1.memory.swapMax,pB r1.memory.together,ow 1034 r1.devices.length]),(1033,ob0 (roI r1.mems)),(Wb r1)]) (fun y3 => (Hm r1 y1 r5 y2 r10 r11 r12) y3 = some RES) ?_ ?_
   ·intro y3 hm
    unfold Hm at hm
    obtain ⟨r16,hr16,hm⟩ := bo hm
    refine Sq (Sq (RD hnt (.no :: o99 [0] true r16 :: []) [] [(41,pB r16.1)] [] [(0,bx (pm (Ar r16.2)))] (an (Gj y3.1 2 r16 hr16) (an tv tv)) ?_))
    refine Jn (ι := Ak × (List Int)) (fun (y4 : Ak × (List Int)) => Af [(0,rr 0),(2,rr 1016),(3,rr 1024)] [(0,bx (pm (Ar y4.1))),(Vv),(1024,bx [pI y1.2,pI r5.1,pI y2.2.1,pI (w64 (1 + r10.1)),pI y2.2.2,pI r11.1,pI r12.1,.p (slI y3.2),.p (slI y4.2),pI r1.partition,pI r1.memory.min,pI r1.memory.low,pI r1.memory.high,pI r1.memory.max,pI r1.memory.swapMax,pB r1.memory.together,ow 1034 r1.devices.length]),(Wb r1)]) (fun y4 => (Hp r1 y1 r5 y2 r10 r11 r12 y3) y4 = some RES) ?_ ?_
    ·intro y4 hm
     unfold Hp at hm
     obtain ⟨r19,hr19,hm⟩ := bo hm
     refine Sq (Sq (RD hnt (.no :: o99 [0] true r19 :: []) [0] [(46,pB r19.1)] [] [(0,bx (pm (Ar r19.2)))] (an (Gj y4.1 3 r19 hr19) (an tv tv)) ?_))
     refine Jn (ι := Int) (fun (y5 : Int) => Af [(2,rr 1016),(3,rr 1024)] [(0,bx (pm (Ar r19.2))),(Vv),(1024,bx [pI y1.2,pI r5.1,pI y2.2.1,pI (w64 (1 + r10.1)),pI y2.2.2,pI r11.1,pI r12.1,.p (slI y3.2),.p (slI y4.2),pI y5,pI r1.memory.min,pI r1.memory.low,pI r1.memory.high,pI r1.memory.max,pI r1.memory.swapMax,pB r1.memory.together,ow 1034 r1.devices.length]),(Wb r1)]) (fun y5 => (Hs r1 y1 r5 y2 r10 r11 r12 y3 y4 r19) y5 = some RES) ?_ ?_
     ·intro y5 hm
      unfold Hs at hm
      refine Sq (RD hnt (nn 2 []) [3] [] [1024] [(1016,bx [pI y1.2,pI r5.1,pI y2.2.1,pI (w64 (1 + r10.1)),pI y2.2.2,pI r11.1,pI r12.1,.p (slI y3.2),.p (slI y4.2),pI y5,pI r1.memory.min,pI r1.memory.low,pI r1.memory.high,pI r1.memory.max,pI r1.memory.swapMax,pB r1.memory.together,ow 1034 r1.devices.length])] tv ?_)
      obtain rfl := sj hm
      exact DW.ret (Am [.box (pm (Ar r19.2)),Ai r1.devices] [1034] (.agg [pI y1.2,pI r5.1,pI y2.2.1,pI (w64 (1 + r10.1)),pI y2.2.2,pI r11.1,pI r12.1,.p (slI y3.2),.p (slI y4.2),pI y5,pI r1.memory.min,pI r1.memory.low,pI r1.memory.high,pI r1.memory.max,pI r1.memory.swapMax,pB r1.memory.together,ow 1 r1.devices.length]))
     ·refine Aq hm ?_ ?_
      ·intro h20 hm
       refine RD hnt (nn 2 []) [46] [] [] [(1024,bx [pI y1.2,pI r5.1,pI y2.2.1,pI (w64 (1 + r10.1)),pI y2.2.2,pI r11.1,pI r12.1,.p (slI y3.2),.p (slI y4.2),pI 1,pI r1.memory.min,pI r1.memory.low,pI r1.memory.high,pI r1.memory.max,pI r1.memory.swapMax,pB r1.memory.together,ow 1034 r1.devices.length])] tv ?_
       exact jD 1 hm Conv.eqK
      ·intro h20 hm
       refine Sk ?_
       exact jD r1.partition hm Conv.t0
    ·refine Aq hm ?_ ?_
     ·intro h17 hm
      obtain ⟨r18,hr18,hm⟩ := bo hm
      refine RD hnt (.no :: o105 [0] true r18 :: nn 2 []) [41] [] [1033] [(0,bx (pm (Ar r18.2))),(1024,bx [pI y1.2,pI r5.1,pI y2.2.1,pI (w64 (1 + r10.1)),pI y2.2.2,pI r11.1,pI r12.1,.p (slI y3.2),ow 1344 r18.1.length,pI r1.partition,pI r1.memory.min,pI r1.memory.low,pI r1.memory.high,pI r1.memory.max,pI r1.memory.swapMax,pB r1.memory.together,ow 1034 r1.devices.length]),(1344,ob0 (roI r18.1))] (an (Rv r16.2 4 r18 hr18) (an tv tv)) ?_
      exact jD (r18.2,r18.1) hm (Conv.frz [1344])
     ·intro h17 hm
      refine Sk ?_
      exact jD (r16.2,r1.mems) hm (Conv.trans (τ := Af [(0,rr 0),(2,rr 1016),(3,rr 1024),(41,pB r16.1)] [(0,bx (pm (Ar r16.2))),(Vv),(1024,bx [pI y1.2,pI r5.1,pI y2.2.1,pI (w64 (1 + r10.1)),pI y2.2.2,pI r11.1,pI r12.1,.p (slI y3.2),.p (slI r1.mems),pI r1.partition,pI r1.memory.min,pI r1.memory.low,pI r1.memory.high,pI r1.memory.max,pI r1.memory.swapMax,pB r1.memory.together,ow 1034 r1.devices.length]),(Wb r1)]) (Conv.frz [1033]) Conv.t0)
   ·refine Aq hm ?_ ?_
    ·intro h14 hm
     obtain ⟨r15,hr15,hm⟩ := bo hm
     refine RD hnt (.no :: o105 [0] true r15 :: nn 2 []) [36] [] [1032] [(0,bx (pm (Ar r15.2))),(1024,bx [pI y1.2,pI r5.1,pI y2.2.1,pI (w64 (1 + r10.1)),pI y2.2.2,pI r11.1,pI r12.1,ow 1304 r15.1.length,ow 1033 r1.mems.length,pI r1.partition,pI r1.memory.min,pI r1.memory.low,pI r1.memory.high,pI r1.memory.max,pI r1.memory.swapMax,pB r1.memory.together,ow 1034 r1.devices.length]),(1304,ob0 (roI r15.1))] (an (Rv r13.2 6 r15 hr15) (an tv tv)) ?_
     exact jD (r15.2,r15.1) hm (Conv.frz [1304])
    ·intro h14 hm
     refine Sk ?_
     exact jD (r13.2,r1.cpus) hm (Conv.trans (τ := Af [(0,rr 0),(2,rr 1016),(3,rr 1024),(36,pB r13.1)] [(0,bx (pm (Ar r13.2))),(Vv),(1024,bx [pI y1.2,pI r5.1,pI y2.2.1,pI (w64 (1 + r10.1)),pI y2.2.2,pI r11.1,pI r12.1,.p (slI r1.cpus),ow 1033 r1.mems.length,pI r1.partition,pI r1.memory.min,pI r1.memory.low,pI r1.memory.high,pI r1.memory.max,pI r1.memory.swapMax,pB r1.memory.together,ow 1034 r1.devices.length]),(1033,ob0 (roI r1.mems)),(Wb r1)]) (Conv.frz [1032]) Conv.t0)
  ·refine Aq hm ?_ ?_
   ·intro h7 hm
    obtain ⟨r8,hr8,hm⟩ := bo hm
    refine Sq (RD hnt (.no :: o97 [0] true r8 :: nn 3 []) [14] [] [] [(0,bx (pm (Ar r8.2))),(1024,bx [pI y1.2,pI r5.1,pI (w64 (1 + r8.1)),pI r1.period,pI r1.burst,pI r1.clampMin,pI r1.clampMax,ow 1032 r1.cpus.length,ow 1033 r1.mems.length,pI r1.partition,pI r1.memory.min,pI r1.memory.low,pI r1.memory.high,pI r1.memory.max,pI r1.memory.swapMax,pB r1.memory.together,ow 1034 r1.devices.length])] (an (Cs r6.2 9 r8 hr8) (an tv tv)) ?_)
    obtain ⟨r9,hr9,hm⟩ := bo hm
    refine RD hnt (nn 4 (o97 [0] true r9 :: nn 2 [])) [] [] [] [(0,bx (pm (Ar r9.2))),(1024,bx [pI y1.2,pI r5.1,pI (w64 (1 + r8.1)),pI r1.period,pI r9.1,pI r1.clampMin,pI r1.clampMax,ow 1032 r1.cpus.length,ow 1033 r1.mems.length,pI r1.partition,pI r1.memory.min,pI r1.memory.low,pI r1.memory.high,pI r1.memory.max,pI r1.memory.swapMax,pB r1.memory.together,ow 1034 r1.devices.length])] (an (Cs r8.2 (w64 ((w64 (1 + r8.1)) + 1)) r9 hr9) (an tv tv)) ?_
    exact jD (r9.2,(w64 (1 + r8.1)),r9.1) hm Conv.eqK
   ·intro h7 hm
    refine Sk ?_
    exact jD (r6.2,r1.quota,r1.burst) hm Conv.t0
 ·refine Aq hm ?_ ?_
  ·intro h3 hm
   obtain ⟨r4,hr4,hm⟩ := bo hm
   refine RD hnt (.no :: o97 [0] true r4 :: nn 2 []) [6] [] [] [(0,bx (pm (Ar r4.2))),(1024,bx [pI r4.1,pI r1.weight,pI r1.quota,pI r1.period,pI r1.burst,pI r1.clampMin,pI r1.clampMax,ow 1032 r1.cpus.length,ow 1033 r1.mems.length,pI r1.partition,pI r1.memory.min,pI r1.memory.low,pI r1.memory.high,pI r1.memory.max,pI r1.memory.swapMax,pB r1.memory.together,ow 1034 r1.devices.length])] (an (Cs r2.2 6 r4 hr4) (an tv tv)) ?_
   exact jD (r4.2,r4.1) hm Conv.eqK
  ·intro h3 hm
   refine Sk ?_
   exact jD (r2.2,r1.pidsMax) hm Conv.t0
abbrev o103 (ks : List Nat) (b : Bool) (RES : Al × Ak) (sm : List Nat := []) : Orc := .call 32 ks b (.agg [pI RES.1.pidsMax,pI RES.1.weight,pI RES.1.quota,pI RES.1.period,pI RES.1.burst,pI RES.1.clampMin,pI RES.1.clampMax,.p (slI RES.1.cpus),.p (slI RES.1.mems),pI RES.1.partition,pI RES.1.memory.min,pI RES.1.memory.low,pI RES.1.memory.high,pI RES.1.memory.max,pI RES.1.memory.swapMax,pB RES.1.memory.together,ow 1 RES.1.devices.length]) [.box (pm (Ar RES.2))] [Ai RES.1.devices] sm

abbrev AbM (p1 : Ae) (k1 : Nat) (y3 : Ak × Al) := ({ group := (p1.nodes.getD k1 (default : Aj)).id,settings := y3.2 } : Ac)
theorem AaE (p0 : Ak) (p1 : Ae) (RES : (List Ac) × Ak) (hm : Kz p0 p1 = some RES) : Spec Tryz.prog 12 [rr 0,.p (.agg (Ag p1))] [.box (pm (Ar p0))] (ow 1 RES.1.length) [.box (pm (Ar RES.2))] [Bz RES.1] := by
 unfold Kz at hm
 refine SO Tryz.func12 rfl rfl [(0,rr 0),(1,.p (.agg (Ag p1)))] [(0,bx (pm (Ar p0)))] ?_
 intro cx hnt
 refine Sq (RD hnt (nn 2 []) [1] [(3,rr 1024)] [] [(1024,bx (pm (Ag p1)))] tv ?_)
 refine Sq (RD hnt (.no :: []) [] [(5,.p (.sl .nil 0 0 (fun _ => [])))] [] [] tv ?_)
 refine Sq (Sq (RD hnt (.no :: []) [] [(6,pI 0)] [] [] tv ?_))
 refine Bk ?_
 obtain ⟨hc1,hm⟩ := go1 hm
 refine DW.rangeO (fun (k1 : Nat) (s1 : Ak × (List Ac)) => Af [(0,rr 0),(3,rr 1024),(5,ow 1240 s1.2.length),(6,pI ((k1 : Nat) : Int))] [(0,bx (pm (Ar s1.1))),(1024,bx (pm (Ag p1))),(1240,ob0 (Bz s1.2))]) Da hm (Conv.ads [(.s 5,1240,18,elems Ey Be [])]) ?_
 intro k1 s1 n1 hk1 hs1 he1
 refine Sq (Sq (RD hnt (nn 5 []) [] [(12,pB (decide (((k1 : Nat) : Int) < ((p1.nodes.length : Nat) : Int))))] [] [] tv ?_))
 refine Eg (decide (((k1 : Nat) : Int) < ((p1.nodes.length : Nat) : Int))) ?_ ?_
 ·intro h14
  have hlt1 : k1 < p1.nodes.length := by have := of_decide_eq_true h14; omega
  have hm := hs1 hlt1
  unfold Pt at hm
  refine Sk ?_
  refine Sq (Bk ?_)
  obtain ⟨r15,hr15,hm⟩ := bo hm
  refine Sq (RD hnt (o19 [] true r15 :: nn 2 []) [12] [(7,rr 1056)] [] [(1056,bx [pI r15.pidsMax,pI r15.weight,pI r15.quota,pI r15.period,pI r15.burst,pI r15.clampMin,pI r15.clampMax,ow 1120 r15.cpus.length,ow 1121 r15.mems.length,pI r15.partition,pI r15.memory.min,pI r15.memory.low,pI r15.memory.high,pI r15.memory.max,pI r15.memory.swapMax,pB r15.memory.together,ow 1122 r15.devices.length]),(1120,ob0 (roI r15.cpus)),(1121,ob0 (roI r15.mems)),(1122,ob0 (Ai r15.devices))] (an (Nf r15 hr15) tv) ?_)
  obtain ⟨r16,hr16,hm⟩ := bo hm
  refine Sq (Sq (RD hnt (.no :: o99 [0] true r16 :: []) [] [(17,pB r16.1)] [] [(0,bx (pm (Ar r16.2)))] (an (Gj s1.1 2 r16 hr16) (an tv tv)) ?_))
  refine Jn (ι := Ak × Al) (fun (y3 : Ak × Al) => Af [(0,rr 0),(3,rr 1024),(5,ow 1240 s1.2.length),(6,pI ((k1 : Nat) : Int)),(7,rr 1056)] [(0,bx (pm (Ar y3.1))),(1024,bx (pm (Ag p1))),(1056,bx (pm (Bm y3.2))),(1240,ob0 (Bz s1.2))]) (fun y3 => (Ic (p1.nodes.getD k1 (default : Aj)) s1 n1) y3 = some RES) ?_ ?_
  ·intro y3 hm
   unfold Ic at hm
   obtain ⟨g19,hm⟩ := go1 hm
   refine RN hnt (nn 12 []) [(0,rr 0),(3,rr 1024),(5,ow 1240 (s1.2 ++ [(AbM p1 k1 y3)]).length),(6,pI ((k1 : Nat) : Int))] [(0,bx (pm (Ar y3.1))),(1024,bx (pm (Ag p1))),(1240,ob0 (Bz (s1.2 ++ [(AbM p1 k1 y3)])))] [(5,ow 1240 (s1.2.length + 1))] [(1240,.row 18 (s1.2.length + 1) (Ff s1.2.length (Vd s1.2) (cut 18 [vi (p1.nodes.getD k1 (default : Aj)).id,vi y3.2.pidsMax,vi y3.2.weight,vi y3.2.quota,vi y3.2.period,vi y3.2.burst,vi y3.2.clampMin,vi y3.2.clampMax,slI y3.2.cpus,slI y3.2.mems,vi y3.2.partition,vi y3.2.memory.min,vi y3.2.memory.low,vi y3.2.memory.high,vi y3.2.memory.max,vi y3.2.memory.swapMax,vb y3.2.memory.together,Cl y3.2.devices])))] (an (nn0 k1) (an (ltc hlt1) (an (by omega : (s1.2.length + 1) * 192 ≤ 140737488355328) tv))) (by kernel_rfl) (.cons rfl (MLe.ownLen (enc := Ey) (d := Be) (f := (Ff s1.2.length (Vd s1.2) (cut 18 [vi (p1.nodes.getD k1 (default : Aj)).id,vi y3.2.pidsMax,vi y3.2.weight,vi y3.2.quota,vi y3.2.period,vi y3.2.burst,vi y3.2.clampMin,vi y3.2.clampMax,slI y3.2.cpus,slI y3.2.mems,vi y3.2.partition,vi y3.2.memory.min,vi y3.2.memory.low,vi y3.2.memory.high,vi y3.2.memory.max,vi y3.2.memory.swapMax,vb y3.2.memory.together,Cl y3.2.devices]))) (RowIs.cat RowIs.elems (RowIs.lit (enc := Ey) (d := Be) (n := 1) (f := (cut 18 [vi (p1.nodes.getD k1 (default : Aj)).id,vi y3.2.pidsMax,vi y3.2.weight,vi y3.2.quota,vi y3.2.period,vi y3.2.burst,vi y3.2.clampMin,vi y3.2.clampMax,slI y3.2.cpus,slI y3.2.mems,vi y3.2.partition,vi y3.2.memory.min,vi y3.2.memory.low,vi y3.2.memory.high,vi y3.2.memory.max,vi y3.2.memory.swapMax,vb y3.2.memory.together,Cl y3.2.devices])) [(AbM p1 k1 y3)] rfl (fun | 0,_ => rfl | n + 1,h => absurd h (by omega))))) .nil) (.cons rfl (BLe.typed (RowIs.cat RowIs.elems (RowIs.lit (enc := Ey) (d := Be) (n := 1) (f := (cut 18 [vi (p1.nodes.getD k1 (default : Aj)).id,vi y3.2.pidsMax,vi y3.2.weight,vi y3.2.quota,vi y3.2.period,vi y3.2.burst,vi y3.2.clampMin,vi y3.2.clampMax,slI y3.2.cpus,slI y3.2.mems,vi y3.2.partition,vi y3.2.memory.min,vi y3.2.memory.low,vi y3.2.memory.high,vi y3.2.memory.max,vi y3.2.memory.swapMax,vb y3.2.memory.together,Cl y3.2.devices])) [(AbM p1 k1 y3)] rfl (fun | 0,_ => rfl | n + 1,h => absurd h (by omega))))) .nil) ?_
   refine DW.done ?_
   show DW _ _ _ _ _
   refine RD hnt (nn 3 []) [] [(6,pI (w64 (((k1 : Nat) : Int) + 1)))] [] [] tv ?_
   exact jD (y3.1,(s1.2 ++ [(AbM p1 k1 y3)])) ⟨hlt1,hm⟩ (Conv.tp [(6,pI (w64 (((k1 : Nat) : Int) + 1)))] [] (by kernel_rfl) (.cons rfl (.of_eq (congrArg pI (Cw hlt1 hc1))) .nil) .nil)
  ·refine Aq hm ?_ ?_
   ·intro h17 hm
    obtain ⟨r18,hr18,hm⟩ := bo hm
    refine RD hnt (.no :: o103 [0] true r18 :: .no :: []) [17] [] [1120,1121,1122] [(0,bx (pm (Ar r18.2))),(1056,bx [pI r18.1.pidsMax,pI r18.1.weight,pI r18.1.quota,pI r18.1.period,pI r18.1.burst,pI r18.1.clampMin,pI r18.1.clampMax,.p (slI r18.1.cpus),.p (slI r18.1.mems),pI r18.1.partition,pI r18.1.memory.min,pI r18.1.memory.low,pI r18.1.memory.high,pI r18.1.memory.max,pI r18.1.memory.swapMax,pB r18.1.memory.together,ow 1152 r18.1.devices.length]),(1152,ob0 (Ai r18.1.devices))] (an (Sb r16.2 r18 hr18) (an tv tv)) ?_
    exact jD (r18.2,r18.1) hm (Conv.frz [1152])
   ·intro h17 hm
    refine Sk ?_
    exact jD (r16.2,r15) hm (Conv.trans (τ := Af [(0,rr 0),(3,rr 1024),(5,ow 1240 s1.2.length),(6,pI ((k1 : Nat) : Int)),(7,rr 1056),(17,pB r16.1)] [(0,bx (pm (Ar r16.2))),(1024,bx (pm (Ag p1))),(1056,bx (pm (Bm r15))),(1240,ob0 (Bz s1.2))]) (Conv.frz [1120,1121,1122]) Conv.t0)
 ·intro h14
  have hge1 : ¬ k1 < p1.nodes.length := by have := of_decide_eq_false h14; omega
  have hm := he1 hge1
  unfold Py at hm
  refine DW.exit ?_
  refine As ?_
  refine Bb ?_
  refine An ?_
  show DW _ _ _ _ _
  refine Sq (RD hnt (nn 2 []) [0,3,5,6,12] [(4,ow 1240 s1.2.length)] [1024] [] tv ?_)
  obtain rfl := sj hm
  exact DW.ret (Am [.box (pm (Ar s1.1)),Bz s1.2] [1240] (ow 1 s1.2.length))
abbrev o102 (ks : List Nat) (b : Bool) (RES : (List Ac) × Ak) (sm : List Nat := []) : Orc := .call 12 ks b (ow 1 RES.1.length) [.box (pm (Ar RES.2))] [Bz RES.1] sm

theorem AaS (p0 : Ak) (p1 : Int) (RES : (List Int) × Ak) (hm : Lu p0 p1 = some RES) : Spec Tryz.prog 13 [rr 0,pI p1] [.box (pm (Ar p0))] (ow 1 RES.1.length) [.box (pm (Ar RES.2))] [roI RES.1] := by
 unfold Lu at hm
 refine SO Tryz.func13 rfl rfl [(0,rr 0),(1,pI p1)] [(0,bx (pm (Ar p0)))] ?_
 intro cx hnt
 refine Sq (RD hnt (.no :: []) [] [] [] [] tv ?_)
 obtain ⟨r1,hr1,hm⟩ := bo hm
 refine Sq (Sq (RK hnt (nn 2 (o105 [0] true r1 :: .no :: [])) [(1,pI p1),(5,ow 1080 r1.1.length)] [(0,bx (pm (Ar r1.2))),(1080,ob0 (roI r1.1))] (an (Rv p0 p1 r1 hr1) (an tv tv)) ?_))
 refine Sq (RD hnt (nn 3 []) [] [(13,pB (decide (((r1.1.length : Nat) : Int) > 0)))] [] [] tv ?_)
 refine Aq hm ?_ ?_
 ·intro h2 hm
  refine Sq (RD hnt (nn 2 []) [1,5,13] [(4,ow 1080 r1.1.length)] [] [] tv ?_)
  obtain rfl := sj hm
  exact DW.ret (Am [.box (pm (Ar r1.2)),roI r1.1] [1080] (ow 1 r1.1.length))
 ·intro h2 hm
  refine Sk ?_
  refine Sq (RD hnt (.no :: []) [5,13] [(6,.p (.sl .nil 0 0 (fun _ => [])))] [1080] [] tv ?_)
  refine Sq (Sq (RD hnt (.no :: []) [] [(7,pI 0)] [] [] tv ?_))
  refine Bk ?_
  obtain ⟨hc1,hm⟩ := go1 hm
  refine DW.forO (fun (k1 : Int) (s1 : List Int) => Af [(1,pI p1),(6,ow 1184 s1.length),(7,pI k1)] [(0,bx (pm (Ar r1.2))),(1184,ob0 (roI s1))]) (lo := 0) (hi := p1) hm (Conv.ads [(.s 6,1184,1,elems Bi 0 [])]) ?_
  intro k1 s1 n1 hk1 hs1 he1
  refine Sq (Sq (RD hnt (nn 3 []) [] [(17,pB (decide (k1 < p1)))] [] [] tv ?_))
  refine Eg (decide (k1 < p1)) ?_ ?_
  ·intro h6
   have hlt1 : k1 < p1 := by have := of_decide_eq_true h6; omega
   have hm := hs1 hlt1
   unfold Qs at hm
   refine Sk ?_
   refine Sq (Bk ?_)
   obtain ⟨g7,hm⟩ := go1 hm
   refine RN hnt (nn 5 []) [(1,pI p1),(6,ow 1184 (s1 ++ [k1]).length),(7,pI k1)] [(0,bx (pm (Ar r1.2))),(1184,ob0 (roI (s1 ++ [k1])))] [(6,ow 1184 (s1.length + 1))] [(1184,.row 1 (s1.length + 1) (Ff s1.length (elI s1) (cut 1 [vi k1])))] (an (by omega : (s1.length + 1) * 8 ≤ 140737488355328) tv) (by kernel_rfl) (.cons rfl (MLe.ownLen (enc := Bi) (d := 0) (f := (Ff s1.length (elI s1) (cut 1 [vi k1]))) (RowIs.cat RowIs.elems (RowIs.lit (enc := Bi) (d := 0) (n := 1) (f := (cut 1 [vi k1])) [k1] rfl (fun | 0,_ => rfl | n + 1,h => absurd h (by omega))))) .nil) (.cons rfl (BLe.typed (RowIs.cat RowIs.elems (RowIs.lit (enc := Bi) (d := 0) (n := 1) (f := (cut 1 [vi k1])) [k1] rfl (fun | 0,_ => rfl | n + 1,h => absurd h (by omega))))) .nil) ?_
   refine DW.done ?_
   show DW _ _ _ _ _
   refine RD hnt (nn 3 []) [] [(7,pI (w64 (k1 + 1)))] [] [] tv ?_
   exact jD (s1 ++ [k1]) ⟨hlt1,hm⟩ (Conv.tp [(7,pI (w64 (k1 + 1)))] [] (by kernel_rfl) (.cons rfl (.of_eq (congrArg pI (Qy (lo := 0) (hi := p1) (by omega) hk1 hlt1 (by omega)))) .nil) .nil)
  ·intro h6
   have hge1 : ¬ k1 < p1 := by have := of_decide_eq_false h6; omega
   have hm := he1 hge1
   unfold Qh at hm
   refine DW.exit ?_
   refine As ?_
   refine Bb ?_
   refine An ?_
   show DW _ _ _ _ _
   refine Sq (RD hnt (nn 2 []) [1,6,7,17] [(4,ow 1184 s1.length)] [] [] tv ?_)
   obtain rfl := sj hm
   exact DW.ret (Am [.box (pm (Ar r1.2)),roI s1] [1184] (ow 1 s1.length))
abbrev o106 (ks : List Nat) (b : Bool) (RES : (List Int) × Ak) (sm : List Nat := []) : Orc := .call 13 ks b (ow 1 RES.1.length) [.box (pm (Ar RES.2))] [roI RES.1] sm

theorem Aa (p0 : Int) (p1 : Int) (p2 : Int) (RES : Bool) (hm : Dl p0 p1 p2 = some RES) : Spec Tryz.prog 137 [pI p0,pI p1,pI p2] [] (pB RES) [] [] := by
 unfold Dl at hm
 refine SO Tryz.func137 rfl rfl [(0,pI p0),(1,pI p1),(2,pI p2)] [] ?_
 intro cx hnt
 refine Sq (RD hnt (.no :: []) [] [] [] [] tv ?_)
 refine Sq (DW.regJ (sl2 := [(6,pB ((decide (p0 ≥ p1)) && (decide (p0 ≤ p2))))]) (ob2 := []) ?_ ?_)
 ·rcases bt (decide (p0 ≥ p1)) with h1 | h1
  ·exact RT hnt (nn 7 (pT :: .no :: [])) [(6,pB (decide (p0 ≤ p2)))] (an4 h1 tv) (by kernel_rfl) (.cons rfl (.of_eq (by rw [h1]; try rfl)) .nil)
  ·exact RT hnt (nn 4 (sk 3 (pF :: .no :: []))) [(6,pB false)] (an4 h1 tv) (by kernel_rfl) (.cons rfl (.of_eq (by rw [h1]; try rfl)) .nil)
 ·refine DW.ret ?_
  obtain rfl := sj hm
  exact Am [] [] (pB ((decide (p0 ≥ p1)) && (decide (p0 ≤ p2))))
abbrev Ah (ks : List Nat) (b : Bool) (RES : Bool) (sm : List Nat := []) : Orc := .call 137 ks b (pB RES) [] [] sm

theorem Bc (p0 : List Int) (p1 : Int) (RES : Bool) (hm : Im p0 p1 = some RES) : Spec Tryz.prog 138 [.p (slI p0),pI p1] [] (pB RES) [] [] := by
 unfold Im at hm
 refine SO Tryz.func138 rfl rfl [(0,.p (slI p0)),(1,pI p1)] [] ?_
 intro cx hnt
 refine Sq (RD hnt (.no :: []) [] [] [] [] tv ?_)
 refine Sq (Sq (RD hnt (.no :: []) [] [(5,pI 0)] [] [] tv ?_))
 refine Bk ?_
 obtain ⟨hc1,hm⟩ := go1 hm
 refine DW.rangeO (fun (k1 : Nat) (s1 : Unit) => Af [(0,.p (slI p0)),(1,pI p1),(5,pI ((k1 : Nat) : Int))] []) 0 hm Conv.eqK ?_
 intro k1 s1 n1 hk1 hs1 he1
 refine Sq (Sq (RD hnt (nn 4 []) [] [(9,pB (decide (((k1 : Nat) : Int) < ((p0.length : Nat) : Int))))] [] [] tv ?_))
 refine Eg (decide (((k1 : Nat) : Int) < ((p0.length : Nat) : Int))) ?_ ?_
 ·intro h19
  have hlt1 : k1 < p0.length := by have := of_decide_eq_true h19; omega
  have hm := hs1 hlt1
  unfold Yj at hm
  refine Sk ?_
  refine Sq (Bk ?_)
  refine Sq ?_
  refine Jn (ι := Bool) (fun (y3 : Bool) => Af [(0,.p (slI p0)),(1,pI p1),(5,pI ((k1 : Nat) : Int)),(40,pB y3)] []) (fun y3 => (Kk n1) y3 = some RES) ?_ ?_
  ·intro y3 hm
   unfold Kk at hm
   refine Aq hm ?_ ?_
   ·intro h24 hm
    refine Sq (RK hnt (.no :: []) [(4,pB false)] [] tv ?_)
    obtain rfl := sj hm
    exact DW.ret (Am [] [] (pB false))
   ·intro h24 hm
    refine Sk ?_
    refine DW.done ?_
    show DW _ _ _ _ _
    refine RD hnt (nn 3 []) [40] [(5,pI (w64 (((k1 : Nat) : Int) + 1)))] [] [] tv ?_
    exact jD () ⟨hlt1,hm⟩ (Conv.tp [(5,pI (w64 (((k1 : Nat) : Int) + 1)))] [] (by kernel_rfl) (.cons rfl (.of_eq (congrArg pI (Cw hlt1 hc1))) .nil) .nil)
  ·rcases bt (decide ((p0.getD k1 0) < 0)) with h20 | h20
   ·replace hm := Ax h20 hm
    refine RD hnt (nn 6 (sk 6 (pT :: .no :: sk 14 (pT :: [])))) [9] [(40,pB true)] [] [] (an (nn0 k1) (an (ltc hlt1) (an h20 (an6 h20 (an5 tt tv))))) ?_
    exact jD true hm Conv.eqK
   ·replace hm := Ay h20 hm
    rcases bt (decide ((p0.getD k1 0) ≥ p1)) with h21 | h21
    ·replace hm := Ax h21 hm
     refine RD hnt (nn 12 (pF :: .no :: sk 14 (pT :: []))) [9] [(40,pB true)] [] [] (an (nn0 k1) (an (ltc hlt1) (an3 h20 (an (nn0 k1) (an (ltc hlt1) (an4 h20 (an5 h21 tv))))))) ?_
     exact jD true hm Conv.eqK
    ·replace hm := Ay h21 hm
     rcases bt (decide (((k1 : Nat) : Int) > 0)) with h22 | h22
     ·replace hm := Ax h22 hm
      obtain ⟨g23,hm⟩ := go1 hm
      refine RD hnt (nn 12 (pF :: nn 14 (pT :: pF :: []))) [9] [(40,pB (decide ((p0.getD (Int.toNat (w64 (((k1 : Nat) : Int) - 1))) 0) ≥ (p0.getD k1 0))))] [] [] (an (nn0 k1) (an (ltc hlt1) (an3 h20 (an (nn0 k1) (an (ltc hlt1) (an4 h20 (an3 h21 (an4 h22 (an g23.1 (an g23.2 (an4 h22 (an (nn0 k1) (an (ltc hlt1) (an2 h22 (an h21 (an h22 (an h21 tv))))))))))))))))) ?_
      exact jD (decide ((p0.getD (Int.toNat (w64 (((k1 : Nat) : Int) - 1))) 0) ≥ (p0.getD k1 0))) hm Conv.eqK
     ·replace hm := Ay h22 hm
      refine RD hnt (nn 12 (pF :: nn 4 (sk 10 (pF :: pF :: [])))) [9] [(40,pB false)] [] [] (an (nn0 k1) (an (ltc hlt1) (an3 h20 (an (nn0 k1) (an (ltc hlt1) (an4 h20 (an3 h21 (an4 h22 (an6 h22 (an h21 (an h22 (an h21 tv)))))))))))) ?_
      exact jD false hm Conv.eqK
 ·intro h19
  have hge1 : ¬ k1 < p0.length := by have := of_decide_eq_false h19; omega
  have hm := he1 hge1
  unfold AbL at hm
  refine DW.exit ?_
  refine As ?_
  refine Bb ?_
  refine An ?_
  show DW _ _ _ _ _
  refine Sq (RK hnt (.no :: []) [(4,pB true)] [] tv ?_)
  obtain rfl := sj hm
  exact DW.ret (Am [] [] (pB true))
abbrev Ha (ks : List Nat) (b : Bool) (RES : Bool) (sm : List Nat := []) : Orc := .call 138 ks b (pB RES) [] [] sm

theorem Yz (p0 : Al) (RES : Bool) (hm : Pp p0 = some RES) : Spec Tryz.prog 85 [.p (.agg (Bm p0))] [] (pB RES) [] [] := by
 unfold Pp at hm
 refine SO Tryz.func85 rfl rfl [(0,.p (.agg (Bm p0)))] [] ?_
 intro cx hnt
 refine Sq (RK hnt (nn 2 []) [(1,rr 1008)] [(1008,bx (pm (Bm p0)))] tv ?_)
 refine Sq (RD hnt (nn 3 []) [] [(3,pI p0.quota)] [] [] tv ?_)
 refine Sq (Sq (RD hnt (nn 3 []) [] [(8,pB (p0.quota == 4611686018427387904))] [] [] tv ?_))
 refine Jn (ι := Int) (fun (y1 : Int) => Af [(1,rr 1008),(3,pI y1)] [(1008,bx (pm (Bm p0)))]) (fun y1 => (Mg p0) y1 = some RES) ?_ ?_
 ·intro y1 hm
  unfold Mg at hm
  refine Sq ?_
  refine Jn (ι := Bool) (fun (y2 : Bool) => Af [(2,pB y2)] []) (fun y2 => Aw y2 = some RES) ?_ ?_
  ·intro y2 hm
   unfold Aw at hm
   obtain rfl := sj hm
   exact DW.ret (Am [] [] (pB y2))
  ·rcases bt (p0.pidsMax == 4611686018427387904) with h2 | h2
   ·replace hm := Ax h2 hm
    obtain ⟨r44,hr44,hm⟩ := bo hm
    rcases bt r44 with h45 | h45
    ·replace hm := Ax h45 hm
     rcases bt (p0.quota == 4611686018427387904) with h46 | h46
     ·replace hm := Ax h46 hm
      obtain ⟨r66,hr66,hm⟩ := bo hm
      rcases bt r66 with h67 | h67
      ·replace hm := Ax h67 hm
       obtain ⟨r68,hr68,hm⟩ := bo hm
       rcases bt r68 with h69 | h69
       ·replace hm := Ax h69 hm
        obtain ⟨r70,hr70,hm⟩ := bo hm
        rcases bt r70 with h71 | h71
        ·replace hm := Ax h71 hm
         obtain ⟨r72,hr72,hm⟩ := bo hm
         rcases bt r72 with h73 | h73
         ·replace hm := Ax h73 hm
          obtain ⟨r74,hr74,hm⟩ := bo hm
          rcases bt r74 with h75 | h75
          ·replace hm := Ax h75 hm
           obtain ⟨r76,hr76,hm⟩ := bo hm
           rcases bt r76 with h77 | h77
           ·replace hm := Ax h77 hm
            obtain ⟨r78,hr78,hm⟩ := bo hm
            rcases bt r78 with h79 | h79
            ·replace hm := Ax h79 hm
             obtain ⟨r80,hr80,hm⟩ := bo hm
             rcases bt r80 with h81 | h81
             ·replace hm := Ax h81 hm
              obtain ⟨r82,hr82,hm⟩ := bo hm
              refine RK hnt (nn 4 (sk 3 (pT :: nn 3 (Ah [] true r44 :: pT :: nn 5 (sk 3 (pT :: pT :: nn 3 (Ah [] true r66 :: pT :: nn 4 (Ah [] true r68 :: pT :: nn 3 (Ah [] true r70 :: pT :: nn 3 (Ah [] true r72 :: pT :: nn 3 (Ha [] true r74 :: pT :: nn 3 (Ha [] true r76 :: pT :: nn 3 (Ah [] true r78 :: pT :: nn 3 (o35 [] true r80 :: pT :: nn 3 (o37 [] true r82 :: pT :: .no :: []))))))))))))))) [(2,pB r82)] [] (an4 h2 (an3 tt (an (Aa p0.weight 1 10000 r44 hr44) (an tt (an4 h45 (an3 h46 (an h45 (an h46 (an h45 (an3 tt (an (Aa p0.period 1 1000000 r66 hr66) (an tt (an4 h67 (an (Aa p0.burst 0 y1 r68 hr68) (an h67 (an3 h69 (an (Aa p0.clampMin 0 10000 r70 hr70) (an h69 (an3 h71 (an (Aa p0.clampMax 0 10000 r72 hr72) (an h71 (an3 h73 (an (Bc p0.cpus 16 r74 hr74) (an h73 (an3 h75 (an (Bc p0.mems 8 r76 hr76) (an h75 (an3 h77 (an (Aa p0.partition 0 1 r78 hr78) (an h77 (an3 h79 (an (Dh p0.memory r80 hr80) (an h79 (an3 h81 (an (Ho p0.devices r82 hr82) (an h81 tv)))))))))))))))))))))))))))))))))))) ?_
              exact jD r82 hm .refl
             ·replace hm := Ay h81 hm
              refine RK hnt (nn 4 (sk 3 (pT :: nn 3 (Ah [] true r44 :: pT :: nn 5 (sk 3 (pT :: pT :: nn 3 (Ah [] true r66 :: pT :: nn 4 (Ah [] true r68 :: pT :: nn 3 (Ah [] true r70 :: pT :: nn 3 (Ah [] true r72 :: pT :: nn 3 (Ha [] true r74 :: pT :: nn 3 (Ha [] true r76 :: pT :: nn 3 (Ah [] true r78 :: pT :: nn 3 (o35 [] true r80 :: pT :: .no :: sk 3 (pF :: .no :: []))))))))))))))) [(2,pB false)] [] (an4 h2 (an3 tt (an (Aa p0.weight 1 10000 r44 hr44) (an tt (an4 h45 (an3 h46 (an h45 (an h46 (an h45 (an3 tt (an (Aa p0.period 1 1000000 r66 hr66) (an tt (an4 h67 (an (Aa p0.burst 0 y1 r68 hr68) (an h67 (an3 h69 (an (Aa p0.clampMin 0 10000 r70 hr70) (an h69 (an3 h71 (an (Aa p0.clampMax 0 10000 r72 hr72) (an h71 (an3 h73 (an (Bc p0.cpus 16 r74 hr74) (an h73 (an3 h75 (an (Bc p0.mems 8 r76 hr76) (an h75 (an3 h77 (an (Aa p0.partition 0 1 r78 hr78) (an h77 (an3 h79 (an (Dh p0.memory r80 hr80) (an h79 (an4 h81 tv)))))))))))))))))))))))))))))))))) ?_
              exact jD false hm .refl
            ·replace hm := Ay h79 hm
             refine RK hnt (nn 4 (sk 3 (pT :: nn 3 (Ah [] true r44 :: pT :: nn 5 (sk 3 (pT :: pT :: nn 3 (Ah [] true r66 :: pT :: nn 4 (Ah [] true r68 :: pT :: nn 3 (Ah [] true r70 :: pT :: nn 3 (Ah [] true r72 :: pT :: nn 3 (Ha [] true r74 :: pT :: nn 3 (Ha [] true r76 :: pT :: nn 3 (Ah [] true r78 :: pT :: .no :: sk 3 (pF :: .no :: sk 3 (pF :: .no :: []))))))))))))))) [(2,pB false)] [] (an4 h2 (an3 tt (an (Aa p0.weight 1 10000 r44 hr44) (an tt (an4 h45 (an3 h46 (an h45 (an h46 (an h45 (an3 tt (an (Aa p0.period 1 1000000 r66 hr66) (an tt (an4 h67 (an (Aa p0.burst 0 y1 r68 hr68) (an h67 (an3 h69 (an (Aa p0.clampMin 0 10000 r70 hr70) (an h69 (an3 h71 (an (Aa p0.clampMax 0 10000 r72 hr72) (an h71 (an3 h73 (an (Bc p0.cpus 16 r74 hr74) (an h73 (an3 h75 (an (Bc p0.mems 8 r76 hr76) (an h75 (an3 h77 (an (Aa p0.partition 0 1 r78 hr78) (an h77 (an4 h79 (an4 ff tv)))))))))))))))))))))))))))))))) ?_
             exact jD false hm .refl
           ·replace hm := Ay h77 hm
            refine RK hnt (nn 4 (sk 3 (pT :: nn 3 (Ah [] true r44 :: pT :: nn 5 (sk 3 (pT :: pT :: nn 3 (Ah [] true r66 :: pT :: nn 4 (Ah [] true r68 :: pT :: nn 3 (Ah [] true r70 :: pT :: nn 3 (Ah [] true r72 :: pT :: nn 3 (Ha [] true r74 :: pT :: nn 3 (Ha [] true r76 :: pT :: .no :: sk 3 (pF :: .no :: sk 3 (pF :: .no :: sk 3 (pF :: .no :: []))))))))))))))) [(2,pB false)] [] (an4 h2 (an3 tt (an (Aa p0.weight 1 10000 r44 hr44) (an tt (an4 h45 (an3 h46 (an h45 (an h46 (an h45 (an3 tt (an (Aa p0.period 1 1000000 r66 hr66) (an tt (an4 h67 (an (Aa p0.burst 0 y1 r68 hr68) (an h67 (an3 h69 (an (Aa p0.clampMin 0 10000 r70 hr70) (an h69 (an3 h71 (an (Aa p0.clampMax 0 10000 r72 hr72) (an h71 (an3 h73 (an (Bc p0.cpus 16 r74 hr74) (an h73 (an3 h75 (an (Bc p0.mems 8 r76 hr76) (an h75 (an4 h77 (an2 ff (an6 ff tv)))))))))))))))))))))))))))))) ?_
            exact jD false hm .refl
          ·replace hm := Ay h75 hm
           refine RK hnt (nn 4 (sk 3 (pT :: nn 3 (Ah [] true r44 :: pT :: nn 5 (sk 3 (pT :: pT :: nn 3 (Ah [] true r66 :: pT :: nn 4 (Ah [] true r68 :: pT :: nn 3 (Ah [] true r70 :: pT :: nn 3 (Ah [] true r72 :: pT :: nn 3 (Ha [] true r74 :: pT :: .no :: sk 3 (pF :: .no :: sk 3 (pF :: .no :: sk 3 (pF :: .no :: sk 3 (pF :: .no :: []))))))))))))))) [(2,pB false)] [] (an4 h2 (an3 tt (an (Aa p0.weight 1 10000 r44 hr44) (an tt (an4 h45 (an3 h46 (an h45 (an h46 (an h45 (an3 tt (an (Aa p0.period 1 1000000 r66 hr66) (an tt (an4 h67 (an (Aa p0.burst 0 y1 r68 hr68) (an h67 (an3 h69 (an (Aa p0.clampMin 0 10000 r70 hr70) (an h69 (an3 h71 (an (Aa p0.clampMax 0 10000 r72 hr72) (an h71 (an3 h73 (an (Bc p0.cpus 16 r74 hr74) (an h73 (an4 h75 (an6 ff (an6 ff tv))))))))))))))))))))))))))) ?_
           exact jD false hm .refl
         ·replace hm := Ay h73 hm
          refine RK hnt (nn 4 (sk 3 (pT :: nn 3 (Ah [] true r44 :: pT :: nn 5 (sk 3 (pT :: pT :: nn 3 (Ah [] true r66 :: pT :: nn 4 (Ah [] true r68 :: pT :: nn 3 (Ah [] true r70 :: pT :: nn 3 (Ah [] true r72 :: pT :: .no :: sk 3 (pF :: .no :: sk 3 (pF :: .no :: sk 3 (pF :: .no :: sk 3 (pF :: .no :: sk 3 (pF :: .no :: []))))))))))))))) [(2,pB false)] [] (an4 h2 (an3 tt (an (Aa p0.weight 1 10000 r44 hr44) (an tt (an4 h45 (an3 h46 (an h45 (an h46 (an h45 (an3 tt (an (Aa p0.period 1 1000000 r66 hr66) (an tt (an4 h67 (an (Aa p0.burst 0 y1 r68 hr68) (an h67 (an3 h69 (an (Aa p0.clampMin 0 10000 r70 hr70) (an h69 (an3 h71 (an (Aa p0.clampMax 0 10000 r72 hr72) (an h71 (an4 h73 (an4 ff (an6 ff (an6 ff tv))))))))))))))))))))))))) ?_
          exact jD false hm .refl
        ·replace hm := Ay h71 hm
         refine RK hnt (nn 4 (sk 3 (pT :: nn 3 (Ah [] true r44 :: pT :: nn 5 (sk 3 (pT :: pT :: nn 3 (Ah [] true r66 :: pT :: nn 4 (Ah [] true r68 :: pT :: nn 3 (Ah [] true r70 :: pT :: .no :: sk 3 (pF :: .no :: sk 3 (pF :: .no :: sk 3 (pF :: .no :: sk 3 (pF :: .no :: sk 3 (pF :: .no :: sk 3 (pF :: .no :: []))))))))))))))) [(2,pB false)] [] (an4 h2 (an3 tt (an (Aa p0.weight 1 10000 r44 hr44) (an tt (an4 h45 (an3 h46 (an h45 (an h46 (an h45 (an3 tt (an (Aa p0.period 1 1000000 r66 hr66) (an tt (an4 h67 (an (Aa p0.burst 0 y1 r68 hr68) (an h67 (an3 h69 (an (Aa p0.clampMin 0 10000 r70 hr70) (an h69 (an4 h71 (an2 ff (an6 ff (an6 ff (an6 ff tv))))))))))))))))))))))) ?_
         exact jD false hm .refl
       ·replace hm := Ay h69 hm
        refine RK hnt (nn 4 (sk 3 (pT :: nn 3 (Ah [] true r44 :: pT :: nn 5 (sk 3 (pT :: pT :: nn 3 (Ah [] true r66 :: pT :: nn 4 (Ah [] true r68 :: pT :: .no :: sk 3 (pF :: .no :: sk 3 (pF :: .no :: sk 3 (pF :: .no :: sk 3 (pF :: .no :: sk 3 (pF :: .no :: sk 3 (pF :: .no :: sk 3 (pF :: .no :: []))))))))))))))) [(2,pB false)] [] (an4 h2 (an3 tt (an (Aa p0.weight 1 10000 r44 hr44) (an tt (an4 h45 (an3 h46 (an h45 (an h46 (an h45 (an3 tt (an (Aa p0.period 1 1000000 r66 hr66) (an tt (an4 h67 (an (Aa p0.burst 0 y1 r68 hr68) (an h67 (an4 h69 (an6 ff (an6 ff (an6 ff (an6 ff tv)))))))))))))))))))) ?_
        exact jD false hm .refl
      ·replace hm := Ay h67 hm
       refine RK hnt (nn 4 (sk 3 (pT :: nn 3 (Ah [] true r44 :: pT :: nn 5 (sk 3 (pT :: pT :: nn 3 (Ah [] true r66 :: pT :: .no :: sk 4 (pF :: .no :: sk 3 (pF :: .no :: sk 3 (pF :: .no :: sk 3 (pF :: .no :: sk 3 (pF :: .no :: sk 3 (pF :: .no :: sk 3 (pF :: .no :: sk 3 (pF :: .no :: []))))))))))))))) [(2,pB false)] [] (an4 h2 (an3 tt (an (Aa p0.weight 1 10000 r44 hr44) (an tt (an4 h45 (an3 h46 (an h45 (an h46 (an h45 (an3 tt (an (Aa p0.period 1 1000000 r66 hr66) (an tt (an5 h67 (an4 ff (an6 ff (an6 ff (an6 ff (an6 ff tv)))))))))))))))))) ?_
       exact jD false hm .refl
     ·replace hm := Ay h46 hm
      obtain ⟨r47,hr47,hm⟩ := bo hm
      rcases bt r47 with h48 | h48
      ·replace hm := Ax h48 hm
       obtain ⟨r49,hr49,hm⟩ := bo hm
       rcases bt r49 with h50 | h50
       ·replace hm := Ax h50 hm
        obtain ⟨r51,hr51,hm⟩ := bo hm
        rcases bt r51 with h52 | h52
        ·replace hm := Ax h52 hm
         obtain ⟨r53,hr53,hm⟩ := bo hm
         rcases bt r53 with h54 | h54
         ·replace hm := Ax h54 hm
          obtain ⟨r55,hr55,hm⟩ := bo hm
          rcases bt r55 with h56 | h56
          ·replace hm := Ax h56 hm
           obtain ⟨r57,hr57,hm⟩ := bo hm
           rcases bt r57 with h58 | h58
           ·replace hm := Ax h58 hm
            obtain ⟨r59,hr59,hm⟩ := bo hm
            rcases bt r59 with h60 | h60
            ·replace hm := Ax h60 hm
             obtain ⟨r61,hr61,hm⟩ := bo hm
             rcases bt r61 with h62 | h62
             ·replace hm := Ax h62 hm
              obtain ⟨r63,hr63,hm⟩ := bo hm
              rcases bt r63 with h64 | h64
              ·replace hm := Ax h64 hm
               obtain ⟨r65,hr65,hm⟩ := bo hm
               refine RK hnt (nn 4 (sk 3 (pT :: nn 3 (Ah [] true r44 :: pT :: nn 7 (Ah [] true r47 :: pF :: pT :: nn 3 (Ah [] true r49 :: pT :: nn 4 (Ah [] true r51 :: pT :: nn 3 (Ah [] true r53 :: pT :: nn 3 (Ah [] true r55 :: pT :: nn 3 (Ha [] true r57 :: pT :: nn 3 (Ha [] true r59 :: pT :: nn 3 (Ah [] true r61 :: pT :: nn 3 (o35 [] true r63 :: pT :: nn 3 (o37 [] true r65 :: pT :: .no :: [])))))))))))))) [(2,pB r65)] [] (an4 h2 (an3 tt (an (Aa p0.weight 1 10000 r44 hr44) (an tt (an4 h45 (an3 h46 (an (Aa p0.quota 1 1000000 r47 hr47) (an h45 (an h46 (an h45 (an3 h48 (an (Aa p0.period 1 1000000 r49 hr49) (an h48 (an4 h50 (an (Aa p0.burst 0 y1 r51 hr51) (an h50 (an3 h52 (an (Aa p0.clampMin 0 10000 r53 hr53) (an h52 (an3 h54 (an (Aa p0.clampMax 0 10000 r55 hr55) (an h54 (an3 h56 (an (Bc p0.cpus 16 r57 hr57) (an h56 (an3 h58 (an (Bc p0.mems 8 r59 hr59) (an h58 (an3 h60 (an (Aa p0.partition 0 1 r61 hr61) (an h60 (an3 h62 (an (Dh p0.memory r63 hr63) (an h62 (an3 h64 (an (Ho p0.devices r65 hr65) (an h64 tv))))))))))))))))))))))))))))))))))))) ?_
               exact jD r65 hm .refl
              ·replace hm := Ay h64 hm
               refine RK hnt (nn 4 (sk 3 (pT :: nn 3 (Ah [] true r44 :: pT :: nn 7 (Ah [] true r47 :: pF :: pT :: nn 3 (Ah [] true r49 :: pT :: nn 4 (Ah [] true r51 :: pT :: nn 3 (Ah [] true r53 :: pT :: nn 3 (Ah [] true r55 :: pT :: nn 3 (Ha [] true r57 :: pT :: nn 3 (Ha [] true r59 :: pT :: nn 3 (Ah [] true r61 :: pT :: nn 3 (o35 [] true r63 :: pT :: .no :: sk 3 (pF :: .no :: [])))))))))))))) [(2,pB false)] [] (an4 h2 (an3 tt (an (Aa p0.weight 1 10000 r44 hr44) (an tt (an4 h45 (an3 h46 (an (Aa p0.quota 1 1000000 r47 hr47) (an h45 (an h46 (an h45 (an3 h48 (an (Aa p0.period 1 1000000 r49 hr49) (an h48 (an4 h50 (an (Aa p0.burst 0 y1 r51 hr51) (an h50 (an3 h52 (an (Aa p0.clampMin 0 10000 r53 hr53) (an h52 (an3 h54 (an (Aa p0.clampMax 0 10000 r55 hr55) (an h54 (an3 h56 (an (Bc p0.cpus 16 r57 hr57) (an h56 (an3 h58 (an (Bc p0.mems 8 r59 hr59) (an h58 (an3 h60 (an (Aa p0.partition 0 1 r61 hr61) (an h60 (an3 h62 (an (Dh p0.memory r63 hr63) (an h62 (an4 h64 tv))))))))))))))))))))))))))))))))))) ?_
               exact jD false hm .refl
             ·replace hm := Ay h62 hm
              refine RK hnt (nn 4 (sk 3 (pT :: nn 3 (Ah [] true r44 :: pT :: nn 7 (Ah [] true r47 :: pF :: pT :: nn 3 (Ah [] true r49 :: pT :: nn 4 (Ah [] true r51 :: pT :: nn 3 (Ah [] true r53 :: pT :: nn 3 (Ah [] true r55 :: pT :: nn 3 (Ha [] true r57 :: pT :: nn 3 (Ha [] true r59 :: pT :: nn 3 (Ah [] true r61 :: pT :: .no :: sk 3 (pF :: .no :: sk 3 (pF :: .no :: [])))))))))))))) [(2,pB false)] [] (an4 h2 (an3 tt (an (Aa p0.weight 1 10000 r44 hr44) (an tt (an4 h45 (an3 h46 (an (Aa p0.quota 1 1000000 r47 hr47) (an h45 (an h46 (an h45 (an3 h48 (an (Aa p0.period 1 1000000 r49 hr49) (an h48 (an4 h50 (an (Aa p0.burst 0 y1 r51 hr51) (an h50 (an3 h52 (an (Aa p0.clampMin 0 10000 r53 hr53) (an h52 (an3 h54 (an (Aa p0.clampMax 0 10000 r55 hr55) (an h54 (an3 h56 (an (Bc p0.cpus 16 r57 hr57) (an h56 (an3 h58 (an (Bc p0.mems 8 r59 hr59) (an h58 (an3 h60 (an (Aa p0.partition 0 1 r61 hr61) (an h60 (an4 h62 (an4 ff tv))))))))))))))))))))))))))))))))) ?_
              exact jD false hm .refl
            ·replace hm := Ay h60 hm
             refine RK hnt (nn 4 (sk 3 (pT :: nn 3 (Ah [] true r44 :: pT :: nn 7 (Ah [] true r47 :: pF :: pT :: nn 3 (Ah [] true r49 :: pT :: nn 4 (Ah [] true r51 :: pT :: nn 3 (Ah [] true r53 :: pT :: nn 3 (Ah [] true r55 :: pT :: nn 3 (Ha [] true r57 :: pT :: nn 3 (Ha [] true r59 :: pT :: .no :: sk 3 (pF :: .no :: sk 3 (pF :: .no :: sk 3 (pF :: .no :: [])))))))))))))) [(2,pB false)] [] (an4 h2 (an3 tt (an (Aa p0.weight 1 10000 r44 hr44) (an tt (an4 h45 (an3 h46 (an (Aa p0.quota 1 1000000 r47 hr47) (an h45 (an h46 (an h45 (an3 h48 (an (Aa p0.period 1 1000000 r49 hr49) (an h48 (an4 h50 (an (Aa p0.burst 0 y1 r51 hr51) (an h50 (an3 h52 (an (Aa p0.clampMin 0 10000 r53 hr53) (an h52 (an3 h54 (an (Aa p0.clampMax 0 10000 r55 hr55) (an h54 (an3 h56 (an (Bc p0.cpus 16 r57 hr57) (an h56 (an3 h58 (an (Bc p0.mems 8 r59 hr59) (an h58 (an4 h60 (an2 ff (an6 ff tv))))))))))))))))))))))))))))))) ?_
             exact jD false hm .refl
           ·replace hm := Ay h58 hm
            refine RK hnt (nn 4 (sk 3 (pT :: nn 3 (Ah [] true r44 :: pT :: nn 7 (Ah [] true r47 :: pF :: pT :: nn 3 (Ah [] true r49 :: pT :: nn 4 (Ah [] true r51 :: pT :: nn 3 (Ah [] true r53 :: pT :: nn 3 (Ah [] true r55 :: pT :: nn 3 (Ha [] true r57 :: pT :: .no :: sk 3 (pF :: .no :: sk 3 (pF :: .no :: sk 3 (pF :: .no :: sk 3 (pF :: .no :: [])))))))))))))) [(2,pB false)] [] (an4 h2 (an3 tt (an (Aa p0.weight 1 10000 r44 hr44) (an tt (an4 h45 (an3 h46 (an (Aa p0.quota 1 1000000 r47 hr47) (an h45 (an h46 (an h45 (an3 h48 (an (Aa p0.period 1 1000000 r49 hr49) (an h48 (an4 h50 (an (Aa p0.burst 0 y1 r51 hr51) (an h50 (an3 h52 (an (Aa p0.clampMin 0 10000 r53 hr53) (an h52 (an3 h54 (an (Aa p0.clampMax 0 10000 r55 hr55) (an h54 (an3 h56 (an (Bc p0.cpus 16 r57 hr57) (an h56 (an4 h58 (an6 ff (an6 ff tv)))))))))))))))))))))))))))) ?_
            exact jD false hm .refl
          ·replace hm := Ay h56 hm
           refine RK hnt (nn 4 (sk 3 (pT :: nn 3 (Ah [] true r44 :: pT :: nn 7 (Ah [] true r47 :: pF :: pT :: nn 3 (Ah [] true r49 :: pT :: nn 4 (Ah [] true r51 :: pT :: nn 3 (Ah [] true r53 :: pT :: nn 3 (Ah [] true r55 :: pT :: .no :: sk 3 (pF :: .no :: sk 3 (pF :: .no :: sk 3 (pF :: .no :: sk 3 (pF :: .no :: sk 3 (pF :: .no :: [])))))))))))))) [(2,pB false)] [] (an4 h2 (an3 tt (an (Aa p0.weight 1 10000 r44 hr44) (an tt (an4 h45 (an3 h46 (an (Aa p0.quota 1 1000000 r47 hr47) (an h45 (an h46 (an h45 (an3 h48 (an (Aa p0.period 1 1000000 r49 hr49) (an h48 (an4 h50 (an (Aa p0.burst 0 y1 r51 hr51) (an h50 (an3 h52 (an (Aa p0.clampMin 0 10000 r53 hr53) (an h52 (an3 h54 (an (Aa p0.clampMax 0 10000 r55 hr55) (an h54 (an4 h56 (an4 ff (an6 ff (an6 ff tv)))))))))))))))))))))))))) ?_
           exact jD false hm .refl
         ·replace hm := Ay h54 hm
          refine RK hnt (nn 4 (sk 3 (pT :: nn 3 (Ah [] true r44 :: pT :: nn 7 (Ah [] true r47 :: pF :: pT :: nn 3 (Ah [] true r49 :: pT :: nn 4 (Ah [] true r51 :: pT :: nn 3 (Ah [] true r53 :: pT :: .no :: sk 3 (pF :: .no :: sk 3 (pF :: .no :: sk 3 (pF :: .no :: sk 3 (pF :: .no :: sk 3 (pF :: .no :: sk 3 (pF :: .no :: [])))))))))))))) [(2,pB false)] [] (an4 h2 (an3 tt (an (Aa p0.weight 1 10000 r44 hr44) (an tt (an4 h45 (an3 h46 (an (Aa p0.quota 1 1000000 r47 hr47) (an h45 (an h46 (an h45 (an3 h48 (an (Aa p0.period 1 1000000 r49 hr49) (an h48 (an4 h50 (an (Aa p0.burst 0 y1 r51 hr51) (an h50 (an3 h52 (an (Aa p0.clampMin 0 10000 r53 hr53) (an h52 (an4 h54 (an2 ff (an6 ff (an6 ff (an6 ff tv)))))))))))))))))))))))) ?_
          exact jD false hm .refl
        ·replace hm := Ay h52 hm
         refine RK hnt (nn 4 (sk 3 (pT :: nn 3 (Ah [] true r44 :: pT :: nn 7 (Ah [] true r47 :: pF :: pT :: nn 3 (Ah [] true r49 :: pT :: nn 4 (Ah [] true r51 :: pT :: .no :: sk 3 (pF :: .no :: sk 3 (pF :: .no :: sk 3 (pF :: .no :: sk 3 (pF :: .no :: sk 3 (pF :: .no :: sk 3 (pF :: .no :: sk 3 (pF :: .no :: [])))))))))))))) [(2,pB false)] [] (an4 h2 (an3 tt (an (Aa p0.weight 1 10000 r44 hr44) (an tt (an4 h45 (an3 h46 (an (Aa p0.quota 1 1000000 r47 hr47) (an h45 (an h46 (an h45 (an3 h48 (an (Aa p0.period 1 1000000 r49 hr49) (an h48 (an4 h50 (an (Aa p0.burst 0 y1 r51 hr51) (an h50 (an4 h52 (an6 ff (an6 ff (an6 ff (an6 ff tv))))))))))))))))))))) ?_
         exact jD false hm .refl
       ·replace hm := Ay h50 hm
        refine RK hnt (nn 4 (sk 3 (pT :: nn 3 (Ah [] true r44 :: pT :: nn 7 (Ah [] true r47 :: pF :: pT :: nn 3 (Ah [] true r49 :: pT :: .no :: sk 4 (pF :: .no :: sk 3 (pF :: .no :: sk 3 (pF :: .no :: sk 3 (pF :: .no :: sk 3 (pF :: .no :: sk 3 (pF :: .no :: sk 3 (pF :: .no :: sk 3 (pF :: .no :: [])))))))))))))) [(2,pB false)] [] (an4 h2 (an3 tt (an (Aa p0.weight 1 10000 r44 hr44) (an tt (an4 h45 (an3 h46 (an (Aa p0.quota 1 1000000 r47 hr47) (an h45 (an h46 (an h45 (an3 h48 (an (Aa p0.period 1 1000000 r49 hr49) (an h48 (an5 h50 (an4 ff (an6 ff (an6 ff (an6 ff (an6 ff tv))))))))))))))))))) ?_
        exact jD false hm .refl
      ·replace hm := Ay h48 hm
       refine RK hnt (nn 4 (sk 3 (pT :: nn 3 (Ah [] true r44 :: pT :: nn 7 (Ah [] true r47 :: pF :: pT :: .no :: sk 3 (pF :: .no :: sk 4 (pF :: .no :: sk 3 (pF :: .no :: sk 3 (pF :: .no :: sk 3 (pF :: .no :: sk 3 (pF :: .no :: sk 3 (pF :: .no :: sk 3 (pF :: .no :: sk 3 (pF :: .no :: [])))))))))))))) [(2,pB false)] [] (an4 h2 (an3 tt (an (Aa p0.weight 1 10000 r44 hr44) (an tt (an4 h45 (an3 h46 (an (Aa p0.quota 1 1000000 r47 hr47) (an h45 (an h46 (an h45 (an4 h48 (an3 ff (an6 ff (an6 ff (an6 ff (an6 ff (an6 ff tv))))))))))))))))) ?_
       exact jD false hm .refl
    ·replace hm := Ay h45 hm
     refine RK hnt (nn 4 (sk 3 (pT :: nn 3 (Ah [] true r44 :: pT :: .no :: sk 8 (pF :: .no :: sk 3 (pF :: .no :: sk 4 (pF :: .no :: sk 3 (pF :: .no :: sk 3 (pF :: .no :: sk 3 (pF :: .no :: sk 3 (pF :: .no :: sk 3 (pF :: .no :: sk 3 (pF :: .no :: sk 3 (pF :: .no :: [])))))))))))))) [(2,pB false)] [] (an4 h2 (an3 tt (an (Aa p0.weight 1 10000 r44 hr44) (an tt (an6 h45 (an ff (an6 ff (an6 ff (an6 ff (an6 ff (an6 ff (an6 ff tv)))))))))))) ?_
     exact jD false hm .refl
   ·replace hm := Ay h2 hm
    obtain ⟨r3,hr3,hm⟩ := bo hm
    rcases bt r3 with h4 | h4
    ·replace hm := Ax h4 hm
     obtain ⟨r5,hr5,hm⟩ := bo hm
     rcases bt r5 with h6 | h6
     ·replace hm := Ax h6 hm
      rcases bt (p0.quota == 4611686018427387904) with h7 | h7
      ·replace hm := Ax h7 hm
       obtain ⟨r27,hr27,hm⟩ := bo hm
       rcases bt r27 with h28 | h28
       ·replace hm := Ax h28 hm
        obtain ⟨r29,hr29,hm⟩ := bo hm
        rcases bt r29 with h30 | h30
        ·replace hm := Ax h30 hm
         obtain ⟨r31,hr31,hm⟩ := bo hm
         rcases bt r31 with h32 | h32
         ·replace hm := Ax h32 hm
          obtain ⟨r33,hr33,hm⟩ := bo hm
          rcases bt r33 with h34 | h34
          ·replace hm := Ax h34 hm
           obtain ⟨r35,hr35,hm⟩ := bo hm
           rcases bt r35 with h36 | h36
           ·replace hm := Ax h36 hm
            obtain ⟨r37,hr37,hm⟩ := bo hm
            rcases bt r37 with h38 | h38
            ·replace hm := Ax h38 hm
             obtain ⟨r39,hr39,hm⟩ := bo hm
             rcases bt r39 with h40 | h40
             ·replace hm := Ax h40 hm
              obtain ⟨r41,hr41,hm⟩ := bo hm
              rcases bt r41 with h42 | h42
              ·replace hm := Ax h42 hm
               obtain ⟨r43,hr43,hm⟩ := bo hm
               refine RK hnt (nn 6 (Ah [] true r3 :: pF :: nn 3 (Ah [] true r5 :: pT :: nn 5 (sk 3 (pT :: pT :: nn 3 (Ah [] true r27 :: pT :: nn 4 (Ah [] true r29 :: pT :: nn 3 (Ah [] true r31 :: pT :: nn 3 (Ah [] true r33 :: pT :: nn 3 (Ha [] true r35 :: pT :: nn 3 (Ha [] true r37 :: pT :: nn 3 (Ah [] true r39 :: pT :: nn 3 (o35 [] true r41 :: pT :: nn 3 (o37 [] true r43 :: pT :: .no :: [])))))))))))))) [(2,pB r43)] [] (an3 h2 (an (Aa p0.pidsMax 0 1099511627776 r3 hr3) (an h2 (an3 h4 (an (Aa p0.weight 1 10000 r5 hr5) (an h4 (an4 h6 (an3 h7 (an h6 (an h7 (an h6 (an3 tt (an (Aa p0.period 1 1000000 r27 hr27) (an tt (an4 h28 (an (Aa p0.burst 0 y1 r29 hr29) (an h28 (an3 h30 (an (Aa p0.clampMin 0 10000 r31 hr31) (an h30 (an3 h32 (an (Aa p0.clampMax 0 10000 r33 hr33) (an h32 (an3 h34 (an (Bc p0.cpus 16 r35 hr35) (an h34 (an3 h36 (an (Bc p0.mems 8 r37 hr37) (an h36 (an3 h38 (an (Aa p0.partition 0 1 r39 hr39) (an h38 (an3 h40 (an (Dh p0.memory r41 hr41) (an h40 (an3 h42 (an (Ho p0.devices r43 hr43) (an h42 tv)))))))))))))))))))))))))))))))))))))) ?_
               exact jD r43 hm .refl
              ·replace hm := Ay h42 hm
               refine RK hnt (nn 6 (Ah [] true r3 :: pF :: nn 3 (Ah [] true r5 :: pT :: nn 5 (sk 3 (pT :: pT :: nn 3 (Ah [] true r27 :: pT :: nn 4 (Ah [] true r29 :: pT :: nn 3 (Ah [] true r31 :: pT :: nn 3 (Ah [] true r33 :: pT :: nn 3 (Ha [] true r35 :: pT :: nn 3 (Ha [] true r37 :: pT :: nn 3 (Ah [] true r39 :: pT :: nn 3 (o35 [] true r41 :: pT :: .no :: sk 3 (pF :: .no :: [])))))))))))))) [(2,pB false)] [] (an3 h2 (an (Aa p0.pidsMax 0 1099511627776 r3 hr3) (an h2 (an3 h4 (an (Aa p0.weight 1 10000 r5 hr5) (an h4 (an4 h6 (an3 h7 (an h6 (an h7 (an h6 (an3 tt (an (Aa p0.period 1 1000000 r27 hr27) (an tt (an4 h28 (an (Aa p0.burst 0 y1 r29 hr29) (an h28 (an3 h30 (an (Aa p0.clampMin 0 10000 r31 hr31) (an h30 (an3 h32 (an (Aa p0.clampMax 0 10000 r33 hr33) (an h32 (an3 h34 (an (Bc p0.cpus 16 r35 hr35) (an h34 (an3 h36 (an (Bc p0.mems 8 r37 hr37) (an h36 (an3 h38 (an (Aa p0.partition 0 1 r39 hr39) (an h38 (an3 h40 (an (Dh p0.memory r41 hr41) (an h40 (an4 h42 tv)))))))))))))))))))))))))))))))))))) ?_
               exact jD false hm .refl
             ·replace hm := Ay h40 hm
              refine RK hnt (nn 6 (Ah [] true r3 :: pF :: nn 3 (Ah [] true r5 :: pT :: nn 5 (sk 3 (pT :: pT :: nn 3 (Ah [] true r27 :: pT :: nn 4 (Ah [] true r29 :: pT :: nn 3 (Ah [] true r31 :: pT :: nn 3 (Ah [] true r33 :: pT :: nn 3 (Ha [] true r35 :: pT :: nn 3 (Ha [] true r37 :: pT :: nn 3 (Ah [] true r39 :: pT :: .no :: sk 3 (pF :: .no :: sk 3 (pF :: .no :: [])))))))))))))) [(2,pB false)] [] (an3 h2 (an (Aa p0.pidsMax 0 1099511627776 r3 hr3) (an h2 (an3 h4 (an (Aa p0.weight 1 10000 r5 hr5) (an h4 (an4 h6 (an3 h7 (an h6 (an h7 (an h6 (an3 tt (an (Aa p0.period 1 1000000 r27 hr27) (an tt (an4 h28 (an (Aa p0.burst 0 y1 r29 hr29) (an h28 (an3 h30 (an (Aa p0.clampMin 0 10000 r31 hr31) (an h30 (an3 h32 (an (Aa p0.clampMax 0 10000 r33 hr33) (an h32 (an3 h34 (an (Bc p0.cpus 16 r35 hr35) (an h34 (an3 h36 (an (Bc p0.mems 8 r37 hr37) (an h36 (an3 h38 (an (Aa p0.partition 0 1 r39 hr39) (an h38 (an4 h40 (an4 ff tv)))))))))))))))))))))))))))))))))) ?_
              exact jD false hm .refl
            ·replace hm := Ay h38 hm
             refine RK hnt (nn 6 (Ah [] true r3 :: pF :: nn 3 (Ah [] true r5 :: pT :: nn 5 (sk 3 (pT :: pT :: nn 3 (Ah [] true r27 :: pT :: nn 4 (Ah [] true r29 :: pT :: nn 3 (Ah [] true r31 :: pT :: nn 3 (Ah [] true r33 :: pT :: nn 3 (Ha [] true r35 :: pT :: nn 3 (Ha [] true r37 :: pT :: .no :: sk 3 (pF :: .no :: sk 3 (pF :: .no :: sk 3 (pF :: .no :: [])))))))))))))) [(2,pB false)] [] (an3 h2 (an (Aa p0.pidsMax 0 1099511627776 r3 hr3) (an h2 (an3 h4 (an (Aa p0.weight 1 10000 r5 hr5) (an h4 (an4 h6 (an3 h7 (an h6 (an h7 (an h6 (an3 tt (an (Aa p0.period 1 1000000 r27 hr27) (an tt (an4 h28 (an (Aa p0.burst 0 y1 r29 hr29) (an h28 (an3 h30 (an (Aa p0.clampMin 0 10000 r31 hr31) (an h30 (an3 h32 (an (Aa p0.clampMax 0 10000 r33 hr33) (an h32 (an3 h34 (an (Bc p0.cpus 16 r35 hr35) (an h34 (an3 h36 (an (Bc p0.mems 8 r37 hr37) (an h36 (an4 h38 (an2 ff (an6 ff tv)))))))))))))))))))))))))))))))) ?_
             exact jD false hm .refl
           ·replace hm := Ay h36 hm
            refine RK hnt (nn 6 (Ah [] true r3 :: pF :: nn 3 (Ah [] true r5 :: pT :: nn 5 (sk 3 (pT :: pT :: nn 3 (Ah [] true r27 :: pT :: nn 4 (Ah [] true r29 :: pT :: nn 3 (Ah [] true r31 :: pT :: nn 3 (Ah [] true r33 :: pT :: nn 3 (Ha [] true r35 :: pT :: .no :: sk 3 (pF :: .no :: sk 3 (pF :: .no :: sk 3 (pF :: .no :: sk 3 (pF :: .no :: [])))))))))))))) [(2,pB false)] [] (an3 h2 (an (Aa p0.pidsMax 0 1099511627776 r3 hr3) (an h2 (an3 h4 (an (Aa p0.weight 1 10000 r5 hr5) (an h4 (an4 h6 (an3 h7 (an h6 (an h7 (an h6 (an3 tt (an (Aa p0.period 1 1000000 r27 hr27) (an tt (an4 h28 (an (Aa p0.burst 0 y1 r29 hr29) (an h28 (an3 h30 (an (Aa p0.clampMin 0 10000 r31 hr31) (an h30 (an3 h32 (an (Aa p0.clampMax 0 10000 r33 hr33) (an h32 (an3 h34 (an (Bc p0.cpus 16 r35 hr35) (an h34 (an4 h36 (an6 ff (an6 ff tv))))))))))))))))))))))))))))) ?_
            exact jD false hm .refl
          ·replace hm := Ay h34 hm
           refine RK hnt (nn 6 (Ah [] true r3 :: pF :: nn 3 (Ah [] true r5 :: pT :: nn 5 (sk 3 (pT :: pT :: nn 3 (Ah [] true r27 :: pT :: nn 4 (Ah [] true r29 :: pT :: nn 3 (Ah [] true r31 :: pT :: nn 3 (Ah [] true r33 :: pT :: .no :: sk 3 (pF :: .no :: sk 3 (pF :: .no :: sk 3 (pF :: .no :: sk 3 (pF :: .no :: sk 3 (pF :: .no :: [])))))))))))))) [(2,pB false)] [] (an3 h2 (an (Aa p0.pidsMax 0 1099511627776 r3 hr3) (an h2 (an3 h4 (an (Aa p0.weight 1 10000 r5 hr5) (an h4 (an4 h6 (an3 h7 (an h6 (an h7 (an h6 (an3 tt (an (Aa p0.period 1 1000000 r27 hr27) (an tt (an4 h28 (an (Aa p0.burst 0 y1 r29 hr29) (an h28 (an3 h30 (an (Aa p0.clampMin 0 10000 r31 hr31) (an h30 (an3 h32 (an (Aa p0.clampMax 0 10000 r33 hr33) (an h32 (an4 h34 (an4 ff (an6 ff (an6 ff tv))))))))))))))))))))))))))) ?_
           exact jD false hm .refl
         ·replace hm := Ay h32 hm
          refine RK hnt (nn 6 (Ah [] true r3 :: pF :: nn 3 (Ah [] true r5 :: pT :: nn 5 (sk 3 (pT :: pT :: nn 3 (Ah [] true r27 :: pT :: nn 4 (Ah [] true r29 :: pT :: nn 3 (Ah [] true r31 :: pT :: .no :: sk 3 (pF :: .no :: sk 3 (pF :: .no :: sk 3 (pF :: .no :: sk 3 (pF :: .no :: sk 3 (pF :: .no :: sk 3 (pF :: .no :: [])))))))))))))) [(2,pB false)] [] (an3 h2 (an (Aa p0.pidsMax 0 1099511627776 r3 hr3) (an h2 (an3 h4 (an (Aa p0.weight 1 10000 r5 hr5) (an h4 (an4 h6 (an3 h7 (an h6 (an h7 (an h6 (an3 tt (an (Aa p0.period 1 1000000 r27 hr27) (an tt (an4 h28 (an (Aa p0.burst 0 y1 r29 hr29) (an h28 (an3 h30 (an (Aa p0.clampMin 0 10000 r31 hr31) (an h30 (an4 h32 (an2 ff (an6 ff (an6 ff (an6 ff tv))))))))))))))))))))))))) ?_
          exact jD false hm .refl
        ·replace hm := Ay h30 hm
         refine RK hnt (nn 6 (Ah [] true r3 :: pF :: nn 3 (Ah [] true r5 :: pT :: nn 5 (sk 3 (pT :: pT :: nn 3 (Ah [] true r27 :: pT :: nn 4 (Ah [] true r29 :: pT :: .no :: sk 3 (pF :: .no :: sk 3 (pF :: .no :: sk 3 (pF :: .no :: sk 3 (pF :: .no :: sk 3 (pF :: .no :: sk 3 (pF :: .no :: sk 3 (pF :: .no :: [])))))))))))))) [(2,pB false)] [] (an3 h2 (an (Aa p0.pidsMax 0 1099511627776 r3 hr3) (an h2 (an3 h4 (an (Aa p0.weight 1 10000 r5 hr5) (an h4 (an4 h6 (an3 h7 (an h6 (an h7 (an h6 (an3 tt (an (Aa p0.period 1 1000000 r27 hr27) (an tt (an4 h28 (an (Aa p0.burst 0 y1 r29 hr29) (an h28 (an4 h30 (an6 ff (an6 ff (an6 ff (an6 ff tv)))))))))))))))))))))) ?_
         exact jD false hm .refl
       ·replace hm := Ay h28 hm
        refine RK hnt (nn 6 (Ah [] true r3 :: pF :: nn 3 (Ah [] true r5 :: pT :: nn 5 (sk 3 (pT :: pT :: nn 3 (Ah [] true r27 :: pT :: .no :: sk 4 (pF :: .no :: sk 3 (pF :: .no :: sk 3 (pF :: .no :: sk 3 (pF :: .no :: sk 3 (pF :: .no :: sk 3 (pF :: .no :: sk 3 (pF :: .no :: sk 3 (pF :: .no :: [])))))))))))))) [(2,pB false)] [] (an3 h2 (an (Aa p0.pidsMax 0 1099511627776 r3 hr3) (an h2 (an3 h4 (an (Aa p0.weight 1 10000 r5 hr5) (an h4 (an4 h6 (an3 h7 (an h6 (an h7 (an h6 (an3 tt (an (Aa p0.period 1 1000000 r27 hr27) (an tt (an5 h28 (an4 ff (an6 ff (an6 ff (an6 ff (an6 ff tv)))))))))))))))))))) ?_
        exact jD false hm .refl
      ·replace hm := Ay h7 hm
       obtain ⟨r8,hr8,hm⟩ := bo hm
       rcases bt r8 with h9 | h9
       ·replace hm := Ax h9 hm
        obtain ⟨r10,hr10,hm⟩ := bo hm
        rcases bt r10 with h11 | h11
        ·replace hm := Ax h11 hm
         obtain ⟨r12,hr12,hm⟩ := bo hm
         rcases bt r12 with h13 | h13
         ·replace hm := Ax h13 hm
          obtain ⟨r14,hr14,hm⟩ := bo hm
          rcases bt r14 with h15 | h15
          ·replace hm := Ax h15 hm
           obtain ⟨r16,hr16,hm⟩ := bo hm
           rcases bt r16 with h17 | h17
           ·replace hm := Ax h17 hm
            obtain ⟨r18,hr18,hm⟩ := bo hm
            rcases bt r18 with h19 | h19
            ·replace hm := Ax h19 hm
             obtain ⟨r20,hr20,hm⟩ := bo hm
             rcases bt r20 with h21 | h21
             ·replace hm := Ax h21 hm
              obtain ⟨r22,hr22,hm⟩ := bo hm
              rcases bt r22 with h23 | h23
              ·replace hm := Ax h23 hm
               obtain ⟨r24,hr24,hm⟩ := bo hm
               rcases bt r24 with h25 | h25
               ·replace hm := Ax h25 hm
                obtain ⟨r26,hr26,hm⟩ := bo hm
                refine RK hnt (nn 6 (Ah [] true r3 :: pF :: nn 3 (Ah [] true r5 :: pT :: nn 7 (Ah [] true r8 :: pF :: pT :: nn 3 (Ah [] true r10 :: pT :: nn 4 (Ah [] true r12 :: pT :: nn 3 (Ah [] true r14 :: pT :: nn 3 (Ah [] true r16 :: pT :: nn 3 (Ha [] true r18 :: pT :: nn 3 (Ha [] true r20 :: pT :: nn 3 (Ah [] true r22 :: pT :: nn 3 (o35 [] true r24 :: pT :: nn 3 (o37 [] true r26 :: pT :: .no :: []))))))))))))) [(2,pB r26)] [] (an3 h2 (an (Aa p0.pidsMax 0 1099511627776 r3 hr3) (an h2 (an3 h4 (an (Aa p0.weight 1 10000 r5 hr5) (an h4 (an4 h6 (an3 h7 (an (Aa p0.quota 1 1000000 r8 hr8) (an h6 (an h7 (an h6 (an3 h9 (an (Aa p0.period 1 1000000 r10 hr10) (an h9 (an4 h11 (an (Aa p0.burst 0 y1 r12 hr12) (an h11 (an3 h13 (an (Aa p0.clampMin 0 10000 r14 hr14) (an h13 (an3 h15 (an (Aa p0.clampMax 0 10000 r16 hr16) (an h15 (an3 h17 (an (Bc p0.cpus 16 r18 hr18) (an h17 (an3 h19 (an (Bc p0.mems 8 r20 hr20) (an h19 (an3 h21 (an (Aa p0.partition 0 1 r22 hr22) (an h21 (an3 h23 (an (Dh p0.memory r24 hr24) (an h23 (an3 h25 (an (Ho p0.devices r26 hr26) (an h25 tv))))))))))))))))))))))))))))))))))))))) ?_
                exact jD r26 hm .refl
               ·replace hm := Ay h25 hm
                refine RK hnt (nn 6 (Ah [] true r3 :: pF :: nn 3 (Ah [] true r5 :: pT :: nn 7 (Ah [] true r8 :: pF :: pT :: nn 3 (Ah [] true r10 :: pT :: nn 4 (Ah [] true r12 :: pT :: nn 3 (Ah [] true r14 :: pT :: nn 3 (Ah [] true r16 :: pT :: nn 3 (Ha [] true r18 :: pT :: nn 3 (Ha [] true r20 :: pT :: nn 3 (Ah [] true r22 :: pT :: nn 3 (o35 [] true r24 :: pT :: .no :: sk 3 (pF :: .no :: []))))))))))))) [(2,pB false)] [] (an3 h2 (an (Aa p0.pidsMax 0 1099511627776 r3 hr3) (an h2 (an3 h4 (an (Aa p0.weight 1 10000 r5 hr5) (an h4 (an4 h6 (an3 h7 (an (Aa p0.quota 1 1000000 r8 hr8) (an h6 (an h7 (an h6 (an3 h9 (an (Aa p0.period 1 1000000 r10 hr10) (an h9 (an4 h11 (an (Aa p0.burst 0 y1 r12 hr12) (an h11 (an3 h13 (an (Aa p0.clampMin 0 10000 r14 hr14) (an h13 (an3 h15 (an (Aa p0.clampMax 0 10000 r16 hr16) (an h15 (an3 h17 (an (Bc p0.cpus 16 r18 hr18) (an h17 (an3 h19 (an (Bc p0.mems 8 r20 hr20) (an h19 (an3 h21 (an (Aa p0.partition 0 1 r22 hr22) (an h21 (an3 h23 (an (Dh p0.memory r24 hr24) (an h23 (an4 h25 tv))))))))))))))))))))))))))))))))))))) ?_
                exact jD false hm .refl
              ·replace hm := Ay h23 hm
               refine RK hnt (nn 6 (Ah [] true r3 :: pF :: nn 3 (Ah [] true r5 :: pT :: nn 7 (Ah [] true r8 :: pF :: pT :: nn 3 (Ah [] true r10 :: pT :: nn 4 (Ah [] true r12 :: pT :: nn 3 (Ah [] true r14 :: pT :: nn 3 (Ah [] true r16 :: pT :: nn 3 (Ha [] true r18 :: pT :: nn 3 (Ha [] true r20 :: pT :: nn 3 (Ah [] true r22 :: pT :: .no :: sk 3 (pF :: .no :: sk 3 (pF :: .no :: []))))))))))))) [(2,pB false)] [] (an3 h2 (an (Aa p0.pidsMax 0 1099511627776 r3 hr3) (an h2 (an3 h4 (an (Aa p0.weight 1 10000 r5 hr5) (an h4 (an4 h6 (an3 h7 (an (Aa p0.quota 1 1000000 r8 hr8) (an h6 (an h7 (an h6 (an3 h9 (an (Aa p0.period 1 1000000 r10 hr10) (an h9 (an4 h11 (an (Aa p0.burst 0 y1 r12 hr12) (an h11 (an3 h13 (an (Aa p0.clampMin 0 10000 r14 hr14) (an h13 (an3 h15 (an (Aa p0.clampMax 0 10000 r16 hr16) (an h15 (an3 h17 (an (Bc p0.cpus 16 r18 hr18) (an h17 (an3 h19 (an (Bc p0.mems 8 r20 hr20) (an h19 (an3 h21 (an (Aa p0.partition 0 1 r22 hr22) (an h21 (an4 h23 (an4 ff tv))))))))))))))))))))))))))))))))))) ?_
               exact jD false hm .refl
             ·replace hm := Ay h21 hm
              refine RK hnt (nn 6 (Ah [] true r3 :: pF :: nn 3 (Ah [] true r5 :: pT :: nn 7 (Ah [] true r8 :: pF :: pT :: nn 3 (Ah [] true r10 :: pT :: nn 4 (Ah [] true r12 :: pT :: nn 3 (Ah [] true r14 :: pT :: nn 3 (Ah [] true r16 :: pT :: nn 3 (Ha [] true r18 :: pT :: nn 3 (Ha [] true r20 :: pT :: .no :: sk 3 (pF :: .no :: sk 3 (pF :: .no :: sk 3 (pF :: .no :: []))))))))))))) [(2,pB false)] [] (an3 h2 (an (Aa p0.pidsMax 0 1099511627776 r3 hr3) (an h2 (an3 h4 (an (Aa p0.weight 1 10000 r5 hr5) (an h4 (an4 h6 (an3 h7 (an (Aa p0.quota 1 1000000 r8 hr8) (an h6 (an h7 (an h6 (an3 h9 (an (Aa p0.period 1 1000000 r10 hr10) (an h9 (an4 h11 (an (Aa p0.burst 0 y1 r12 hr12) (an h11 (an3 h13 (an (Aa p0.clampMin 0 10000 r14 hr14) (an h13 (an3 h15 (an (Aa p0.clampMax 0 10000 r16 hr16) (an h15 (an3 h17 (an (Bc p0.cpus 16 r18 hr18) (an h17 (an3 h19 (an (Bc p0.mems 8 r20 hr20) (an h19 (an4 h21 (an2 ff (an6 ff tv))))))))))))))))))))))))))))))))) ?_
              exact jD false hm .refl
            ·replace hm := Ay h19 hm
             refine RK hnt (nn 6 (Ah [] true r3 :: pF :: nn 3 (Ah [] true r5 :: pT :: nn 7 (Ah [] true r8 :: pF :: pT :: nn 3 (Ah [] true r10 :: pT :: nn 4 (Ah [] true r12 :: pT :: nn 3 (Ah [] true r14 :: pT :: nn 3 (Ah [] true r16 :: pT :: nn 3 (Ha [] true r18 :: pT :: .no :: sk 3 (pF :: .no :: sk 3 (pF :: .no :: sk 3 (pF :: .no :: sk 3 (pF :: .no :: []))))))))))))) [(2,pB false)] [] (an3 h2 (an (Aa p0.pidsMax 0 1099511627776 r3 hr3) (an h2 (an3 h4 (an (Aa p0.weight 1 10000 r5 hr5) (an h4 (an4 h6 (an3 h7 (an (Aa p0.quota 1 1000000 r8 hr8) (an h6 (an h7 (an h6 (an3 h9 (an (Aa p0.period 1 1000000 r10 hr10) (an h9 (an4 h11 (an (Aa p0.burst 0 y1 r12 hr12) (an h11 (an3 h13 (an (Aa p0.clampMin 0 10000 r14 hr14) (an h13 (an3 h15 (an (Aa p0.clampMax 0 10000 r16 hr16) (an h15 (an3 h17 (an (Bc p0.cpus 16 r18 hr18) (an h17 (an4 h19 (an6 ff (an6 ff tv)))))))))))))))))))))))))))))) ?_
             exact jD false hm .refl
           ·replace hm := Ay h17 hm
            refine RK hnt (nn 6 (Ah [] true r3 :: pF :: nn 3 (Ah [] true r5 :: pT :: nn 7 (Ah [] true r8 :: pF :: pT :: nn 3 (Ah [] true r10 :: pT :: nn 4 (Ah [] true r12 :: pT :: nn 3 (Ah [] true r14 :: pT :: nn 3 (Ah [] true r16 :: pT :: .no :: sk 3 (pF :: .no :: sk 3 (pF :: .no :: sk 3 (pF :: .no :: sk 3 (pF :: .no :: sk 3 (pF :: .no :: []))))))))))))) [(2,pB false)] [] (an3 h2 (an (Aa p0.pidsMax 0 1099511627776 r3 hr3) (an h2 (an3 h4 (an (Aa p0.weight 1 10000 r5 hr5) (an h4 (an4 h6 (an3 h7 (an (Aa p0.quota 1 1000000 r8 hr8) (an h6 (an h7 (an h6 (an3 h9 (an (Aa p0.period 1 1000000 r10 hr10) (an h9 (an4 h11 (an (Aa p0.burst 0 y1 r12 hr12) (an h11 (an3 h13 (an (Aa p0.clampMin 0 10000 r14 hr14) (an h13 (an3 h15 (an (Aa p0.clampMax 0 10000 r16 hr16) (an h15 (an4 h17 (an4 ff (an6 ff (an6 ff tv)))))))))))))))))))))))))))) ?_
            exact jD false hm .refl
          ·replace hm := Ay h15 hm
           refine RK hnt (nn 6 (Ah [] true r3 :: pF :: nn 3 (Ah [] true r5 :: pT :: nn 7 (Ah [] true r8 :: pF :: pT :: nn 3 (Ah [] true r10 :: pT :: nn 4 (Ah [] true r12 :: pT :: nn 3 (Ah [] true r14 :: pT :: .no :: sk 3 (pF :: .no :: sk 3 (pF :: .no :: sk 3 (pF :: .no :: sk 3 (pF :: .no :: sk 3 (pF :: .no :: sk 3 (pF :: .no :: []))))))))))))) [(2,pB false)] [] (an3 h2 (an (Aa p0.pidsMax 0 1099511627776 r3 hr3) (an h2 (an3 h4 (an (Aa p0.weight 1 10000 r5 hr5) (an h4 (an4 h6 (an3 h7 (an (Aa p0.quota 1 1000000 r8 hr8) (an h6 (an h7 (an h6 (an3 h9 (an (Aa p0.period 1 1000000 r10 hr10) (an h9 (an4 h11 (an (Aa p0.burst 0 y1 r12 hr12) (an h11 (an3 h13 (an (Aa p0.clampMin 0 10000 r14 hr14) (an h13 (an4 h15 (an2 ff (an6 ff (an6 ff (an6 ff tv)))))))))))))))))))))))))) ?_
           exact jD false hm .refl
         ·replace hm := Ay h13 hm
          refine RK hnt (nn 6 (Ah [] true r3 :: pF :: nn 3 (Ah [] true r5 :: pT :: nn 7 (Ah [] true r8 :: pF :: pT :: nn 3 (Ah [] true r10 :: pT :: nn 4 (Ah [] true r12 :: pT :: .no :: sk 3 (pF :: .no :: sk 3 (pF :: .no :: sk 3 (pF :: .no :: sk 3 (pF :: .no :: sk 3 (pF :: .no :: sk 3 (pF :: .no :: sk 3 (pF :: .no :: []))))))))))))) [(2,pB false)] [] (an3 h2 (an (Aa p0.pidsMax 0 1099511627776 r3 hr3) (an h2 (an3 h4 (an (Aa p0.weight 1 10000 r5 hr5) (an h4 (an4 h6 (an3 h7 (an (Aa p0.quota 1 1000000 r8 hr8) (an h6 (an h7 (an h6 (an3 h9 (an (Aa p0.period 1 1000000 r10 hr10) (an h9 (an4 h11 (an (Aa p0.burst 0 y1 r12 hr12) (an h11 (an4 h13 (an6 ff (an6 ff (an6 ff (an6 ff tv))))))))))))))))))))))) ?_
          exact jD false hm .refl
        ·replace hm := Ay h11 hm
         refine RK hnt (nn 6 (Ah [] true r3 :: pF :: nn 3 (Ah [] true r5 :: pT :: nn 7 (Ah [] true r8 :: pF :: pT :: nn 3 (Ah [] true r10 :: pT :: .no :: sk 4 (pF :: .no :: sk 3 (pF :: .no :: sk 3 (pF :: .no :: sk 3 (pF :: .no :: sk 3 (pF :: .no :: sk 3 (pF :: .no :: sk 3 (pF :: .no :: sk 3 (pF :: .no :: []))))))))))))) [(2,pB false)] [] (an3 h2 (an (Aa p0.pidsMax 0 1099511627776 r3 hr3) (an h2 (an3 h4 (an (Aa p0.weight 1 10000 r5 hr5) (an h4 (an4 h6 (an3 h7 (an (Aa p0.quota 1 1000000 r8 hr8) (an h6 (an h7 (an h6 (an3 h9 (an (Aa p0.period 1 1000000 r10 hr10) (an h9 (an5 h11 (an4 ff (an6 ff (an6 ff (an6 ff (an6 ff tv))))))))))))))))))))) ?_
         exact jD false hm .refl
       ·replace hm := Ay h9 hm
        refine RK hnt (nn 6 (Ah [] true r3 :: pF :: nn 3 (Ah [] true r5 :: pT :: nn 7 (Ah [] true r8 :: pF :: pT :: .no :: sk 3 (pF :: .no :: sk 4 (pF :: .no :: sk 3 (pF :: .no :: sk 3 (pF :: .no :: sk 3 (pF :: .no :: sk 3 (pF :: .no :: sk 3 (pF :: .no :: sk 3 (pF :: .no :: sk 3 (pF :: .no :: []))))))))))))) [(2,pB false)] [] (an3 h2 (an (Aa p0.pidsMax 0 1099511627776 r3 hr3) (an h2 (an3 h4 (an (Aa p0.weight 1 10000 r5 hr5) (an h4 (an4 h6 (an3 h7 (an (Aa p0.quota 1 1000000 r8 hr8) (an h6 (an h7 (an h6 (an4 h9 (an3 ff (an6 ff (an6 ff (an6 ff (an6 ff (an6 ff tv))))))))))))))))))) ?_
        exact jD false hm .refl
     ·replace hm := Ay h6 hm
      refine RK hnt (nn 6 (Ah [] true r3 :: pF :: nn 3 (Ah [] true r5 :: pT :: .no :: sk 8 (pF :: .no :: sk 3 (pF :: .no :: sk 4 (pF :: .no :: sk 3 (pF :: .no :: sk 3 (pF :: .no :: sk 3 (pF :: .no :: sk 3 (pF :: .no :: sk 3 (pF :: .no :: sk 3 (pF :: .no :: sk 3 (pF :: .no :: []))))))))))))) [(2,pB false)] [] (an3 h2 (an (Aa p0.pidsMax 0 1099511627776 r3 hr3) (an h2 (an3 h4 (an (Aa p0.weight 1 10000 r5 hr5) (an h4 (an6 h6 (an ff (an6 ff (an6 ff (an6 ff (an6 ff (an6 ff (an6 ff tv)))))))))))))) ?_
      exact jD false hm .refl
    ·replace hm := Ay h4 hm
     refine RK hnt (nn 6 (Ah [] true r3 :: pF :: .no :: sk 3 (pF :: .no :: sk 8 (pF :: .no :: sk 3 (pF :: .no :: sk 4 (pF :: .no :: sk 3 (pF :: .no :: sk 3 (pF :: .no :: sk 3 (pF :: .no :: sk 3 (pF :: .no :: sk 3 (pF :: .no :: sk 3 (pF :: .no :: sk 3 (pF :: .no :: []))))))))))))) [(2,pB false)] [] (an3 h2 (an (Aa p0.pidsMax 0 1099511627776 r3 hr3) (an h2 (an4 h4 (an ff (an6 ff (an6 ff (an6 ff (an6 ff (an6 ff (an6 ff (an6 ff tv)))))))))))) ?_
     exact jD false hm .refl
 ·refine Aq hm ?_ ?_
  ·intro h1 hm
   refine RD hnt (.no :: []) [8] [(3,pI 0)] [] [] tv ?_
   exact jD 0 hm Conv.eqK
  ·intro h1 hm
   refine Sk ?_
   exact jD p0.quota hm Conv.t0
abbrev o109 (ks : List Nat) (b : Bool) (RES : Bool) (sm : List Nat := []) : Orc := .call 85 ks b (pB RES) [] [] sm

theorem AeK (p0 : Ae) (p1 : List Ac) (RES : Bool) (hm : Uc p0 p1 = some RES) : Spec Tryz.prog 83 [.p (.agg (Ag p0)),.p (At p1)] [] (pB RES) [] [] := by
 unfold Uc at hm
 refine SO Tryz.func83 rfl rfl [(0,.p (.agg (Ag p0))),(1,.p (At p1))] [] ?_
 intro cx hnt
 refine Sq (RD hnt (nn 2 []) [0] [(2,rr 1016)] [] [(1016,bx (pm (Ag p0)))] tv ?_)
 obtain ⟨r1,hr1,hm⟩ := bo hm
 refine Sq (Sq ?_)
 refine Jn (ι := Bool) (fun (y1 : Bool) => Af [(1,.p (At p1)),(2,rr 1016),(16,pB y1)] [(1016,bx (pm (Ag p0)))]) (fun y1 => (Qm p0 p1) y1 = some RES) ?_ ?_
 ·intro y1 hm
  unfold Qm at hm
  refine Aq hm ?_ ?_
  ·intro h3 hm
   refine Sq (RK hnt (.no :: []) [(4,pB false)] [] tv ?_)
   obtain rfl := sj hm
   exact DW.ret (Am [] [] (pB false))
  ·intro h3 hm
   refine Sk ?_
   refine Sq (Sq (RD hnt (.no :: []) [16] [(5,pI 0)] [] [] tv ?_))
   refine Bk ?_
   obtain ⟨hc1,hm⟩ := go1 hm
   refine DW.rangeO (fun (k1 : Nat) (s1 : Unit) => Af [(1,.p (At p1)),(2,rr 1016),(5,pI ((k1 : Nat) : Int))] [(1016,bx (pm (Ag p0)))]) Be hm Conv.eqK ?_
   intro k1 s1 n1 hk1 hs1 he1
   refine Sq (Sq (RD hnt (nn 4 []) [] [(20,pB (decide (((k1 : Nat) : Int) < ((p1.length : Nat) : Int))))] [] [] tv ?_))
   refine Eg (decide (((k1 : Nat) : Int) < ((p1.length : Nat) : Int))) ?_ ?_
   ·intro h18
    have hlt1 : k1 < p1.length := by have := of_decide_eq_true h18; omega
    have hm := hs1 hlt1
    unfold Yo at hm
    refine Sk ?_
    refine Sq (Bk ?_)
    obtain ⟨g19,hm⟩ := go1 hm
    refine Sq ?_
    refine Jn (ι := Bool) (fun (y4 : Bool) => Af [(1,.p (At p1)),(2,rr 1016),(5,pI ((k1 : Nat) : Int)),(43,pB y4)] [(1016,bx (pm (Ag p0)))]) (fun y4 => (Qp n1) y4 = some RES) ?_ ?_
    ·intro y4 hm
     unfold Qp at hm
     refine Aq hm ?_ ?_
     ·intro h22 hm
      refine Sq (RK hnt (.no :: []) [(4,pB false)] [] tv ?_)
      obtain rfl := sj hm
      exact DW.ret (Am [] [] (pB false))
     ·intro h22 hm
      refine Sk ?_
      refine DW.done ?_
      show DW _ _ _ _ _
      refine RD hnt (nn 3 []) [43] [(5,pI (w64 (((k1 : Nat) : Int) + 1)))] [] [] tv ?_
      exact jD () ⟨hlt1,hm⟩ (Conv.tp [(5,pI (w64 (((k1 : Nat) : Int) + 1)))] [] (by kernel_rfl) (.cons rfl (.of_eq (congrArg pI (Cw hlt1 hc1))) .nil) .nil)
    ·rcases bt ((p1.getD k1 (default : Ac)).group != (p0.nodes.getD k1 Da).id) with h20 | h20
     ·replace hm := Ax h20 hm
      refine RD hnt (nn 13 (sk 7 (pT :: []))) [20] [(43,pB true)] [] [] (an (nn0 k1) (an (ltc hlt1) (an (nn0 k1) (an (ltc g19) (an2 h20 (an6 h20 tv)))))) ?_
      exact jD true hm Conv.eqK
     ·replace hm := Ay h20 hm
      obtain ⟨r21,hr21,hm⟩ := bo hm
      refine RD hnt (nn 18 (o109 [] true r21 :: .no :: pF :: [])) [20] [(43,pB (!r21))] [] [] (an (nn0 k1) (an (ltc hlt1) (an (nn0 k1) (an (ltc g19) (an3 h20 (an (nn0 k1) (an (ltc hlt1) (an3 h20 (an (Yz (p1.getD k1 (default : Ac)).settings r21 hr21) (an2 h20 tv)))))))))) ?_
      exact jD (!r21) hm Conv.eqK
   ·intro h18
    have hge1 : ¬ k1 < p1.length := by have := of_decide_eq_false h18; omega
    have hm := he1 hge1
    unfold AbV at hm
    refine DW.exit ?_
    refine As ?_
    refine Bb ?_
    refine An ?_
    show DW _ _ _ _ _
    refine Sq (RK hnt (.no :: []) [(4,pB true)] [] tv ?_)
    obtain rfl := sj hm
    exact DW.ret (Am [] [] (pB true))
 ·rcases bt (!r1) with h2 | h2
  ·replace hm := Ax h2 hm
   refine RD hnt (.no :: o6 [] true r1 :: nn 2 (sk 6 (pT :: []))) [] [(16,pB true)] [] [] (an (Jt p0 r1 hr1) (an h2 (an6 h2 tv))) ?_
   exact jD true hm Conv.eqK
  ·replace hm := Ay h2 hm
   refine RD hnt (.no :: o6 [] true r1 :: nn 8 (pF :: [])) [] [(16,pB (((p1.length : Nat) : Int) != ((p0.nodes.length : Nat) : Int)))] [] [] (an (Jt p0 r1 hr1) (an h2 (an6 h2 tv))) ?_
   exact jD (((p1.length : Nat) : Int) != ((p0.nodes.length : Nat) : Int)) hm Conv.eqK
abbrev o108 (ks : List Nat) (b : Bool) (RES : Bool) (sm : List Nat := []) : Orc := .call 83 ks b (pB RES) [] [] sm
end Go.Dm


/- Go functions compute their models, printed by a program. -/
namespace Go.Dm
open Go.Proofs
set_option linter.unusedVariables false
abbrev c112e1 : Nat × Obj := (1016,bx [pI 0,pI 0,pI 0,pI 0,pI 0,pI 0,pI 0,.p (.sl .nil 0 0 (fun _ => [])),.p (.sl .nil 0 0 (fun _ => [])),pI 0,pI 0,pI 0,pI 0,pI 0,pI 0,pB false,.p (.sl .nil 0 0 (fun _ => []))])
theorem Aeb (p0 : Al) (RES : Al) (hm : Ms p0 = some RES) : Spec Tryz.prog 55 [.p (.agg (Bm p0))] [] (.p (.agg (Bm RES))) [] [] := by
 unfold Ms at hm
 refine SO Tryz.func55 rfl rfl [(0,.p (.agg (Bm p0)))] [] ?_
 intro cx hnt
 refine Sq (RK hnt (nn 2 []) [(1,rr 1008),(2,rr 1016)] [(1008,bx (pm (Bm p0))),(c112e1)] tv ?_)
 obtain ⟨g1,g2,hm⟩ := go2 hm
 refine Sq (RN hnt (nn 10 []) [(1,rr 1008),(2,rr 1016)] [(1008,bx [pI p0.pidsMax,pI p0.weight,pI p0.quota,pI p0.period,pI p0.burst,pI p0.clampMin,pI p0.clampMax,ow 1040 p0.cpus.length,ow 1064 p0.mems.length,pI p0.partition,pI p0.memory.min,pI p0.memory.low,pI p0.memory.high,pI p0.memory.max,pI p0.memory.swapMax,pB p0.memory.together,.p (Cl p0.devices)]),(c112e1),(1040,ob0 (roI p0.cpus)),(1064,ob0 (roI p0.mems))] [] [(1040,.row 1 p0.cpus.length (elI p0.cpus)),(1064,.row 1 p0.mems.length (elI p0.mems))] (an (by omega : p0.cpus.length * 8 ≤ 140737488355328) (an (by omega : p0.mems.length * 8 ≤ 140737488355328) tv)) (by kernel_rfl) .nil (.cons rfl (BLe.typed RowIs.elems) (.cons rfl (BLe.typed RowIs.elems) .nil)) ?_)
 obtain ⟨g3,hm⟩ := go1 hm
 refine Sq (RN hnt (nn 5 []) [(1,rr 1008),(2,rr 1016)] [(1008,bx [pI p0.pidsMax,pI p0.weight,pI p0.quota,pI p0.period,pI p0.burst,pI p0.clampMin,pI p0.clampMax,ow 1040 p0.cpus.length,ow 1064 p0.mems.length,pI p0.partition,pI p0.memory.min,pI p0.memory.low,pI p0.memory.high,pI p0.memory.max,pI p0.memory.swapMax,pB p0.memory.together,ow 1104 p0.devices.length]),(c112e1),(1040,ob0 (roI p0.cpus)),(1064,ob0 (roI p0.mems)),(1104,ob0 (Ai p0.devices))] [] [(1104,.row 7 p0.devices.length (Oo p0.devices))] (an (by omega : p0.devices.length * 56 ≤ 140737488355328) tv) (by kernel_rfl) .nil (.cons rfl (BLe.typed RowIs.elems) .nil) ?_)
 refine Sq (RD hnt (nn 2 []) [1] [] [1008] [(1016,bx [pI p0.pidsMax,pI p0.weight,pI p0.quota,pI p0.period,pI p0.burst,pI p0.clampMin,pI p0.clampMax,ow 1040 p0.cpus.length,ow 1064 p0.mems.length,pI p0.partition,pI p0.memory.min,pI p0.memory.low,pI p0.memory.high,pI p0.memory.max,pI p0.memory.swapMax,pB p0.memory.together,ow 1104 p0.devices.length])] tv ?_)
 obtain rfl := sj hm
 exact DW.ret (Am [] [] (.p (.agg (Bm p0))))
abbrev o112 (ks : List Nat) (b : Bool) (RES : Al) (sm : List Nat := []) : Orc := .call 55 ks b (.p (.agg (Bm RES))) [] [] sm

abbrev c107e1 (s1 : (List Ac) × Int) (r25 : Al) := (Bw (Vd s1.1) (Int.toNat s1.2) [vi (s1.1.getD (Int.toNat s1.2) Be).group,vi r25.pidsMax,vi r25.weight,vi r25.quota,vi r25.period,vi r25.burst,vi r25.clampMin,vi r25.clampMax,slI r25.cpus,slI r25.mems,vi r25.partition,vi r25.memory.min,vi r25.memory.low,vi r25.memory.high,vi r25.memory.max,vi r25.memory.swapMax,vb r25.memory.together,Cl r25.devices])
abbrev AbU (s1 : (List Ac) × Int) (r25 : Al) := ({ group := (s1.1.getD (Int.toNat s1.2) Be).group,settings := r25 } : Ac)
theorem AfM (p0 : Ae) (p1 : List Ac) (p2 : Int) (p3 : Al) (RES : (List Ac) × Int) (hm : Vp p0 p1 p2 p3 = some RES) : Spec Tryz.prog 31 [.p (.agg (Ag p0)),.p (At p1),pI p2,.p (.agg (Bm p3))] [] (.tup [ow 0 RES.1.length,pI RES.2]) [] [Bz RES.1] := by
 unfold Vp at hm
 refine SO Tryz.func31 rfl rfl [(0,.p (.agg (Ag p0))),(1,.p (At p1)),(2,pI p2),(3,.p (.agg (Bm p3)))] [] ?_
 intro cx hnt
 refine Sq (RD hnt (nn 4 []) [0,3] [(4,rr 1032),(7,rr 1056)] [] [(1032,bx (pm (Ag p0))),(1056,bx (pm (Bm p3)))] tv ?_)
 refine Sq (Bk ?_)
 obtain ⟨r1,hr1,hm⟩ := bo hm
 refine Sq (RD hnt (nn 2 (o108 [] true r1 :: nn 2 [])) [] [(12,pB (!r1))] [] [] (an (AeK p0 p1 r1 hr1) tv) ?_)
 refine Aq hm ?_ ?_
 ·intro h2 hm
  refine Sq (RK hnt (nn 2 []) [(8,.p (.sl .nil 0 0 (fun _ => []))),(9,pI 1)] [] tv ?_)
  refine DW.cv [] [(8,ow 100000 0)] [] [(100000,ob0 (Bz []))] (Conv.ads [(.s 8,100000,18,elems Ey Be [])]) ?_
  obtain rfl := sj hm
  exact DW.ret (Am [Bz []] [100000] (.tup [ow 0 0,pI 1]))
 ·intro h2 hm
  obtain ⟨r3,hr3,hm⟩ := bo hm
  refine Sq (RD hnt (nn 2 (o10 [] true r3 :: nn 2 [])) [12] [(17,pB (!r3))] [] [] (an (Nu p0 p2 r3 hr3) tv) ?_)
  refine Aq hm ?_ ?_
  ·intro h4 hm
   refine Sq (RK hnt (nn 2 []) [(8,.p (.sl .nil 0 0 (fun _ => []))),(9,pI 4)] [] tv ?_)
   refine DW.cv [] [(8,ow 100000 0)] [] [(100000,ob0 (Bz []))] (Conv.ads [(.s 8,100000,18,elems Ey Be [])]) ?_
   obtain rfl := sj hm
   exact DW.ret (Am [Bz []] [100000] (.tup [ow 0 0,pI 4]))
  ·intro h4 hm
   obtain ⟨r5,hr5,hm⟩ := bo hm
   refine Sq (RD hnt (.no :: o109 [] true r5 :: nn 2 []) [17] [(22,pB (!r5))] [] [] (an (Yz p3 r5 hr5) tv) ?_)
   refine Aq hm ?_ ?_
   ·intro h6 hm
    refine Sq (RK hnt (nn 2 []) [(8,.p (.sl .nil 0 0 (fun _ => []))),(9,pI 3)] [] tv ?_)
    refine DW.cv [] [(8,ow 100000 0)] [] [(100000,ob0 (Bz []))] (Conv.ads [(.s 8,100000,18,elems Ey Be [])]) ?_
    obtain rfl := sj hm
    exact DW.ret (Am [Bz []] [100000] (.tup [ow 0 0,pI 3]))
   ·intro h6 hm
    refine Sk ?_
    refine DW.done ?_
    show DW _ _ _ _ _
    obtain ⟨r7,hr7,hm⟩ := bo hm
    refine Sq (RD hnt (nn 2 (o16 [] true r7 :: .no :: [])) [1,4,22] [(10,ow 1224 r7.length)] [1032] [(1224,ob0 (Bz r7))] (an (Xu p0 p1 r7 hr7) tv) ?_)
    refine Sq (Sq (RD hnt (.no :: []) [] [(11,pI 0)] [] [] tv ?_))
    refine Bk ?_
    refine DW.whileO (fun (s1 : (List Ac) × Int) => Af [(2,pI p2),(7,rr 1056),(10,ow 1224 s1.1.length),(11,pI s1.2)] [(1056,bx (pm (Bm p3))),(1224,ob0 (Bz s1.1))]) hm Conv.eqK ?_
    intro s1 n1 hm
    unfold Aac at hm
    refine Sq (Sq (RD hnt (nn 4 []) [] [(32,pB (decide (s1.2 < ((s1.1.length : Nat) : Int))))] [] [] tv ?_))
    refine Aq hm ?_ ?_
    ·intro h18 hm
     refine Sk ?_
     refine Sq ?_
     refine Jn (ι := List Ac) (fun (y2 : List Ac) => Af [(2,pI p2),(7,rr 1056),(10,ow 1224 y2.length),(11,pI s1.2)] [(1056,bx (pm (Bm p3))),(1224,ob0 (Bz y2))]) (fun y2 => (Sa s1 n1) y2 = some RES) ?_ ?_
     ·intro y2 hm
      unfold Sa at hm
      refine RD hnt (nn 3 []) [] [(11,pI (w64 (s1.2 + 1)))] [] [] tv ?_
      exact jD (y2,(w64 (s1.2 + 1))) hm Conv.eqK
     ·refine Bk ?_
      obtain ⟨g19,g20,hm⟩ := go2 hm
      refine Sq (RD hnt (nn 7 []) [32] [(41,pB ((s1.1.getD (Int.toNat s1.2) Be).group == p2))] [] [] (an g19.1 (an g19.2 (an g20 tv))) ?_)
      refine Aq hm ?_ ?_
      ·intro h21 hm
       obtain ⟨r25,hr25,hm⟩ := bo hm
       obtain ⟨g26,g27,hm⟩ := go2 hm
       refine RN hnt (nn 3 (o112 [] true r25 :: nn 3 [])) [(2,pI p2),(7,rr 1056),(10,ow 1224 (s1.1.set (Int.toNat s1.2) (AbU s1 r25)).length),(11,pI s1.2)] [(1056,bx (pm (Bm p3))),(1224,ob0 (Bz (s1.1.set (Int.toNat s1.2) (AbU s1 r25))))] [(10,ow 1224 s1.1.length)] [(1224,.row 18 s1.1.length (c107e1 s1 r25))] (an (Aeb p3 r25 hr25) (an g26.1 (an g26.2 (an g27 tv)))) (by kernel_rfl) (.cons rfl (MLe.ownLen (enc := Ey) (d := Be) (f := (c107e1 s1 r25)) (RowIs.upd RowIs.elems (AbU s1 r25) rfl)) .nil) (.cons rfl (BLe.typed (RowIs.upd RowIs.elems (AbU s1 r25) rfl)) .nil) ?_
       exact bD (s1.1.set (Int.toNat s1.2) (AbU s1 r25)) hm .refl
      ·intro h21 hm
       refine Sk ?_
       exact bD s1.1 hm Conv.t0
    ·intro h18 hm
     refine DW.exit ?_
     refine As ?_
     refine Bb ?_
     refine An ?_
     show DW _ _ _ _ _
     refine Sq (RK hnt (nn 3 []) [(8,ow 1224 s1.1.length),(9,pI 0)] [(1224,ob0 (Bz s1.1))] tv ?_)
     obtain rfl := sj hm
     exact DW.ret (Am [Bz s1.1] [1224] (.tup [ow 0 s1.1.length,pI 0]))
abbrev o107 (ks : List Nat) (b : Bool) (RES : (List Ac) × Int) (sm : List Nat := []) : Orc := .call 31 ks b (.tup [ow 0 RES.1.length,pI RES.2]) [] [Bz RES.1] sm

theorem AcR (rec : Ae → Int → Option (List Int)) (ih : ∀ (p0 : Ae) (p1 : Int) (RES : List Int),rec p0 p1 = some RES → Spec Tryz.prog 33 [.p (.agg (Ag p0)),pI p1] [] (ow 0 RES.length) [] [roI RES]) (p0 : Ae) (p1 : Int) (RES : List Int) (hm : Ph rec p0 p1 = some RES) : Spec Tryz.prog 33 [.p (.agg (Ag p0)),pI p1] [] (ow 0 RES.length) [] [roI RES] := by
 unfold Ph at hm
 refine SO Tryz.func33 rfl rfl [(0,.p (.agg (Ag p0))),(1,pI p1)] [] ?_
 intro cx hnt
 refine Sq (RK hnt (nn 2 []) [(1,pI p1),(2,rr 1016)] [(1016,bx (pm (Ag p0)))] tv ?_)
 obtain ⟨r1,hr1,hm⟩ := bo hm
 refine Sq (Sq (RD hnt (nn 2 (o10 [] true r1 :: .no :: [])) [] [(11,pB (!r1))] [] [] (an (Nu p0 p1 r1 hr1) tv) ?_))
 refine Aq hm ?_ ?_
 ·intro h2 hm
  refine Sq (RK hnt (.no :: []) [(4,.p (.sl .nil 0 0 (fun _ => [])))] [] tv ?_)
  refine DW.cv [] [(4,ow 100000 0)] [] [(100000,ob0 (roI []))] (Conv.ads [(.s 4,100000,1,elems Bi 0 [])]) ?_
  obtain rfl := sj hm
  exact DW.ret (Am [roI []] [100000] (ow 0 0))
 ·intro h2 hm
  refine Sk ?_
  refine Sq (RN hnt (nn 3 []) [(1,pI p1),(2,rr 1016),(5,ow 1104 [p1].length)] [(1016,bx (pm (Ag p0))),(1104,ob0 (roI [p1]))] [(5,ow 1104 1)] [(1104,.row 1 1 (cut 1 [vi p1]))] tv (by kernel_rfl) (.cons rfl (MLe.ownLen (enc := Bi) (d := 0) (f := (cut 1 [vi p1])) (RowIs.lit (enc := Bi) (d := 0) (n := 1) (f := (cut 1 [vi p1])) [p1] rfl (fun | 0,_ => rfl | n + 1,h => absurd h (by omega)))) .nil) (.cons rfl (BLe.typed (RowIs.lit (enc := Bi) (d := 0) (n := 1) (f := (cut 1 [vi p1])) [p1] rfl (fun | 0,_ => rfl | n + 1,h => absurd h (by omega)))) .nil) ?_)
  obtain ⟨r3,hr3,hm⟩ := bo hm
  refine Sq (RD hnt (nn 2 (o101 [] true r3 :: .no :: [])) [1] [(6,ow 1128 r3.length)] [] [(1128,ob0 (roI r3))] (an (Wn p0 p1 r3 hr3) tv) ?_)
  refine Sq (Sq (RD hnt (.no :: []) [] [(7,pI 0)] [] [] tv ?_))
  refine Bk ?_
  obtain ⟨hc1,hm⟩ := go1 hm
  refine DW.rangeO (fun (k1 : Nat) (s1 : List Int) => Af [(2,rr 1016),(5,ow 1104 s1.length),(6,ow 1128 r3.length),(7,pI ((k1 : Nat) : Int))] [(1016,bx (pm (Ag p0))),(1104,ob0 (roI s1)),(1128,ob0 (roI r3))]) 0 hm Conv.eqK ?_
  intro k1 s1 n1 hk1 hs1 he1
  refine Sq (Sq (RD hnt (nn 4 []) [] [(20,pB (decide (((k1 : Nat) : Int) < ((r3.length : Nat) : Int))))] [] [] tv ?_))
  refine Eg (decide (((k1 : Nat) : Int) < ((r3.length : Nat) : Int))) ?_ ?_
  ·intro h14
   have hlt1 : k1 < r3.length := by have := of_decide_eq_true h14; omega
   have hm := hs1 hlt1
   unfold Uv at hm
   refine Sk ?_
   refine Sq (Bk ?_)
   obtain ⟨r15,hr15,hm⟩ := bo hm
   obtain ⟨g16,hm⟩ := go1 hm
   refine RN hnt (nn 6 (.call 33 [] true (ow 0 r15.length) [] [roI r15] [] :: nn 2 [])) [(2,rr 1016),(5,ow 1104 (s1 ++ r15).length),(6,ow 1128 r3.length),(7,pI ((k1 : Nat) : Int))] [(1016,bx (pm (Ag p0))),(1104,ob0 (roI (s1 ++ r15))),(1128,ob0 (roI r3))] [(5,ow 1104 (s1.length + r15.length))] [(1104,.row 1 (s1.length + r15.length) (Ff s1.length (elI s1) (elI r15)))] (an (nn0 k1) (an (ltc hlt1) (an (by omega : k1 < r3.length) (an (ih p0 (r3.getD k1 0) r15 hr15) (an (by omega : (s1.length + r15.length) * 8 ≤ 140737488355328) tv))))) (by kernel_rfl) (.cons rfl (MLe.ownLen (enc := Bi) (d := 0) (f := (Ff s1.length (elI s1) (elI r15))) (RowIs.cat RowIs.elems RowIs.elems)) .nil) (.cons rfl (BLe.typed (RowIs.cat RowIs.elems RowIs.elems)) .nil) ?_
   refine DW.done ?_
   show DW _ _ _ _ _
   refine RD hnt (nn 3 []) [] [(7,pI (w64 (((k1 : Nat) : Int) + 1)))] [] [] tv ?_
   exact jD (s1 ++ r15) ⟨hlt1,hm⟩ (Conv.tp [(7,pI (w64 (((k1 : Nat) : Int) + 1)))] [] (by kernel_rfl) (.cons rfl (.of_eq (congrArg pI (Cw hlt1 hc1))) .nil) .nil)
  ·intro h14
   have hge1 : ¬ k1 < r3.length := by have := of_decide_eq_false h14; omega
   have hm := he1 hge1
   unfold Aay at hm
   refine DW.exit ?_
   refine As ?_
   refine Bb ?_
   refine An ?_
   show DW _ _ _ _ _
   refine Sq (RK hnt (nn 2 []) [(4,ow 1104 s1.length)] [(1104,ob0 (roI s1))] tv ?_)
   obtain rfl := sj hm
   exact DW.ret (Am [roI s1] [1104] (ow 0 s1.length))
theorem Wm : ∀ (n : Nat) (p0 : Ae) (p1 : Int) (RES : List Int),Jo n p0 p1 = some RES → Spec Tryz.prog 33 [.p (.agg (Ag p0)),pI p1] [] (ow 0 RES.length) [] [roI RES]
  | 0,p0,p1,RES,hm => by simp [Jo] at hm
  | n + 1,p0,p1,RES,hm => AcR (Jo n) (Wm n) p0 p1 RES hm
theorem Oz (p0 : Ae) (p1 : Int) (RES : List Int) (hm : Lt p0 p1 = some RES) : Spec Tryz.prog 33 [.p (.agg (Ag p0)),pI p1] [] (ow 0 RES.length) [] [roI RES] := Wm Fg p0 p1 RES hm
abbrev o113 (ks : List Nat) (b : Bool) (RES : List Int) (sm : List Nat := []) : Orc := .call 33 ks b (ow 0 RES.length) [] [roI RES] sm

theorem Tu (p0 : List Int) (p1 : Int) (RES : Bool) (hm : Qi p0 p1 = some RES) : Spec Tryz.prog 18 [.p (slI p0),pI p1] [] (pB RES) [] [] := by
 unfold Qi at hm
 refine SO Tryz.func18 rfl rfl [(0,.p (slI p0)),(1,pI p1)] [] ?_
 intro cx hnt
 refine Sq (RD hnt (.no :: []) [] [] [] [] tv ?_)
 refine Sq (Sq (RD hnt (.no :: []) [] [(5,pI 0)] [] [] tv ?_))
 refine Bk ?_
 obtain ⟨hc1,hm⟩ := go1 hm
 refine DW.rangeO (fun (k1 : Nat) (s1 : Unit) => Af [(0,.p (slI p0)),(1,pI p1),(5,pI ((k1 : Nat) : Int))] []) 0 hm Conv.eqK ?_
 intro k1 s1 n1 hk1 hs1 he1
 refine Sq (Sq (RD hnt (nn 4 []) [] [(9,pB (decide (((k1 : Nat) : Int) < ((p0.length : Nat) : Int))))] [] [] tv ?_))
 refine Eg (decide (((k1 : Nat) : Int) < ((p0.length : Nat) : Int))) ?_ ?_
 ·intro h7
  have hlt1 : k1 < p0.length := by have := of_decide_eq_true h7; omega
  have hm := hs1 hlt1
  unfold Aen at hm
  refine Sk ?_
  refine Sq (Bk ?_)
  refine Sq (RD hnt (nn 6 []) [9] [(17,pB ((p0.getD k1 0) == p1))] [] [] (an (nn0 k1) (an (ltc hlt1) tv)) ?_)
  refine Aq hm ?_ ?_
  ·intro h8 hm
   refine Sq (RK hnt (.no :: []) [(4,pB true)] [] tv ?_)
   obtain rfl := sj hm
   exact DW.ret (Am [] [] (pB true))
  ·intro h8 hm
   refine Sk ?_
   refine DW.done ?_
   show DW _ _ _ _ _
   refine RD hnt (nn 3 []) [17] [(5,pI (w64 (((k1 : Nat) : Int) + 1)))] [] [] tv ?_
   exact jD () ⟨hlt1,hm⟩ (Conv.tp [(5,pI (w64 (((k1 : Nat) : Int) + 1)))] [] (by kernel_rfl) (.cons rfl (.of_eq (congrArg pI (Cw hlt1 hc1))) .nil) .nil)
 ·intro h7
  have hge1 : ¬ k1 < p0.length := by have := of_decide_eq_false h7; omega
  have hm := he1 hge1
  unfold AdX at hm
  refine DW.exit ?_
  refine As ?_
  refine Bb ?_
  refine An ?_
  show DW _ _ _ _ _
  refine Sq (RK hnt (.no :: []) [(4,pB false)] [] tv ?_)
  obtain rfl := sj hm
  exact DW.ret (Am [] [] (pB false))
abbrev o114 (ks : List Nat) (b : Bool) (RES : Bool) (sm : List Nat := []) : Orc := .call 18 ks b (pB RES) [] [] sm

theorem Aeq (p0 : Aj) (p1 : Int) (RES : Bool) (hm : Aan p0 p1 = some RES) : Spec Tryz.prog 202 [.p (.agg (Bu p0)),rr 0] [.box [pI p1]] (pB RES) [.box [pI p1]] [] := by
 unfold Aan at hm
 refine SO Tryz.func202 rfl rfl [(0,.p (.agg (Bu p0))),(1,rr 0)] [(0,bx [pI p1])] ?_
 intro cx hnt
 refine Sq (RD hnt (nn 2 []) [0] [(2,rr 1016)] [] [(1016,bx (pm (Bu p0)))] tv ?_)
 refine Sq (RK hnt (nn 5 []) [(3,pB (p0.id == p1))] [(0,bx [pI p1])] tv ?_)
 obtain rfl := sj hm
 exact DW.ret (Am [.box [pI p1]] [] (pB (p0.id == p1)))

theorem Qe (p0 : List Aj) (p1c0 : Int) (RES : Int) (hm : Ge p0 p1c0 = some RES) : Spec Tryz.prog 201 [.p (De p0),.fn 202 [rr 0]] [.box [pI p1c0]] (pI RES) [.box [pI p1c0]] [] := by
 unfold Ge at hm
 refine SO Tryz.func201 rfl rfl [(0,.p (De p0)),(1,.fn 202 [rr 0])] [(0,bx [pI p1c0])] ?_
 intro cx hnt
 refine Sq (RD hnt (.no :: []) [] [] [] [] tv ?_)
 refine Sq (Sq (RD hnt (nn 3 []) [] [(7,pI ((p0.length : Nat) : Int)),(8,pI 0)] [] [] tv ?_))
 refine Bk ?_
 obtain ⟨hc1,hm⟩ := go1 hm
 refine DW.rangeO (fun (k1 : Nat) (s1 : Unit) => Af [(0,.p (De p0)),(1,.fn 202 [rr 0]),(7,pI ((p0.length : Nat) : Int)),(8,pI ((k1 : Nat) : Int))] [(0,bx [pI p1c0])]) Da hm Conv.eqK ?_
 intro k1 s1 n1 hk1 hs1 he1
 refine Sq (RD hnt (.no :: []) [] [(9,pB (decide (((k1 : Nat) : Int) < ((p0.length : Nat) : Int))))] [] [] tv ?_)
 refine Sq (Eg (decide (((k1 : Nat) : Int) < ((p0.length : Nat) : Int))) ?_ ?_)
 ·intro h9
  have hlt1 : k1 < p0.length := by have := of_decide_eq_true h9; omega
  have hm := hs1 hlt1
  unfold Ko at hm
  refine Sk ?_
  refine Sq (Bk ?_)
  refine Sq (RD hnt (nn 2 []) [9] [(5,pI ((k1 : Nat) : Int))] [] [] tv ?_)
  obtain ⟨r10,hr10,hm⟩ := bo hm
  refine Sq (RD hnt (nn 5 (.call 202 [0] true (pB r10) [.box [pI p1c0]] [] [] :: [])) [] [(16,pB r10)] [] [] (an (nn0 k1) (an (ltc hlt1) (an (Aeq (p0.getD k1 (default : Aj)) p1c0 r10 hr10) (an tv tv)))) ?_)
  refine Aq hm ?_ ?_
  ·intro h11 hm
   refine Sq (RK hnt (nn 2 []) [(4,pI ((k1 : Nat) : Int))] [(0,bx [pI p1c0])] tv ?_)
   obtain rfl := sj hm
   exact DW.ret (Am [.box [pI p1c0]] [] (pI ((k1 : Nat) : Int)))
  ·intro h11 hm
   refine Sk ?_
   refine DW.done ?_
   show DW _ _ _ _ _
   refine RD hnt (nn 2 []) [5,16] [(8,pI (w64 (((k1 : Nat) : Int) + 1)))] [] [] tv ?_
   exact jD () ⟨hlt1,hm⟩ (Conv.tp [(8,pI (w64 (((k1 : Nat) : Int) + 1)))] [] (by kernel_rfl) (.cons rfl (.of_eq (congrArg pI (Cw hlt1 hc1))) .nil) .nil)
 ·intro h9
  have hge1 : ¬ k1 < p0.length := by have := of_decide_eq_false h9; omega
  have hm := he1 hge1
  unfold Kn at hm
  refine DW.exit ?_
  refine As ?_
  refine Bb ?_
  refine An ?_
  show DW _ _ _ _ _
  refine Sq (RK hnt (.no :: []) [(4,pI (-1))] [(0,bx [pI p1c0])] tv ?_)
  obtain rfl := sj hm
  exact DW.ret (Am [.box [pI p1c0]] [] (pI (-1)))

theorem AfD (p0 : Ae) (p1 : Int) (RES : Int) (hm : Wd p0 p1 = some RES) : Spec Tryz.prog 178 [.p (.agg (Ag p0)),pI p1] [] (pI RES) [] [] := by
 unfold Wd at hm
 refine SO Tryz.func178 rfl rfl [(0,.p (.agg (Ag p0))),(1,pI p1)] [] ?_
 intro cx hnt
 refine Sq (RK hnt (nn 3 []) [(2,rr 1016),(3,rr 1024)] [(1016,bx (pm (Ag p0))),(1024,bx [pI p1])] tv ?_)
 obtain ⟨r1,hr1,hm⟩ := bo hm
 refine Sq (RK hnt (nn 3 (.call 201 [1024] true (pI r1) [.box [pI p1]] [] [] :: .no :: [])) [(4,pI r1)] [] (an (Qe p0.nodes p1 r1 hr1) (an tv tv)) ?_)
 obtain rfl := sj hm
 exact DW.ret (Am [] [] (pI r1))
abbrev o118 (ks : List Nat) (b : Bool) (RES : Int) (sm : List Nat := []) : Orc := .call 178 ks b (pI RES) [] [] sm

theorem Aev (p0 : Ae) (p1 : Int) (RES : Aj × Bool) (hm : Rz p0 p1 = some RES) : Spec Tryz.prog 141 [.p (.agg (Ag p0)),pI p1] [] (.p (.tup [.agg (Bu RES.1),vb RES.2])) [] [] := by
 unfold Rz at hm
 refine SO Tryz.func141 rfl rfl [(0,.p (.agg (Ag p0))),(1,pI p1)] [] ?_
 intro cx hnt
 refine Sq (RK hnt (nn 3 []) [(1,pI p1),(2,rr 1016),(4,rr 1032)] [(1016,bx (pm (Ag p0))),(1032,bx [pI 0,pI 0,pS ByteArray.empty,pI 0,pI 0,pI 0])] tv ?_)
 obtain ⟨r1,hr1,hm⟩ := bo hm
 refine Sq (RD hnt (nn 2 (o118 [] true r1 :: .no :: [])) [1] [(6,pI r1)] [] [] (an (AfD p0 p1 r1 hr1) tv) ?_)
 refine Sq (Sq (RD hnt (nn 2 []) [] [(11,pB (decide (r1 < 0)))] [] [] tv ?_))
 refine Aq hm ?_ ?_
 ·intro h2 hm
  refine Sq (RD hnt (nn 3 []) [2,6,11] [(5,pB false)] [1016] [] tv ?_)
  obtain rfl := sj hm
  exact DW.ret (Am [] [] (.p (.tup [.agg [vi 0,vi 0,vs ByteArray.empty,vi 0,vi 0,vi 0],vb false])))
 ·intro h2 hm
  refine Sk ?_
  obtain ⟨g3,hm⟩ := go1 hm
  refine Sq (RK hnt (nn 7 []) [(4,rr 1032),(5,pB true)] [(1032,bx (pm (Bu (p0.nodes.getD (Int.toNat r1) Da))))] (an g3.1 (an g3.2 tv)) ?_)
  obtain rfl := sj hm
  exact DW.ret (Am [] [] (.p (.tup [.agg (Bu (p0.nodes.getD (Int.toNat r1) Da)),vb true])))
abbrev o117 (ks : List Nat) (b : Bool) (RES : Aj × Bool) (sm : List Nat := []) : Orc := .call 141 ks b (.p (.tup [.agg (Bu RES.1),vb RES.2])) [] [] sm

theorem AaR (p0 : Ae) (p1 : Int) (RES : List Int) (hm : Lw p0 p1 = some RES) : Spec Tryz.prog 89 [.p (.agg (Ag p0)),pI p1] [] (ow 0 RES.length) [] [roI RES] := by
 unfold Lw at hm
 refine SO Tryz.func89 rfl rfl [(0,.p (.agg (Ag p0))),(1,pI p1)] [] ?_
 intro cx hnt
 refine Sq (RK hnt (nn 2 []) [(1,pI p1),(2,rr 1016)] [(1016,bx (pm (Ag p0)))] tv ?_)
 refine Sq (RD hnt (.no :: []) [] [(5,.p (.sl .nil 0 0 (fun _ => [])))] [] [] tv ?_)
 refine Sq (Sq (RD hnt (nn 4 []) [] [(10,pI ((p0.nodes.length : Nat) : Int)),(11,pI 0)] [] [] tv ?_))
 refine Jn (ι := List Int) (fun (y1 : List Int) => Af [(5,ow 1192 y1.length)] [(1192,ob0 (roI y1))]) (fun y1 => Kl y1 = some RES) ?_ ?_
 ·intro y1 hm
  unfold Kl at hm
  refine Sq (RD hnt (nn 2 []) [5] [(4,ow 1192 y1.length)] [] [] tv ?_)
  obtain rfl := sj hm
  exact DW.ret (Am [roI y1] [1192] (ow 0 y1.length))
 ·refine Bk ?_
  obtain ⟨hc1,hm⟩ := go1 hm
  refine DW.rangeO (fun (k1 : Nat) (s1 : (List Int) × Int) => Af [(1,pI s1.2),(2,rr 1016),(5,ow 1192 s1.1.length),(10,pI ((p0.nodes.length : Nat) : Int)),(11,pI ((k1 : Nat) : Int))] [(1016,bx (pm (Ag p0))),(1192,ob0 (roI s1.1))]) Da hm (Conv.ads [(.s 5,1192,1,elems Bi 0 [])]) ?_
  intro k1 s1 n1 hk1 hs1 he1
  refine Sq (RD hnt (.no :: []) [] [(12,pB (decide (((k1 : Nat) : Int) < ((p0.nodes.length : Nat) : Int))))] [] [] tv ?_)
  refine Sq (Eg (decide (((k1 : Nat) : Int) < ((p0.nodes.length : Nat) : Int))) ?_ ?_)
  ·intro h8
   have hlt1 : k1 < p0.nodes.length := by have := of_decide_eq_true h8; omega
   have hm := hs1 hlt1
   unfold Qf at hm
   refine Sk ?_
   refine Sq (Bk ?_)
   obtain ⟨r9,hr9,hm⟩ := bo hm
   refine Sq (RD hnt (nn 2 (o117 [] true r9 :: nn 6 [])) [12] [(6,rr 1048),(7,pB r9.2)] [] [(1048,bx (pm (Bu r9.1)))] (an (Aev p0 s1.2 r9 hr9) tv) ?_)
   refine Sq (Sq (RD hnt (nn 2 []) [7] [(20,pB (!r9.2))] [] [] tv ?_))
   refine Aq hm ?_ ?_
   ·intro h10 hm
    refine DW.exit ?_
    refine Nt (by decide) ?_
    refine Bb ?_
    refine As ?_
    refine Bb ?_
    exact An (joinKQ s1.1 hm Conv.t0)
   ·intro h10 hm
    refine Sk ?_
    obtain ⟨g11,hm⟩ := go1 hm
    refine Sq (RN hnt (nn 5 []) [(2,rr 1016),(5,ow 1192 (s1.1 ++ [s1.2]).length),(6,rr 1048),(10,pI ((p0.nodes.length : Nat) : Int)),(11,pI ((k1 : Nat) : Int))] [(1016,bx (pm (Ag p0))),(1048,bx (pm (Bu r9.1))),(1192,ob0 (roI (s1.1 ++ [s1.2])))] [(5,ow 1192 (s1.1.length + 1))] [(1192,.row 1 (s1.1.length + 1) (Ff s1.1.length (elI s1.1) (cut 1 [vi s1.2])))] (an (by omega : (s1.1.length + 1) * 8 ≤ 140737488355328) tv) (by kernel_rfl) (.cons rfl (MLe.ownLen (enc := Bi) (d := 0) (f := (Ff s1.1.length (elI s1.1) (cut 1 [vi s1.2]))) (RowIs.cat RowIs.elems (RowIs.lit (enc := Bi) (d := 0) (n := 1) (f := (cut 1 [vi s1.2])) [s1.2] rfl (fun | 0,_ => rfl | n + 1,h => absurd h (by omega))))) .nil) (.cons rfl (BLe.typed (RowIs.cat RowIs.elems (RowIs.lit (enc := Bi) (d := 0) (n := 1) (f := (cut 1 [vi s1.2])) [s1.2] rfl (fun | 0,_ => rfl | n + 1,h => absurd h (by omega))))) .nil) ?_)
    refine RD hnt (nn 3 []) [6] [(1,pI r9.1.parent)] [1048] [] tv ?_
    refine DW.done ?_
    show DW _ _ _ _ _
    refine RD hnt (nn 2 []) [] [(11,pI (w64 (((k1 : Nat) : Int) + 1)))] [] [] tv ?_
    exact jD ((s1.1 ++ [s1.2]),r9.1.parent) ⟨hlt1,hm⟩ (Conv.tp [(11,pI (w64 (((k1 : Nat) : Int) + 1)))] [] (by kernel_rfl) (.cons rfl (.of_eq (congrArg pI (Cw hlt1 hc1))) .nil) .nil)
  ·intro h8
   have hge1 : ¬ k1 < p0.nodes.length := by have := of_decide_eq_false h8; omega
   have hm := he1 hge1
   unfold Vr at hm
   refine DW.exit ?_
   refine As ?_
   refine Bb ?_
   exact An (joinKQ s1.1 hm Conv.t0)
abbrev o116 (ks : List Nat) (b : Bool) (RES : List Int) (sm : List Nat := []) : Orc := .call 89 ks b (ow 0 RES.length) [] [roI RES] sm

theorem Yr (p0 : List Int) (RES : List Int) (hm : Md p0 = some RES) : Spec Tryz.prog 90 [.p (slI p0)] [] (.fn 142 [rr 0]) [] [.box [.p (slI RES)]] := by
 unfold Md at hm
 refine SO Tryz.func90 rfl rfl [(0,.p (slI p0))] [] ?_
 intro cx hnt
 refine Sq (RK hnt (nn 2 []) [(1,rr 1008)] [(1008,bx [.p (slI p0)])] tv ?_)
 refine Sq (RD hnt (nn 2 []) [1] [(2,.fn 142 [rr 1008])] [] [] tv ?_)
 obtain rfl := sj hm
 exact DW.ret (Am [.box [.p (slI p0)]] [1008] (.fn 142 [rr 0]))
abbrev o121 (ks : List Nat) (b : Bool) (RES : List Int) (sm : List Nat := []) : Orc := .call 90 ks b (.fn 142 [rr 0]) [] [.box [.p (slI RES)]] sm

theorem AcL (p0 : List Ac) (p1 : List Int) (p2 : Int) (RES : (List Ac) × (List Int)) (hm : Pa p0 p1 p2 = some RES) : ∀ c : Code,((Tryz.f34).body.bind (subC [1,1,1,1,1,0,1,0,0])) = some c → BSpec Tryz.prog 41 c [.any,.any,.any,.any,.any,rr 0,.any,.any,.any,.any,rr 1,.any,pI p2,.any,.any,.any,.any,.any,.any,.any,.any,.any,.any,.any,.any,.any,.any,.any,.any,.any,.any,.any,.any,.any,.any,.any,.any,.any,.any,.any,.any] [.box [.p (At p0)],.box [.p (slI p1)]] [.box [.p (At RES.1)],.box [.p (slI RES.2)]] := by
 unfold Pa at hm
 refine SB rfl rfl [(5,rr 0),(10,rr 1),(12,pI p2)] [(0,bx [.p (At p0)]),(1,bx [.p (slI p1)])] ?_
 intro cx hnt
 refine Bk ?_
 obtain ⟨r1,hr1,hm⟩ := bo hm
 obtain ⟨r2,hr2,hm⟩ := bo hm
 refine RD hnt (nn 2 (o42 [] true r1 :: nn 2 (o91 [] false r2 :: .no :: []))) [5,10,12] [] [] [(1,bx [.p (slI r2)])] (an (Ta p0 p2 r1 hr1) (an (Wp r1.mems p1 r2 hr2) tv)) ?_
 refine DW.done ?_
 show DW _ _ _ _ _
 refine DW.done ?_
 obtain rfl := sj hm
 exact endB [.box [.p (At p0)],.box [.p (slI r2)]] [] (.p (.tup []))

abbrev Aej : Nat × MV := (8,.p (.sl .nil 0 0 (fun _ => [])))
theorem Zy (p0 : Ae) (p1 : List Ac) (p2 : List Int) (p3 : Int) (RES : List Int) (hm : Po p0 p1 p2 p3 = some RES) : Spec Tryz.prog 34 [.p (.agg (Ag p0)),.p (At p1),.p (slI p2),pI p3] [] (.p (slI RES)) [] [] := by
 unfold Po at hm
 refine SOR Tryz.func34 rfl rfl [(0,.p (.agg (Ag p0))),(1,.p (At p1)),(2,.p (slI p2)),(3,pI p3)] [] ?_
 intro cx hnt hrd
 refine Sq (RD hnt (nn 3 []) [0,1] [(4,rr 1032),(5,rr 1040)] [] [(1032,bx (pm (Ag p0))),(1040,bx [.p (At p1)])] tv ?_)
 obtain ⟨r1,hr1,hm⟩ := bo hm
 refine Sq (Sq (RD hnt (nn 3 (o24 [] true r1 :: .no :: [])) [] [(17,pB (!r1))] [] [] (an (Rw p0 p1 p2 8 r1 hr1) tv) ?_))
 refine Aq hm ?_ ?_
 ·intro h2 hm
  refine Sq (RK hnt (.no :: []) [(Aej)] [] tv ?_)
  refine DW.conv (τ := Af [(8,.p (slI []))] []) (Conv.tp [(Aej)] [] (by kernel_rfl) (.cons rfl MLe.nilL .nil) .nil) ?_
  obtain rfl := sj hm
  exact DW.ret (Am [] [] (.p (slI [])))
 ·intro h2 hm
  refine Sk ?_
  obtain ⟨r3,hr3,hm⟩ := bo hm
  refine Sq (RD hnt (nn 2 (o116 [] true r3 :: .no :: [])) [3,4,17] [(9,ow 1160 r3.length)] [1032] [(1160,ob0 (roI r3))] (an (AaR p0 p3 r3 hr3) tv) ?_)
  refine Sq (Sq (RD hnt (nn 3 []) [] [(23,pB (((r3.length : Nat) : Int) == 0))] [] [] tv ?_))
  refine Aq hm ?_ ?_
  ·intro h4 hm
   refine Sq (RK hnt (.no :: []) [(Aej)] [] tv ?_)
   refine DW.conv (τ := Af [(8,.p (slI []))] []) (Conv.tp [(Aej)] [] (by kernel_rfl) (.cons rfl MLe.nilL .nil) .nil) ?_
   obtain rfl := sj hm
   exact DW.ret (Am [] [] (.p (slI [])))
  ·intro h4 hm
   refine Sk ?_
   obtain ⟨r5,hr5,hm⟩ := bo hm
   refine Sq (RD hnt (.no :: o39 [] true r5 :: nn 2 []) [2,23] [(10,rr 1080)] [] [(1080,bx [ow 1200 r5.length]),(1200,ob0 (roI r5))] (an (Gl p2 r5 hr5) tv) ?_)
   refine Sq (Sq (DW.cv [] [(9,.p (slI r3))] [1160] [] (Conv.frz [1160]) ?_))
   obtain ⟨g8,hm⟩ := go1 hm
   obtain ⟨r9,hr9,hm⟩ := bo hm
   refine RD hnt (nn 5 (o121 [] true r9 :: [])) [9] [(31,.fn 142 [rr 1248])] [] [(1248,bx [.p (slI r9)])] (an (by omega : (0 : Int) ≤ 0) (an (by omega : (0 : Int) ≤ (w64 (((r3.length : Nat) : Int) - 1))) (an (by omega : (w64 (((r3.length : Nat) : Int) - 1)) ≤ ((r3.length : Nat) : Int)) (an (Spec.args (xs := [.p (.sl .unk 1 (Int.toNat (w64 (((r3.length : Nat) : Int) - 1))) (elI r3))]) (Yr (r3.take (Int.toNat (w64 (((r3.length : Nat) : Int) - 1)))) r9 hr9) (.cons (.p (PLe.typed (RowIs.elems.take (by omega)))) .nil)) tv)))) ?_
   refine Bk ?_
   refine DW.cv [] [] [1200] [(1080,bx [.p (slI r5)])] (Conv.frz [1200]) ?_
   obtain ⟨g11,hm⟩ := go1 hm
   obtain ⟨r10,hr10,hm⟩ := bo hm
   refine DW.rangeB (nt := 41) (kb := 1248) hrd hnt TryzBack g11 [(5,rr 1040),(10,rr 1080),(31,.fn 142 [rr 1248])] (fun s => [(1040,bx [.p (At s.1)]),(1080,bx [.p (slI s.2)]),(1248,bx [.p (slI r9)])]) hr10 [1040,1080] [5,10] (fun _ => rfl) (fun x s s2 _ hs2 => ⟨[.any,.any,.any,.any,.any,(.ref 0 0 0),.any,.any,.any,.any,(.ref 1 0 0),.any,.p (vi x),.any,.any,.any,.any,.any,.any,.any,.any,.any,.any,.any,.any,.any,.any,.any,.any,.any,.any,.any,.any,.any,.any,.any,.any,.any,.any,.any,.any],[.box [.p (At s.1)],.box [.p (slI s.2)]],[.box [.p (At s2.1)],.box [.p (slI s2.2)]],[Body.same (.box [.p (At s.1)]) (.box [.p (At s2.1)]),Body.same (.box [.p (slI s.2)]) (.box [.p (slI s2.2)])],by kernel_rfl,⟨tv,tv,tv⟩,AcL s.1 s.2 x s2 hs2 _ rfl⟩) ?_
   refine DW.done ?_
   show DW _ _ _ _ _
   refine Sq (RK hnt (nn 2 []) [(8,.p (slI r10.2))] [] tv ?_)
   obtain rfl := sj hm
   exact DW.ret (Am [] [] (.p (slI r10.2)))
abbrev o115 (ks : List Nat) (b : Bool) (RES : List Int) (sm : List Nat := []) : Orc := .call 34 ks b (.p (slI RES)) [] [] sm

abbrev c1e1 (r5 : Ae × Ak) (r8 : Int × Ak) := (r5.1.nodes.getD (Int.toNat r8.1) Da)
abbrev c1e2 (r5 : Ae × Ak) (k1 : Nat) := (r5.1.nodes.getD k1 (default : Aj))
abbrev c1e3 (r5 : Ae × Ak) (r8 : Int × Ak) : Nat × Obj := (1056,bx (pm (Bu (c1e1 r5 r8))))
abbrev c1e4 (r5 : Ae × Ak) : Nat × Obj := (1032,bx (pm (Ag r5.1)))
abbrev c1e5 (r5 : Ae × Ak) : Nat × MV := (60,pI ((r5.1.nodes.length : Nat) : Int))
theorem Aau (p0 : List Int) (RES : Bool) (hm : Kv p0 = some RES) : Spec Tryz.prog 5 [.p (slI p0)] [] (pB RES) [] [] := by
 unfold Kv at hm
 refine SO Tryz.func5 rfl rfl [(0,.p (slI p0))] [] ?_
 intro cx hnt
 refine Sq (RK hnt (.no :: []) [(0,.p (slI p0))] [] tv ?_)
 obtain ⟨r1,hr1,hm⟩ := bo hm
 refine Sq (Sq (RD hnt (.no :: o2 [] true r1 :: .no :: []) [] [(15,pB (!r1))] [] [] (an (Aew p0 r1 hr1) tv) ?_))
 refine Aq hm ?_ ?_
 ·intro h2 hm
  obtain ⟨r3,hr3,hm⟩ := bo hm
  refine Sq (RK hnt (o3 [] true r3 :: .no :: []) [(2,pB r3)] [] (an (AaB r3 hr3) tv) ?_)
  obtain rfl := sj hm
  exact DW.ret (Am [] [] (pB r3))
 ·intro h2 hm
  refine Sk ?_
  obtain ⟨r4,hr4,hm⟩ := bo hm
  refine Sq (RK hnt (.no :: o95 [] true r4 :: .no :: []) [(3,rr 1144)] [(1144,bx (pm (Ar r4)))] (an (AfK p0 r4 hr4) tv) ?_)
  obtain ⟨r5,hr5,hm⟩ := bo hm
  refine Sq (RK hnt (.no :: o96 [1144] true r5 :: nn 2 []) [(3,rr 1144),(4,rr 1032)] [(c1e4 r5),(1144,bx (pm (Ar r5.2)))] (an (Acd r4 8 r5 hr5) (an tv tv)) ?_)
  obtain ⟨r6,hr6,hm⟩ := bo hm
  refine Sq (RD hnt (nn 2 (o102 [1144] true r6 :: .no :: [])) [] [(5,ow 1184 r6.1.length)] [] [(1144,bx (pm (Ar r6.2))),(1184,ob0 (Bz r6.1))] (an (AaE r5.2 r5.1 r6 hr6) (an tv tv)) ?_)
  obtain ⟨r7,hr7,hm⟩ := bo hm
  refine Sq (RD hnt (.no :: o106 [1144] true r7 :: .no :: []) [] [(6,ow 1200 r7.1.length)] [] [(1144,bx (pm (Ar r7.2))),(1200,ob0 (roI r7.1))] (an (AaS r6.2 6 r7 hr7) (an tv tv)) ?_)
  obtain ⟨r8,hr8,hm⟩ := bo hm
  obtain ⟨g9,hm⟩ := go1 hm
  refine Sq (RD hnt (nn 6 (o97 [1144] true r8 :: nn 4 [])) [] [(7,rr 1056)] [] [(c1e3 r5 r8),(1144,bx (pm (Ar r8.2)))] (an (Cs r7.2 ((r5.1.nodes.length : Nat) : Int) r8 hr8) (an tv (an g9.1 (an g9.2 tv)))) ?_)
  refine Sq (DW.cv [] [(5,.p (At r6.1))] [1184] [] (Conv.frz [1184]) ?_)
  obtain ⟨r12,hr12,hm⟩ := bo hm
  obtain ⟨r13,hr13,hm⟩ := bo hm
  refine RD hnt (nn 5 (o103 [1144] true r12 :: o107 [] false r13 :: nn 5 [])) [3] [(8,ow 1336 r13.1.length),(9,pI r13.2)] [1144] [(1336,ob0 (Bz r13.1))] (an (Sb r8.2 r12 hr12) (an tv (an (AfM r5.1 r6.1 (c1e1 r5 r8).id r12.1 r13 hr13) tv))) ?_
  refine Sq (Sq (RD hnt (nn 2 []) [9] [(46,pB (r13.2 != 0))] [] [] tv ?_))
  refine Aq hm ?_ ?_
  ·intro h14 hm
   refine Sq (RK hnt (.no :: []) [(2,pB false)] [] tv ?_)
   obtain rfl := sj hm
   exact DW.ret (Am [] [] (pB false))
  ·intro h14 hm
   refine Sk ?_
   obtain ⟨r15,hr15,hm⟩ := bo hm
   refine Sq (RD hnt (nn 3 (o113 [] true r15 :: .no :: [])) [46] [(10,ow 1400 r15.length)] [] [(1400,ob0 (roI r15))] (an (Oz r5.1 (c1e1 r5 r8).id r15 hr15) tv) ?_)
   refine Sq (Sq (RD hnt (nn 3 []) [] [(53,pB ((c1e1 r5 r8).id != 1))] [] [] tv ?_))
   refine Jn (ι := List Int) (fun (y1 : List Int) => Af [(4,rr 1032),(5,.p (At r6.1)),(6,ow 1200 r7.1.length),(7,rr 1056),(8,ow 1336 r13.1.length),(10,.p (slI y1))] [(c1e4 r5),(c1e3 r5 r8),(1200,ob0 (roI r7.1)),(1336,ob0 (Bz r13.1))]) (fun y1 => (Ig r5 r6 r7 r8 r13) y1 = some RES) ?_ ?_
   ·intro y1 hm
    unfold Ig at hm
    refine Sq (Sq (RD hnt (nn 4 []) [] [(c1e5 r5),(61,pI 0)] [] [] tv ?_))
    refine Bk ?_
    obtain ⟨hc1,hm⟩ := go1 hm
    refine DW.rangeO (fun (k1 : Nat) (s1 : Unit) => Af [(4,rr 1032),(5,.p (At r6.1)),(6,.p (slI r7.1)),(7,rr 1056),(8,.p (At r13.1)),(10,.p (slI y1)),(c1e5 r5),(61,pI ((k1 : Nat) : Int))] [(c1e4 r5),(c1e3 r5 r8)]) Da hm (Conv.frz [1200,1336]) ?_
    intro k1 s1 n1 hk1 hs1 he1
    refine Sq (RD hnt (.no :: []) [] [(62,pB (decide (((k1 : Nat) : Int) < ((r5.1.nodes.length : Nat) : Int))))] [] [] tv ?_)
    refine Sq (Eg (decide (((k1 : Nat) : Int) < ((r5.1.nodes.length : Nat) : Int))) ?_ ?_)
    ·intro h57
     have hlt1 : k1 < r5.1.nodes.length := by have := of_decide_eq_true h57; omega
     have hm := hs1 hlt1
     unfold Ps at hm
     refine Sk ?_
     refine Sq (Bk ?_)
     refine Sq (RD hnt (nn 2 []) [62] [(11,pI ((k1 : Nat) : Int))] [] [] tv ?_)
     refine Sq (RD hnt (nn 7 []) [11] [(12,pI (c1e2 r5 k1).id)] [] [] (an (nn0 k1) (an (ltc hlt1) tv)) ?_)
     obtain ⟨r58,hr58,hm⟩ := bo hm
     refine Sq (Sq ?_)
     refine Jn (ι := Bool) (fun (y6 : Bool) => Af [(4,rr 1032),(5,.p (At r6.1)),(6,.p (slI r7.1)),(7,rr 1056),(8,.p (At r13.1)),(10,.p (slI y1)),(12,pI (c1e2 r5 k1).id),(c1e5 r5),(61,pI ((k1 : Nat) : Int)),(87,pB y6)] [(c1e4 r5),(c1e3 r5 r8)]) (fun y6 => (Ih r5 r6 r7 r8 r13 (c1e2 r5 k1) n1) y6 = some RES) ?_ ?_
     ·intro y6 hm
      unfold Ih at hm
      refine Aq hm ?_ ?_
      ·intro h63 hm
       refine Sq (RK hnt (.no :: []) [(2,pB false)] [] tv ?_)
       obtain rfl := sj hm
       exact DW.ret (Am [] [] (pB false))
      ·intro h63 hm
       refine Sk ?_
       obtain ⟨r64,hr64,hm⟩ := bo hm
       obtain ⟨r65,hr65,hm⟩ := bo hm
       refine Sq ?_
       refine Jn (ι := Bool) (fun (y7 : Bool) => Af [(4,rr 1032),(5,.p (At r6.1)),(6,.p (slI r7.1)),(7,rr 1056),(8,.p (At r13.1)),(10,.p (slI y1)),(c1e5 r5),(61,pI ((k1 : Nat) : Int)),(108,pB y7)] [(c1e4 r5),(c1e3 r5 r8)]) (fun y7 => (Ie n1) y7 = some RES) ?_ ?_
       ·intro y7 hm
        unfold Ie at hm
        refine Aq hm ?_ ?_
        ·intro h70 hm
         refine Sq (RK hnt (.no :: []) [(2,pB false)] [] tv ?_)
         obtain rfl := sj hm
         exact DW.ret (Am [] [] (pB false))
        ·intro h70 hm
         refine Sk ?_
         refine DW.done ?_
         show DW _ _ _ _ _
         refine RD hnt (nn 2 []) [108] [(61,pI (w64 (((k1 : Nat) : Int) + 1)))] [] [] tv ?_
         exact jD () ⟨hlt1,hm⟩ (Conv.tp [(61,pI (w64 (((k1 : Nat) : Int) + 1)))] [] (by kernel_rfl) (.cons rfl (.of_eq (congrArg pI (Cw hlt1 hc1))) .nil) .nil)
       ·rcases bt (!r65) with h66 | h66
        ·replace hm := Ax h66 hm
         obtain ⟨r67,hr67,hm⟩ := bo hm
         obtain ⟨r68,hr68,hm⟩ := bo hm
         obtain ⟨r69,hr69,hm⟩ := bo hm
         refine RD hnt (nn 3 (o113 [] true r64 :: .no :: o114 [] true r65 :: nn 6 (o115 [] true r67 :: nn 4 (o115 [] true r68 :: o92 [] true r69 :: .no :: pT :: [])))) [12,87] [(108,pB (!r69))] [] [] (an (Oz r5.1 (c1e1 r5 r8).id r64 hr64) (an (Tu r64 (c1e2 r5 k1).id r65 hr65) (an5 h66 (an (Zy r5.1 r6.1 r7.1 (c1e2 r5 k1).id r67 hr67) (an5 h66 (an (Zy r5.1 r13.1 r7.1 (c1e2 r5 k1).id r68 hr68) (an h66 (an (Gr r67 r68 r69 hr69) (an2 h66 tv))))))))) ?_
         exact jD (!r69) hm Conv.eqK
        ·replace hm := Ay h66 hm
         refine RD hnt (nn 3 (o113 [] true r64 :: .no :: o114 [] true r65 :: nn 2 (sk 12 (pF :: [])))) [12,87] [(108,pB false)] [] [] (an (Oz r5.1 (c1e1 r5 r8).id r64 hr64) (an (Tu r64 (c1e2 r5 k1).id r65 hr65) (an h66 (an6 h66 (an6 h66 tv))))) ?_
         exact jD false hm Conv.eqK
     ·rcases bt (!r58) with h59 | h59
      ·replace hm := Ax h59 hm
       obtain ⟨r60,hr60,hm⟩ := bo hm
       obtain ⟨r61,hr61,hm⟩ := bo hm
       obtain ⟨r62,hr62,hm⟩ := bo hm
       refine RD hnt (nn 2 (o114 [] true r58 :: nn 6 (o23 [] true r60 :: nn 4 (o23 [] true r61 :: o92 [] true r62 :: .no :: pT :: [])))) [] [(87,pB (!r62))] [] [] (an (Tu y1 (c1e2 r5 k1).id r58 hr58) (an5 h59 (an (Ft r5.1 r6.1 r7.1 (c1e2 r5 k1).id r60 hr60) (an5 h59 (an (Ft r5.1 r13.1 r7.1 (c1e2 r5 k1).id r61 hr61) (an h59 (an (Gr r60 r61 r62 hr62) (an2 h59 tv)))))))) ?_
       exact jD (!r62) hm Conv.eqK
      ·replace hm := Ay h59 hm
       refine RD hnt (nn 2 (o114 [] true r58 :: nn 2 (sk 12 (pF :: [])))) [] [(87,pB false)] [] [] (an (Tu y1 (c1e2 r5 k1).id r58 hr58) (an h59 (an6 h59 (an6 h59 tv)))) ?_
       exact jD false hm Conv.eqK
    ·intro h57
     have hge1 : ¬ k1 < r5.1.nodes.length := by have := of_decide_eq_false h57; omega
     have hm := he1 hge1
     unfold Us at hm
     refine DW.exit ?_
     refine As ?_
     refine Bb ?_
     refine An ?_
     show DW _ _ _ _ _
     obtain ⟨r71,hr71,hm⟩ := bo hm
     refine Sq (RK hnt (o3 [] true r71 :: .no :: []) [(2,pB r71)] [] (an (AaB r71 hr71) tv) ?_)
     obtain rfl := sj hm
     exact DW.ret (Am [] [] (pB r71))
   ·refine Aq hm ?_ ?_
    ·intro h16 hm
     obtain ⟨r17,hr17,hm⟩ := bo hm
     refine RK hnt (nn 3 (o113 [] true r17 :: .no :: [])) [(4,rr 1032),(5,.p (At r6.1)),(6,ow 1200 r7.1.length),(7,rr 1056),(8,ow 1336 r13.1.length),(10,ow 1456 r17.length)] [(c1e4 r5),(c1e3 r5 r8),(1200,ob0 (roI r7.1)),(1336,ob0 (Bz r13.1)),(1456,ob0 (roI r17))] (an (Oz r5.1 (c1e1 r5 r8).parent r17 hr17) tv) ?_
     exact jD r17 hm (Conv.frz [1456])
    ·intro h16 hm
     refine Sk ?_
     exact jD r15 hm (Conv.trans (τ := Af [(4,rr 1032),(5,.p (At r6.1)),(6,ow 1200 r7.1.length),(7,rr 1056),(8,ow 1336 r13.1.length),(10,.p (slI r15)),(53,pB ((c1e1 r5 r8).id != 1))] [(c1e4 r5),(c1e3 r5 r8),(1200,ob0 (roI r7.1)),(1336,ob0 (Bz r13.1))]) (Conv.frz [1400]) Conv.t0)
abbrev o1 (ks : List Nat) (b : Bool) (RES : Bool) (sm : List Nat := []) : Orc := .call 5 ks b (pB RES) [] [] sm
end Go.Dm

