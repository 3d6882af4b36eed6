/- Texts of the proof of CpusetAll: the data machine, the models of the Go functions, their contracts. -/
import Derived.Test.YtkmmocjhkaagpaaGreatCpusetAllA4
set_option linter.unusedVariables false
set_option linter.unusedSimpArgs false
/- Go functions compute their models, printed by a program. -/
namespace Go.Dm
open Go.Proofs
set_option linter.unusedVariables false
abbrev c74e1 (p0:List Int) (p1:Int) (p3:Int):=(Bs (Bs (elI p0) (Int.toNat p1) [vi (p0.getD (Int.toNat p3) 0)]) (Int.toNat p3) (setRange ((Bs (elI p0) (Int.toNat p1) [vi (p0.getD (Int.toNat p3) 0)]) (Int.toNat p3)) 0 [vi (p0.getD (Int.toNat p1) 0)]))
abbrev c74e2 (s1:(List Int)×Int×Int) (s5:Int) (s7:Int):=(Bs (Bs (elI s1.1) (Int.toNat s5) [vi (s1.1.getD (Int.toNat s7) 0)]) (Int.toNat s7) (setRange ((Bs (elI s1.1) (Int.toNat s5) [vi (s1.1.getD (Int.toNat s7) 0)]) (Int.toNat s7)) 0 [vi (s1.1.getD (Int.toNat s5) 0)]))
abbrev c74e3 (s1:(List Int)×Int×Int) (s5:Int) (s7:Int):=((s1.1.set (Int.toNat s5) (s1.1.getD (Int.toNat s7) 0)).set (Int.toNat s7) (s1.1.getD (Int.toNat s5) 0))
theorem Sn (p0:List Int) (p1:Int) (p2:Int) (p3:Int) (RES:Int×(List Int)) (hm:Fg p0 p1 p2 p3=some RES):Spec Tryz.prog 90 [ow 0 p0.length,pI p1,pI p2,pI p3] [roI p0] (pI RES.1) [roI RES.2] []:=by
 unfold Fg at hm
 refine SO Tryz.func90 rfl rfl [(0,ow 0 p0.length),(1,pI p1),(2,pI p2),(3,pI p3)] [(0,ob0 (roI p0))] ?_
 intro cx hnt
 refine Sq (RD hnt (.no :: []) [] [] [] [] tv ?_)
 obtain ⟨g1,g2,g3,g4,hm⟩:=go4 hm
 obtain ⟨g5,g6,g7,g8,hm⟩:=go4 hm
 refine Sq (RN hnt (nn 16 []) [(0,ow 0 ((p0.set (Int.toNat p1) (p0.getD (Int.toNat p3) 0)).set (Int.toNat p3) (p0.getD (Int.toNat p1) 0)).length),(1,pI p1),(2,pI p2)] [(0,ob0 (roI ((p0.set (Int.toNat p1) (p0.getD (Int.toNat p3) 0)).set (Int.toNat p3) (p0.getD (Int.toNat p1) 0))))] [(0,ow 0 p0.length)] [(0,.row 1 p0.length (c74e1 p0 p1 p3))] (an g1.1 (an g1.2 (an g2 (an g3.1 (an g3.2 (an g4 (an g5.1 (an g5.2 (an g6 (an g7.1 (an g7.2 (an g8 tv)))))))))))) (by kernel_rfl) (.cons rfl (MLe.ownLen (enc:=Au) (d:=0) (f:=(c74e1 p0 p1 p3)) (RowIs.updR (RowIs.upd RowIs.elems (p0.getD (Int.toNat p3) 0) rfl) (by omega) (p0.getD (Int.toNat p1) 0) rfl)) .nil) (.cons rfl (BLe.typed (RowIs.updR (RowIs.upd RowIs.elems (p0.getD (Int.toNat p3) 0) rfl) (by omega) (p0.getD (Int.toNat p1) 0) rfl)) .nil) ?_)
 refine Sq (RD hnt (nn 6 []) [2] [(9,pI (w64 (p1+1))),(10,pI (w64 (p2-1)))] [] [] tv ?_)
 refine Sq (Bk ?_)
 refine DW.whileO (fun (s1:(List Int)×Int×Int)=>Af [(0,ow 0 s1.1.length),(1,pI p1),(9,pI s1.2.2),(10,pI s1.2.1)] [(0,ob0 (roI s1.1))]) hm Conv.eqK ?_
 intro s1 n1 hm
 unfold Ir at hm
 refine Bk ?_
 refine Sq (Bk ?_)
 refine DW.whileO (fun (s5:Int)=>Af [(0,ow 0 s1.1.length),(1,pI p1),(9,pI s5),(10,pI s1.2.1)] [(0,ob0 (roI s1.1))]) hm .refl ?_
 intro s5 n5 hm
 unfold Is at hm
 refine Sq (Sq ?_)
 refine Jn (ι:=Bool) (fun (y10:Bool)=>Af [(0,ow 0 s1.1.length),(1,pI p1),(9,pI s5),(10,pI s1.2.1),(43,pB y10)] [(0,ob0 (roI s1.1))]) (fun y10=>(Eo p1 s1 n1 s5 n5) y10=some RES) ?_ ?_
 ·intro y10 hm
  unfold Eo at hm
  refine Ar hm ?_ ?_
  ·intro h156 hm
   refine Sk ?_
   refine Bk ?_
   refine RD hnt (nn 3 []) [43] [(9,pI (w64 (s5+1)))] [] [] tv ?_
   refine DW.done ?_
   show DW _ _ _ _ _
   exact jD (w64 (s5+1)) hm Conv.eqK
  ·intro h156 hm
   refine DW.exit ?_
   refine Ao ?_
   refine Ba ?_
   refine Ai ?_
   show DW _ _ _ _ _
   refine Sq (Bk ?_)
   refine DW.whileO (fun (s7:Int)=>Af [(0,ow 0 s1.1.length),(1,pI p1),(9,pI s5),(10,pI s7)] [(0,ob0 (roI s1.1))]) hm Conv.t0 ?_
   intro s7 n7 hm
   unfold Gg at hm
   refine Sq (Sq ?_)
   refine Jn (ι:=Bool) (fun (y12:Bool)=>Af [(0,ow 0 s1.1.length),(1,pI p1),(9,pI s5),(10,pI s7),(59,pB y12)] [(0,ob0 (roI s1.1))]) (fun y12=>(En s1 n1 s5 s7 n7) y12=some RES) ?_ ?_
   ·intro y12 hm
    unfold En at hm
    refine Ar hm ?_ ?_
    ·intro h179 hm
     refine Sk ?_
     refine Bk ?_
     refine RD hnt (nn 3 []) [59] [(10,pI (w64 (s7-1)))] [] [] tv ?_
     refine DW.done ?_
     show DW _ _ _ _ _
     exact jD (w64 (s7-1)) hm Conv.eqK
    ·intro h179 hm
     refine DW.exit ?_
     refine Ao ?_
     refine Ba ?_
     refine Ai ?_
     show DW _ _ _ _ _
     refine Sq (Sq (RD hnt (nn 3 []) [59] [(64,pB (decide (s5>s7)))] [] [] tv ?_))
     refine Ar hm ?_ ?_
     ·intro h180 hm
      refine DW.exit ?_
      refine Pv (by decide) ?_
      refine Ba ?_
      refine Ao ?_
      refine Ba ?_
      refine Ai ?_
      show DW _ _ _ _ _
      refine Sq (RK hnt (nn 2 []) [(8,pI s5)] [(0,ob0 (roI s1.1))] tv ?_)
      obtain rfl:=sj hm
      exact DW.ret (An [roI s1.1] [] (pI s5))
     ·intro h180 hm
      refine Sk ?_
      obtain ⟨g181,g182,g183,g184,hm⟩:=go4 hm
      obtain ⟨g185,g186,g187,g188,hm⟩:=go4 hm
      refine Sq (RN hnt (nn 16 []) [(0,ow 0 (c74e3 s1 s5 s7).length),(1,pI p1),(9,pI s5),(10,pI s7)] [(0,ob0 (roI (c74e3 s1 s5 s7)))] [(0,ow 0 s1.1.length)] [(0,.row 1 s1.1.length (c74e2 s1 s5 s7))] (an g181.1 (an g181.2 (an g182 (an g183.1 (an g183.2 (an g184 (an g185.1 (an g185.2 (an g186 (an g187.1 (an g187.2 (an g188 tv)))))))))))) (by kernel_rfl) (.cons rfl (MLe.ownLen (enc:=Au) (d:=0) (f:=(c74e2 s1 s5 s7)) (RowIs.updR (RowIs.upd RowIs.elems (s1.1.getD (Int.toNat s7) 0) rfl) (by omega) (s1.1.getD (Int.toNat s5) 0) rfl)) .nil) (.cons rfl (BLe.typed (RowIs.updR (RowIs.upd RowIs.elems (s1.1.getD (Int.toNat s7) 0) rfl) (by omega) (s1.1.getD (Int.toNat s5) 0) rfl)) .nil) ?_)
      refine Sq (RD hnt (nn 3 []) [] [(9,pI (w64 (s5+1)))] [] [] tv ?_)
      refine RD hnt (nn 3 []) [] [(10,pI (w64 (s7-1)))] [] [] tv ?_
      refine DW.done ?_
      show DW _ _ _ _ _
      exact jD ((c74e3 s1 s5 s7),(w64 (s7-1)),(w64 (s5+1))) hm Conv.eqK
   ·rcases bt (decide (s5≤s7)) with h173|h173
    ·replace hm:=Az h173 hm
     obtain ⟨g174,g175,g176,g177,hm⟩:=go4 hm
     obtain ⟨r178,hr178,hm⟩:=bo hm
     refine RD hnt (nn 12 (o64 [] true r178::pT :: [])) [] [(59,pB r178)] [] [] (an3 h173 (an g174.1 (an g174.2 (an h173 (an g175 (an3 h173 (an g176.1 (an g176.2 (an h173 (an g177 (an h173 (an (Dv (s1.1.getD (Int.toNat p1) 0) (s1.1.getD (Int.toNat s7) 0) r178 hr178) (an h173 tv))))))))))))) ?_
     exact jD r178 hm Conv.eqK
    ·replace hm:=Ay h173 hm
     refine RD hnt (nn 4 (sk 9 (pF :: []))) [] [(59,pB false)] [] [] (an4 h173 (an6 h173 tv)) ?_
     exact jD false hm Conv.eqK
 ·rcases bt (decide (s5≤s1.2.1)) with h150|h150
  ·replace hm:=Az h150 hm
   obtain ⟨g151,g152,g153,g154,hm⟩:=go4 hm
   obtain ⟨r155,hr155,hm⟩:=bo hm
   refine RD hnt (nn 12 (o64 [] true r155 :: .no::pT :: [])) [] [(43,pB (!r155))] [] [] (an3 h150 (an g151.1 (an g151.2 (an h150 (an g152 (an3 h150 (an g153.1 (an g153.2 (an h150 (an g154 (an h150 (an (Dv (s1.1.getD (Int.toNat p1) 0) (s1.1.getD (Int.toNat s5) 0) r155 hr155) (an2 h150 tv))))))))))))) ?_
   exact jD (!r155) hm Conv.eqK
  ·replace hm:=Ay h150 hm
   refine RD hnt (nn 4 (sk 10 (pF :: []))) [] [(43,pB false)] [] [] (an5 h150 (an6 h150 tv)) ?_
   exact jD false hm Conv.eqK
abbrev o74 (ks:List Nat) (b:Bool) (RES:Int×(List Int)) (sm:List Nat := []):Orc := .call 90 ks b (pI RES.1) [roI RES.2] [] sm

abbrev Ea (p0:List Int) (p1:Int) (p3:Int):=((p0.set (Int.toNat p1) (p0.getD (Int.toNat p3) 0)).set (Int.toNat p3) (p0.getD (Int.toNat p1) 0))
abbrev c75e2 (p0:List Int) (p1:Int) (p3:Int) (s1:Int) (s17:Int):=(Bs (Bs (elI (Ea p0 p1 p3)) (Int.toNat s1) [vi ((Ea p0 p1 p3).getD (Int.toNat s17) 0)]) (Int.toNat s17) (setRange ((Bs (elI (Ea p0 p1 p3)) (Int.toNat s1) [vi ((Ea p0 p1 p3).getD (Int.toNat s17) 0)]) (Int.toNat s17)) 0 [vi ((Ea p0 p1 p3).getD (Int.toNat s1) 0)]))
abbrev c75e3 (p0:List Int) (p1:Int) (p3:Int):=(Bs (Bs (elI p0) (Int.toNat p1) [vi (p0.getD (Int.toNat p3) 0)]) (Int.toNat p3) (setRange ((Bs (elI p0) (Int.toNat p1) [vi (p0.getD (Int.toNat p3) 0)]) (Int.toNat p3)) 0 [vi (p0.getD (Int.toNat p1) 0)]))
abbrev c75e4 (s25:(List Int)×Int×Int) (s29:Int) (s31:Int):=(Bs (Bs (elI s25.1) (Int.toNat s29) [vi (s25.1.getD (Int.toNat s31) 0)]) (Int.toNat s31) (setRange ((Bs (elI s25.1) (Int.toNat s29) [vi (s25.1.getD (Int.toNat s31) 0)]) (Int.toNat s31)) 0 [vi (s25.1.getD (Int.toNat s29) 0)]))
abbrev c75e5 (s25:(List Int)×Int×Int) (s29:Int) (s31:Int):=((s25.1.set (Int.toNat s29) (s25.1.getD (Int.toNat s31) 0)).set (Int.toNat s31) (s25.1.getD (Int.toNat s29) 0))
theorem Vu (p0:List Int) (p1:Int) (p2:Int) (p3:Int) (RES:Int×Bool×(List Int)) (hm:Gt p0 p1 p2 p3=some RES):Spec Tryz.prog 91 [ow 0 p0.length,pI p1,pI p2,pI p3] [roI p0] (.p (.tup [vi RES.1,vb RES.2.1])) [roI RES.2.2] []:=by
 unfold Gt at hm
 refine SO Tryz.func91 rfl rfl [(0,ow 0 p0.length),(1,pI p1),(2,pI p2),(3,pI p3)] [(0,ob0 (roI p0))] ?_
 intro cx hnt
 refine Sq (RD hnt (nn 2 []) [] [] [] [] tv ?_)
 obtain ⟨g1,g2,g3,g4,hm⟩:=go4 hm
 obtain ⟨g5,g6,g7,g8,hm⟩:=go4 hm
 refine Sq (RN hnt (nn 16 []) [(0,ow 0 (Ea p0 p1 p3).length),(1,pI p1),(2,pI p2)] [(0,ob0 (roI (Ea p0 p1 p3)))] [(0,ow 0 p0.length)] [(0,.row 1 p0.length (c75e3 p0 p1 p3))] (an g1.1 (an g1.2 (an g2 (an g3.1 (an g3.2 (an g4 (an g5.1 (an g5.2 (an g6 (an g7.1 (an g7.2 (an g8 tv)))))))))))) (by kernel_rfl) (.cons rfl (MLe.ownLen (enc:=Au) (d:=0) (f:=(c75e3 p0 p1 p3)) (RowIs.updR (RowIs.upd RowIs.elems (p0.getD (Int.toNat p3) 0) rfl) (by omega) (p0.getD (Int.toNat p1) 0) rfl)) .nil) (.cons rfl (BLe.typed (RowIs.updR (RowIs.upd RowIs.elems (p0.getD (Int.toNat p3) 0) rfl) (by omega) (p0.getD (Int.toNat p1) 0) rfl)) .nil) ?_)
 refine Sq (RD hnt (nn 6 []) [2] [(10,pI (w64 (p1+1))),(11,pI (w64 (p2-1)))] [] [] tv ?_)
 refine Sq (Bk ?_)
 refine DW.whileO (fun (s1:Int)=>Af [(0,ow 0 (Ea p0 p1 p3).length),(1,pI p1),(10,pI s1),(11,pI (w64 (p2-1)))] [(0,ob0 (roI (Ea p0 p1 p3)))]) hm Conv.eqK ?_
 intro s1 n1 hm
 unfold Ki at hm
 refine Sq (Sq ?_)
 refine Jn (ι:=Bool) (fun (y28:Bool)=>Af [(0,ow 0 (Ea p0 p1 p3).length),(1,pI p1),(10,pI s1),(11,pI (w64 (p2-1))),(43,pB y28)] [(0,ob0 (roI (Ea p0 p1 p3)))]) (fun y28=>(Fz p0 p1 p2 p3 s1 n1) y28=some RES) ?_ ?_
 ·intro y28 hm
  unfold Fz at hm
  refine Ar hm ?_ ?_
  ·intro h588 hm
   refine Sk ?_
   refine Bk ?_
   refine RD hnt (nn 3 []) [43] [(10,pI (w64 (s1+1)))] [] [] tv ?_
   refine DW.done ?_
   show DW _ _ _ _ _
   exact jD (w64 (s1+1)) hm Conv.eqK
  ·intro h588 hm
   refine DW.exit ?_
   refine Ao ?_
   refine Ba ?_
   refine Ai ?_
   show DW _ _ _ _ _
   refine Sq (Bk ?_)
   refine DW.whileO (fun (s17:Int)=>Af [(0,ow 0 (Ea p0 p1 p3).length),(1,pI p1),(10,pI s1),(11,pI s17)] [(0,ob0 (roI (Ea p0 p1 p3)))]) hm Conv.t0 ?_
   intro s17 n17 hm
   unfold Hk at hm
   refine Sq (Sq ?_)
   refine Jn (ι:=Bool) (fun (y42:Bool)=>Af [(0,ow 0 (Ea p0 p1 p3).length),(1,pI p1),(10,pI s1),(11,pI s17),(60,pB y42)] [(0,ob0 (roI (Ea p0 p1 p3)))]) (fun y42=>(Fw p0 p1 p3 s1 s17 n17) y42=some RES) ?_ ?_
   ·intro y42 hm
    unfold Fw at hm
    refine Ar hm ?_ ?_
    ·intro h875 hm
     refine Sk ?_
     refine Bk ?_
     refine RD hnt (nn 3 []) [60] [(11,pI (w64 (s17-1)))] [] [] tv ?_
     refine DW.done ?_
     show DW _ _ _ _ _
     exact jD (w64 (s17-1)) hm Conv.eqK
    ·intro h875 hm
     refine DW.exit ?_
     refine Ao ?_
     refine Ba ?_
     refine Ai ?_
     show DW _ _ _ _ _
     refine Sq (Sq (RD hnt (nn 3 []) [60] [(65,pB (decide (s1>s17)))] [] [] tv ?_))
     refine Ar hm ?_ ?_
     ·intro h876 hm
      obtain ⟨g877,g878,g879,g880,hm⟩:=go4 hm
      obtain ⟨g881,g882,g883,g884,hm⟩:=go4 hm
      refine Sq (RN hnt (nn 16 []) [(11,pI s17)] [(0,ob0 (roI (((Ea p0 p1 p3).set (Int.toNat s17) ((Ea p0 p1 p3).getD (Int.toNat p1) 0)).set (Int.toNat p1) ((Ea p0 p1 p3).getD (Int.toNat s17) 0))))] [] [(0,.row 1 (Ea p0 p1 p3).length (Bs (Bs (elI (Ea p0 p1 p3)) (Int.toNat s17) [vi ((Ea p0 p1 p3).getD (Int.toNat p1) 0)]) (Int.toNat p1) (setRange ((Bs (elI (Ea p0 p1 p3)) (Int.toNat s17) [vi ((Ea p0 p1 p3).getD (Int.toNat p1) 0)]) (Int.toNat p1)) 0 [vi ((Ea p0 p1 p3).getD (Int.toNat s17) 0)])))] (an g877.1 (an g877.2 (an g878 (an g879.1 (an g879.2 (an g880 (an g881.1 (an g881.2 (an g882 (an g883.1 (an g883.2 (an g884 tv)))))))))))) (by kernel_rfl) .nil (.cons rfl (BLe.typed (RowIs.updR (RowIs.upd RowIs.elems ((Ea p0 p1 p3).getD (Int.toNat p1) 0) rfl) (by omega) ((Ea p0 p1 p3).getD (Int.toNat s17) 0) rfl)) .nil) ?_)
      refine Sq (RD hnt (nn 3 []) [11] [(8,pI s17),(9,pB true)] [] [] tv ?_)
      obtain rfl:=sj hm
      exact DW.ret (An [roI (((Ea p0 p1 p3).set (Int.toNat s17) ((Ea p0 p1 p3).getD (Int.toNat p1) 0)).set (Int.toNat p1) ((Ea p0 p1 p3).getD (Int.toNat s17) 0))] [] (.p (.tup [vi s17,vb true])))
     ·intro h876 hm
      refine Sk ?_
      obtain ⟨g885,g886,g887,g888,hm⟩:=go4 hm
      obtain ⟨g889,g890,g891,g892,hm⟩:=go4 hm
      refine Sq (RN hnt (nn 16 []) [(0,ow 0 (((Ea p0 p1 p3).set (Int.toNat s1) ((Ea p0 p1 p3).getD (Int.toNat s17) 0)).set (Int.toNat s17) ((Ea p0 p1 p3).getD (Int.toNat s1) 0)).length),(1,pI p1),(10,pI s1),(11,pI s17)] [(0,ob0 (roI (((Ea p0 p1 p3).set (Int.toNat s1) ((Ea p0 p1 p3).getD (Int.toNat s17) 0)).set (Int.toNat s17) ((Ea p0 p1 p3).getD (Int.toNat s1) 0))))] [(0,ow 0 (Ea p0 p1 p3).length)] [(0,.row 1 (Ea p0 p1 p3).length (c75e2 p0 p1 p3 s1 s17))] (an g885.1 (an g885.2 (an g886 (an g887.1 (an g887.2 (an g888 (an g889.1 (an g889.2 (an g890 (an g891.1 (an g891.2 (an g892 tv)))))))))))) (by kernel_rfl) (.cons rfl (MLe.ownLen (enc:=Au) (d:=0) (f:=(c75e2 p0 p1 p3 s1 s17)) (RowIs.updR (RowIs.upd RowIs.elems ((Ea p0 p1 p3).getD (Int.toNat s17) 0) rfl) (by omega) ((Ea p0 p1 p3).getD (Int.toNat s1) 0) rfl)) .nil) (.cons rfl (BLe.typed (RowIs.updR (RowIs.upd RowIs.elems ((Ea p0 p1 p3).getD (Int.toNat s17) 0) rfl) (by omega) ((Ea p0 p1 p3).getD (Int.toNat s1) 0) rfl)) .nil) ?_)
      refine Sq (RD hnt (nn 3 []) [] [(10,pI (w64 (s1+1)))] [] [] tv ?_)
      refine Sq (RD hnt (nn 3 []) [] [(11,pI (w64 (s17-1)))] [] [] tv ?_)
      refine Sq (Bk ?_)
      refine DW.whileO (fun (s25:(List Int)×Int×Int)=>Af [(0,ow 0 s25.1.length),(1,pI p1),(10,pI s25.2.1),(11,pI s25.2.2)] [(0,ob0 (roI s25.1))]) hm Conv.eqK ?_
      intro s25 n25 hm
      unfold Hi at hm
      refine Bk ?_
      refine Sq (Bk ?_)
      refine DW.whileO (fun (s29:Int)=>Af [(0,ow 0 s25.1.length),(1,pI p1),(10,pI s29),(11,pI s25.2.2)] [(0,ob0 (roI s25.1))]) hm .refl ?_
      intro s29 n29 hm
      unfold Jv at hm
      refine Sq (Sq ?_)
      refine Jn (ι:=Bool) (fun (y52:Bool)=>Af [(0,ow 0 s25.1.length),(1,pI p1),(10,pI s29),(11,pI s25.2.2),(112,pB y52)] [(0,ob0 (roI s25.1))]) (fun y52=>(Fv p1 s25 n25 s29 n29) y52=some RES) ?_ ?_
      ·intro y52 hm
       unfold Fv at hm
       refine Ar hm ?_ ?_
       ·intro h1088 hm
        refine Sk ?_
        refine Bk ?_
        refine RD hnt (nn 3 []) [112] [(10,pI (w64 (s29+1)))] [] [] tv ?_
        refine DW.done ?_
        show DW _ _ _ _ _
        exact jD (w64 (s29+1)) hm Conv.eqK
       ·intro h1088 hm
        refine DW.exit ?_
        refine Ao ?_
        refine Ba ?_
        refine Ai ?_
        show DW _ _ _ _ _
        refine Sq (Bk ?_)
        refine DW.whileO (fun (s31:Int)=>Af [(0,ow 0 s25.1.length),(1,pI p1),(10,pI s29),(11,pI s31)] [(0,ob0 (roI s25.1))]) hm Conv.t0 ?_
        intro s31 n31 hm
        unfold Hl at hm
        refine Sq (Sq ?_)
        refine Jn (ι:=Bool) (fun (y54:Bool)=>Af [(0,ow 0 s25.1.length),(1,pI p1),(10,pI s29),(11,pI s31),(129,pB y54)] [(0,ob0 (roI s25.1))]) (fun y54=>(Ga p1 s25 n25 s29 s31 n31) y54=some RES) ?_ ?_
        ·intro y54 hm
         unfold Ga at hm
         refine Ar hm ?_ ?_
         ·intro h1119 hm
          refine Sk ?_
          refine Bk ?_
          refine RD hnt (nn 3 []) [129] [(11,pI (w64 (s31-1)))] [] [] tv ?_
          refine DW.done ?_
          show DW _ _ _ _ _
          exact jD (w64 (s31-1)) hm Conv.eqK
         ·intro h1119 hm
          refine DW.exit ?_
          refine Ao ?_
          refine Ba ?_
          refine Ai ?_
          show DW _ _ _ _ _
          refine Sq (Sq (RD hnt (nn 3 []) [129] [(134,pB (decide (s29>s31)))] [] [] tv ?_))
          refine Ar hm ?_ ?_
          ·intro h1120 hm
           refine DW.exit ?_
           refine Pv (by decide) ?_
           refine Ba ?_
           refine Ao ?_
           refine Ba ?_
           refine Ai ?_
           show DW _ _ _ _ _
           obtain ⟨g1121,g1122,g1123,g1124,hm⟩:=go4 hm
           obtain ⟨g1125,g1126,g1127,g1128,hm⟩:=go4 hm
           refine Sq (RN hnt (nn 16 []) [(11,pI s31)] [(0,ob0 (roI ((s25.1.set (Int.toNat s31) (s25.1.getD (Int.toNat p1) 0)).set (Int.toNat p1) (s25.1.getD (Int.toNat s31) 0))))] [] [(0,.row 1 s25.1.length (Bs (Bs (elI s25.1) (Int.toNat s31) [vi (s25.1.getD (Int.toNat p1) 0)]) (Int.toNat p1) (setRange ((Bs (elI s25.1) (Int.toNat s31) [vi (s25.1.getD (Int.toNat p1) 0)]) (Int.toNat p1)) 0 [vi (s25.1.getD (Int.toNat s31) 0)])))] (an g1121.1 (an g1121.2 (an g1122 (an g1123.1 (an g1123.2 (an g1124 (an g1125.1 (an g1125.2 (an g1126 (an g1127.1 (an g1127.2 (an g1128 tv)))))))))))) (by kernel_rfl) .nil (.cons rfl (BLe.typed (RowIs.updR (RowIs.upd RowIs.elems (s25.1.getD (Int.toNat p1) 0) rfl) (by omega) (s25.1.getD (Int.toNat s31) 0) rfl)) .nil) ?_)
           refine Sq (RD hnt (nn 3 []) [11] [(8,pI s31),(9,pB false)] [] [] tv ?_)
           obtain rfl:=sj hm
           exact DW.ret (An [roI ((s25.1.set (Int.toNat s31) (s25.1.getD (Int.toNat p1) 0)).set (Int.toNat p1) (s25.1.getD (Int.toNat s31) 0))] [] (.p (.tup [vi s31,vb false])))
          ·intro h1120 hm
           refine Sk ?_
           obtain ⟨g1129,g1130,g1131,g1132,hm⟩:=go4 hm
           obtain ⟨g1133,g1134,g1135,g1136,hm⟩:=go4 hm
           refine Sq (RN hnt (nn 16 []) [(0,ow 0 (c75e5 s25 s29 s31).length),(1,pI p1),(10,pI s29),(11,pI s31)] [(0,ob0 (roI (c75e5 s25 s29 s31)))] [(0,ow 0 s25.1.length)] [(0,.row 1 s25.1.length (c75e4 s25 s29 s31))] (an g1129.1 (an g1129.2 (an g1130 (an g1131.1 (an g1131.2 (an g1132 (an g1133.1 (an g1133.2 (an g1134 (an g1135.1 (an g1135.2 (an g1136 tv)))))))))))) (by kernel_rfl) (.cons rfl (MLe.ownLen (enc:=Au) (d:=0) (f:=(c75e4 s25 s29 s31)) (RowIs.updR (RowIs.upd RowIs.elems (s25.1.getD (Int.toNat s31) 0) rfl) (by omega) (s25.1.getD (Int.toNat s29) 0) rfl)) .nil) (.cons rfl (BLe.typed (RowIs.updR (RowIs.upd RowIs.elems (s25.1.getD (Int.toNat s31) 0) rfl) (by omega) (s25.1.getD (Int.toNat s29) 0) rfl)) .nil) ?_)
           refine Sq (RD hnt (nn 3 []) [] [(10,pI (w64 (s29+1)))] [] [] tv ?_)
           refine RD hnt (nn 3 []) [] [(11,pI (w64 (s31-1)))] [] [] tv ?_
           refine DW.done ?_
           show DW _ _ _ _ _
           exact jD ((c75e5 s25 s29 s31),(w64 (s29+1)),(w64 (s31-1))) hm Conv.eqK
        ·rcases bt (decide (s29≤s31)) with h1113|h1113
         ·replace hm:=Az h1113 hm
          obtain ⟨g1114,g1115,g1116,g1117,hm⟩:=go4 hm
          obtain ⟨r1118,hr1118,hm⟩:=bo hm
          refine RD hnt (nn 12 (o64 [] true r1118 :: .no::pT :: [])) [] [(129,pB (!r1118))] [] [] (an3 h1113 (an g1114.1 (an g1114.2 (an h1113 (an g1115 (an3 h1113 (an g1116.1 (an g1116.2 (an h1113 (an g1117 (an h1113 (an (Dv (s25.1.getD (Int.toNat s31) 0) (s25.1.getD (Int.toNat p1) 0) r1118 hr1118) (an2 h1113 tv))))))))))))) ?_
          exact jD (!r1118) hm Conv.eqK
         ·replace hm:=Ay h1113 hm
          refine RD hnt (nn 4 (sk 10 (pF :: []))) [] [(129,pB false)] [] [] (an5 h1113 (an6 h1113 tv)) ?_
          exact jD false hm Conv.eqK
      ·rcases bt (decide (s29≤s25.2.2)) with h1082|h1082
       ·replace hm:=Az h1082 hm
        obtain ⟨g1083,g1084,g1085,g1086,hm⟩:=go4 hm
        obtain ⟨r1087,hr1087,hm⟩:=bo hm
        refine RD hnt (nn 12 (o64 [] true r1087::pT :: [])) [] [(112,pB r1087)] [] [] (an3 h1082 (an g1083.1 (an g1083.2 (an h1082 (an g1084 (an3 h1082 (an g1085.1 (an g1085.2 (an h1082 (an g1086 (an h1082 (an (Dv (s25.1.getD (Int.toNat s29) 0) (s25.1.getD (Int.toNat p1) 0) r1087 hr1087) (an h1082 tv))))))))))))) ?_
        exact jD r1087 hm Conv.eqK
       ·replace hm:=Ay h1082 hm
        refine RD hnt (nn 4 (sk 9 (pF :: []))) [] [(112,pB false)] [] [] (an4 h1082 (an6 h1082 tv)) ?_
        exact jD false hm Conv.eqK
   ·rcases bt (decide (s1≤s17)) with h869|h869
    ·replace hm:=Az h869 hm
     obtain ⟨g870,g871,g872,g873,hm⟩:=go4 hm
     obtain ⟨r874,hr874,hm⟩:=bo hm
     refine RD hnt (nn 12 (o64 [] true r874 :: .no::pT :: [])) [] [(60,pB (!r874))] [] [] (an3 h869 (an g870.1 (an g870.2 (an h869 (an g871 (an3 h869 (an g872.1 (an g872.2 (an h869 (an g873 (an h869 (an (Dv ((Ea p0 p1 p3).getD (Int.toNat s17) 0) ((Ea p0 p1 p3).getD (Int.toNat p1) 0) r874 hr874) (an2 h869 tv))))))))))))) ?_
     exact jD (!r874) hm Conv.eqK
    ·replace hm:=Ay h869 hm
     refine RD hnt (nn 4 (sk 10 (pF :: []))) [] [(60,pB false)] [] [] (an5 h869 (an6 h869 tv)) ?_
     exact jD false hm Conv.eqK
 ·rcases bt (decide (s1≤(w64 (p2-1)))) with h582|h582
  ·replace hm:=Az h582 hm
   obtain ⟨g583,g584,g585,g586,hm⟩:=go4 hm
   obtain ⟨r587,hr587,hm⟩:=bo hm
   refine RD hnt (nn 12 (o64 [] true r587::pT :: [])) [] [(43,pB r587)] [] [] (an3 h582 (an g583.1 (an g583.2 (an h582 (an g584 (an3 h582 (an g585.1 (an g585.2 (an h582 (an g586 (an h582 (an (Dv ((Ea p0 p1 p3).getD (Int.toNat s1) 0) ((Ea p0 p1 p3).getD (Int.toNat p1) 0) r587 hr587) (an h582 tv))))))))))))) ?_
   exact jD r587 hm Conv.eqK
  ·replace hm:=Ay h582 hm
   refine RD hnt (nn 4 (sk 9 (pF :: []))) [] [(43,pB false)] [] [] (an4 h582 (an6 h582 tv)) ?_
   exact jD false hm Conv.eqK
abbrev o75 (ks:List Nat) (b:Bool) (RES:Int×Bool×(List Int)) (sm:List Nat := []):Orc := .call 91 ks b (.p (.tup [vi RES.1,vb RES.2.1])) [roI RES.2.2] [] sm

theorem Aam (p0:Int) (RES:Int) (hm:Hq p0=some RES):Spec Tryz.prog 114 [pI p0] [] (.p (vk .u64 RES)) [] []:=by
 unfold Hq at hm
 refine SO Tryz.func114 rfl rfl [(0,pI p0)] [] ?_
 intro cx hnt
 refine Sq (RK hnt (.no :: []) [(0,pI p0)] [] tv ?_)
 obtain ⟨r1,hr1,hm⟩:=bo hm
 obtain ⟨g2,hm⟩:=go1 hm
 refine Sq (RK hnt (nn 2 (o60 [] true r1::nn 2 [])) [(2,.p (vk .u64 (kshl .u64 1 r1)))] [] (an (Adw (IntKind.u64.wrap p0) r1 hr1) (an g2 tv)) ?_)
 obtain rfl:=sj hm
 exact DW.ret (An [] [] (.p (vk .u64 (kshl .u64 1 r1))))
abbrev o77 (ks:List Nat) (b:Bool) (RES:Int) (sm:List Nat := []):Orc := .call 114 ks b (.p (vk .u64 RES)) [] [] sm

theorem AaP (p0:Int) (RES:Int×Int) (hm:Mr p0=some RES):Spec Tryz.prog 115 [rr 0] [.box [.p (vk .u64 p0)]] (.p (vk .u64 RES.1)) [.box [.p (vk .u64 RES.2)]] []:=by
 unfold Mr at hm
 refine SO Tryz.func115 rfl rfl [(0,rr 0)] [(0,bx [.p (vk .u64 p0)])] ?_
 intro cx hnt
 refine Sq (RD hnt (.no :: []) [] [] [] [] tv ?_)
 refine Sq (RK hnt (nn 10 []) [(0,rr 0)] [(0,bx [.p (vk .u64 (kxor .u64 p0 (kshl .u64 p0 13)))])] (an (by decide:(0:Int)≤13) tv) ?_)
 refine Sq (RK hnt (nn 10 []) [(0,rr 0)] [(0,bx [.p (vk .u64 (kxor .u64 (kxor .u64 p0 (kshl .u64 p0 13)) (kshr .u64 (kxor .u64 p0 (kshl .u64 p0 13)) 7)))])] (an (by decide:(0:Int)≤7) tv) ?_)
 refine Sq (RK hnt (nn 10 []) [(0,rr 0)] [(0,bx [.p (vk .u64 (kxor .u64 (kxor .u64 (kxor .u64 p0 (kshl .u64 p0 13)) (kshr .u64 (kxor .u64 p0 (kshl .u64 p0 13)) 7)) (kshl .u64 (kxor .u64 (kxor .u64 p0 (kshl .u64 p0 13)) (kshr .u64 (kxor .u64 p0 (kshl .u64 p0 13)) 7)) 17)))])] (an (by decide:(0:Int)≤17) tv) ?_)
 refine Sq (RD hnt (nn 4 []) [0] [(2,.p (vk .u64 (kxor .u64 (kxor .u64 (kxor .u64 p0 (kshl .u64 p0 13)) (kshr .u64 (kxor .u64 p0 (kshl .u64 p0 13)) 7)) (kshl .u64 (kxor .u64 (kxor .u64 p0 (kshl .u64 p0 13)) (kshr .u64 (kxor .u64 p0 (kshl .u64 p0 13)) 7)) 17))))] [] [] tv ?_)
 obtain rfl:=sj hm
 exact DW.ret (An [.box [.p (vk .u64 (kxor .u64 (kxor .u64 (kxor .u64 p0 (kshl .u64 p0 13)) (kshr .u64 (kxor .u64 p0 (kshl .u64 p0 13)) 7)) (kshl .u64 (kxor .u64 (kxor .u64 p0 (kshl .u64 p0 13)) (kshr .u64 (kxor .u64 p0 (kshl .u64 p0 13)) 7)) 17)))]] [] (.p (vk .u64 (kxor .u64 (kxor .u64 (kxor .u64 p0 (kshl .u64 p0 13)) (kshr .u64 (kxor .u64 p0 (kshl .u64 p0 13)) 7)) (kshl .u64 (kxor .u64 (kxor .u64 p0 (kshl .u64 p0 13)) (kshr .u64 (kxor .u64 p0 (kshl .u64 p0 13)) 7)) 17)))))
abbrev o78 (ks:List Nat) (b:Bool) (RES:Int×Int) (sm:List Nat := []):Orc := .call 115 ks b (.p (vk .u64 RES.1)) [.box [.p (vk .u64 RES.2)]] [] sm

abbrev c76e1 (s1:(List Int)×Int×Int) (p1:Int) (y2:Int):=(Bs (Bs (elI s1.1) (Int.toNat s1.2.2) [vi (s1.1.getD (Int.toNat (w64 (p1+y2))) 0)]) (Int.toNat (w64 (p1+y2))) (setRange ((Bs (elI s1.1) (Int.toNat s1.2.2) [vi (s1.1.getD (Int.toNat (w64 (p1+y2))) 0)]) (Int.toNat (w64 (p1+y2)))) 0 [vi (s1.1.getD (Int.toNat s1.2.2) 0)]))
abbrev c76e2 (s1:(List Int)×Int×Int) (p1:Int) (y2:Int):=((s1.1.set (Int.toNat s1.2.2) (s1.1.getD (Int.toNat (w64 (p1+y2))) 0)).set (Int.toNat (w64 (p1+y2))) (s1.1.getD (Int.toNat s1.2.2) 0))
abbrev c76e3 (r15:Int×Int) (r2:Int):=(w64 (kand .u64 r15.1 (IntKind.u64.wrap (r2-1))))
theorem Tl (p0:List Int) (p1:Int) (p2:Int) (RES:List Int) (hm:Fq p0 p1 p2=some RES):Spec Tryz.prog 85 [ow 0 p0.length,pI p1,pI p2] [roI p0] (.p (.tup [])) [roI RES] []:=by
 unfold Fq at hm
 refine SO Tryz.func85 rfl rfl [(0,ow 0 p0.length),(1,pI p1),(2,pI p2)] [(0,ob0 (roI p0))] ?_
 intro cx hnt
 refine Sq (RD hnt (nn 4 []) [2] [(6,pI (w64 (p2-p1)))] [] [] tv ?_)
 refine Sq (RD hnt (nn 2 []) [] [(15,pB (decide ((w64 (p2-p1))≥8)))] [] [] tv ?_)
 refine Ar hm ?_ ?_
 ·intro h1 hm
  refine Sq (RD hnt (nn 4 []) [15] [(7,rr 1056)] [] [(1056,bx [.p (vk .u64 (IntKind.u64.wrap (w64 (p2-p1))))])] tv ?_)
  obtain ⟨r2,hr2,hm⟩:=bo hm
  refine Sq (RD hnt (.no::o77 [] true r2 :: .no :: []) [] [(8,.p (vk .u64 r2))] [] [] (an (Aam (w64 (p2-p1)) r2 hr2) tv) ?_)
  refine Sq (RD hnt (nn 7 []) [] [(9,pI (w64 ((w64 (p1+(w64 ((w64 (Int.tdiv (w64 (p2-p1)) 4))*2))))-1)))] [] [] (an (by decide:(4:Int)≠0) tv) ?_)
  refine Bk ?_
  refine DW.whileO (fun (s1:(List Int)×Int×Int)=>Af [(0,ow 0 s1.1.length),(1,pI p1),(6,pI (w64 (p2-p1))),(7,rr 1056),(8,.p (vk .u64 r2)),(9,pI s1.2.2)] [(0,ob0 (roI s1.1)),(1056,bx [.p (vk .u64 s1.2.1)])]) hm Conv.eqK ?_
  intro s1 n1 hm
  unfold Jd at hm
  refine Sq (Sq (RD hnt (nn 8 []) [] [(33,pB (decide (s1.2.2≤(w64 ((w64 (p1+(w64 ((w64 (Int.tdiv (w64 (p2-p1)) 4))*2))))+1)))))] [] [] (an (by decide:(4:Int)≠0) tv) ?_))
  refine Ar hm ?_ ?_
  ·intro h14 hm
   refine Sk ?_
   refine Sq (Bk ?_)
   obtain ⟨r15,hr15,hm⟩:=bo hm
   refine Sq (RD hnt (o78 [1056] true r15::nn 5 []) [33] [(10,pI (c76e3 r15 r2))] [] [(1056,bx [.p (vk .u64 r15.2)])] (an (AaP s1.2.1 r15 hr15) (an tv tv)) ?_)
   refine Sq (Sq (RD hnt (nn 3 []) [] [(43,pB (decide ((c76e3 r15 r2)≥(w64 (p2-p1)))))] [] [] tv ?_))
   refine Jn (ι:=Int) (fun (y2:Int)=>Af [(0,ow 0 s1.1.length),(1,pI p1),(6,pI (w64 (p2-p1))),(7,rr 1056),(8,.p (vk .u64 r2)),(9,pI s1.2.2),(10,pI y2)] [(0,ob0 (roI s1.1)),(1056,bx [.p (vk .u64 r15.2)])]) (fun y2=>(Dz p1 s1 n1 r15) y2=some RES) ?_ ?_
   ·intro y2 hm
    unfold Dz at hm
    obtain ⟨g17,g18,g19,g20,hm⟩:=go4 hm
    obtain ⟨g21,g22,g23,g24,hm⟩:=go4 hm
    refine RN hnt (nn 20 []) [(0,ow 0 (c76e2 s1 p1 y2).length),(1,pI p1),(6,pI (w64 (p2-p1))),(7,rr 1056),(8,.p (vk .u64 r2)),(9,pI s1.2.2)] [(0,ob0 (roI (c76e2 s1 p1 y2))),(1056,bx [.p (vk .u64 r15.2)])] [(0,ow 0 s1.1.length)] [(0,.row 1 s1.1.length (c76e1 s1 p1 y2))] (an g17.1 (an g17.2 (an g18 (an g19.1 (an g19.2 (an g20 (an g21.1 (an g21.2 (an g22 (an g23.1 (an g23.2 (an g24 tv)))))))))))) (by kernel_rfl) (.cons rfl (MLe.ownLen (enc:=Au) (d:=0) (f:=(c76e1 s1 p1 y2)) (RowIs.updR (RowIs.upd RowIs.elems (s1.1.getD (Int.toNat (w64 (p1+y2))) 0) rfl) (by omega) (s1.1.getD (Int.toNat s1.2.2) 0) rfl)) .nil) (.cons rfl (BLe.typed (RowIs.updR (RowIs.upd RowIs.elems (s1.1.getD (Int.toNat (w64 (p1+y2))) 0) rfl) (by omega) (s1.1.getD (Int.toNat s1.2.2) 0) rfl)) .nil) ?_
    refine DW.done ?_
    show DW _ _ _ _ _
    refine RD hnt (nn 3 []) [] [(9,pI (w64 (s1.2.2+1)))] [] [] tv ?_
    exact jD ((c76e2 s1 p1 y2),r15.2,(w64 (s1.2.2+1))) hm Conv.eqK
   ·refine Ar hm ?_ ?_
    ·intro h16 hm
     refine RD hnt (nn 4 []) [43] [(10,pI (w64 ((c76e3 r15 r2)-(w64 (p2-p1)))))] [] [] tv ?_
     exact jD (w64 ((c76e3 r15 r2)-(w64 (p2-p1)))) hm Conv.eqK
    ·intro h16 hm
     refine Sk ?_
     exact jD (c76e3 r15 r2) hm Conv.t0
  ·intro h14 hm
   refine DW.exit ?_
   refine Ao ?_
   refine Ba ?_
   refine Ai ?_
   show DW _ _ _ _ _
   refine DW.done ?_
   obtain rfl:=sj hm
   exact endK [roI s1.1] [] (.p (.tup []))
 ·intro h1 hm
  refine Sk ?_
  refine DW.done ?_
  obtain rfl:=sj hm
  exact endK [roI p0] [] (.p (.tup []))
abbrev o76 (ks:List Nat) (b:Bool) (RES:List Int) (sm:List Nat := []):Orc := .call 85 ks b (.p (.tup [])) [roI RES] [] sm

abbrev Xy (s1:(List Int)×Int×Int×Int×Bool×Bool):Nat×MV:=(10,pI (w64 (s1.2.2.1-s1.2.1)))
abbrev AcR (s1:(List Int)×Int×Int×Int×Bool×Bool):=(w64 (Int.tdiv (w64 (s1.2.2.1-s1.2.1)) 8))
theorem Xb (rec:(List Int)→Int→Int→Int→Option (List Int)) (ih:∀ (p0:List Int) (p1:Int) (p2:Int) (p3:Int) (RES:List Int),rec p0 p1 p2 p3=some RES→Spec Tryz.prog 63 [ow 0 p0.length,pI p1,pI p2,pI p3] [roI p0] (.p (.tup [])) [roI RES] []) (p0:List Int) (p1:Int) (p2:Int) (p3:Int) (RES:List Int) (hm:Je rec p0 p1 p2 p3=some RES):Spec Tryz.prog 63 [ow 0 p0.length,pI p1,pI p2,pI p3] [roI p0] (.p (.tup [])) [roI RES] []:=by
 unfold Je at hm
 refine SO Tryz.func63 rfl rfl [(0,ow 0 p0.length),(1,pI p1),(2,pI p2),(3,pI p3)] [(0,ob0 (roI p0))] ?_
 intro cx hnt
 refine Sq (RD hnt (.no :: []) [] [(8,pB true)] [] [] tv ?_)
 refine Sq (RD hnt (.no :: []) [] [(9,pB true)] [] [] tv ?_)
 refine Bk ?_
 refine DW.whileO (fun (s1:(List Int)×Int×Int×Int×Bool×Bool)=>Af [(0,ow 0 s1.1.length),(1,pI s1.2.1),(2,pI s1.2.2.1),(3,pI s1.2.2.2.1),(8,pB s1.2.2.2.2.1),(9,pB s1.2.2.2.2.2)] [(0,ob0 (roI s1.1))]) hm Conv.eqK ?_
 intro s1 n1 hm
 unfold Lb at hm
 refine Bk ?_
 refine Sq (RD hnt (nn 4 []) [] [(Xy s1)] [] [] tv ?_)
 refine Sq (Sq (RD hnt (nn 2 []) [] [(23,pB (decide ((w64 (s1.2.2.1-s1.2.1))≤12)))] [] [] tv ?_))
 refine Ar hm ?_ ?_
 ·intro h66 hm
  obtain ⟨r67,hr67,hm⟩:=bo hm
  obtain ⟨g68,hm⟩:=go1 hm
  refine Sq (RK hnt (nn 3 (o63 [0] true r67 :: [])) [] [(0,ob0 (roI r67))] (an (To s1.1 s1.2.1 s1.2.2.1 r67 hr67) (an (⟨rfl,g68⟩:Body.same (roI s1.1) (roI r67)) tv)) ?_)
  obtain rfl:=sj hm
  exact DW.ret (An [roI r67] [] (.p (.tup [])))
 ·intro h66 hm
  refine Sk ?_
  refine Sq (Sq (RD hnt (nn 2 []) [23] [(29,pB (s1.2.2.2.1==0))] [] [] tv ?_))
  refine Ar hm ?_ ?_
  ·intro h69 hm
   obtain ⟨r70,hr70,hm⟩:=bo hm
   obtain ⟨g71,hm⟩:=go1 hm
   refine Sq (RK hnt (nn 3 (o66 [0] true r70 :: [])) [] [(0,ob0 (roI r70))] (an (Wi s1.1 s1.2.1 s1.2.2.1 r70 hr70) (an (⟨rfl,g71⟩:Body.same (roI s1.1) (roI r70)) tv)) ?_)
   obtain rfl:=sj hm
   exact DW.ret (An [roI r70] [] (.p (.tup [])))
  ·intro h69 hm
   refine Sk ?_
   refine Sq (Sq (RD hnt (nn 2 []) [29] [(35,pB (!s1.2.2.2.2.1))] [] [] tv ?_))
   refine Jn (ι:=(List Int)×Int) (fun (y8:(List Int)×Int)=>Af [(0,ow 0 y8.1.length),(1,pI s1.2.1),(2,pI s1.2.2.1),(3,pI y8.2),(8,pB s1.2.2.2.2.1),(9,pB s1.2.2.2.2.2),(Xy s1)] [(0,ob0 (roI y8.1))]) (fun y8=>(Fn rec s1 n1) y8=some RES) ?_ ?_
   ·intro y8 hm
    unfold Fn at hm
    obtain ⟨r75,hr75,hm⟩:=bo hm
    refine Sq (RD hnt (nn 3 (o68 [] true r75::nn 5 [])) [] [(11,pI r75.1),(12,pI r75.2)] [] [] (an (Ul y8.1 s1.2.1 s1.2.2.1 r75 hr75) tv) ?_)
    refine Sq (Sq (RD hnt (nn 2 []) [] [(50,pB (r75.2==2))] [] [] tv ?_))
    refine Jn (ι:=(List Int)×Int×Int) (fun (y9:(List Int)×Int×Int)=>Af [(0,ow 0 y9.1.length),(1,pI s1.2.1),(2,pI s1.2.2.1),(3,pI y8.2),(8,pB s1.2.2.2.2.1),(9,pB s1.2.2.2.2.2),(Xy s1),(11,pI y9.2.1),(12,pI y9.2.2)] [(0,ob0 (roI y9.1))]) (fun y9=>(Fo rec s1 n1 y8) y9=some RES) ?_ ?_
    ·intro y9 hm
     unfold Fo at hm
     refine Sq (Sq (DW.regJ (sl2 := [(0,ow 0 y9.1.length),(1,pI s1.2.1),(2,pI s1.2.2.1),(3,pI y8.2),(8,pB s1.2.2.2.2.1),(9,pB s1.2.2.2.2.2),(Xy s1),(11,pI y9.2.1),(68,pB ((s1.2.2.2.2.1&&s1.2.2.2.2.2)&&(y9.2.2==1)))]) (ob2 := [(0,ob0 (roI y9.1))]) ?_ ?_))
     ·rcases bt s1.2.2.2.2.1 with h79|h79
      ·rcases bt s1.2.2.2.2.2 with h80|h80
       ·exact RT hnt (nn 3 (pT::nn 3 (pT :: []))) [(68,pB (y9.2.2==1))] (an2 h79 (an3 h80 tv)) (by kernel_rfl) (.cons rfl (.of_eq (by rw [h79,h80]; try rfl)) .nil)
       ·exact RT hnt (nn 3 (pT :: .no::sk 2 (pF :: []))) [(68,pB false)] (an2 h79 (an3 h80 tv)) (by kernel_rfl) (.cons rfl (.of_eq (by rw [h79,h80]; try rfl)) .nil)
      ·exact RT hnt (nn 2 (.skip::pF :: .no::sk 2 (pF :: []))) [(68,pB false)] (an2 h79 (an3 ff tv)) (by kernel_rfl) (.cons rfl (.of_eq (by rw [h79]; try rfl)) .nil)
     ·refine Jn (ι:=List Int) (fun (y10:List Int)=>Af [(0,ow 0 y10.length),(1,pI s1.2.1),(2,pI s1.2.2.1),(3,pI y8.2),(8,pB s1.2.2.2.2.1),(9,pB s1.2.2.2.2.2),(Xy s1),(11,pI y9.2.1)] [(0,ob0 (roI y10))]) (fun y10=>(Fc rec s1 n1 y8 y9) y10=some RES) ?_ ?_
      ·intro y10 hm
       unfold Fc at hm
       refine Sq (Sq ?_)
       refine Jn (ι:=Bool) (fun (y11:Bool)=>Af [(0,ow 0 y10.length),(1,pI s1.2.1),(2,pI s1.2.2.1),(3,pI y8.2),(8,pB s1.2.2.2.2.1),(9,pB s1.2.2.2.2.2),(Xy s1),(11,pI y9.2.1),(87,pB y11)] [(0,ob0 (roI y10))]) (fun y11=>(Ex rec s1 n1 y8 y9 y10) y11=some RES) ?_ ?_
       ·intro y11 hm
        unfold Ex at hm
        refine Ar hm ?_ ?_
        ·intro h91 hm
         obtain ⟨r92,hr92,hm⟩:=bo hm
         obtain ⟨g93,hm⟩:=go1 hm
         refine Sq (RN hnt (nn 4 (o74 [0] true r92 :: .no :: [])) [(0,ow 0 r92.2.length),(2,pI s1.2.2.1),(3,pI y8.2),(8,pB s1.2.2.2.2.1),(9,pB s1.2.2.2.2.2),(13,pI r92.1)] [(0,ob0 (roI r92.2))] [(0,ow 0 y10.length)] [] (an (Sn y10 s1.2.1 s1.2.2.1 y9.2.1 r92 hr92) (an (⟨rfl,g93⟩:Body.same (roI y10) (roI r92.2)) tv)) (by kernel_rfl) (.cons rfl (MLe.of_eq (congrArg (MV.own 0 0 0) g93)) .nil) .nil ?_)
         refine Sq (RD hnt (nn 2 []) [13] [(1,pI r92.1)] [] [] tv ?_)
         refine DW.exit ?_
         refine Ai ?_
         show DW _ _ _ _ _
         exact jD (r92.2,r92.1,s1.2.2.1,y8.2,s1.2.2.2.2.1,s1.2.2.2.2.2) hm Conv.eqK
        ·intro h91 hm
         refine Sk ?_
         obtain ⟨r94,hr94,hm⟩:=bo hm
         obtain ⟨g95,hm⟩:=go1 hm
         refine Sq (RN hnt (nn 4 (o75 [0] true r94::nn 5 [])) [(0,ow 0 r94.2.2.length),(1,pI s1.2.1),(2,pI s1.2.2.1),(3,pI y8.2),(Xy s1),(14,pI r94.1),(15,pB r94.2.1)] [(0,ob0 (roI r94.2.2))] [(0,ow 0 y10.length)] [] (an (Vu y10 s1.2.1 s1.2.2.1 y9.2.1 r94 hr94) (an (⟨rfl,g95⟩:Body.same (roI y10) (roI r94.2.2)) tv)) (by kernel_rfl) (.cons rfl (MLe.of_eq (congrArg (MV.own 0 0 0) g95)) .nil) .nil ?_)
         refine Sq (RD hnt (nn 2 []) [15] [(9,pB r94.2.1)] [] [] tv ?_)
         refine Sq (RD hnt (nn 8 []) [] [(16,pI (w64 (r94.1-s1.2.1))),(17,pI (w64 (s1.2.2.1-r94.1)))] [] [] tv ?_)
         refine Sq (RD hnt (nn 3 []) [10] [(18,pI (AcR s1))] [] [] (an (by decide:(8:Int)≠0) tv) ?_)
         refine Sq (RD hnt (nn 3 []) [] [(113,pB (decide ((w64 (r94.1-s1.2.1))<(w64 (s1.2.2.1-r94.1)))))] [] [] tv ?_)
         refine Ar hm ?_ ?_
         ·intro h96 hm
          refine Sq (RD hnt (nn 4 []) [16,17,18,113] [(8,pB (decide ((w64 (r94.1-s1.2.1))≥(AcR s1))))] [] [] tv ?_)
          obtain ⟨r97,hr97,hm⟩:=bo hm
          obtain ⟨g98,hm⟩:=go1 hm
          refine Sq (RN hnt (nn 4 (.call 63 [0] true (.p (.tup [])) [roI r97] [] [] :: [])) [(0,ow 0 r97.length),(2,pI s1.2.2.1),(3,pI y8.2),(8,pB (decide ((w64 (r94.1-s1.2.1))≥(AcR s1)))),(9,pB r94.2.1),(14,pI r94.1)] [(0,ob0 (roI r97))] [(0,ow 0 r94.2.2.length)] [] (an (ih r94.2.2 s1.2.1 r94.1 y8.2 r97 hr97) (an (⟨rfl,g98⟩:Body.same (roI r94.2.2) (roI r97)) tv)) (by kernel_rfl) (.cons rfl (MLe.of_eq (congrArg (MV.own 0 0 0) g98)) .nil) .nil ?_)
          refine RD hnt (nn 3 []) [14] [(1,pI (w64 (r94.1+1)))] [] [] tv ?_
          refine DW.done ?_
          show DW _ _ _ _ _
          exact jD (r97,(w64 (r94.1+1)),s1.2.2.1,y8.2,(decide ((w64 (r94.1-s1.2.1))≥(AcR s1))),r94.2.1) hm Conv.eqK
         ·intro h96 hm
          refine Sq (RD hnt (nn 4 []) [16,17,18,113] [(8,pB (decide ((w64 (s1.2.2.1-r94.1))≥(AcR s1))))] [] [] tv ?_)
          obtain ⟨r99,hr99,hm⟩:=bo hm
          obtain ⟨g100,hm⟩:=go1 hm
          refine Sq (RN hnt (nn 5 (.call 63 [0] true (.p (.tup [])) [roI r99] [] [] :: [])) [(0,ow 0 r99.length),(1,pI s1.2.1),(3,pI y8.2),(8,pB (decide ((w64 (s1.2.2.1-r94.1))≥(AcR s1)))),(9,pB r94.2.1),(14,pI r94.1)] [(0,ob0 (roI r99))] [(0,ow 0 r94.2.2.length)] [] (an (ih r94.2.2 (w64 (r94.1+1)) s1.2.2.1 y8.2 r99 hr99) (an (⟨rfl,g100⟩:Body.same (roI r94.2.2) (roI r99)) tv)) (by kernel_rfl) (.cons rfl (MLe.of_eq (congrArg (MV.own 0 0 0) g100)) .nil) .nil ?_)
          refine RD hnt (nn 2 []) [14] [(2,pI r94.1)] [] [] tv ?_
          refine DW.done ?_
          show DW _ _ _ _ _
          exact jD (r99,s1.2.1,r94.1,y8.2,(decide ((w64 (s1.2.2.1-r94.1))≥(AcR s1))),r94.2.1) hm Conv.eqK
       ·rcases bt (decide (s1.2.1>0)) with h85|h85
        ·replace hm:=Az h85 hm
         obtain ⟨g86,g87,g88,g89,hm⟩:=go4 hm
         obtain ⟨r90,hr90,hm⟩:=bo hm
         refine RD hnt (nn 12 (o64 [] true r90 :: .no::pT :: [])) [] [(87,pB (!r90))] [] [] (an4 h85 (an g86.1 (an g86.2 (an h85 (an g87 (an3 h85 (an g88.1 (an g88.2 (an h85 (an g89 (an h85 (an (Dv (y10.getD (Int.toNat (w64 (s1.2.1-1))) 0) (y10.getD (Int.toNat y9.2.1) 0) r90 hr90) (an2 h85 tv))))))))))))) ?_
         exact jD (!r90) hm Conv.eqK
        ·replace hm:=Ay h85 hm
         refine RD hnt (nn 3 (sk 11 (pF :: []))) [] [(87,pB false)] [] [] (an6 h85 (an6 h85 tv)) ?_
         exact jD false hm Conv.eqK
      ·refine Ar hm ?_ ?_
       ·intro h81 hm
        obtain ⟨r82,hr82,hm⟩:=bo hm
        obtain ⟨g83,hm⟩:=go1 hm
        refine Sq (RN hnt (nn 3 (o73 [0] true r82 :: [])) [(0,ow 0 r82.2.length),(1,pI s1.2.1),(2,pI s1.2.2.1),(3,pI y8.2),(8,pB s1.2.2.2.2.1),(9,pB s1.2.2.2.2.2),(Xy s1),(11,pI y9.2.1),(72,pB r82.1)] [(0,ob0 (roI r82.2))] [(0,ow 0 y9.1.length)] [] (an (Ph y9.1 s1.2.1 s1.2.2.1 r82 hr82) (an (⟨rfl,g83⟩:Body.same (roI y9.1) (roI r82.2)) tv)) (by kernel_rfl) (.cons rfl (MLe.of_eq (congrArg (MV.own 0 0 0) g83)) .nil) .nil ?_)
        refine Ar hm ?_ ?_
        ·intro h84 hm
         obtain rfl:=sj hm
         exact DW.ret (An [roI r82.2] [] (.p (.tup [])))
        ·intro h84 hm
         refine Sk ?_
         exact jD r82.2 hm Conv.t0
       ·intro h81 hm
        refine Sk ?_
        exact jD y9.1 hm Conv.t0
    ·refine Ar hm ?_ ?_
     ·intro h76 hm
      obtain ⟨r77,hr77,hm⟩:=bo hm
      obtain ⟨g78,hm⟩:=go1 hm
      refine Sq (RN hnt (nn 3 (o72 [0] true r77 :: [])) [(0,ow 0 r77.length),(1,pI s1.2.1),(2,pI s1.2.2.1),(3,pI y8.2),(8,pB s1.2.2.2.2.1),(9,pB s1.2.2.2.2.2),(Xy s1),(11,pI r75.1)] [(0,ob0 (roI r77))] [(0,ow 0 y8.1.length)] [] (an (Ud y8.1 s1.2.1 s1.2.2.1 r77 hr77) (an (⟨rfl,g78⟩:Body.same (roI y8.1) (roI r77)) tv)) (by kernel_rfl) (.cons rfl (MLe.of_eq (congrArg (MV.own 0 0 0) g78)) .nil) .nil ?_)
      refine Sq (RD hnt (nn 7 []) [] [(11,pI (w64 ((w64 (s1.2.2.1-1))-(w64 (r75.1-s1.2.1)))))] [] [] tv ?_)
      refine RD hnt (.no :: []) [] [(12,pI 1)] [] [] tv ?_
      exact jD (r77,(w64 ((w64 (s1.2.2.1-1))-(w64 (r75.1-s1.2.1)))),1) hm Conv.eqK
     ·intro h76 hm
      refine Sk ?_
      exact jD (y8.1,r75.1,r75.2) hm Conv.t0
   ·refine Ar hm ?_ ?_
    ·intro h72 hm
     obtain ⟨r73,hr73,hm⟩:=bo hm
     obtain ⟨g74,hm⟩:=go1 hm
     refine Sq (RN hnt (nn 3 (o76 [0] true r73 :: [])) [(0,ow 0 r73.length),(1,pI s1.2.1),(2,pI s1.2.2.1),(3,pI s1.2.2.2.1),(8,pB s1.2.2.2.2.1),(9,pB s1.2.2.2.2.2),(Xy s1)] [(0,ob0 (roI r73))] [(0,ow 0 s1.1.length)] [] (an (Tl s1.1 s1.2.1 s1.2.2.1 r73 hr73) (an (⟨rfl,g74⟩:Body.same (roI s1.1) (roI r73)) tv)) (by kernel_rfl) (.cons rfl (MLe.of_eq (congrArg (MV.own 0 0 0) g74)) .nil) .nil ?_)
     refine RD hnt (nn 3 []) [] [(3,pI (w64 (s1.2.2.2.1-1)))] [] [] tv ?_
     exact jD (r73,(w64 (s1.2.2.2.1-1))) hm Conv.eqK
    ·intro h72 hm
     refine Sk ?_
     exact jD (s1.1,s1.2.2.2.1) hm Conv.t0
theorem Om : ∀ (n:Nat) (p0:List Int) (p1:Int) (p2:Int) (p3:Int) (RES:List Int),Cl n p0 p1 p2 p3=some RES→Spec Tryz.prog 63 [ow 0 p0.length,pI p1,pI p2,pI p3] [roI p0] (.p (.tup [])) [roI RES] []
  | 0,p0,p1,p2,p3,RES,hm=>by simp [Cl] at hm
  | n+1,p0,p1,p2,p3,RES,hm=>Xb (Cl n) (Om n) p0 p1 p2 p3 RES hm
theorem Xh (p0:List Int) (p1:Int) (p2:Int) (p3:Int) (RES:List Int) (hm:Mn p0 p1 p2 p3=some RES):Spec Tryz.prog 63 [ow 0 p0.length,pI p1,pI p2,pI p3] [roI p0] (.p (.tup [])) [roI RES] []:=Om Fh p0 p1 p2 p3 RES hm
abbrev o62 (ks:List Nat) (b:Bool) (RES:List Int) (sm:List Nat := []):Orc := .call 63 ks b (.p (.tup [])) [roI RES] [] sm

theorem Xl (p0:List Int) (RES:List Int) (hm:Iu p0=some RES):Spec Tryz.prog 36 [ow 0 p0.length] [roI p0] (.p (.tup [])) [roI RES] []:=by
 unfold Iu at hm
 refine SO Tryz.func36 rfl rfl [(0,ow 0 p0.length)] [(0,ob0 (roI p0))] ?_
 intro cx hnt
 refine Sq (RD hnt (nn 3 []) [] [(2,pI ((p0.length:Nat):Int))] [] [] tv ?_)
 obtain ⟨r1,hr1,hm⟩:=bo hm
 obtain ⟨r2,hr2,hm⟩:=bo hm
 obtain ⟨g3,hm⟩:=go1 hm
 refine RK hnt (nn 4 (o60 [] true r1::o62 [0] true r2 :: [])) [] [(0,ob0 (roI r2))] (an (Adw (IntKind.u64.wrap ((p0.length:Nat):Int)) r1 hr1) (an (Xh p0 0 ((p0.length:Nat):Int) r1 r2 hr2) (an (⟨rfl,g3⟩:Body.same (roI p0) (roI r2)) tv))) ?_
 refine DW.done ?_
 obtain rfl:=sj hm
 exact endK [roI r2] [] (.p (.tup []))
abbrev o59 (ks:List Nat) (b:Bool) (RES:List Int) (sm:List Nat := []):Orc := .call 36 ks b (.p (.tup [])) [roI RES] [] sm

abbrev AbG (s4:(List Int)×Int) (k1:Int) (k4:Int):=(s4.1.getD (Wk (Int.toNat k1) (Int.toNat k4)) 0)
abbrev c79e2 (k1:Int) (p0:List Int):Nat×MV:=(4,.own 0 0 (Int.toNat k1) (Cr p0.length (Int.toNat k1)))
abbrev c79e3 (s4:(List Int)×Int):=(Jr s4.1 (Int.toNat s4.2) (Cr s4.1.length (Int.toNat s4.2)) 0)
theorem AbO (p0:List Int) (RES:Nat×(List Int)) (hm:Ji p0=some RES):Spec Tryz.prog 128 [ow 0 p0.length] [roI p0] (ow 0 RES.1) [roI RES.2] []:=by
 unfold Ji at hm
 refine SO Tryz.func128 rfl rfl [(0,ow 0 p0.length)] [(0,ob0 (roI p0))] ?_
 intro cx hnt
 refine Sq (RD hnt (.no :: []) [] [] [] [] tv ?_)
 refine Sq (Sq (RD hnt (nn 3 []) [] [(8,pB (decide (((p0.length:Nat):Int)<2)))] [] [] tv ?_))
 refine Ar hm ?_ ?_
 ·intro h1 hm
  refine Sq (RK hnt (nn 2 []) [(2,ow 0 p0.length)] [(0,ob0 (roI p0))] tv ?_)
  obtain rfl:=sj hm
  exact DW.ret (An [roI p0] [] (ow 0 p0.length))
 ·intro h1 hm
  refine Sk ?_
  refine Sq (Sq (RD hnt (.no :: []) [8] [(3,pI 1)] [] [] tv ?_))
  refine Bk ?_
  obtain ⟨hc1,hm⟩:=go1 hm
  refine DW.forO (fun (k1:Int) (s1:Unit)=>Af [(0,ow 0 p0.length),(3,pI k1)] [(0,ob0 (roI p0))]) (lo:=1) (hi:=((p0.length:Nat):Int)) hm Conv.eqK ?_
  intro k1 s1 n1 hk1 hs1 he1
  refine Sq (Sq (RD hnt (nn 4 []) [] [(13,pB (decide (k1<((p0.length:Nat):Int))))] [] [] tv ?_))
  refine Cv (decide (k1<((p0.length:Nat):Int))) ?_ ?_
  ·intro h94
   have hlt1:k1<((p0.length:Nat):Int):=by have:=of_decide_eq_true h94; omega
   have hm:=hs1 hlt1
   unfold Qi at hm
   refine Sk ?_
   refine Sq (Bk ?_)
   obtain ⟨g95,g96,g97,g98,hm⟩:=go4 hm
   refine Sq (RD hnt (nn 10 []) [13] [(25,pB ((p0.getD (Int.toNat k1) 0)==(p0.getD (Int.toNat (w64 (k1-1))) 0)))] [] [] (an g95.1 (an g95.2 (an g96 (an g97.1 (an g97.2 (an g98 tv)))))) ?_)
   refine Ar hm ?_ ?_
   ·intro h99 hm
    obtain ⟨g100,hm⟩:=go1 hm
    refine Sq (RD hnt (nn 4 []) [25] [(c79e2 k1 p0)] [] [] (an (by omega:(0:Int)≤k1) (an (by omega:k1≤((p0.length:Nat):Int)) (an (by omega:((p0.length:Nat):Int)≤((p0.length:Nat):Int)) tv))) ?_)
    refine Sq (Sq (RD hnt (.no :: []) [] [(5,pI 1)] [] [] tv ?_))
    refine Bk ?_
    obtain ⟨hc4,hm⟩:=go1 hm
    refine DW.forO (fun (k4:Int) (s4:(List Int)×Int)=>Af [(0,ow 0 s4.1.length),(3,pI s4.2),(c79e2 k1 p0),(5,pI k4)] [(0,ob0 (roI s4.1))]) (lo:=1) (hi:=(((Cr p0.length (Int.toNat k1)):Nat):Int)) hm Conv.eqK ?_
    intro k4 s4 n4 hk4 hs4 he4
    refine Sq (Sq (RD hnt (nn 4 []) [] [(32,pB (decide (k4<(((Cr p0.length (Int.toNat k1)):Nat):Int))))] [] [] tv ?_))
    refine Cv (decide (k4<(((Cr p0.length (Int.toNat k1)):Nat):Int))) ?_ ?_
    ·intro h127
     have hlt4:k4<(((Cr p0.length (Int.toNat k1)):Nat):Int):=by have:=of_decide_eq_true h127; omega
     have hm:=hs4 hlt4
     unfold Qn at hm
     refine Sk ?_
     refine Sq ?_
     refine Jn (ι:=(List Int)×Int) (fun (y9:(List Int)×Int)=>Af [(0,ow 0 y9.1.length),(3,pI y9.2),(c79e2 k1 p0),(5,pI k4)] [(0,ob0 (roI y9.1))]) (fun y9=>(Mp n4) y9=some RES) ?_ ?_
     ·intro y9 hm
      unfold Mp at hm
      refine RD hnt (nn 3 []) [] [(5,pI (w64 (k4+1)))] [] [] tv ?_
      exact jD (y9.1,y9.2) ⟨hlt4,hm⟩ (Conv.tp [(5,pI (w64 (k4+1)))] [] (by kernel_rfl) (.cons rfl (.of_eq (congrArg pI (Rm (lo:=1) (hi:=(((Cr p0.length (Int.toNat k1)):Nat):Int)) (by omega) hk4 hlt4 (by omega)))) .nil) .nil)
     ·refine Bk ?_
      obtain ⟨g128,g129,g130,g131,hm⟩:=go4 hm
      refine Sq (RD hnt (nn 10 []) [32] [(44,pB ((AbG s4 k1 k4) != (s4.1.getD (Wk (Int.toNat k1) (Int.toNat (w64 (k4-1)))) 0)))] [] [] (an g128.1 (an g128.2 (an g129 (an g130.1 (an g130.2 (an g131 tv)))))) ?_)
      refine Ar hm ?_ ?_
      ·intro h132 hm
       obtain ⟨g133,g134,g135,g136,hm⟩:=go4 hm
       refine Sq (RN hnt (nn 8 []) [(0,ow 0 (s4.1.set (Int.toNat s4.2) (AbG s4 k1 k4)).length),(3,pI s4.2),(c79e2 k1 p0),(5,pI k4)] [(0,ob0 (roI (s4.1.set (Int.toNat s4.2) (AbG s4 k1 k4))))] [(0,ow 0 s4.1.length)] [(0,.row 1 s4.1.length (Bs (elI s4.1) (Int.toNat s4.2) [vi (AbG s4 k1 k4)]))] (an g133.1 (an g133.2 (an g134 (an g135.1 (an g135.2 (an g136 tv)))))) (by kernel_rfl) (.cons rfl (MLe.ownLen (enc:=Au) (d:=0) (f:=(Bs (elI s4.1) (Int.toNat s4.2) [vi (AbG s4 k1 k4)])) (RowIs.upd RowIs.elems (AbG s4 k1 k4) rfl)) .nil) (.cons rfl (BLe.typed (RowIs.upd RowIs.elems (AbG s4 k1 k4) rfl)) .nil) ?_)
       refine RD hnt (nn 3 []) [] [(3,pI (w64 (s4.2+1)))] [] [] tv ?_
       exact bD ((s4.1.set (Int.toNat s4.2) (AbG s4 k1 k4)),(w64 (s4.2+1))) hm Conv.eqK
      ·intro h132 hm
       refine Sk ?_
       exact bD (s4.1,s4.2) hm Conv.t0
    ·intro h127
     have hge4:¬ k4<(((Cr p0.length (Int.toNat k1)):Nat):Int):=by have:=of_decide_eq_false h127; omega
     have hm:=he4 hge4
     unfold Qw at hm
     refine DW.exit ?_
     refine Ao ?_
     refine Ba ?_
     refine Ai ?_
     show DW _ _ _ _ _
     obtain ⟨g137,g138,hm⟩:=go2 hm
     refine Sq (RN hnt (nn 4 []) [(0,ow 0 (c79e3 s4).length),(3,pI s4.2)] [(0,ob0 (roI (c79e3 s4)))] [(0,ow 0 s4.1.length)] [(0,.row 1 s4.1.length (Kw (elI s4.1) (Int.toNat s4.2) (Cr s4.1.length (Int.toNat s4.2)) (fun _ => [vi 0])))] (an (by omega:(0:Int)≤s4.2) (an (by omega:s4.2≤((s4.1.length:Nat):Int)) (an (by omega:((s4.1.length:Nat):Int)≤((s4.1.length:Nat):Int)) (an g138 tv)))) (by kernel_rfl) (.cons rfl (MLe.ownLen (enc:=Au) (d:=0) (f:=(Kw (elI s4.1) (Int.toNat s4.2) (Cr s4.1.length (Int.toNat s4.2)) (fun _ => [vi 0]))) (RowIs.fill RowIs.elems 0 rfl (by first|exact g138|omega))) .nil) (.cons rfl (BLe.typed (RowIs.fill RowIs.elems 0 rfl (by first|exact g138|omega))) .nil) ?_)
     obtain ⟨g139,hm⟩:=go1 hm
     refine Sq (RD hnt (nn 4 []) [0,3] [(2,ow 0 (Int.toNat s4.2))] [] [] (an (by omega:(0:Int)≤0) (an (by omega:(0:Int)≤s4.2) (an (by omega:s4.2≤(((Jr s4.1 (Int.toNat s4.2) (Cr s4.1.length (Int.toNat s4.2)) 0).length:Nat):Int)) tv))) ?_)
     obtain rfl:=sj hm
     exact DW.ret (An [roI (c79e3 s4)] [] (ow 0 (Int.toNat s4.2)))
   ·intro h99 hm
    refine Sk ?_
    refine DW.done ?_
    show DW _ _ _ _ _
    refine RD hnt (nn 3 []) [25] [(3,pI (w64 (k1+1)))] [] [] tv ?_
    exact jD () ⟨hlt1,hm⟩ (Conv.tp [(3,pI (w64 (k1+1)))] [] (by kernel_rfl) (.cons rfl (.of_eq (congrArg pI (Rm (lo:=1) (hi:=((p0.length:Nat):Int)) (by omega) hk1 hlt1 (by omega)))) .nil) .nil)
  ·intro h94
   have hge1:¬ k1<((p0.length:Nat):Int):=by have:=of_decide_eq_false h94; omega
   have hm:=he1 hge1
   unfold Xa at hm
   refine DW.exit ?_
   refine Ao ?_
   refine Ba ?_
   refine Ai ?_
   show DW _ _ _ _ _
   refine Sq (RK hnt (nn 2 []) [(2,ow 0 p0.length)] [(0,ob0 (roI p0))] tv ?_)
   obtain rfl:=sj hm
   exact DW.ret (An [roI p0] [] (ow 0 p0.length))
abbrev o79 (ks:List Nat) (b:Bool) (RES:Nat×(List Int)) (sm:List Nat := []):Orc := .call 128 ks b (ow 0 RES.1) [roI RES.2] [] sm

theorem Abp (p0:List Int) (RES:List Int) (hm:Ox p0=some RES):Spec Tryz.prog 122 [.p (slI p0)] [] (ow 0 RES.length) [] [roI RES]:=by
 unfold Ox at hm
 refine SO Tryz.func122 rfl rfl [(0,.p (slI p0))] [] ?_
 intro cx hnt
 refine Sq (RK hnt (.no :: []) [(0,.p (slI p0))] [] tv ?_)
 obtain ⟨r1,hr1,hm⟩:=bo hm
 refine Sq (RK hnt (.no::o39 [] true r1 :: .no :: []) [(3,ow 1040 r1.length)] [(1040,ob0 (roI r1))] (an (Gw p0 r1 hr1) tv) ?_)
 obtain ⟨r2,hr2,hm⟩:=bo hm
 obtain ⟨g3,hm⟩:=go1 hm
 refine Sq (RN hnt (.no::o59 [1040] true r2 :: []) [(3,ow 1040 r2.length)] [(1040,ob0 (roI r2))] [(3,ow 1040 r1.length)] [] (an (Xl r1 r2 hr2) (an (⟨rfl,g3⟩:Body.same (roI r1) (roI r2)) tv)) (by kernel_rfl) (.cons rfl (MLe.of_eq (congrArg (MV.own 1040 0 0) g3)) .nil) .nil ?_)
 obtain ⟨r4,hr4,hm⟩:=bo hm
 obtain ⟨g5,g6,hm⟩:=go2 hm
 refine Sq (RK hnt (.no::o79 [1040] true r4 :: .no :: []) [(2,ow 1040 r4.1)] [(1040,ob0 (roI r4.2))] (an (AbO r2 r4 hr4) (an (⟨rfl,g5⟩:Body.same (roI r2) (roI r4.2)) tv)) ?_)
 refine DW.conv (τ:=Af [(2,ow 1040 (r4.2.take r4.1).length)] [(1040,ob0 (roI (r4.2.take r4.1)))]) (Conv.trans (τ:=Af [(2,ow 1040 r4.1)] [(1040,ob0 (.row 1 r4.1 (elI r4.2)))]) (Conv.cut 1040 r4.1 (And.intro (show r4.1≤r4.2.length by omega) (an (Nat.le_of_eq (Nat.zero_add r4.1)) tv))) (Conv.tp [(2,ow 1040 r4.1)] [(1040,.row 1 r4.1 (elI r4.2))] (by kernel_rfl) (.cons rfl (MLe.ownLen (enc:=Au) (d:=0) (f:=(elI r4.2)) (RowIs.elems.take (by omega))) .nil) (.cons rfl (BLe.typed (RowIs.elems.take (by omega))) .nil))) ?_
 obtain rfl:=sj hm
 exact DW.ret (An [roI (r4.2.take r4.1)] [1040] (ow 0 (r4.2.take r4.1).length))
abbrev o58 (ks:List Nat) (b:Bool) (RES:List Int) (sm:List Nat := []):Orc := .call 122 ks b (ow 0 RES.length) [] [roI RES] sm

theorem Afp (p0:Int) (p1:List Int) (RES:Bool) (hm:Wu p0 p1=some RES):Spec Tryz.prog 111 [pI p0,rr 0] [.box [.p (slI p1)]] (pB RES) [.box [.p (slI p1)]] []:=by
 unfold Wu at hm
 refine SO Tryz.func111 rfl rfl [(0,pI p0),(1,rr 0)] [(0,bx [.p (slI p1)])] ?_
 intro cx hnt
 refine Sq (RD hnt (.no :: []) [] [] [] [] tv ?_)
 obtain ⟨r1,hr1,hm⟩:=bo hm
 refine Sq (RD hnt (nn 2 (o53 [] true r1::nn 2 [])) [0,1] [(3,pB (!r1))] [] [] (an (AaE p1 p0 r1 hr1) tv) ?_)
 obtain rfl:=sj hm
 exact DW.ret (An [.box [.p (slI p1)]] [] (pB (!r1)))

theorem Pb (p0:Int) (p1c0:List Int) (RES:Bool) (hm:Gd p0 p1c0=some RES):Spec Tryz.prog 123 [pI p0,rr 0] [.box [.fn 111 [rr 1]],.box [.p (slI p1c0)]] (pB RES) [.box [.fn 111 [rr 1]],.box [.p (slI p1c0)]] []:=by
 unfold Gd at hm
 refine SO Tryz.func123 rfl rfl [(0,pI p0),(1,rr 0)] [(0,bx [.fn 111 [rr 1]]),(1,bx [.p (slI p1c0)])] ?_
 intro cx hnt
 refine Sq (RD hnt (.no :: []) [] [] [] [] tv ?_)
 obtain ⟨r1,hr1,hm⟩:=bo hm
 refine Sq (RD hnt (nn 2 (.call 111 [1] true (pB r1) [.box [.p (slI p1c0)]] [] []::nn 2 [])) [0,1] [(3,pB (!r1))] [] [] (an (Afp p0 p1c0 r1 hr1) (an tv tv)) ?_)
 obtain rfl:=sj hm
 exact DW.ret (An [.box [.fn 111 [rr 1]],.box [.p (slI p1c0)]] [] (pB (!r1)))

theorem Mj (p0:List Int) (p1c0c0:List Int) (RES:Int) (hm:Dy p0 p1c0c0=some RES):Spec Tryz.prog 126 [ow 0 p0.length,.fn 123 [rr 1]] [roI p0,.box [.fn 111 [rr 2]],.box [.p (slI p1c0c0)]] (pI RES) [roI p0,.box [.fn 111 [rr 2]],.box [.p (slI p1c0c0)]] []:=by
 unfold Dy at hm
 refine SO Tryz.func126 rfl rfl [(0,ow 0 p0.length),(1,.fn 123 [rr 1])] [(0,ob0 (roI p0)),(1,bx [.fn 111 [rr 2]]),(2,bx [.p (slI p1c0c0)])] ?_
 intro cx hnt
 refine Sq (RD hnt (.no :: []) [] [] [] [] tv ?_)
 refine Sq (Sq (RD hnt (nn 3 []) [] [(7,pI ((p0.length:Nat):Int)),(8,pI 0)] [] [] tv ?_))
 refine Bk ?_
 obtain ⟨hc1,hm⟩:=go1 hm
 refine DW.rangeO (fun (k1:Nat) (s1:Unit)=>Af [(0,ow 0 p0.length),(1,.fn 123 [rr 1]),(7,pI ((p0.length:Nat):Int)),(8,pI ((k1:Nat):Int))] [(0,ob0 (roI p0)),(1,bx [.fn 111 [rr 2]]),(2,bx [.p (slI p1c0c0)])]) 0 hm Conv.eqK ?_
 intro k1 s1 n1 hk1 hs1 he1
 refine Sq (RD hnt (.no :: []) [] [(9,pB (decide (((k1:Nat):Int)<((p0.length:Nat):Int))))] [] [] tv ?_)
 refine Sq (Cv (decide (((k1:Nat):Int)<((p0.length:Nat):Int))) ?_ ?_)
 ·intro h11
  have hlt1:k1<p0.length:=by have:=of_decide_eq_true h11; omega
  have hm:=hs1 hlt1
  unfold Ey at hm
  refine Sk ?_
  refine Sq (Bk ?_)
  refine Sq (RD hnt (nn 2 []) [9] [(5,pI ((k1:Nat):Int))] [] [] tv ?_)
  obtain ⟨r12,hr12,hm⟩:=bo hm
  refine Sq (RD hnt (nn 5 (.call 123 [1,2] true (pB r12) [.box [.fn 111 [rr 1]],.box [.p (slI p1c0c0)]] [] [] :: [])) [] [(16,pB r12)] [] [] (an (nn0 k1) (an (ltc hlt1) (an (by omega:k1<p0.length) (an (Pb (p0.getD k1 0) p1c0c0 r12 hr12) (an2 tv tv))))) ?_)
  refine Ar hm ?_ ?_
  ·intro h13 hm
   refine Sq (RD hnt (nn 2 []) [0,1,5,7,8,16] [(4,pI ((k1:Nat):Int))] [] [] tv ?_)
   obtain rfl:=sj hm
   exact DW.ret (An [roI p0,.box [.fn 111 [rr 2]],.box [.p (slI p1c0c0)]] [] (pI ((k1:Nat):Int)))
  ·intro h13 hm
   refine Sk ?_
   refine DW.done ?_
   show DW _ _ _ _ _
   refine RD hnt (nn 2 []) [5,16] [(8,pI (w64 (((k1:Nat):Int)+1)))] [] [] tv ?_
   exact jD () ⟨hlt1,hm⟩ (Conv.tp [(8,pI (w64 (((k1:Nat):Int)+1)))] [] (by kernel_rfl) (.cons rfl (.of_eq (congrArg pI (Bt hlt1 hc1))) .nil) .nil)
 ·intro h11
  have hge1:¬ k1<p0.length:=by have:=of_decide_eq_false h11; omega
  have hm:=he1 hge1
  unfold Ho at hm
  refine DW.exit ?_
  refine Ao ?_
  refine Ba ?_
  refine Ai ?_
  show DW _ _ _ _ _
  refine Sq (RD hnt (.no :: []) [0,1,7,8,9] [(4,pI (-1))] [] [] tv ?_)
  obtain rfl:=sj hm
  exact DW.ret (An [roI p0,.box [.fn 111 [rr 2]],.box [.p (slI p1c0c0)]] [] (pI (-1)))

abbrev Aaj (s1:(List Int)×Int×Int):=(s1.1.getD (Int.toNat s1.2.2) 0)
abbrev c80e2 (s1:(List Int)×Int×Int):=(Jr s1.1 (Int.toNat s1.2.1) (Cr s1.1.length (Int.toNat s1.2.1)) 0)
theorem Ma (p0:List Int) (p1c0c0:List Int) (RES:Nat×(List Int)×(List Int)) (hm:Cu p0 p1c0c0=some RES):Spec Tryz.prog 121 [ow 0 p0.length,.fn 123 [rr 1]] [roI p0,.box [.fn 111 [rr 2]],.box [.p (slI p1c0c0)]] (ow 0 RES.1) [roI RES.2.1,.box [.fn 111 [rr 2]],.box [.p (slI RES.2.2)]] []:=by
 unfold Cu at hm
 refine SO Tryz.func121 rfl rfl [(0,ow 0 p0.length),(1,.fn 123 [rr 1])] [(0,ob0 (roI p0)),(1,bx [.fn 111 [rr 2]]),(2,bx [.p (slI p1c0c0)])] ?_
 intro cx hnt
 refine Sq (RD hnt (.no :: []) [] [] [] [] tv ?_)
 obtain ⟨r1,hr1,hm⟩:=bo hm
 refine Sq (RD hnt (nn 2 (.call 126 [0,1,2] true (pI r1) [roI p0,.box [.fn 111 [rr 2]],.box [.p (slI p1c0c0)]] [] [] :: .no :: [])) [] [(5,pI r1)] [] [] (an (Mj p0 p1c0c0 r1 hr1) (an (⟨rfl,rfl⟩:Body.same (roI p0) (roI p0)) (an2 tv tv))) ?_)
 refine Sq (Sq (RD hnt (nn 2 []) [] [(12,pB (r1==(-1)))] [] [] tv ?_))
 refine Ar hm ?_ ?_
 ·intro h2 hm
  refine Sq (RD hnt (nn 2 []) [0,1,5,12] [(4,ow 0 p0.length)] [] [] tv ?_)
  obtain rfl:=sj hm
  exact DW.ret (An [roI p0,.box [.fn 111 [rr 2]],.box [.p (slI p1c0c0)]] [] (ow 0 p0.length))
 ·intro h2 hm
  refine Sk ?_
  refine Sq (Sq (RD hnt (nn 3 []) [12] [(6,pI (w64 (r1+1)))] [] [] tv ?_))
  refine Bk ?_
  refine DW.whileO (fun (s1:(List Int)×Int×Int)=>Af [(0,ow 0 s1.1.length),(1,.fn 123 [rr 1]),(5,pI s1.2.1),(6,pI s1.2.2)] [(0,ob0 (roI s1.1)),(1,bx [.fn 111 [rr 2]]),(2,bx [.p (slI p1c0c0)])]) hm Conv.eqK ?_
  intro s1 n1 hm
  unfold Dr at hm
  refine Sq (Sq (RD hnt (nn 4 []) [] [(19,pB (decide (s1.2.2<((s1.1.length:Nat):Int))))] [] [] tv ?_))
  refine Ar hm ?_ ?_
  ·intro h13 hm
   refine Sk ?_
   refine Sq ?_
   refine Jn (ι:=(List Int)×Int) (fun (y2:(List Int)×Int)=>Af [(0,ow 0 y2.1.length),(1,.fn 123 [rr 1]),(5,pI y2.2),(6,pI s1.2.2)] [(0,ob0 (roI y2.1)),(1,bx [.fn 111 [rr 2]]),(2,bx [.p (slI p1c0c0)])]) (fun y2=>(Cp s1 n1) y2=some RES) ?_ ?_
   ·intro y2 hm
    unfold Cp at hm
    refine RD hnt (nn 3 []) [] [(6,pI (w64 (s1.2.2+1)))] [] [] tv ?_
    exact jD (y2.1,y2.2,(w64 (s1.2.2+1))) hm Conv.eqK
   ·refine Bk ?_
    obtain ⟨g14,g15,hm⟩:=go2 hm
    refine Sq (RD hnt (nn 5 []) [19] [(7,pI (Aaj s1))] [] [] (an g14.1 (an g14.2 (an g15 tv))) ?_)
    obtain ⟨r16,hr16,hm⟩:=bo hm
    refine Sq (RD hnt (nn 2 (.call 123 [1,2] true (pB r16) [.box [.fn 111 [rr 1]],.box [.p (slI p1c0c0)]] [] [] :: .no :: [])) [] [(29,pB (!r16))] [] [] (an (Pb (Aaj s1) p1c0c0 r16 hr16) (an2 tv tv)) ?_)
    refine Ar hm ?_ ?_
    ·intro h17 hm
     obtain ⟨g18,g19,hm⟩:=go2 hm
     refine Sq (RN hnt (nn 5 []) [(0,ow 0 (s1.1.set (Int.toNat s1.2.1) (Aaj s1)).length),(1,.fn 123 [rr 1]),(5,pI s1.2.1),(6,pI s1.2.2)] [(0,ob0 (roI (s1.1.set (Int.toNat s1.2.1) (Aaj s1)))),(1,bx [.fn 111 [rr 2]]),(2,bx [.p (slI p1c0c0)])] [(0,ow 0 s1.1.length)] [(0,.row 1 s1.1.length (Bs (elI s1.1) (Int.toNat s1.2.1) [vi (Aaj s1)]))] (an g18.1 (an g18.2 (an g19 tv))) (by kernel_rfl) (.cons rfl (MLe.ownLen (enc:=Au) (d:=0) (f:=(Bs (elI s1.1) (Int.toNat s1.2.1) [vi (Aaj s1)])) (RowIs.upd RowIs.elems (Aaj s1) rfl)) .nil) (.cons rfl (BLe.typed (RowIs.upd RowIs.elems (Aaj s1) rfl)) .nil) ?_)
     refine RD hnt (nn 3 []) [] [(5,pI (w64 (s1.2.1+1)))] [] [] tv ?_
     exact bD ((s1.1.set (Int.toNat s1.2.1) (Aaj s1)),(w64 (s1.2.1+1))) hm Conv.eqK
    ·intro h17 hm
     refine Sk ?_
     exact bD (s1.1,s1.2.1) hm Conv.t0
  ·intro h13 hm
   refine DW.exit ?_
   refine Ao ?_
   refine Ba ?_
   refine Ai ?_
   show DW _ _ _ _ _
   obtain ⟨g20,g21,hm⟩:=go2 hm
   refine Sq (RN hnt (nn 4 []) [(0,ow 0 (c80e2 s1).length),(5,pI s1.2.1)] [(0,ob0 (roI (c80e2 s1))),(1,bx [.fn 111 [rr 2]]),(2,bx [.p (slI p1c0c0)])] [(0,ow 0 s1.1.length)] [(0,.row 1 s1.1.length (Kw (elI s1.1) (Int.toNat s1.2.1) (Cr s1.1.length (Int.toNat s1.2.1)) (fun _ => [vi 0])))] (an (by omega:(0:Int)≤s1.2.1) (an (by omega:s1.2.1≤((s1.1.length:Nat):Int)) (an (by omega:((s1.1.length:Nat):Int)≤((s1.1.length:Nat):Int)) (an g21 tv)))) (by kernel_rfl) (.cons rfl (MLe.ownLen (enc:=Au) (d:=0) (f:=(Kw (elI s1.1) (Int.toNat s1.2.1) (Cr s1.1.length (Int.toNat s1.2.1)) (fun _ => [vi 0]))) (RowIs.fill RowIs.elems 0 rfl (by first|exact g21|omega))) .nil) (.cons rfl (BLe.typed (RowIs.fill RowIs.elems 0 rfl (by first|exact g21|omega))) .nil) ?_)
   obtain ⟨g22,hm⟩:=go1 hm
   refine Sq (RD hnt (nn 4 []) [0,5] [(4,ow 0 (Int.toNat s1.2.1))] [] [] (an (by omega:(0:Int)≤0) (an (by omega:(0:Int)≤s1.2.1) (an (by omega:s1.2.1≤(((Jr s1.1 (Int.toNat s1.2.1) (Cr s1.1.length (Int.toNat s1.2.1)) 0).length:Nat):Int)) tv))) ?_)
   obtain rfl:=sj hm
   exact DW.ret (An [roI (c80e2 s1),.box [.fn 111 [rr 2]],.box [.p (slI p1c0c0)]] [] (ow 0 (Int.toNat s1.2.1)))
abbrev o80 (ks:List Nat) (b:Bool) (RES:Nat×(List Int)×(List Int)) (sm:List Nat := []):Orc := .call 121 ks b (ow 0 RES.1) [roI RES.2.1,.box [.fn 111 [rr 2]],.box [.p (slI RES.2.2)]] [] sm

theorem Yj (p0:List Int) (p1c0:List Int) (RES:(List Int)×(List Int)) (hm:Kj p0 p1c0=some RES):Spec Tryz.prog 97 [.p (slI p0),.fn 111 [rr 0]] [.box [.p (slI p1c0)]] (ow 1 RES.1.length) [.box [.p (slI RES.2)]] [roI RES.1]:=by
 unfold Kj at hm
 refine SO Tryz.func97 rfl rfl [(0,.p (slI p0)),(1,.fn 111 [rr 0])] [(0,bx [.p (slI p1c0)])] ?_
 intro cx hnt
 refine Sq (RD hnt (nn 2 []) [1] [(3,rr 1024)] [] [(1024,bx [.fn 111 [rr 0]])] tv ?_)
 obtain ⟨r1,hr1,hm⟩:=bo hm
 obtain ⟨r2,hr2,hm⟩:=bo hm
 obtain ⟨g3,g4,hm⟩:=go2 hm
 refine Sq (RK hnt (.no::o58 [] true r1 :: .no::o80 [1048,1024,0] true r2 :: .no :: []) [(4,ow 1048 r2.1)] [(0,bx [.p (slI r2.2.2)]),(1048,ob0 (roI r2.2.1))] (an (Abp p0 r1 hr1) (an (Ma r1 p1c0 r2 hr2) (an (⟨rfl,g3⟩:Body.same (roI r1) (roI r2.2.1)) (an2 tv tv)))) ?_)
 refine DW.conv (τ:=Af [(4,ow 1048 (r2.2.1.take r2.1).length)] [(0,bx [.p (slI r2.2.2)]),(1048,ob0 (roI (r2.2.1.take r2.1)))]) (Conv.trans (τ:=Af [(4,ow 1048 r2.1)] [(0,bx [.p (slI r2.2.2)]),(1048,ob0 (.row 1 r2.1 (elI r2.2.1)))]) (Conv.cut 1048 r2.1 (And.intro (show r2.1≤r2.2.1.length by omega) (an (Nat.le_of_eq (Nat.zero_add r2.1)) tv))) (Conv.tp [(4,ow 1048 r2.1)] [(1048,.row 1 r2.1 (elI r2.2.1))] (by kernel_rfl) (.cons rfl (MLe.ownLen (enc:=Au) (d:=0) (f:=(elI r2.2.1)) (RowIs.elems.take (by omega))) .nil) (.cons rfl (BLe.typed (RowIs.elems.take (by omega))) .nil))) ?_
 obtain rfl:=sj hm
 exact DW.ret (An [.box [.p (slI r2.2.2)],roI (r2.2.1.take r2.1)] [1048] (ow 1 (r2.2.1.take r2.1).length))
abbrev o57 (ks:List Nat) (b:Bool) (RES:(List Int)×(List Int)) (sm:List Nat := []):Orc := .call 97 ks b (ow 1 RES.1.length) [.box [.p (slI RES.2)]] [roI RES.1] sm

theorem AgE (p0:List Int) (p1:List Int) (RES:List Int) (hm:Tx p0 p1=some RES):Spec Tryz.prog 81 [.p (slI p0),.p (slI p1)] [] (ow 0 RES.length) [] [roI RES]:=by
 unfold Tx at hm
 refine SO Tryz.func81 rfl rfl [(0,.p (slI p0)),(1,.p (slI p1))] [] ?_
 intro cx hnt
 refine Sq (RD hnt (nn 2 []) [1] [(3,rr 1024)] [] [(1024,bx [.p (slI p1)])] tv ?_)
 obtain ⟨r1,hr1,hm⟩:=bo hm
 refine Sq (RK hnt (nn 2 (o57 [1024] true r1 :: .no :: [])) [(4,ow 1056 r1.1.length)] [(1056,ob0 (roI r1.1))] (an (Yj p0 p1 r1 hr1) (an tv tv)) ?_)
 obtain rfl:=sj hm
 exact DW.ret (An [roI r1.1] [1056] (ow 0 r1.1.length))
abbrev o56 (ks:List Nat) (b:Bool) (RES:List Int) (sm:List Nat := []):Orc := .call 81 ks b (ow 0 RES.length) [] [roI RES] sm

theorem AcD (p0:Int) (p1:List Int) (RES:Bool) (hm:Qs p0 p1=some RES):Spec Tryz.prog 98 [pI p0,rr 0] [.box [.p (slI p1)]] (pB RES) [.box [.p (slI p1)]] []:=by
 unfold Qs at hm
 refine SO Tryz.func98 rfl rfl [(0,pI p0),(1,rr 0)] [(0,bx [.p (slI p1)])] ?_
 intro cx hnt
 refine Sq (RD hnt (.no :: []) [] [] [] [] tv ?_)
 obtain ⟨r1,hr1,hm⟩:=bo hm
 refine Sq (RD hnt (nn 2 (o53 [] true r1 :: .no :: [])) [0,1] [(3,pB r1)] [] [] (an (AaE p1 p0 r1 hr1) tv) ?_)
 obtain rfl:=sj hm
 exact DW.ret (An [.box [.p (slI p1)]] [] (pB r1))

theorem Mt (p0:Int) (p1c0:List Int) (RES:Bool) (hm:Er p0 p1c0=some RES):Spec Tryz.prog 123 [pI p0,rr 0] [.box [.fn 98 [rr 1]],.box [.p (slI p1c0)]] (pB RES) [.box [.fn 98 [rr 1]],.box [.p (slI p1c0)]] []:=by
 unfold Er at hm
 refine SO Tryz.func123 rfl rfl [(0,pI p0),(1,rr 0)] [(0,bx [.fn 98 [rr 1]]),(1,bx [.p (slI p1c0)])] ?_
 intro cx hnt
 refine Sq (RD hnt (.no :: []) [] [] [] [] tv ?_)
 obtain ⟨r1,hr1,hm⟩:=bo hm
 refine Sq (RD hnt (nn 2 (.call 98 [1] true (pB r1) [.box [.p (slI p1c0)]] [] []::nn 2 [])) [0,1] [(3,pB (!r1))] [] [] (an (AcD p0 p1c0 r1 hr1) (an tv tv)) ?_)
 obtain rfl:=sj hm
 exact DW.ret (An [.box [.fn 98 [rr 1]],.box [.p (slI p1c0)]] [] (pB (!r1)))

theorem Kv (p0:List Int) (p1c0c0:List Int) (RES:Int) (hm:Dl p0 p1c0c0=some RES):Spec Tryz.prog 126 [ow 0 p0.length,.fn 123 [rr 1]] [roI p0,.box [.fn 98 [rr 2]],.box [.p (slI p1c0c0)]] (pI RES) [roI p0,.box [.fn 98 [rr 2]],.box [.p (slI p1c0c0)]] []:=by
 unfold Dl at hm
 refine SO Tryz.func126 rfl rfl [(0,ow 0 p0.length),(1,.fn 123 [rr 1])] [(0,ob0 (roI p0)),(1,bx [.fn 98 [rr 2]]),(2,bx [.p (slI p1c0c0)])] ?_
 intro cx hnt
 refine Sq (RD hnt (.no :: []) [] [] [] [] tv ?_)
 refine Sq (Sq (RD hnt (nn 3 []) [] [(7,pI ((p0.length:Nat):Int)),(8,pI 0)] [] [] tv ?_))
 refine Bk ?_
 obtain ⟨hc1,hm⟩:=go1 hm
 refine DW.rangeO (fun (k1:Nat) (s1:Unit)=>Af [(0,ow 0 p0.length),(1,.fn 123 [rr 1]),(7,pI ((p0.length:Nat):Int)),(8,pI ((k1:Nat):Int))] [(0,ob0 (roI p0)),(1,bx [.fn 98 [rr 2]]),(2,bx [.p (slI p1c0c0)])]) 0 hm Conv.eqK ?_
 intro k1 s1 n1 hk1 hs1 he1
 refine Sq (RD hnt (.no :: []) [] [(9,pB (decide (((k1:Nat):Int)<((p0.length:Nat):Int))))] [] [] tv ?_)
 refine Sq (Cv (decide (((k1:Nat):Int)<((p0.length:Nat):Int))) ?_ ?_)
 ·intro h11
  have hlt1:k1<p0.length:=by have:=of_decide_eq_true h11; omega
  have hm:=hs1 hlt1
  unfold Em at hm
  refine Sk ?_
  refine Sq (Bk ?_)
  refine Sq (RD hnt (nn 2 []) [9] [(5,pI ((k1:Nat):Int))] [] [] tv ?_)
  obtain ⟨r12,hr12,hm⟩:=bo hm
  refine Sq (RD hnt (nn 5 (.call 123 [1,2] true (pB r12) [.box [.fn 98 [rr 1]],.box [.p (slI p1c0c0)]] [] [] :: [])) [] [(16,pB r12)] [] [] (an (nn0 k1) (an (ltc hlt1) (an (by omega:k1<p0.length) (an (Mt (p0.getD k1 0) p1c0c0 r12 hr12) (an2 tv tv))))) ?_)
  refine Ar hm ?_ ?_
  ·intro h13 hm
   refine Sq (RD hnt (nn 2 []) [0,1,5,7,8,16] [(4,pI ((k1:Nat):Int))] [] [] tv ?_)
   obtain rfl:=sj hm
   exact DW.ret (An [roI p0,.box [.fn 98 [rr 2]],.box [.p (slI p1c0c0)]] [] (pI ((k1:Nat):Int)))
  ·intro h13 hm
   refine Sk ?_
   refine DW.done ?_
   show DW _ _ _ _ _
   refine RD hnt (nn 2 []) [5,16] [(8,pI (w64 (((k1:Nat):Int)+1)))] [] [] tv ?_
   exact jD () ⟨hlt1,hm⟩ (Conv.tp [(8,pI (w64 (((k1:Nat):Int)+1)))] [] (by kernel_rfl) (.cons rfl (.of_eq (congrArg pI (Bt hlt1 hc1))) .nil) .nil)
 ·intro h11
  have hge1:¬ k1<p0.length:=by have:=of_decide_eq_false h11; omega
  have hm:=he1 hge1
  unfold Gy at hm
  refine DW.exit ?_
  refine Ao ?_
  refine Ba ?_
  refine Ai ?_
  show DW _ _ _ _ _
  refine Sq (RD hnt (.no :: []) [0,1,7,8,9] [(4,pI (-1))] [] [] tv ?_)
  obtain rfl:=sj hm
  exact DW.ret (An [roI p0,.box [.fn 98 [rr 2]],.box [.p (slI p1c0c0)]] [] (pI (-1)))

abbrev Aak (s1:(List Int)×Int×Int):=(s1.1.getD (Int.toNat s1.2.2) 0)
abbrev c87e2 (s1:(List Int)×Int×Int):=(Jr s1.1 (Int.toNat s1.2.1) (Cr s1.1.length (Int.toNat s1.2.1)) 0)
theorem Kl (p0:List Int) (p1c0c0:List Int) (RES:Nat×(List Int)×(List Int)) (hm:Ck p0 p1c0c0=some RES):Spec Tryz.prog 121 [ow 0 p0.length,.fn 123 [rr 1]] [roI p0,.box [.fn 98 [rr 2]],.box [.p (slI p1c0c0)]] (ow 0 RES.1) [roI RES.2.1,.box [.fn 98 [rr 2]],.box [.p (slI RES.2.2)]] []:=by
 unfold Ck at hm
 refine SO Tryz.func121 rfl rfl [(0,ow 0 p0.length),(1,.fn 123 [rr 1])] [(0,ob0 (roI p0)),(1,bx [.fn 98 [rr 2]]),(2,bx [.p (slI p1c0c0)])] ?_
 intro cx hnt
 refine Sq (RD hnt (.no :: []) [] [] [] [] tv ?_)
 obtain ⟨r1,hr1,hm⟩:=bo hm
 refine Sq (RD hnt (nn 2 (.call 126 [0,1,2] true (pI r1) [roI p0,.box [.fn 98 [rr 2]],.box [.p (slI p1c0c0)]] [] [] :: .no :: [])) [] [(5,pI r1)] [] [] (an (Kv p0 p1c0c0 r1 hr1) (an (⟨rfl,rfl⟩:Body.same (roI p0) (roI p0)) (an2 tv tv))) ?_)
 refine Sq (Sq (RD hnt (nn 2 []) [] [(12,pB (r1==(-1)))] [] [] tv ?_))
 refine Ar hm ?_ ?_
 ·intro h2 hm
  refine Sq (RD hnt (nn 2 []) [0,1,5,12] [(4,ow 0 p0.length)] [] [] tv ?_)
  obtain rfl:=sj hm
  exact DW.ret (An [roI p0,.box [.fn 98 [rr 2]],.box [.p (slI p1c0c0)]] [] (ow 0 p0.length))
 ·intro h2 hm
  refine Sk ?_
  refine Sq (Sq (RD hnt (nn 3 []) [12] [(6,pI (w64 (r1+1)))] [] [] tv ?_))
  refine Bk ?_
  refine DW.whileO (fun (s1:(List Int)×Int×Int)=>Af [(0,ow 0 s1.1.length),(1,.fn 123 [rr 1]),(5,pI s1.2.1),(6,pI s1.2.2)] [(0,ob0 (roI s1.1)),(1,bx [.fn 98 [rr 2]]),(2,bx [.p (slI p1c0c0)])]) hm Conv.eqK ?_
  intro s1 n1 hm
  unfold Dc at hm
  refine Sq (Sq (RD hnt (nn 4 []) [] [(19,pB (decide (s1.2.2<((s1.1.length:Nat):Int))))] [] [] tv ?_))
  refine Ar hm ?_ ?_
  ·intro h13 hm
   refine Sk ?_
   refine Sq ?_
   refine Jn (ι:=(List Int)×Int) (fun (y2:(List Int)×Int)=>Af [(0,ow 0 y2.1.length),(1,.fn 123 [rr 1]),(5,pI y2.2),(6,pI s1.2.2)] [(0,ob0 (roI y2.1)),(1,bx [.fn 98 [rr 2]]),(2,bx [.p (slI p1c0c0)])]) (fun y2=>(Ci s1 n1) y2=some RES) ?_ ?_
   ·intro y2 hm
    unfold Ci at hm
    refine RD hnt (nn 3 []) [] [(6,pI (w64 (s1.2.2+1)))] [] [] tv ?_
    exact jD (y2.1,y2.2,(w64 (s1.2.2+1))) hm Conv.eqK
   ·refine Bk ?_
    obtain ⟨g14,g15,hm⟩:=go2 hm
    refine Sq (RD hnt (nn 5 []) [19] [(7,pI (Aak s1))] [] [] (an g14.1 (an g14.2 (an g15 tv))) ?_)
    obtain ⟨r16,hr16,hm⟩:=bo hm
    refine Sq (RD hnt (nn 2 (.call 123 [1,2] true (pB r16) [.box [.fn 98 [rr 1]],.box [.p (slI p1c0c0)]] [] [] :: .no :: [])) [] [(29,pB (!r16))] [] [] (an (Mt (Aak s1) p1c0c0 r16 hr16) (an2 tv tv)) ?_)
    refine Ar hm ?_ ?_
    ·intro h17 hm
     obtain ⟨g18,g19,hm⟩:=go2 hm
     refine Sq (RN hnt (nn 5 []) [(0,ow 0 (s1.1.set (Int.toNat s1.2.1) (Aak s1)).length),(1,.fn 123 [rr 1]),(5,pI s1.2.1),(6,pI s1.2.2)] [(0,ob0 (roI (s1.1.set (Int.toNat s1.2.1) (Aak s1)))),(1,bx [.fn 98 [rr 2]]),(2,bx [.p (slI p1c0c0)])] [(0,ow 0 s1.1.length)] [(0,.row 1 s1.1.length (Bs (elI s1.1) (Int.toNat s1.2.1) [vi (Aak s1)]))] (an g18.1 (an g18.2 (an g19 tv))) (by kernel_rfl) (.cons rfl (MLe.ownLen (enc:=Au) (d:=0) (f:=(Bs (elI s1.1) (Int.toNat s1.2.1) [vi (Aak s1)])) (RowIs.upd RowIs.elems (Aak s1) rfl)) .nil) (.cons rfl (BLe.typed (RowIs.upd RowIs.elems (Aak s1) rfl)) .nil) ?_)
     refine RD hnt (nn 3 []) [] [(5,pI (w64 (s1.2.1+1)))] [] [] tv ?_
     exact bD ((s1.1.set (Int.toNat s1.2.1) (Aak s1)),(w64 (s1.2.1+1))) hm Conv.eqK
    ·intro h17 hm
     refine Sk ?_
     exact bD (s1.1,s1.2.1) hm Conv.t0
  ·intro h13 hm
   refine DW.exit ?_
   refine Ao ?_
   refine Ba ?_
   refine Ai ?_
   show DW _ _ _ _ _
   obtain ⟨g20,g21,hm⟩:=go2 hm
   refine Sq (RN hnt (nn 4 []) [(0,ow 0 (c87e2 s1).length),(5,pI s1.2.1)] [(0,ob0 (roI (c87e2 s1))),(1,bx [.fn 98 [rr 2]]),(2,bx [.p (slI p1c0c0)])] [(0,ow 0 s1.1.length)] [(0,.row 1 s1.1.length (Kw (elI s1.1) (Int.toNat s1.2.1) (Cr s1.1.length (Int.toNat s1.2.1)) (fun _ => [vi 0])))] (an (by omega:(0:Int)≤s1.2.1) (an (by omega:s1.2.1≤((s1.1.length:Nat):Int)) (an (by omega:((s1.1.length:Nat):Int)≤((s1.1.length:Nat):Int)) (an g21 tv)))) (by kernel_rfl) (.cons rfl (MLe.ownLen (enc:=Au) (d:=0) (f:=(Kw (elI s1.1) (Int.toNat s1.2.1) (Cr s1.1.length (Int.toNat s1.2.1)) (fun _ => [vi 0]))) (RowIs.fill RowIs.elems 0 rfl (by first|exact g21|omega))) .nil) (.cons rfl (BLe.typed (RowIs.fill RowIs.elems 0 rfl (by first|exact g21|omega))) .nil) ?_)
   obtain ⟨g22,hm⟩:=go1 hm
   refine Sq (RD hnt (nn 4 []) [0,5] [(4,ow 0 (Int.toNat s1.2.1))] [] [] (an (by omega:(0:Int)≤0) (an (by omega:(0:Int)≤s1.2.1) (an (by omega:s1.2.1≤(((Jr s1.1 (Int.toNat s1.2.1) (Cr s1.1.length (Int.toNat s1.2.1)) 0).length:Nat):Int)) tv))) ?_)
   obtain rfl:=sj hm
   exact DW.ret (An [roI (c87e2 s1),.box [.fn 98 [rr 2]],.box [.p (slI p1c0c0)]] [] (ow 0 (Int.toNat s1.2.1)))
abbrev o87 (ks:List Nat) (b:Bool) (RES:Nat×(List Int)×(List Int)) (sm:List Nat := []):Orc := .call 121 ks b (ow 0 RES.1) [roI RES.2.1,.box [.fn 98 [rr 2]],.box [.p (slI RES.2.2)]] [] sm

theorem Vv (p0:List Int) (p1c0:List Int) (RES:(List Int)×(List Int)) (hm:Iy p0 p1c0=some RES):Spec Tryz.prog 97 [.p (slI p0),.fn 98 [rr 0]] [.box [.p (slI p1c0)]] (ow 1 RES.1.length) [.box [.p (slI RES.2)]] [roI RES.1]:=by
 unfold Iy at hm
 refine SO Tryz.func97 rfl rfl [(0,.p (slI p0)),(1,.fn 98 [rr 0])] [(0,bx [.p (slI p1c0)])] ?_
 intro cx hnt
 refine Sq (RD hnt (nn 2 []) [1] [(3,rr 1024)] [] [(1024,bx [.fn 98 [rr 0]])] tv ?_)
 obtain ⟨r1,hr1,hm⟩:=bo hm
 obtain ⟨r2,hr2,hm⟩:=bo hm
 obtain ⟨g3,g4,hm⟩:=go2 hm
 refine Sq (RK hnt (.no::o58 [] true r1 :: .no::o87 [1048,1024,0] true r2 :: .no :: []) [(4,ow 1048 r2.1)] [(0,bx [.p (slI r2.2.2)]),(1048,ob0 (roI r2.2.1))] (an (Abp p0 r1 hr1) (an (Kl r1 p1c0 r2 hr2) (an (⟨rfl,g3⟩:Body.same (roI r1) (roI r2.2.1)) (an2 tv tv)))) ?_)
 refine DW.conv (τ:=Af [(4,ow 1048 (r2.2.1.take r2.1).length)] [(0,bx [.p (slI r2.2.2)]),(1048,ob0 (roI (r2.2.1.take r2.1)))]) (Conv.trans (τ:=Af [(4,ow 1048 r2.1)] [(0,bx [.p (slI r2.2.2)]),(1048,ob0 (.row 1 r2.1 (elI r2.2.1)))]) (Conv.cut 1048 r2.1 (And.intro (show r2.1≤r2.2.1.length by omega) (an (Nat.le_of_eq (Nat.zero_add r2.1)) tv))) (Conv.tp [(4,ow 1048 r2.1)] [(1048,.row 1 r2.1 (elI r2.2.1))] (by kernel_rfl) (.cons rfl (MLe.ownLen (enc:=Au) (d:=0) (f:=(elI r2.2.1)) (RowIs.elems.take (by omega))) .nil) (.cons rfl (BLe.typed (RowIs.elems.take (by omega))) .nil))) ?_
 obtain rfl:=sj hm
 exact DW.ret (An [.box [.p (slI r2.2.2)],roI (r2.2.1.take r2.1)] [1048] (ow 1 (r2.2.1.take r2.1).length))
abbrev o86 (ks:List Nat) (b:Bool) (RES:(List Int)×(List Int)) (sm:List Nat := []):Orc := .call 97 ks b (ow 1 RES.1.length) [.box [.p (slI RES.2)]] [roI RES.1] sm

theorem Adq (p0:List Int) (p1:List Int) (RES:List Int) (hm:Pz p0 p1=some RES):Spec Tryz.prog 68 [.p (slI p0),.p (slI p1)] [] (ow 0 RES.length) [] [roI RES]:=by
 unfold Pz at hm
 refine SO Tryz.func68 rfl rfl [(0,.p (slI p0)),(1,.p (slI p1))] [] ?_
 intro cx hnt
 refine Sq (RD hnt (nn 2 []) [1] [(3,rr 1024)] [] [(1024,bx [.p (slI p1)])] tv ?_)
 obtain ⟨r1,hr1,hm⟩:=bo hm
 refine Sq (RK hnt (nn 2 (o86 [1024] true r1 :: .no :: [])) [(4,ow 1056 r1.1.length)] [(1056,ob0 (roI r1.1))] (an (Vv p0 p1 r1 hr1) (an tv tv)) ?_)
 obtain rfl:=sj hm
 exact DW.ret (An [roI r1.1] [1056] (ow 0 r1.1.length))
abbrev o85 (ks:List Nat) (b:Bool) (RES:List Int) (sm:List Nat := []):Orc := .call 68 ks b (ow 0 RES.length) [] [roI RES] sm

theorem Zs (p0:List Int) (p1:List Int) (RES:List Int) (hm:Pp p0 p1=some RES):Spec Tryz.prog 41 [.p (slI p0),.p (slI p1)] [] (.p (slI RES)) [] []:=by
 unfold Pp at hm
 refine SO Tryz.func41 rfl rfl [(0,.p (slI p0)),(1,.p (slI p1))] [] ?_
 intro cx hnt
 refine Sq (RD hnt (.no :: []) [] [] [] [] tv ?_)
 obtain ⟨r1,hr1,hm⟩:=bo hm
 refine Sq (Sq (RD hnt (nn 2 (o85 [] true r1 :: .no :: [])) [0] [(5,ow 1064 r1.length)] [] [(1064,ob0 (roI r1))] (an (Adq p0 p1 r1 hr1) tv) ?_))
 refine Sq (RD hnt (nn 3 []) [] [(11,pB (decide (((r1.length:Nat):Int)>0)))] [] [] tv ?_)
 refine Ar hm ?_ ?_
 ·intro h2 hm
  refine Sq (RK hnt (nn 2 []) [(4,ow 1064 r1.length)] [(1064,ob0 (roI r1))] tv ?_)
  obtain rfl:=sj hm
  exact DW.ret (An [] [] (.p (slI r1)))
 ·intro h2 hm
  refine Sk ?_
  obtain ⟨r3,hr3,hm⟩:=bo hm
  refine Sq (RK hnt (.no::o39 [] true r3 :: .no :: []) [(4,ow 1112 r3.length)] [(1112,ob0 (roI r3))] (an (Gw p1 r3 hr3) tv) ?_)
  obtain rfl:=sj hm
  exact DW.ret (An [] [] (.p (slI r3)))
abbrev o91 (ks:List Nat) (b:Bool) (RES:List Int) (sm:List Nat := []):Orc := .call 41 ks b (.p (slI RES)) [] [] sm

abbrev AcS (p0:plan):Nat×Obj:=(0,bx [.p (Da p0.tree.nodes),pI p0.tree.next,.p (Ah p0.configs),.mref 1 0,.mref 2 0])
abbrev c40e2 (r77:At):Nat×Obj:=(1080,bx [pI r77.pidsMax,pI r77.weight,pI r77.quota,pI r77.period,pI r77.burst,pI r77.clampMin,pI r77.clampMax,ow 1256 r77.cpus.length,ow 1257 r77.mems.length,pI r77.partition,pI r77.memory.min,pI r77.memory.low,pI r77.memory.high,pI r77.memory.max,pI r77.memory.swapMax,pB r77.memory.together,ow 1258 r77.devices.length])
abbrev c40e3 (r77:At):Nat×Obj:=(1080,bx [pI r77.pidsMax,pI r77.weight,pI r77.quota,pI r77.period,pI r77.burst,pI r77.clampMin,pI r77.clampMax,.p (slI r77.cpus),ow 1257 r77.mems.length,pI r77.partition,pI r77.memory.min,pI r77.memory.low,pI r77.memory.high,pI r77.memory.max,pI r77.memory.swapMax,pB r77.memory.together,ow 1258 r77.devices.length])
abbrev AeE (p0:plan):Nat×Obj:=(1,ob0 (Ce slI (slI []) p0.sets))
abbrev Aep (r1:List Int):Nat×MV:=(22,pI ((r1.length:Nat):Int))
theorem AaM (rec:plan→Int→(List Int)→Option plan) (ih:∀ (p0:plan) (p1:Int) (p2:List Int) (RES:plan),rec p0 p1 p2=some RES→Spec Tryz.prog 60 [rr 0,pI p1,.p (slI p2)] [.box [.p (Da p0.tree.nodes),pI p0.tree.next,.p (Ah p0.configs),.mref 1 0,.mref 2 0],Ce slI (slI []) p0.sets,Ce vb (vb false) p0.partitions] (.p (.tup [])) [.box [.p (Da RES.tree.nodes),pI RES.tree.next,.p (Ah RES.configs),.mref 1 0,.mref 2 0],Ce slI (slI []) RES.sets,Ce vb (vb false) RES.partitions] []) (p0:plan) (p1:Int) (p2:List Int) (RES:plan) (hm:Jz rec p0 p1 p2=some RES):Spec Tryz.prog 60 [rr 0,pI p1,.p (slI p2)] [.box [.p (Da p0.tree.nodes),pI p0.tree.next,.p (Ah p0.configs),.mref 1 0,.mref 2 0],Ce slI (slI []) p0.sets,Ce vb (vb false) p0.partitions] (.p (.tup [])) [.box [.p (Da RES.tree.nodes),pI RES.tree.next,.p (Ah RES.configs),.mref 1 0,.mref 2 0],Ce slI (slI []) RES.sets,Ce vb (vb false) RES.partitions] []:=by
 unfold Jz at hm
 refine SO Tryz.func60 rfl rfl [(0,rr 0),(1,pI p1),(2,.p (slI p2))] [(AcS p0),(AeE p0),(2,ob0 (Ce vb (vb false) p0.partitions))] ?_
 intro cx hnt
 refine Sq (RD hnt (.no :: []) [] [(6,.p (.sl .nil 0 0 (fun _ => [])))] [] [] tv ?_)
 refine Sq (RD hnt (.asM (slI []) (IMap.empty ([]:List Int)).has (fun j=>slI ((IMap.empty ([]:List Int)).get j)) :: .no :: []) [] [(7,.mref 1120 0)] [] [(1120,ob0 (Ce slI (slI []) (IMap.empty ([]:List Int))))] (an (mnew_le slI (.sl .nil 0 0 fun _ => []) ([]:List Int) PLe.nilL) tv) ?_)
 obtain ⟨r1,hr1,hm⟩:=bo hm
 refine Sq (Sq (RD hnt (nn 5 (o41 [] true r1::nn 2 [])) [] [(21,ow 1168 r1.length),(Aep r1),(23,pI 0)] [] [(1168,ob0 (roI r1))] (an (Adn p0.tree p1 r1 hr1) tv) ?_))
 refine Bk ?_
 obtain ⟨hc1,hm⟩:=go1 hm
 refine DW.rangeO (fun (k1:Nat) (s1:(IMap (List Int))×(List Int)×(IMap Bool)×(List Int))=>Af [(0,rr 0),(1,pI p1),(2,.p (slI s1.2.2.2)),(6,ow 1656 s1.2.1.length),(7,.mref 1120 0),(21,ow 1168 r1.length),(Aep r1),(23,pI ((k1:Nat):Int))] [(AcS p0),(AeE p0),(2,ob0 (Ce vb (vb false) s1.2.2.1)),(1120,ob0 (Ce slI (slI []) s1.1)),(1168,ob0 (roI r1)),(1656,ob0 (roI s1.2.1))]) 0 hm (Conv.ads [(.s 6,1656,1,elems Au 0 [])]) ?_
 intro k1 s1 n1 hk1 hs1 he1
 refine Sq (RD hnt (.no :: []) [] [(24,pB (decide (((k1:Nat):Int)<((r1.length:Nat):Int))))] [] [] tv ?_)
 refine Sq (Cv (decide (((k1:Nat):Int)<((r1.length:Nat):Int))) ?_ ?_)
 ·intro h76
  have hlt1:k1<r1.length:=by have:=of_decide_eq_true h76; omega
  have hm:=hs1 hlt1
  unfold Py at hm
  refine Sk ?_
  refine Sq ?_
  refine Jn (ι:=(IMap (List Int))×(List Int)×(IMap Bool)×(List Int)) (fun (y5:(IMap (List Int))×(List Int)×(IMap Bool)×(List Int))=>Af [(0,rr 0),(1,pI p1),(2,.p (slI y5.2.2.2)),(6,ow 1656 y5.2.1.length),(7,.mref 1120 0),(21,ow 1168 r1.length),(Aep r1),(23,pI ((k1:Nat):Int))] [(AcS p0),(AeE p0),(2,ob0 (Ce vb (vb false) y5.2.2.1)),(1120,ob0 (Ce slI (slI []) y5.1)),(1168,ob0 (roI r1)),(1656,ob0 (roI y5.2.1))]) (fun y5=>(Jp n1) y5=some RES) ?_ ?_
  ·intro y5 hm
   unfold Jp at hm
   refine RD hnt (nn 2 []) [] [(23,pI (w64 (((k1:Nat):Int)+1)))] [] [] tv ?_
   exact jD (y5.1,y5.2.1,y5.2.2.1,y5.2.2.2) ⟨hlt1,hm⟩ (Conv.tp [(23,pI (w64 (((k1:Nat):Int)+1)))] [] (by kernel_rfl) (.cons rfl (.of_eq (congrArg pI (Bt hlt1 hc1))) .nil) .nil)
  ·refine Bk ?_
   refine Sq (RD hnt (nn 3 []) [24] [(9,pI (r1.getD k1 0))] [] [] (an (nn0 k1) (an (ltc hlt1) (an (by omega:k1<r1.length) tv))) ?_)
   obtain ⟨r77,hr77,hm⟩:=bo hm
   refine Sq (RD hnt (nn 5 (o42 [] true r77::nn 2 [])) [] [(10,rr 1080)] [] [(c40e2 r77),(1256,ob0 (roI r77.cpus)),(1257,ob0 (roI r77.mems)),(1258,ob0 (Aj r77.devices))] (an (Uy p0.configs (r1.getD k1 0) r77 hr77) tv) ?_)
   refine Sq ?_
   refine Jn (ι:=Bool) (fun (y6:Bool)=>Af [(0,rr 0),(1,pI p1),(2,.p (slI s1.2.2.2)),(6,ow 1656 s1.2.1.length),(7,.mref 1120 0),(9,pI (r1.getD k1 0)),(10,rr 1080),(21,ow 1168 r1.length),(Aep r1),(23,pI ((k1:Nat):Int)),(63,pB y6)] [(AcS p0),(AeE p0),(2,ob0 (Ce vb (vb false) s1.2.2.1)),(c40e2 r77),(1120,ob0 (Ce slI (slI []) s1.1)),(1168,ob0 (roI r1)),(1256,ob0 (roI r77.cpus)),(1257,ob0 (roI r77.mems)),(1258,ob0 (Aj r77.devices)),(1656,ob0 (roI s1.2.1))]) (fun y6=>(Fk (r1.getD k1 0) s1 n1 r77) y6=some RES) ?_ ?_
   ·intro y6 hm
    unfold Fk at hm
    refine Ar hm ?_ ?_
    ·intro h83 hm
     refine Sq ?_
     refine DW.openMap 2 ?_
     intro B84 C84
     refine DW.cv [] [] [1256] [(c40e3 r77)] (Conv.frz [1256]) ?_
     refine RN hnt (nn 11 (.ky (r1.getD k1 0) :: .asM (slI []) (s1.1.set (r1.getD k1 0) r77.cpus).has (fun j=>slI ((s1.1.set (r1.getD k1 0) r77.cpus).get j)) :: [])) [(0,rr 0),(1,pI p1),(2,.p (slI s1.2.2.2)),(6,ow 1656 s1.2.1.length),(7,.mref 1120 0),(10,rr 1080),(21,ow 1168 r1.length),(Aep r1),(23,pI ((k1:Nat):Int))] [(AcS p0),(AeE p0),(2,ob0 (Ce vb (vb false) (s1.2.2.1.set (r1.getD k1 0) true))),(c40e3 r77),(1120,ob0 (Ce slI (slI []) (s1.1.set (r1.getD k1 0) r77.cpus))),(1168,ob0 (roI r1)),(1257,ob0 (roI r77.mems)),(1258,ob0 (Aj r77.devices)),(1656,ob0 (roI s1.2.1))] [] [(2,.mq (.clk (vb false) (Bg s1.2.2.1.has (r1.getD k1 0) true) (Bg (fun j=>vb (s1.2.2.1.get j)) (r1.getD k1 0) (vb true)) (Bg B84 (r1.getD k1 0) (bif s1.2.2.1.has (r1.getD k1 0) then B84 (r1.getD k1 0) else C84)) (bif s1.2.2.1.has (r1.getD k1 0) then C84 else C84+1)))] (an (PLe.rfl:PLe (vb false) (vb false)) (an (updI_at s1.2.2.1.has (r1.getD k1 0) true) (an (updI_nat B84 (r1.getD k1 0) (bif s1.2.2.1.has (r1.getD k1 0) then B84 (r1.getD k1 0) else C84)) (an (Aas slI (slI []) s1.1 (r1.getD k1 0) r77.cpus PLe.rfl) tv)))) (by kernel_rfl) .nil (.cons rfl (.clk (Aas vb (vb false) s1.2.2.1 (r1.getD k1 0) true PLe.rfl)) .nil) ?_
     obtain ⟨r85,hr85,hm⟩:=bo hm
     refine RD hnt (nn 3 (o56 [] true r85 :: .no :: [])) [10] [(2,ow 1624 r85.length)] [1080,1257,1258] [(1624,ob0 (roI r85))] (an (AgE s1.2.2.2 r77.cpus r85 hr85) tv) ?_
     exact bD ((s1.1.set (r1.getD k1 0) r77.cpus),s1.2.1,(s1.2.2.1.set (r1.getD k1 0) true),r85) hm (Conv.frz [1624])
    ·intro h83 hm
     obtain ⟨g86,hm⟩:=go1 hm
     refine RN hnt (nn 5 []) [(0,rr 0),(1,pI p1),(2,.p (slI s1.2.2.2)),(6,ow 1656 (s1.2.1 ++ [(r1.getD k1 0)]).length),(7,.mref 1120 0),(21,ow 1168 r1.length),(Aep r1),(23,pI ((k1:Nat):Int))] [(AcS p0),(AeE p0),(2,ob0 (Ce vb (vb false) s1.2.2.1)),(1120,ob0 (Ce slI (slI []) s1.1)),(1168,ob0 (roI r1)),(1656,ob0 (roI (s1.2.1 ++ [(r1.getD k1 0)])))] [(6,ow 1656 (s1.2.1.length+1))] [(1656,.row 1 (s1.2.1.length+1) (De s1.2.1.length (elI s1.2.1) (cut 1 [vi (r1.getD k1 0)])))] (an (by omega:(s1.2.1.length+1)*8≤140737488355328) tv) (by kernel_rfl) (.cons rfl (MLe.ownLen (enc:=Au) (d:=0) (f:=(De s1.2.1.length (elI s1.2.1) (cut 1 [vi (r1.getD k1 0)]))) (RowIs.cat RowIs.elems (RowIs.lit (enc:=Au) (d:=0) (n:=1) (f:=(cut 1 [vi (r1.getD k1 0)])) [(r1.getD k1 0)] rfl (fun|0,_=>rfl|n+1,h=>absurd h (by omega))))) .nil) (.cons rfl (BLe.typed (RowIs.cat RowIs.elems (RowIs.lit (enc:=Au) (d:=0) (n:=1) (f:=(cut 1 [vi (r1.getD k1 0)])) [(r1.getD k1 0)] rfl (fun|0,_=>rfl|n+1,h=>absurd h (by omega))))) .nil) ?_
     exact bD (s1.1,(s1.2.1 ++ [(r1.getD k1 0)]),s1.2.2.1,s1.2.2.2) hm .refl
   ·rcases bt (r77.partition==1) with h78|h78
    ·replace hm:=Az h78 hm
     rcases bt (s1.2.2.1.get p1) with h79|h79
     ·replace hm:=Az h79 hm
      rcases bt (decide (((r77.cpus.length:Nat):Int)>0)) with h80|h80
      ·replace hm:=Az h80 hm
       obtain ⟨r81,hr81,hm⟩:=bo hm
       rcases bt r81 with h82|h82
       ·replace hm:=Az h82 hm
        refine RD hnt (nn 10 (pT::nn 5 (pT::nn 4 (o49 [] true r81::pT::nn 7 (pT :: []))))) [] [(63,pB (decide (((s1.2.2.2.length:Nat):Int)>((r77.cpus.length:Nat):Int))))] [] [] (an6 h78 (an (PLe.rfl:PLe (vb false) (vb false)) (an h78 (an5 h79 (an4 h80 (an (Abf r77.cpus s1.2.2.2 r81 hr81) (an h80 (an h82 (an6 h82 tv))))))))) ?_
        exact jD (decide (((s1.2.2.2.length:Nat):Int)>((r77.cpus.length:Nat):Int))) hm Conv.eqK
       ·replace hm:=Ay h82 hm
        refine RD hnt (nn 10 (pT::nn 5 (pT::nn 4 (o49 [] true r81::pT :: .no::sk 6 (pF :: []))))) [] [(63,pB false)] [] [] (an6 h78 (an (PLe.rfl:PLe (vb false) (vb false)) (an h78 (an5 h79 (an4 h80 (an (Abf r77.cpus s1.2.2.2 r81 hr81) (an h80 (an h82 (an6 h82 tv))))))))) ?_
        exact jD false hm Conv.eqK
      ·replace hm:=Ay h80 hm
       refine RD hnt (nn 10 (pT::nn 5 (pT :: .no::sk 4 (pF :: .no::sk 6 (pF :: []))))) [] [(63,pB false)] [] [] (an6 h78 (an (PLe.rfl:PLe (vb false) (vb false)) (an h78 (an5 h79 (an5 h80 (an ff (an6 ff tv))))))) ?_
       exact jD false hm Conv.eqK
     ·replace hm:=Ay h79 hm
      refine RD hnt (nn 10 (pT :: .no::sk 4 (pF :: .no::sk 4 (pF :: .no::sk 6 (pF :: []))))) [] [(63,pB false)] [] [] (an6 h78 (an (PLe.rfl:PLe (vb false) (vb false)) (an h78 (an5 h79 (an6 ff (an6 ff tv)))))) ?_
      exact jD false hm Conv.eqK
    ·replace hm:=Ay h78 hm
     refine RD hnt (nn 4 (sk 6 (pF :: .no::sk 4 (pF :: .no::sk 4 (pF :: .no::sk 6 (pF :: [])))))) [] [(63,pB false)] [] [] (an h78 (an6 h78 (an5 ff (an6 ff (an6 ff tv))))) ?_
     exact jD false hm Conv.eqK
 ·intro h76
  have hge1:¬ k1<r1.length:=by have:=of_decide_eq_false h76; omega
  have hm:=he1 hge1
  unfold Jo at hm
  refine DW.exit ?_
  refine Ao ?_
  refine Ba ?_
  refine Ai ?_
  show DW _ _ _ _ _
  refine Sq (RD hnt (nn 6 (.asM (slI []) (p0.sets.set p1 s1.2.2.2).has (fun j=>slI ((p0.sets.set p1 s1.2.2.2).get j)) :: [])) [1,21,22,23,24] [] [1168] [(1,ob0 (Ce slI (slI []) (p0.sets.set p1 s1.2.2.2)))] (an (Aas slI (slI []) p0.sets p1 s1.2.2.2 PLe.rfl) tv) ?_)
  refine Sq (Sq (RD hnt (nn 3 []) [6] [(90,ow 1656 s1.2.1.length),(91,pI ((s1.2.1.length:Nat):Int)),(92,pI 0)] [] [] tv ?_))
  refine Bk ?_
  obtain ⟨hc10,hm⟩:=go1 hm
  refine DW.rangeO (fun (k10:Nat) (s10:IMap (List Int))=>Af [(0,rr 0),(2,.p (slI s1.2.2.2)),(7,.mref 1120 0),(90,ow 1656 s1.2.1.length),(91,pI ((s1.2.1.length:Nat):Int)),(92,pI ((k10:Nat):Int))] [(AcS p0),(1,ob0 (Ce slI (slI []) (p0.sets.set p1 s1.2.2.2))),(2,ob0 (Ce vb (vb false) s1.2.2.1)),(1120,ob0 (Ce slI (slI []) s10)),(1656,ob0 (roI s1.2.1))]) 0 hm Conv.eqK ?_
  intro k10 s10 n10 hk10 hs10 he10
  refine Sq (RD hnt (.no :: []) [] [(93,pB (decide (((k10:Nat):Int)<((s1.2.1.length:Nat):Int))))] [] [] tv ?_)
  refine Sq (Cv (decide (((k10:Nat):Int)<((s1.2.1.length:Nat):Int))) ?_ ?_)
  ·intro h105
   have hlt10:k10<s1.2.1.length:=by have:=of_decide_eq_true h105; omega
   have hm:=hs10 hlt10
   unfold Ov at hm
   refine Sk ?_
   refine Sq (Bk ?_)
   refine Sq (RD hnt (nn 3 []) [93] [(12,pI (s1.2.1.getD k10 0))] [] [] (an (nn0 k10) (an (ltc hlt10) (an (by omega:k10<s1.2.1.length) tv))) ?_)
   obtain ⟨r108,hr108,hm⟩:=bo hm
   obtain ⟨r109,hr109,hm⟩:=bo hm
   refine RD hnt (nn 7 (o42 [] true r108::nn 2 (o91 [] false r109 :: .asM (slI []) (s10.set (s1.2.1.getD k10 0) r109).has (fun j=>slI ((s10.set (s1.2.1.getD k10 0) r109).get j)) :: []))) [12] [] [] [(1120,ob0 (Ce slI (slI []) (s10.set (s1.2.1.getD k10 0) r109)))] (an (Uy p0.configs (s1.2.1.getD k10 0) r108 hr108) (an (Zs r108.cpus s1.2.2.2 r109 hr109) (an (Aas slI (slI []) s10 (s1.2.1.getD k10 0) r109 PLe.rfl) tv))) ?_
   refine DW.done ?_
   show DW _ _ _ _ _
   refine RD hnt (nn 2 []) [] [(92,pI (w64 (((k10:Nat):Int)+1)))] [] [] tv ?_
   exact jD (s10.set (s1.2.1.getD k10 0) r109) ⟨hlt10,hm⟩ (Conv.tp [(92,pI (w64 (((k10:Nat):Int)+1)))] [] (by kernel_rfl) (.cons rfl (.of_eq (congrArg pI (Bt hlt10 hc10))) .nil) .nil)
  ·intro h105
   have hge10:¬ k10<s1.2.1.length:=by have:=of_decide_eq_false h105; omega
   have hm:=he10 hge10
   unfold Ku at hm
   refine DW.exit ?_
   refine Ao ?_
   refine Ba ?_
   refine Ai ?_
   show DW _ _ _ _ _
   refine Sq (RD hnt (nn 2 []) [2,7,90,91,92,93] [(109,rr 1872)] [1120,1656] [(1872,ob0 (.mq (.it (fun j=>slI (s10.get j)) s10.has none)))] tv ?_)
   refine Bk ?_
   refine DW.rangeM (fun (q13:Int→Bool) (s13:(List Ax)×Int×(List Ab)×(IMap (List Int))×(IMap Bool))=>Af [(0,rr 0),(109,rr 1872)] [(0,bx [.p (Da s13.1),pI s13.2.1,.p (Ah s13.2.2.1),.mref 1 0,.mref 2 0]),(1,ob0 (Ce slI (slI []) s13.2.2.2.1)),(2,ob0 (Ce vb (vb false) s13.2.2.2.2)),(1872,ob0 (.mq (.it (fun j=>slI (s10.get j)) q13 none)))]) hm Conv.eqK ?_
   intro q13 s13 n13 hs13 he13
   refine Sq (DW.next (t:=109) (d:=110) (d2:=111) (k:=1872) (f:=fun j=>slI (s10.get j)) (rem:=q13) (cur:=none) hnt ?_ ?_)
   ·intro k13 hlt13
    have hm:=hs13 k13 hlt13
    unfold Ow at hm
    refine Sq (condT tt ?_)
    refine Sk ?_
    refine Bk ?_
    refine Sq (RK hnt (nn 5 []) [(0,rr 0),(13,pI k13),(14,.p (slI (s10.get k13))),(109,rr 1872)] [(0,bx [.p (Da s13.1),pI s13.2.1,.p (Ah s13.2.2.1),.mref 1 0,.mref 2 0]),(1,ob0 (Ce slI (slI []) s13.2.2.2.1)),(2,ob0 (Ce vb (vb false) s13.2.2.2.2)),(1872,ob0 (.mq (.it (fun j=>slI (s10.get j)) (Bg q13 k13 false) (some k13))))] tv ?_)
    obtain ⟨r111,hr111,hm⟩:=bo hm
    refine RD hnt (nn 3 (.call 60 [0,1,2] true (.p (.tup [])) [.box [.p (Da r111.tree.nodes),pI r111.tree.next,.p (Ah r111.configs),.mref 1 0,.mref 2 0],Ce slI (slI []) r111.sets,Ce vb (vb false) r111.partitions] [] [] :: [])) [13,14] [] [] [(0,bx [.p (Da r111.tree.nodes),pI r111.tree.next,.p (Ah r111.configs),.mref 1 0,.mref 2 0]),(1,ob0 (Ce slI (slI []) r111.sets)),(2,ob0 (Ce vb (vb false) r111.partitions))] (an (ih ({ tree:=({ nodes:=s13.1,next:=s13.2.1 } : Ae),configs:=s13.2.2.1,sets:=s13.2.2.2.1,partitions:=s13.2.2.2.2 } : plan) k13 (s10.get k13) r111 hr111) (an3 tv tv)) ?_
    refine DW.done ?_
    show DW _ _ _ _ _
    exact jD (k13,(r111.tree.nodes,r111.tree.next,r111.configs,r111.sets,r111.partitions)) ⟨hlt13,hm⟩ (Conv.tp [] [(1872,.mq (.it (fun j=>slI (s10.get j)) (Bg q13 k13 false) (some k13)))] (by kernel_rfl) .nil (.cons rfl .it .nil))
   ·intro hlt13
    have hm:=he13 hlt13
    unfold Ot at hm
    refine Sq (AeC ff ?_)
    refine DW.exit ?_
    refine Ao ?_
    refine Ba ?_
    refine Ai ?_
    show DW _ _ _ _ _
    refine DW.done ?_
    obtain rfl:=sj hm
    exact endK [.box [.p (Da s13.1),pI s13.2.1,.p (Ah s13.2.2.1),.mref 1 0,.mref 2 0],Ce slI (slI []) s13.2.2.2.1,Ce vb (vb false) s13.2.2.2.2] [] (.p (.tup []))
theorem Sf : ∀ (n:Nat) (p0:plan) (p1:Int) (p2:List Int) (RES:plan),Gx n p0 p1 p2=some RES→Spec Tryz.prog 60 [rr 0,pI p1,.p (slI p2)] [.box [.p (Da p0.tree.nodes),pI p0.tree.next,.p (Ah p0.configs),.mref 1 0,.mref 2 0],Ce slI (slI []) p0.sets,Ce vb (vb false) p0.partitions] (.p (.tup [])) [.box [.p (Da RES.tree.nodes),pI RES.tree.next,.p (Ah RES.configs),.mref 1 0,.mref 2 0],Ce slI (slI []) RES.sets,Ce vb (vb false) RES.partitions] []
  | 0,p0,p1,p2,RES,hm=>by simp [Gx] at hm
  | n+1,p0,p1,p2,RES,hm=>AaM (Gx n) (Sf n) p0 p1 p2 RES hm
theorem Abd (p0:plan) (p1:Int) (p2:List Int) (RES:plan) (hm:Ru p0 p1 p2=some RES):Spec Tryz.prog 60 [rr 0,pI p1,.p (slI p2)] [.box [.p (Da p0.tree.nodes),pI p0.tree.next,.p (Ah p0.configs),.mref 1 0,.mref 2 0],Ce slI (slI []) p0.sets,Ce vb (vb false) p0.partitions] (.p (.tup [])) [.box [.p (Da RES.tree.nodes),pI RES.tree.next,.p (Ah RES.configs),.mref 1 0,.mref 2 0],Ce slI (slI []) RES.sets,Ce vb (vb false) RES.partitions] []:=Sf Fh p0 p1 p2 RES hm
abbrev o40 (ks:List Nat) (b:Bool) (RES:plan) (sm:List Nat := []):Orc := .call 60 ks b (.p (.tup [])) [.box [.p (Da RES.tree.nodes),pI RES.tree.next,.p (Ah RES.configs),.mref 1 0,.mref 2 0],Ce slI (slI []) RES.sets,Ce vb (vb false) RES.partitions] [] sm

theorem Zi (p0:Ae) (p1:List Ab) (p2:List Int) (RES:plan) (hm:Tc p0 p1 p2=some RES):Spec Tryz.prog 33 [.p (.agg (Ag p0)),.p (Ah p1),.p (slI p2)] [] (rr 0) [] [.box [.p (Da RES.tree.nodes),pI RES.tree.next,.p (Ah RES.configs),.mref 1 0,.mref 2 0],Ce slI (slI []) RES.sets,Ce vb (vb false) RES.partitions]:=by
 unfold Tc at hm
 refine SO Tryz.func33 rfl rfl [(0,.p (.agg (Ag p0))),(1,.p (Ah p1)),(2,.p (slI p2))] [] ?_
 intro cx hnt
 refine Sq (RD hnt (nn 2 []) [0] [(3,rr 1024)] [] [(1024,bx (pm (Ag p0)))] tv ?_)
 refine Sq (RK hnt (nn 2 (.asM (slI []) (IMap.empty ([]:List Int)).has (fun j=>slI ((IMap.empty ([]:List Int)).get j)) :: .no :: .asM (vb false) ((IMap.empty false).set 1 true).has (fun j=>vb (((IMap.empty false).set 1 true).get j))::nn 4 [])) [(2,.p (slI p2)),(7,rr 1112)] [(1080,ob0 (Ce slI (slI []) (IMap.empty ([]:List Int)))),(1088,ob0 (Ce vb (vb false) ((IMap.empty false).set 1 true))),(1112,bx [.p (Da p0.nodes),pI p0.next,.p (Ah p1),.mref 1080 0,.mref 1088 0])] (an (mnew_le slI (.sl .nil 0 0 fun _ => []) ([]:List Int) PLe.nilL) (an (Aas vb (vb false) (IMap.empty false) 1 true PLe.rfl) tv)) ?_)
 obtain ⟨r1,hr1,hm⟩:=bo hm
 obtain ⟨r2,hr2,hm⟩:=bo hm
 refine Sq (RK hnt (nn 2 (o39 [] true r1::o40 [1112,1080,1088] false r2 :: [])) [(7,rr 1112)] [(1080,ob0 (Ce slI (slI []) r2.sets)),(1088,ob0 (Ce vb (vb false) r2.partitions)),(1112,bx [.p (Da r2.tree.nodes),pI r2.tree.next,.p (Ah r2.configs),.mref 1080 0,.mref 1088 0])] (an (Gw p2 r1 hr1) (an (Abd ({ tree:=p0,configs:=p1,sets:=(IMap.empty ([]:List Int)),partitions:=((IMap.empty false).set 1 true) } : plan) 1 r1 r2 hr2) (an3 tv tv))) ?_)
 refine Sq (RD hnt (nn 4 (.asM (vb false) (r2.partitions.del 1 false).has (fun j=>vb ((r2.partitions.del 1 false).get j)) :: [])) [] [] [] [(1088,ob0 (Ce vb (vb false) (r2.partitions.del 1 false)))] (an (mdel_le vb (vb false) r2.partitions 1 false rfl) tv) ?_)
 refine Sq (RD hnt (nn 2 []) [7] [(6,rr 1112)] [] [] tv ?_)
 obtain rfl:=sj hm
 exact DW.ret (An [.box [.p (Da r2.tree.nodes),pI r2.tree.next,.p (Ah r2.configs),.mref 1 0,.mref 2 0],Ce slI (slI []) r2.sets,Ce vb (vb false) (r2.partitions.del 1 false)] [1112,1080,1088] (rr 0))
abbrev o38 (ks:List Nat) (b:Bool) (RES:plan) (sm:List Nat := []):Orc := .call 33 ks b (rr 0) [] [.box [.p (Da RES.tree.nodes),pI RES.tree.next,.p (Ah RES.configs),.mref 1 0,.mref 2 0],Ce slI (slI []) RES.sets,Ce vb (vb false) RES.partitions] sm

theorem Fd (p0:Ae) (p1:List Ab) (p2:List Int) (p3:Int) (RES:List Int) (hm:Ev p0 p1 p2 p3=some RES):Spec Tryz.prog 17 [.p (.agg (Ag p0)),.p (Ah p1),.p (slI p2),pI p3] [] (ow 0 RES.length) [] [roI RES]:=by
 unfold Ev at hm
 refine SO Tryz.func17 rfl rfl [(0,.p (.agg (Ag p0))),(1,.p (Ah p1)),(2,.p (slI p2)),(3,pI p3)] [] ?_
 intro cx hnt
 refine Sq (RD hnt (nn 2 []) [0] [(4,rr 1032)] [] [(1032,bx (pm (Ag p0)))] tv ?_)
 obtain ⟨r1,hr1,hm⟩:=bo hm
 refine Sq (Sq (RD hnt (nn 3 (o24 [] true r1 :: .no :: [])) [] [(13,pB (!r1))] [] [] (an (Pd p0 p1 p2 16 r1 hr1) tv) ?_))
 refine Ar hm ?_ ?_
 ·intro h2 hm
  refine Sq (RK hnt (.no :: []) [(8,.p (.sl .nil 0 0 (fun _ => [])))] [] tv ?_)
  refine DW.cv [] [(8,ow 100000 0)] [] [(100000,ob0 (roI []))] (Conv.ads [(.s 8,100000,1,elems Au 0 [])]) ?_
  obtain rfl:=sj hm
  exact DW.ret (An [roI []] [100000] (ow 0 0))
 ·intro h2 hm
  refine Sk ?_
  obtain ⟨r3,hr3,hm⟩:=bo hm
  obtain ⟨r4,hr4,hm⟩:=bo hm
  refine Sq (RK hnt (nn 3 (o38 [] true r3::nn 5 (o39 [] true r4 :: .no :: []))) [(8,ow 1184 r4.length)] [(1184,ob0 (roI r4))] (an (Zi p0 p1 p2 r3 hr3) (an (PLe.nilL:PLe (.sl .nil 0 0 fun _ => []) (slI [])) (an (Gw (r3.sets.get p3) r4 hr4) tv))) ?_)
  obtain rfl:=sj hm
  exact DW.ret (An [roI r4] [1184] (ow 0 r4.length))
abbrev o23 (ks:List Nat) (b:Bool) (RES:List Int) (sm:List Nat := []):Orc := .call 17 ks b (ow 0 RES.length) [] [roI RES] sm

theorem Ee (p0:List Int) (p1:List Int) (RES:Bool) (hm:Hg p0 p1=some RES):Spec Tryz.prog 13 [.p (slI p0),.p (slI p1)] [] (pB RES) [] []:=by
 unfold Hg at hm
 refine SO Tryz.func13 rfl rfl [(0,.p (slI p0)),(1,.p (slI p1))] [] ?_
 intro cx hnt
 refine Sq (RD hnt (.no :: []) [] [] [] [] tv ?_)
 refine Sq (Sq (RD hnt (nn 5 []) [] [(10,pB (((p0.length:Nat):Int) != ((p1.length:Nat):Int)))] [] [] tv ?_))
 refine Ar hm ?_ ?_
 ·intro h1 hm
  refine Sq (RK hnt (.no :: []) [(4,pB false)] [] tv ?_)
  obtain rfl:=sj hm
  exact DW.ret (An [] [] (pB false))
 ·intro h1 hm
  refine Sk ?_
  refine Sq (Sq (RD hnt (.no :: []) [10] [(5,pI 0)] [] [] tv ?_))
  refine Bk ?_
  obtain ⟨hc1,hm⟩:=go1 hm
  refine DW.rangeO (fun (k1:Nat) (s1:Unit)=>Af [(0,.p (slI p0)),(1,.p (slI p1)),(5,pI ((k1:Nat):Int))] []) 0 hm Conv.eqK ?_
  intro k1 s1 n1 hk1 hs1 he1
  refine Sq (Sq (RD hnt (nn 4 []) [] [(14,pB (decide (((k1:Nat):Int)<((p0.length:Nat):Int))))] [] [] tv ?_))
  refine Cv (decide (((k1:Nat):Int)<((p0.length:Nat):Int))) ?_ ?_
  ·intro h10
   have hlt1:k1<p0.length:=by have:=of_decide_eq_true h10; omega
   have hm:=hs1 hlt1
   unfold AbM at hm
   refine Sk ?_
   refine Sq (Bk ?_)
   obtain ⟨g11,hm⟩:=go1 hm
   refine Sq (RD hnt (nn 9 []) [14] [(25,pB ((p0.getD k1 0) != (p1.getD k1 0)))] [] [] (an (nn0 k1) (an (ltc hlt1) (an (nn0 k1) (an (ltc g11) tv)))) ?_)
   refine Ar hm ?_ ?_
   ·intro h12 hm
    refine Sq (RK hnt (.no :: []) [(4,pB false)] [] tv ?_)
    obtain rfl:=sj hm
    exact DW.ret (An [] [] (pB false))
   ·intro h12 hm
    refine Sk ?_
    refine DW.done ?_
    show DW _ _ _ _ _
    refine RD hnt (nn 3 []) [25] [(5,pI (w64 (((k1:Nat):Int)+1)))] [] [] tv ?_
    exact jD () ⟨hlt1,hm⟩ (Conv.tp [(5,pI (w64 (((k1:Nat):Int)+1)))] [] (by kernel_rfl) (.cons rfl (.of_eq (congrArg pI (Bt hlt1 hc1))) .nil) .nil)
  ·intro h10
   have hge1:¬ k1<p0.length:=by have:=of_decide_eq_false h10; omega
   have hm:=he1 hge1
   unfold Afg at hm
   refine DW.exit ?_
   refine Ao ?_
   refine Ba ?_
   refine Ai ?_
   show DW _ _ _ _ _
   refine Sq (RK hnt (.no :: []) [(4,pB true)] [] tv ?_)
   obtain rfl:=sj hm
   exact DW.ret (An [] [] (pB true))
abbrev o92 (ks:List Nat) (b:Bool) (RES:Bool) (sm:List Nat := []):Orc := .call 13 ks b (pB RES) [] [] sm

theorem Vt (p0:Ae) (p1:List Ab) (p2:List Int) (RES:List Int) (hm:Fp p0 p1 p2=some RES):Spec Tryz.prog 14 [.p (.agg (Ag p0)),.p (Ah p1),.p (slI p2)] [] (ow 0 RES.length) [] [roI RES]:=by
 unfold Fp at hm
 refine SO Tryz.func14 rfl rfl [(0,.p (.agg (Ag p0))),(1,.p (Ah p1)),(2,.p (slI p2))] [] ?_
 intro cx hnt
 refine Sq (RD hnt (nn 2 []) [0] [(3,rr 1024)] [] [(1024,bx (pm (Ag p0)))] tv ?_)
 obtain ⟨r1,hr1,hm⟩:=bo hm
 refine Sq (Sq (RD hnt (nn 3 (o24 [] true r1 :: .no :: [])) [] [(13,pB (!r1))] [] [] (an (Pd p0 p1 p2 16 r1 hr1) tv) ?_))
 refine Ar hm ?_ ?_
 ·intro h2 hm
  refine Sq (RK hnt (.no :: []) [(6,.p (.sl .nil 0 0 (fun _ => [])))] [] tv ?_)
  refine DW.cv [] [(6,ow 100000 0)] [] [(100000,ob0 (roI []))] (Conv.ads [(.s 6,100000,1,elems Au 0 [])]) ?_
  obtain rfl:=sj hm
  exact DW.ret (An [roI []] [100000] (ow 0 0))
 ·intro h2 hm
  refine Sk ?_
  refine Sq (RD hnt (.no :: []) [13] [(7,.p (.sl .nil 0 0 (fun _ => [])))] [] [] tv ?_)
  obtain ⟨r3,hr3,hm⟩:=bo hm
  refine Sq (Sq (RD hnt (nn 3 (o38 [] true r3::nn 4 [])) [1,2,3] [(21,rr 1168)] [1024] [(1168,ob0 (.mq (.it (fun j=>vb (r3.partitions.get j)) r3.partitions.has none)))] (an (Zi p0 p1 p2 r3 hr3) tv) ?_))
  refine Bk ?_
  refine DW.rangeM (fun (q1:Int→Bool) (s1:List Int)=>Af [(7,ow 1232 s1.length),(21,rr 1168)] [(1168,ob0 (.mq (.it (fun j=>vb (r3.partitions.get j)) q1 none))),(1232,ob0 (roI s1))]) hm (Conv.ads [(.s 7,1232,1,elems Au 0 [])]) ?_
  intro q1 s1 n1 hs1 he1
  refine Sq (DW.next (t:=21) (d:=22) (d2:=23) (k:=1168) (f:=fun j=>vb (r3.partitions.get j)) (rem:=q1) (cur:=none) hnt ?_ ?_)
  ·intro k1 hlt1
   have hm:=hs1 k1 hlt1
   unfold Rw at hm
   refine Sq (condT tt ?_)
   refine Sk ?_
   refine Bk ?_
   refine Sq (RK hnt (nn 3 []) [(7,ow 1232 s1.length),(8,pI k1),(21,rr 1168)] [(1168,ob0 (.mq (.it (fun j=>vb (r3.partitions.get j)) (Bg q1 k1 false) (some k1)))),(1232,ob0 (roI s1))] tv ?_)
   obtain ⟨g6,hm⟩:=go1 hm
   refine RN hnt (nn 5 []) [(7,ow 1232 (s1 ++ [k1]).length),(21,rr 1168)] [(1168,ob0 (.mq (.it (fun j=>vb (r3.partitions.get j)) (Bg q1 k1 false) (some k1)))),(1232,ob0 (roI (s1 ++ [k1])))] [(7,ow 1232 (s1.length+1))] [(1232,.row 1 (s1.length+1) (De s1.length (elI s1) (cut 1 [vi k1])))] (an (by omega:(s1.length+1)*8≤140737488355328) tv) (by kernel_rfl) (.cons rfl (MLe.ownLen (enc:=Au) (d:=0) (f:=(De s1.length (elI s1) (cut 1 [vi k1]))) (RowIs.cat RowIs.elems (RowIs.lit (enc:=Au) (d:=0) (n:=1) (f:=(cut 1 [vi k1])) [k1] rfl (fun|0,_=>rfl|n+1,h=>absurd h (by omega))))) .nil) (.cons rfl (BLe.typed (RowIs.cat RowIs.elems (RowIs.lit (enc:=Au) (d:=0) (n:=1) (f:=(cut 1 [vi k1])) [k1] rfl (fun|0,_=>rfl|n+1,h=>absurd h (by omega))))) .nil) ?_
   refine DW.done ?_
   show DW _ _ _ _ _
   exact jD (k1,(s1 ++ [k1])) ⟨hlt1,hm⟩ (Conv.tp [] [(1168,.mq (.it (fun j=>vb (r3.partitions.get j)) (Bg q1 k1 false) (some k1)))] (by kernel_rfl) .nil (.cons rfl .it .nil))
  ·intro hlt1
   have hm:=he1 hlt1
   unfold Rx at hm
   refine Sq (AeC ff ?_)
   refine DW.exit ?_
   refine Ao ?_
   refine Ba ?_
   refine Ai ?_
   show DW _ _ _ _ _
   obtain ⟨r7,hr7,hm⟩:=bo hm
   obtain ⟨g8,hm⟩:=go1 hm
   refine Sq (RN hnt (.no::o59 [1232] true r7 :: []) [(7,ow 1232 r7.length)] [(1232,ob0 (roI r7))] [(7,ow 1232 s1.length)] [] (an (Xl s1 r7 hr7) (an (⟨rfl,g8⟩:Body.same (roI s1) (roI r7)) tv)) (by kernel_rfl) (.cons rfl (MLe.of_eq (congrArg (MV.own 1232 0 0) g8)) .nil) .nil ?_)
   refine Sq (RD hnt (nn 2 []) [7] [(6,ow 1232 r7.length)] [] [] tv ?_)
   obtain rfl:=sj hm
   exact DW.ret (An [roI r7] [1232] (ow 0 r7.length))
abbrev o94 (ks:List Nat) (b:Bool) (RES:List Int) (sm:List Nat := []):Orc := .call 14 ks b (ow 0 RES.length) [] [roI RES] sm

theorem Wd (p0:Ae) (p1:List Ab) (p2:List Int) (p3:Int) (RES:Bool) (hm:Ff p0 p1 p2 p3=some RES):Spec Tryz.prog 21 [.p (.agg (Ag p0)),.p (Ah p1),.p (slI p2),pI p3] [] (pB RES) [] []:=by
 unfold Ff at hm
 refine SO Tryz.func21 rfl rfl [(0,.p (.agg (Ag p0))),(1,.p (Ah p1)),(2,.p (slI p2)),(3,pI p3)] [] ?_
 intro cx hnt
 refine Sq (RD hnt (nn 2 []) [0] [(4,rr 1032)] [] [(1032,bx (pm (Ag p0)))] tv ?_)
 obtain ⟨r1,hr1,hm⟩:=bo hm
 obtain ⟨r2,hr2,hm⟩:=bo hm
 refine Sq (RK hnt (nn 3 (o94 [] true r1 :: .no::o54 [] true r2 :: .no :: [])) [(8,pB r2)] [] (an (Vt p0 p1 p2 r1 hr1) (an (Tz r1 p3 r2 hr2) tv)) ?_)
 obtain rfl:=sj hm
 exact DW.ret (An [] [] (pB r2))
abbrev o93 (ks:List Nat) (b:Bool) (RES:Bool) (sm:List Nat := []):Orc := .call 21 ks b (pB RES) [] [] sm
end Go.Dm


/- Go functions compute their models, printed by a program. -/
namespace Go.Dm
open Go.Proofs
set_option linter.unusedVariables false
abbrev c3e1 (r5:List Ab):=(Bs (Vd r5) 1 [vi (r5.getD 1 Ap).group,vi (r5.getD 1 Ap).settings.pidsMax,vi (r5.getD 1 Ap).settings.weight,vi (r5.getD 1 Ap).settings.quota,vi (r5.getD 1 Ap).settings.period,vi (r5.getD 1 Ap).settings.burst,vi (r5.getD 1 Ap).settings.clampMin,vi (r5.getD 1 Ap).settings.clampMax,slI [2,3],slI (r5.getD 1 Ap).settings.mems,vi (r5.getD 1 Ap).settings.partition,vi (r5.getD 1 Ap).settings.memory.min,vi (r5.getD 1 Ap).settings.memory.low,vi (r5.getD 1 Ap).settings.memory.high,vi (r5.getD 1 Ap).settings.memory.max,vi (r5.getD 1 Ap).settings.memory.swapMax,vb (r5.getD 1 Ap).settings.memory.together,Db (r5.getD 1 Ap).settings.devices])
abbrev c3e2 (r5:List Ab):=({ group:=(r5.getD 1 Ap).group,settings:=({ pidsMax:=(r5.getD 1 Ap).settings.pidsMax,weight:=(r5.getD 1 Ap).settings.weight,quota:=(r5.getD 1 Ap).settings.quota,period:=(r5.getD 1 Ap).settings.period,burst:=(r5.getD 1 Ap).settings.burst,clampMin:=(r5.getD 1 Ap).settings.clampMin,clampMax:=(r5.getD 1 Ap).settings.clampMax,cpus := [2,3],mems:=(r5.getD 1 Ap).settings.mems,partition:=(r5.getD 1 Ap).settings.partition,memory:=(r5.getD 1 Ap).settings.memory,devices:=(r5.getD 1 Ap).settings.devices } : At) } : Ab)
abbrev c3e3 (r10:List Ab):=({ group:=(r10.getD 1 Ap).group,settings:=({ pidsMax:=(r10.getD 1 Ap).settings.pidsMax,weight:=(r10.getD 1 Ap).settings.weight,quota:=(r10.getD 1 Ap).settings.quota,period:=(r10.getD 1 Ap).settings.period,burst:=(r10.getD 1 Ap).settings.burst,clampMin:=(r10.getD 1 Ap).settings.clampMin,clampMax:=(r10.getD 1 Ap).settings.clampMax,cpus:=(r10.getD 1 Ap).settings.cpus,mems:=(r10.getD 1 Ap).settings.mems,partition:=1,memory:=(r10.getD 1 Ap).settings.memory,devices:=(r10.getD 1 Ap).settings.devices } : At) } : Ab)
theorem Acg (RES:Bool) (hm:Ql=some RES):Spec Tryz.prog 5 [] [] (pB RES) [] []:=by
 unfold Ql at hm
 refine SO Tryz.func5 rfl rfl [] [] ?_
 intro cx hnt
 refine Sq (RK hnt (.no :: []) [] [] tv ?_)
 obtain ⟨r1,hr1,hm⟩:=bo hm
 obtain ⟨r2,hr2,hm⟩:=bo hm
 refine Sq (RK hnt (o4 [] true r1::o5 [] true r2::nn 8 []) [(1,rr 1008),(2,pI r2.2.1)] [(1008,bx [ow 1080 r2.1.nodes.length,pI r2.1.next]),(1080,ob0 (Dp r2.1.nodes))] (an (Aea r1 hr1) (an (AaK r1 1 (bs [97]) r2 hr2) (an ((fun _=>rfl):∀ i,((Zc r2.1.nodes) i).all PV.flat=true) tv))) ?_)
 obtain ⟨r3,hr3,hm⟩:=bo hm
 refine Sq (RD hnt (.no::o5 [] true r3::nn 7 []) [] [(4,pI r3.2.1)] [1080] [(1008,bx [ow 1128 r3.1.nodes.length,pI r3.1.next]),(1128,ob0 (Dp r3.1.nodes))] (an (AaK r2.1 1 (bs [98]) r3 hr3) (an ((fun _=>rfl):∀ i,((Zc r3.1.nodes) i).all PV.flat=true) tv)) ?_)
 refine Sq (DW.cv [] [] [1128] [(1008,bx (pm (Ag r3.1)))] (Conv.frz [1128]) ?_)
 obtain ⟨r5,hr5,hm⟩:=bo hm
 refine RD hnt (.no::o15 [] true r5 :: .no :: []) [] [(6,ow 1168 r5.length)] [] [(1168,ob0 (Ed r5))] (an (Ahm r3.1 r5 hr5) tv) ?_
 obtain ⟨g8,g9,hm⟩:=go2 hm
 obtain ⟨r10,hr10,hm⟩:=bo hm
 obtain ⟨g11,g12,hm⟩:=go2 hm
 obtain ⟨r13,hr13,hm⟩:=bo hm
 refine Sq (RN hnt (nn 2 (.frz 2 (elems Au 0 [2,3])::nn 8 [])) [(1,rr 1008),(2,pI r2.2.1),(4,pI r3.2.1),(6,ow 1168 r13.length)] [(1008,bx (pm (Ag r3.1))),(1168,ob0 (Ed r13))] [(6,ow 1168 r5.length)] [(1168,.row 18 r5.length (Bs (c3e1 r5) 1 (setRange ((c3e1 r5) 1) 10 [vi 1])))] (an ((RowIs.asP (enc:=Au) (d:=0) (L := [2,3]) (RowIs.lit (enc:=Au) (d:=0) (n:=2) (f:=(cut 1 [vi 2,vi 3])) [2,3] rfl (fun|0,_=>rfl|1,_=>rfl|n+2,h=>absurd h (by omega)))):2=2∧∀ i,i<2→(cut 1 [vi 2,vi 3]) i=(elems Au 0 [2,3]) i) (an (nn0 1) (an (ltc g8) (an g9 (an (nn0 1) (an (ltc g11) (an g12 tv))))))) (by kernel_rfl) (.cons rfl (MLe.ownLen (enc:=Es) (d:=Ap) (f:=(Bs (c3e1 r5) 1 (setRange ((c3e1 r5) 1) 10 [vi 1]))) (RowIs.named hr13 (RowIs.updR (RowIs.named hr10 (RowIs.upd RowIs.elems (c3e2 r5) rfl)) (by omega) (c3e3 r10) rfl))) .nil) (.cons rfl (BLe.typed (RowIs.named hr13 (RowIs.updR (RowIs.named hr10 (RowIs.upd RowIs.elems (c3e2 r5) rfl)) (by omega) (c3e3 r10) rfl))) .nil) ?_)
 refine Sq (RN hnt (nn 2 []) [(1,rr 1008),(2,pI r2.2.1),(4,pI r3.2.1),(6,ow 1168 r13.length),(7,ow 1248 [0,1,2,3].length)] [(1008,bx (pm (Ag r3.1))),(1168,ob0 (Ed r13)),(1248,ob0 (roI [0,1,2,3]))] [(7,ow 1248 4)] [(1248,.row 1 4 (cut 1 [vi 0,vi 1,vi 2,vi 3]))] tv (by kernel_rfl) (.cons rfl (MLe.ownLen (enc:=Au) (d:=0) (f:=(cut 1 [vi 0,vi 1,vi 2,vi 3])) (RowIs.lit (enc:=Au) (d:=0) (n:=4) (f:=(cut 1 [vi 0,vi 1,vi 2,vi 3])) [0,1,2,3] rfl (fun|0,_=>rfl|1,_=>rfl|2,_=>rfl|3,_=>rfl|n+4,h=>absurd h (by omega)))) .nil) (.cons rfl (BLe.typed (RowIs.lit (enc:=Au) (d:=0) (n:=4) (f:=(cut 1 [vi 0,vi 1,vi 2,vi 3])) [0,1,2,3] rfl (fun|0,_=>rfl|1,_=>rfl|2,_=>rfl|3,_=>rfl|n+4,h=>absurd h (by omega)))) .nil) ?_)
 obtain ⟨r14,hr14,hm⟩:=bo hm
 obtain ⟨r15,hr15,hm⟩:=bo hm
 refine Sq ?_
 refine Jn (ι:=Bool) (fun (y1:Bool)=>Af [(0,pB y1)] []) (fun y1=>No y1=some RES) ?_ ?_
 ·intro y1 hm
  unfold No at hm
  obtain rfl:=sj hm
  exact DW.ret (An [] [] (pB y1))
 ·rcases bt r15 with h16|h16
  ·replace hm:=Az h16 hm
   obtain ⟨r17,hr17,hm⟩:=bo hm
   obtain ⟨r18,hr18,hm⟩:=bo hm
   rcases bt r18 with h19|h19
   ·replace hm:=Az h19 hm
    obtain ⟨r20,hr20,hm⟩:=bo hm
    obtain ⟨r21,hr21,hm⟩:=bo hm
    rcases bt r21 with h22|h22
    ·replace hm:=Az h22 hm
     obtain ⟨r23,hr23,hm⟩:=bo hm
     refine RK hnt (nn 4 (o23 [] true r14 :: .no::o92 [] true r15::nn 5 (o23 [] true r17 :: .no::o92 [] true r18::pT::nn 4 (o23 [] true r20 :: .no::o92 [] true r21::pT::nn 5 (o93 [] true r23::pT :: .no :: []))))) [(0,pB r23)] [] (an (Fd r3.1 r13 [0,1,2,3] r2.2.1 r14 hr14) (an ((fun _=>rfl):∀ i,((elI r14) i).all PV.flat=true) (an (Spec.args (xs := [.p (slI r14),.p (.sl .unk 1 2 (cut 1 [vi 2,vi 3]))]) (Ee r14 [2,3] r15 hr15) (.cons .rfl (.cons (.p (PLe.typed (RowIs.lit (enc:=Au) (d:=0) (n:=2) (f:=(cut 1 [vi 2,vi 3])) [2,3] rfl (fun|0,_=>rfl|1,_=>rfl|n+2,h=>absurd h (by omega))))) .nil))) (an5 h16 (an (Fd r3.1 r13 [0,1,2,3] r3.2.1 r17 hr17) (an ((fun _=>rfl):∀ i,((elI r17) i).all PV.flat=true) (an2 h16 (an (Spec.args (xs := [.p (slI r17),.p (.sl .unk 1 2 (cut 1 [vi 0,vi 1]))]) (Ee r17 [0,1] r18 hr18) (.cons .rfl (.cons (.p (PLe.typed (RowIs.lit (enc:=Au) (d:=0) (n:=2) (f:=(cut 1 [vi 0,vi 1])) [0,1] rfl (fun|0,_=>rfl|1,_=>rfl|n+2,h=>absurd h (by omega))))) .nil))) (an h16 (an4 h19 (an (Fd r3.1 r13 [0,1,2,3] 1 r20 hr20) (an ((fun _=>rfl):∀ i,((elI r20) i).all PV.flat=true) (an2 h19 (an (Spec.args (xs := [.p (slI r20),.p (.sl .unk 1 2 (cut 1 [vi 0,vi 1]))]) (Ee r20 [0,1] r21 hr21) (.cons .rfl (.cons (.p (PLe.typed (RowIs.lit (enc:=Au) (d:=0) (n:=2) (f:=(cut 1 [vi 0,vi 1])) [0,1] rfl (fun|0,_=>rfl|1,_=>rfl|n+2,h=>absurd h (by omega))))) .nil))) (an h19 (an5 h22 (an (Wd r3.1 r13 [0,1,2,3] r2.2.1 r23 hr23) (an h22 tv)))))))))))))))))) ?_
     exact jD r23 hm .refl
    ·replace hm:=Ay h22 hm
     refine RK hnt (nn 4 (o23 [] true r14 :: .no::o92 [] true r15::nn 5 (o23 [] true r17 :: .no::o92 [] true r18::pT::nn 4 (o23 [] true r20 :: .no::o92 [] true r21::pT :: .no::sk 5 (pF :: .no :: []))))) [(0,pB false)] [] (an (Fd r3.1 r13 [0,1,2,3] r2.2.1 r14 hr14) (an ((fun _=>rfl):∀ i,((elI r14) i).all PV.flat=true) (an (Spec.args (xs := [.p (slI r14),.p (.sl .unk 1 2 (cut 1 [vi 2,vi 3]))]) (Ee r14 [2,3] r15 hr15) (.cons .rfl (.cons (.p (PLe.typed (RowIs.lit (enc:=Au) (d:=0) (n:=2) (f:=(cut 1 [vi 2,vi 3])) [2,3] rfl (fun|0,_=>rfl|1,_=>rfl|n+2,h=>absurd h (by omega))))) .nil))) (an5 h16 (an (Fd r3.1 r13 [0,1,2,3] r3.2.1 r17 hr17) (an ((fun _=>rfl):∀ i,((elI r17) i).all PV.flat=true) (an2 h16 (an (Spec.args (xs := [.p (slI r17),.p (.sl .unk 1 2 (cut 1 [vi 0,vi 1]))]) (Ee r17 [0,1] r18 hr18) (.cons .rfl (.cons (.p (PLe.typed (RowIs.lit (enc:=Au) (d:=0) (n:=2) (f:=(cut 1 [vi 0,vi 1])) [0,1] rfl (fun|0,_=>rfl|1,_=>rfl|n+2,h=>absurd h (by omega))))) .nil))) (an h16 (an4 h19 (an (Fd r3.1 r13 [0,1,2,3] 1 r20 hr20) (an ((fun _=>rfl):∀ i,((elI r20) i).all PV.flat=true) (an2 h19 (an (Spec.args (xs := [.p (slI r20),.p (.sl .unk 1 2 (cut 1 [vi 0,vi 1]))]) (Ee r20 [0,1] r21 hr21) (.cons .rfl (.cons (.p (PLe.typed (RowIs.lit (enc:=Au) (d:=0) (n:=2) (f:=(cut 1 [vi 0,vi 1])) [0,1] rfl (fun|0,_=>rfl|1,_=>rfl|n+2,h=>absurd h (by omega))))) .nil))) (an h19 (an6 h22 tv)))))))))))))))) ?_
     exact jD false hm .refl
   ·replace hm:=Ay h19 hm
    refine RK hnt (nn 4 (o23 [] true r14 :: .no::o92 [] true r15::nn 5 (o23 [] true r17 :: .no::o92 [] true r18::pT :: .no::sk 6 (pF :: .no::sk 5 (pF :: .no :: []))))) [(0,pB false)] [] (an (Fd r3.1 r13 [0,1,2,3] r2.2.1 r14 hr14) (an ((fun _=>rfl):∀ i,((elI r14) i).all PV.flat=true) (an (Spec.args (xs := [.p (slI r14),.p (.sl .unk 1 2 (cut 1 [vi 2,vi 3]))]) (Ee r14 [2,3] r15 hr15) (.cons .rfl (.cons (.p (PLe.typed (RowIs.lit (enc:=Au) (d:=0) (n:=2) (f:=(cut 1 [vi 2,vi 3])) [2,3] rfl (fun|0,_=>rfl|1,_=>rfl|n+2,h=>absurd h (by omega))))) .nil))) (an5 h16 (an (Fd r3.1 r13 [0,1,2,3] r3.2.1 r17 hr17) (an ((fun _=>rfl):∀ i,((elI r17) i).all PV.flat=true) (an2 h16 (an (Spec.args (xs := [.p (slI r17),.p (.sl .unk 1 2 (cut 1 [vi 0,vi 1]))]) (Ee r17 [0,1] r18 hr18) (.cons .rfl (.cons (.p (PLe.typed (RowIs.lit (enc:=Au) (d:=0) (n:=2) (f:=(cut 1 [vi 0,vi 1])) [0,1] rfl (fun|0,_=>rfl|1,_=>rfl|n+2,h=>absurd h (by omega))))) .nil))) (an h16 (an h19 (an6 h19 (an6 ff tv)))))))))))) ?_
    exact jD false hm .refl
  ·replace hm:=Ay h16 hm
   refine RK hnt (nn 4 (o23 [] true r14 :: .no::o92 [] true r15 :: .no::sk 7 (pF :: .no::sk 6 (pF :: .no::sk 5 (pF :: .no :: []))))) [(0,pB false)] [] (an (Fd r3.1 r13 [0,1,2,3] r2.2.1 r14 hr14) (an ((fun _=>rfl):∀ i,((elI r14) i).all PV.flat=true) (an (Spec.args (xs := [.p (slI r14),.p (.sl .unk 1 2 (cut 1 [vi 2,vi 3]))]) (Ee r14 [2,3] r15 hr15) (.cons .rfl (.cons (.p (PLe.typed (RowIs.lit (enc:=Au) (d:=0) (n:=2) (f:=(cut 1 [vi 2,vi 3])) [2,3] rfl (fun|0,_=>rfl|1,_=>rfl|n+2,h=>absurd h (by omega))))) .nil))) (an2 h16 (an6 h16 (an ff (an6 ff (an6 ff tv)))))))) ?_
   exact jD false hm .refl
abbrev o3 (ks:List Nat) (b:Bool) (RES:Bool) (sm:List Nat := []):Orc := .call 5 ks b (pB RES) [] [] sm

theorem AhA (p0:List Int) (RES:Ak) (hm:Aeg p0=some RES):Spec Tryz.prog 6 [.p (slI p0)] [] (rr 0) [] [.box (pm (Al RES))]:=by
 unfold Aeg at hm
 refine SO Tryz.func6 rfl rfl [(0,.p (slI p0))] [] ?_
 intro cx hnt
 refine Sq (RK hnt (.no :: []) [(0,.p (slI p0))] [] tv ?_)
 refine Sq (RK hnt (nn 4 []) [(2,rr 1040)] [(1040,bx [.p (slI p0),pI 0])] tv ?_)
 obtain rfl:=sj hm
 exact DW.ret (An [.box [.p (slI p0),pI 0]] [1040] (rr 0))
abbrev o95 (ks:List Nat) (b:Bool) (RES:Ak) (sm:List Nat := []):Orc := .call 6 ks b (rr 0) [] [.box (pm (Al RES))] sm

abbrev c97e1 (p0:Ak):=(p0.l.getD (Int.toNat (w64 ((w64 (p0.atF+1))-1))) 0)
theorem Cn (p0:Ak) (p1:Int) (RES:Int×Ak) (hm:Cm p0 p1=some RES):Spec Tryz.prog 9 [rr 0,pI p1] [.box (pm (Al p0))] (pI RES.1) [.box (pm (Al RES.2))] []:=by
 unfold Cm at hm
 refine SO Tryz.func9 rfl rfl [(0,rr 0),(1,pI p1)] [(0,bx (pm (Al p0)))] ?_
 intro cx hnt
 refine Sq (RD hnt (.no :: []) [] [] [] [] tv ?_)
 refine Sq (Sq (DW.regJ (sl2 := [(0,rr 0),(1,pI p1),(19,pB ((decide (p0.atF≥((p0.l.length:Nat):Int)))||(decide (p1<1))))]) (ob2 := [(0,bx (pm (Al p0)))]) ?_ ?_))
 ·rcases bt (decide (p0.atF≥((p0.l.length:Nat):Int))) with h1|h1
  ·exact RT hnt (nn 11 (sk 2 (pT :: []))) [(19,pB true)] (an3 h1 tv) (by kernel_rfl) (.cons rfl (.of_eq (by rw [h1]; try rfl)) .nil)
  ·exact RT hnt (nn 13 (pF :: [])) [(19,pB (decide (p1<1)))] (an3 h1 tv) (by kernel_rfl) (.cons rfl (.of_eq (by rw [h1]; try rfl)) .nil)
 ·refine Ar hm ?_ ?_
  ·intro h2 hm
   refine Sq (RD hnt (.no :: []) [0,1,19] [(4,pI 0)] [] [] tv ?_)
   obtain rfl:=sj hm
   exact DW.ret (An [.box (pm (Al p0))] [] (pI 0))
  ·intro h2 hm
   refine Sk ?_
   refine Sq (RD hnt (nn 8 []) [19] [] [] [(0,bx [.p (slI p0.l),pI (w64 (p0.atF+1))])] tv ?_)
   obtain ⟨g3,g4,hm⟩:=go2 hm
   refine Sq (RD hnt (nn 14 []) [0] [(5,pI (Int.tmod (c97e1 p0) p1))] [] [] (an g3.1 (an g3.2 (an g4 tv))) ?_)
   refine Sq (Sq (RD hnt (nn 2 []) [] [(41,pB (decide ((Int.tmod (c97e1 p0) p1)<0)))] [] [] tv ?_))
   refine Jn (ι:=Int) (fun (y1:Int)=>Af [(5,pI y1)] [(0,bx [.p (slI p0.l),pI (w64 (p0.atF+1))])]) (fun y1=>(Nj p0) y1=some RES) ?_ ?_
   ·intro y1 hm
    unfold Nj at hm
    refine Sq (RD hnt (nn 2 []) [5] [(4,pI y1)] [] [] tv ?_)
    obtain rfl:=sj hm
    exact DW.ret (An [.box [.p (slI p0.l),pI (w64 (p0.atF+1))]] [] (pI y1))
   ·refine Ar hm ?_ ?_
    ·intro h5 hm
     refine RD hnt (nn 4 []) [1,41] [(5,pI (w64 ((Int.tmod (c97e1 p0) p1)+p1)))] [] [] tv ?_
     exact jD (w64 ((Int.tmod (c97e1 p0) p1)+p1)) hm Conv.eqK
    ·intro h5 hm
     refine Sk ?_
     exact jD (Int.tmod (c97e1 p0) p1) hm Conv.t0
abbrev o97 (ks:List Nat) (b:Bool) (RES:Int×Ak) (sm:List Nat := []):Orc := .call 9 ks b (pI RES.1) [.box (pm (Al RES.2))] [] sm

theorem AdE (p0:Ak) (RES:ByteArray×Ak) (hm:Pl p0=some RES):Spec Tryz.prog 26 [rr 0] [.box (pm (Al p0))] (pS RES.1) [.box (pm (Al RES.2))] []:=by
 unfold Pl at hm
 refine SO Tryz.func26 rfl rfl [(0,rr 0)] [(0,bx (pm (Al p0)))] ?_
 intro cx hnt
 refine Sq (RD hnt (.no :: []) [] [] [] [] tv ?_)
 obtain ⟨r3,hr3,hm⟩:=bo hm
 obtain ⟨g4,g5,hm⟩:=go2 hm
 refine Sq (RK hnt (.asR (ow 1024 [(bs [97]),(bs [98]),(bs [99]),(bs [119,101,98]),(bs [100,98,45,49]),(bs [88,95,57])].length) [(bs [97]),(bs [98]),(bs [99]),(bs [119,101,98]),(bs [100,98,45,49]),(bs [88,95,57])].length (elems encS ByteArray.empty [(bs [97]),(bs [98]),(bs [99]),(bs [119,101,98]),(bs [100,98,45,49]),(bs [88,95,57])]) :: .no::o97 [0] true r3::nn 3 []) [(2,pS ([(bs [97]),(bs [98]),(bs [99]),(bs [119,101,98]),(bs [100,98,45,49]),(bs [88,95,57])].getD (Int.toNat r3.1) ByteArray.empty))] [(0,bx (pm (Al r3.2)))] (an (congrArg (MV.own 1024 0 0) (RowIs.asP (enc:=encS) (d:=ByteArray.empty) (L := [(bs [97]),(bs [98]),(bs [99]),(bs [119,101,98]),(bs [100,98,45,49]),(bs [88,95,57])]) (RowIs.lit (enc:=encS) (d:=ByteArray.empty) (n:=6) (f:=(cut 1 [vs (bs [97]),vs (bs [98]),vs (bs [99]),vs (bs [119,101,98]),vs (bs [100,98,45,49]),vs (bs [88,95,57])])) [(bs [97]),(bs [98]),(bs [99]),(bs [119,101,98]),(bs [100,98,45,49]),(bs [88,95,57])] rfl (fun|0,_=>rfl|1,_=>rfl|2,_=>rfl|3,_=>rfl|4,_=>rfl|5,_=>rfl|n+6,h=>absurd h (by omega)))).1) (an (RowIs.asP (enc:=encS) (d:=ByteArray.empty) (L := [(bs [97]),(bs [98]),(bs [99]),(bs [119,101,98]),(bs [100,98,45,49]),(bs [88,95,57])]) (RowIs.lit (enc:=encS) (d:=ByteArray.empty) (n:=6) (f:=(cut 1 [vs (bs [97]),vs (bs [98]),vs (bs [99]),vs (bs [119,101,98]),vs (bs [100,98,45,49]),vs (bs [88,95,57])])) [(bs [97]),(bs [98]),(bs [99]),(bs [119,101,98]),(bs [100,98,45,49]),(bs [88,95,57])] rfl (fun|0,_=>rfl|1,_=>rfl|2,_=>rfl|3,_=>rfl|4,_=>rfl|5,_=>rfl|n+6,h=>absurd h (by omega)))) (an (Cn p0 6 r3 hr3) (an tv (an g4.1 (an g4.2 (an g5 tv))))))) ?_)
 obtain rfl:=sj hm
 exact DW.ret (An [.box (pm (Al r3.2))] [] (pS ([(bs [97]),(bs [98]),(bs [99]),(bs [119,101,98]),(bs [100,98,45,49]),(bs [88,95,57])].getD (Int.toNat r3.1) ByteArray.empty)))
abbrev o98 (ks:List Nat) (b:Bool) (RES:ByteArray×Ak) (sm:List Nat := []):Orc := .call 26 ks b (pS RES.1) [.box (pm (Al RES.2))] [] sm

theorem Eu (p0:Ak) (p1:Int) (RES:Bool×Ak) (hm:Ez p0 p1=some RES):Spec Tryz.prog 27 [rr 0,pI p1] [.box (pm (Al p0))] (pB RES.1) [.box (pm (Al RES.2))] []:=by
 unfold Ez at hm
 refine SO Tryz.func27 rfl rfl [(0,rr 0),(1,pI p1)] [(0,bx (pm (Al p0)))] ?_
 intro cx hnt
 refine Sq (RD hnt (.no :: []) [] [] [] [] tv ?_)
 obtain ⟨r1,hr1,hm⟩:=bo hm
 refine Sq (RK hnt (nn 2 (o97 [0] true r1::nn 4 [])) [(4,pB (r1.1==(w64 (p1-1))))] [(0,bx (pm (Al r1.2)))] (an (Cn p0 p1 r1 hr1) (an tv tv)) ?_)
 obtain rfl:=sj hm
 exact DW.ret (An [.box (pm (Al r1.2))] [] (pB (r1.1==(w64 (p1-1)))))
abbrev o99 (ks:List Nat) (b:Bool) (RES:Bool×Ak) (sm:List Nat := []):Orc := .call 27 ks b (pB RES.1) [.box (pm (Al RES.2))] [] sm

theorem Ub (p0:Ae) (p1:Int) (RES:List Int) (hm:Mc p0 p1=some RES):Spec Tryz.prog 54 [.p (.agg (Ag p0)),pI p1] [] (ow 0 RES.length) [] [roI RES]:=by
 unfold Mc at hm
 refine SO Tryz.func54 rfl rfl [(0,.p (.agg (Ag p0))),(1,pI p1)] [] ?_
 intro cx hnt
 refine Sq (RK hnt (nn 2 []) [(1,pI p1),(2,rr 1016)] [(1016,bx (pm (Ag p0)))] tv ?_)
 obtain ⟨r1,hr1,hm⟩:=bo hm
 refine Sq (Sq (RD hnt (nn 2 (o10 [] true r1 :: .no :: [])) [] [(10,pB (!r1))] [] [] (an (Wr p0 p1 r1 hr1) tv) ?_))
 refine Ar hm ?_ ?_
 ·intro h2 hm
  refine Sq (RK hnt (.no :: []) [(4,.p (.sl .nil 0 0 (fun _ => [])))] [] tv ?_)
  refine DW.cv [] [(4,ow 100000 0)] [] [(100000,ob0 (roI []))] (Conv.ads [(.s 4,100000,1,elems Au 0 [])]) ?_
  obtain rfl:=sj hm
  exact DW.ret (An [roI []] [100000] (ow 0 0))
 ·intro h2 hm
  refine Sk ?_
  refine Sq (RD hnt (.no :: []) [10] [(5,.p (.sl .nil 0 0 (fun _ => [])))] [] [] tv ?_)
  refine Sq (Sq (RD hnt (.no :: []) [] [(6,pI 0)] [] [] tv ?_))
  refine Bk ?_
  obtain ⟨hc1,hm⟩:=go1 hm
  refine DW.rangeO (fun (k1:Nat) (s1:List Int)=>Af [(1,pI p1),(2,rr 1016),(5,ow 1272 s1.length),(6,pI ((k1:Nat):Int))] [(1016,bx (pm (Ag p0))),(1272,ob0 (roI s1))]) Aq hm (Conv.ads [(.s 5,1272,1,elems Au 0 [])]) ?_
  intro k1 s1 n1 hk1 hs1 he1
  refine Sq (Sq (RD hnt (nn 5 []) [] [(15,pB (decide (((k1:Nat):Int)<((p0.nodes.length:Nat):Int))))] [] [] tv ?_))
  refine Cv (decide (((k1:Nat):Int)<((p0.nodes.length:Nat):Int))) ?_ ?_
  ·intro h12
   have hlt1:k1<p0.nodes.length:=by have:=of_decide_eq_true h12; omega
   have hm:=hs1 hlt1
   unfold We at hm
   refine Sk ?_
   refine Sq ?_
   refine Jn (ι:=List Int) (fun (y3:List Int)=>Af [(1,pI p1),(2,rr 1016),(5,ow 1272 y3.length),(6,pI ((k1:Nat):Int))] [(1016,bx (pm (Ag p0))),(1272,ob0 (roI y3))]) (fun y3=>(Oi n1) y3=some RES) ?_ ?_
   ·intro y3 hm
    unfold Oi at hm
    refine RD hnt (nn 3 []) [] [(6,pI (w64 (((k1:Nat):Int)+1)))] [] [] tv ?_
    exact jD y3 ⟨hlt1,hm⟩ (Conv.tp [(6,pI (w64 (((k1:Nat):Int)+1)))] [] (by kernel_rfl) (.cons rfl (.of_eq (congrArg pI (Bt hlt1 hc1))) .nil) .nil)
   ·refine Bk ?_
    refine Sq (RD hnt (nn 8 []) [15] [(25,pB ((p0.nodes.getD k1 Aq).parent==p1))] [] [] (an (nn0 k1) (an (ltc hlt1) tv)) ?_)
    refine Ar hm ?_ ?_
    ·intro h13 hm
     obtain ⟨g14,hm⟩:=go1 hm
     refine RN hnt (nn 10 []) [(1,pI p1),(2,rr 1016),(5,ow 1272 (s1 ++ [(p0.nodes.getD k1 Aq).id]).length),(6,pI ((k1:Nat):Int))] [(1016,bx (pm (Ag p0))),(1272,ob0 (roI (s1 ++ [(p0.nodes.getD k1 Aq).id])))] [(5,ow 1272 (s1.length+1))] [(1272,.row 1 (s1.length+1) (De s1.length (elI s1) (cut 1 [vi (p0.nodes.getD k1 Aq).id])))] (an (nn0 k1) (an (ltc hlt1) (an (by omega:(s1.length+1)*8≤140737488355328) tv))) (by kernel_rfl) (.cons rfl (MLe.ownLen (enc:=Au) (d:=0) (f:=(De s1.length (elI s1) (cut 1 [vi (p0.nodes.getD k1 Aq).id]))) (RowIs.cat RowIs.elems (RowIs.lit (enc:=Au) (d:=0) (n:=1) (f:=(cut 1 [vi (p0.nodes.getD k1 Aq).id])) [(p0.nodes.getD k1 Aq).id] rfl (fun|0,_=>rfl|n+1,h=>absurd h (by omega))))) .nil) (.cons rfl (BLe.typed (RowIs.cat RowIs.elems (RowIs.lit (enc:=Au) (d:=0) (n:=1) (f:=(cut 1 [vi (p0.nodes.getD k1 Aq).id])) [(p0.nodes.getD k1 Aq).id] rfl (fun|0,_=>rfl|n+1,h=>absurd h (by omega))))) .nil) ?_
     exact bD (s1 ++ [(p0.nodes.getD k1 Aq).id]) hm .refl
    ·intro h13 hm
     refine Sk ?_
     exact bD s1 hm Conv.t0
  ·intro h12
   have hge1:¬ k1<p0.nodes.length:=by have:=of_decide_eq_false h12; omega
   have hm:=he1 hge1
   unfold Abz at hm
   refine DW.exit ?_
   refine Ao ?_
   refine Ba ?_
   refine Ai ?_
   show DW _ _ _ _ _
   refine Sq (RK hnt (nn 2 []) [(4,ow 1272 s1.length)] [(1272,ob0 (roI s1))] tv ?_)
   obtain rfl:=sj hm
   exact DW.ret (An [roI s1] [1272] (ow 0 s1.length))
abbrev o101 (ks:List Nat) (b:Bool) (RES:List Int) (sm:List Nat := []):Orc := .call 54 ks b (ow 0 RES.length) [] [roI RES] sm

abbrev AfK : Nat×Obj:=(1032,bx [.p (.sl .nil 0 0 (fun _ => [])),pI 0])
abbrev AfM : Nat×Obj:=(1032,bx [ow 100000 0,pI 0])
theorem AfR (p0:Ae) (p1:Int) (RES:Ae×Int) (hm:Uo p0 p1=some RES):Spec Tryz.prog 28 [.p (.agg (Ag p0)),pI p1] [] (.tup [.agg [ow 0 RES.1.nodes.length,pI RES.1.next],pI RES.2]) [] [Dp RES.1.nodes]:=by
 unfold Uo at hm
 refine SO Tryz.func28 rfl rfl [(0,.p (.agg (Ag p0))),(1,pI p1)] [] ?_
 intro cx hnt
 refine Sq (RK hnt (nn 3 []) [(1,pI p1),(2,rr 1016),(4,rr 1032)] [(1016,bx (pm (Ag p0))),(AfK)] tv ?_)
 refine Sq (Bk ?_)
 obtain ⟨r1,hr1,hm⟩:=bo hm
 refine Sq (RD hnt (.no::o6 [] true r1::nn 2 []) [] [(8,pB (!r1))] [] [] (an (Kr p0 r1 hr1) tv) ?_)
 refine Ar hm ?_ ?_
 ·intro h2 hm
  refine Sq (RD hnt (nn 3 []) [1,2,8] [(5,pI 1)] [1016] [] tv ?_)
  refine DW.cv [] [] [] [(AfM),(100000,ob0 (Dp []))] (Conv.ads [(.o 1032 0,100000,6,elems Cc Aq [])]) ?_
  obtain rfl:=sj hm
  exact DW.ret (An [Dp []] [100000] (.tup [.agg [ow 0 0,pI 0],pI 1]))
 ·intro h2 hm
  obtain ⟨r3,hr3,hm⟩:=bo hm
  refine Sq (RD hnt (nn 2 (o10 [] true r3::nn 2 [])) [8] [(13,pB (!r3))] [] [] (an (Wr p0 p1 r3 hr3) tv) ?_)
  refine Ar hm ?_ ?_
  ·intro h4 hm
   refine Sq (RD hnt (nn 3 []) [1,2,13] [(5,pI 4)] [1016] [] tv ?_)
   refine DW.cv [] [] [] [(AfM),(100000,ob0 (Dp []))] (Conv.ads [(.o 1032 0,100000,6,elems Cc Aq [])]) ?_
   obtain rfl:=sj hm
   exact DW.ret (An [Dp []] [100000] (.tup [.agg [ow 0 0,pI 0],pI 4]))
  ·intro h4 hm
   refine Sq (RD hnt (nn 3 []) [13] [(19,pB (p1==1))] [] [] tv ?_)
   refine Ar hm ?_ ?_
   ·intro h5 hm
    refine Sq (RD hnt (nn 3 []) [1,2,19] [(5,pI 9)] [1016] [] tv ?_)
    refine DW.cv [] [] [] [(AfM),(100000,ob0 (Dp []))] (Conv.ads [(.o 1032 0,100000,6,elems Cc Aq [])]) ?_
    obtain rfl:=sj hm
    exact DW.ret (An [Dp []] [100000] (.tup [.agg [ow 0 0,pI 0],pI 9]))
   ·intro h5 hm
    obtain ⟨r6,hr6,hm⟩:=bo hm
    refine Sq (RD hnt (nn 2 (o101 [] true r6::nn 3 [])) [19] [(23,pB (decide (((r6.length:Nat):Int)>0)))] [] [] (an (Ub p0 p1 r6 hr6) tv) ?_)
    refine Ar hm ?_ ?_
    ·intro h7 hm
     refine Sq (RD hnt (nn 3 []) [1,2,23] [(5,pI 6)] [1016] [] tv ?_)
     refine DW.cv [] [] [] [(AfM),(100000,ob0 (Dp []))] (Conv.ads [(.o 1032 0,100000,6,elems Cc Aq [])]) ?_
     obtain rfl:=sj hm
     exact DW.ret (An [Dp []] [100000] (.tup [.agg [ow 0 0,pI 0],pI 6]))
    ·intro h7 hm
     refine Sk ?_
     refine DW.done ?_
     show DW _ _ _ _ _
     refine Sq (RD hnt (nn 5 []) [23] [(6,rr 1048)] [] [(1048,bx [.p (.sl .nil 0 0 (fun _ => [])),pI p0.next])] tv ?_)
     refine Sq (Sq (RD hnt (.no :: []) [] [(7,pI 0)] [] [] tv ?_))
     refine Bk ?_
     obtain ⟨hc1,hm⟩:=go1 hm
     refine DW.rangeO (fun (k1:Nat) (s1:List Ax)=>Af [(1,pI p1),(2,rr 1016),(4,rr 1032),(6,rr 1048),(7,pI ((k1:Nat):Int))] [(1016,bx (pm (Ag p0))),(AfK),(1048,bx [ow 1448 s1.length,pI p0.next]),(1448,ob0 (Dp s1))]) Aq hm (Conv.ads [(.o 1048 0,1448,6,elems Cc Aq [])]) ?_
     intro k1 s1 n1 hk1 hs1 he1
     refine Sq (Sq (RD hnt (nn 5 []) [] [(37,pB (decide (((k1:Nat):Int)<((p0.nodes.length:Nat):Int))))] [] [] tv ?_))
     refine Cv (decide (((k1:Nat):Int)<((p0.nodes.length:Nat):Int))) ?_ ?_
     ·intro h17
      have hlt1:k1<p0.nodes.length:=by have:=of_decide_eq_true h17; omega
      have hm:=hs1 hlt1
      unfold Uv at hm
      refine Sk ?_
      refine Sq ?_
      refine Jn (ι:=List Ax) (fun (y3:List Ax)=>Af [(1,pI p1),(2,rr 1016),(4,rr 1032),(6,rr 1048),(7,pI ((k1:Nat):Int))] [(1016,bx (pm (Ag p0))),(AfK),(1048,bx [ow 1448 y3.length,pI p0.next]),(1448,ob0 (Dp y3))]) (fun y3=>(Rb n1) y3=some RES) ?_ ?_
      ·intro y3 hm
       unfold Rb at hm
       refine RD hnt (nn 3 []) [] [(7,pI (w64 (((k1:Nat):Int)+1)))] [] [] tv ?_
       exact jD y3 ⟨hlt1,hm⟩ (Conv.tp [(7,pI (w64 (((k1:Nat):Int)+1)))] [] (by kernel_rfl) (.cons rfl (.of_eq (congrArg pI (Bt hlt1 hc1))) .nil) .nil)
      ·refine Bk ?_
       refine Sq (RD hnt (nn 8 []) [37] [(47,pB ((p0.nodes.getD k1 Aq).id != p1))] [] [] (an (nn0 k1) (an (ltc hlt1) tv)) ?_)
       refine Ar hm ?_ ?_
       ·intro h18 hm
        obtain ⟨g19,hm⟩:=go1 hm
        refine RN hnt (nn 11 []) [(1,pI p1),(2,rr 1016),(4,rr 1032),(6,rr 1048),(7,pI ((k1:Nat):Int))] [(1016,bx (pm (Ag p0))),(AfK),(1048,bx [ow 1448 (s1 ++ [(p0.nodes.getD k1 Aq)]).length,pI p0.next]),(1448,ob0 (Dp (s1 ++ [(p0.nodes.getD k1 Aq)])))] [] [(1048,.box [ow 1448 (s1.length+1),pI p0.next]),(1448,.row 6 (s1.length+1) (De s1.length (Zc s1) (cut 6 [vi (p0.nodes.getD k1 Aq).id,vi (p0.nodes.getD k1 Aq).parent,vs (p0.nodes.getD k1 Aq).name,vi (p0.nodes.getD k1 Aq).control,vi (p0.nodes.getD k1 Aq).kind,vi (p0.nodes.getD k1 Aq).owner])))] (an (nn0 k1) (an (ltc hlt1) (an (by omega:(s1.length+1)*56≤140737488355328) tv))) (by kernel_rfl) .nil (.cons rfl (.box (.cons (MLe.ownLen (enc:=Cc) (d:=Aq) (f:=(De s1.length (Zc s1) (cut 6 [vi (p0.nodes.getD k1 Aq).id,vi (p0.nodes.getD k1 Aq).parent,vs (p0.nodes.getD k1 Aq).name,vi (p0.nodes.getD k1 Aq).control,vi (p0.nodes.getD k1 Aq).kind,vi (p0.nodes.getD k1 Aq).owner]))) (RowIs.cat RowIs.elems (RowIs.lit (enc:=Cc) (d:=Aq) (n:=1) (f:=(cut 6 [vi (p0.nodes.getD k1 Aq).id,vi (p0.nodes.getD k1 Aq).parent,vs (p0.nodes.getD k1 Aq).name,vi (p0.nodes.getD k1 Aq).control,vi (p0.nodes.getD k1 Aq).kind,vi (p0.nodes.getD k1 Aq).owner])) [(p0.nodes.getD k1 Aq)] rfl (fun|0,_=>rfl|n+1,h=>absurd h (by omega))))) (.cons .rfl .nil))) (.cons rfl (BLe.typed (RowIs.cat RowIs.elems (RowIs.lit (enc:=Cc) (d:=Aq) (n:=1) (f:=(cut 6 [vi (p0.nodes.getD k1 Aq).id,vi (p0.nodes.getD k1 Aq).parent,vs (p0.nodes.getD k1 Aq).name,vi (p0.nodes.getD k1 Aq).control,vi (p0.nodes.getD k1 Aq).kind,vi (p0.nodes.getD k1 Aq).owner])) [(p0.nodes.getD k1 Aq)] rfl (fun|0,_=>rfl|n+1,h=>absurd h (by omega))))) .nil)) ?_
        exact bD (s1 ++ [(p0.nodes.getD k1 Aq)]) hm .refl
       ·intro h18 hm
        refine Sk ?_
        exact bD s1 hm Conv.t0
     ·intro h17
      have hge1:¬ k1<p0.nodes.length:=by have:=of_decide_eq_false h17; omega
      have hm:=he1 hge1
      unfold Ut at hm
      refine DW.exit ?_
      refine Ao ?_
      refine Ba ?_
      refine Ai ?_
      show DW _ _ _ _ _
      refine Sq (RK hnt (nn 3 []) [(4,rr 1032),(5,pI 0)] [(1032,bx [ow 1448 s1.length,pI p0.next]),(1448,ob0 (Dp s1))] tv ?_)
      obtain rfl:=sj hm
      exact DW.ret (An [Dp s1] [1448] (.tup [.agg [ow 0 s1.length,pI p0.next],pI 0]))
abbrev o100 (ks:List Nat) (b:Bool) (RES:Ae×Int) (sm:List Nat := []):Orc := .call 28 ks b (.tup [.agg [ow 0 RES.1.nodes.length,pI RES.1.next],pI RES.2]) [] [Dp RES.1.nodes] sm

abbrev c96e1 : Nat×Obj:=(1032,bx [.p (.sl .nil 0 0 (fun _ => [])),pI 0])
theorem AdQ (p0:Ak) (p1:Int) (RES:Ae×Ak) (hm:Pg p0 p1=some RES):Spec Tryz.prog 7 [rr 0,pI p1] [.box (pm (Al p0))] (.p (.agg (Ag RES.1))) [.box (pm (Al RES.2))] []:=by
 unfold Pg at hm
 refine SO Tryz.func7 rfl rfl [(0,rr 0),(1,pI p1)] [(0,bx (pm (Al p0)))] ?_
 intro cx hnt
 refine Sq (RD hnt (.no :: []) [] [(4,rr 1032)] [] [(c96e1)] tv ?_)
 obtain ⟨r1,hr1,hm⟩:=bo hm
 refine Sq (RD hnt (o4 [] true r1::nn 2 []) [] [(5,rr 1040)] [] [(1040,bx [ow 1104 r1.nodes.length,pI r1.next]),(1104,ob0 (Dp r1.nodes))] (an (Aea r1 hr1) tv) ?_)
 obtain ⟨r2,hr2,hm⟩:=bo hm
 refine Sq (Sq (RD hnt (nn 3 (o97 [0] true r2 :: .no :: [])) [1] [(6,pI r2.1)] [] [(0,bx (pm (Al r2.2)))] (an (Cn p0 (w64 (p1+1)) r2 hr2) (an tv tv)) ?_))
 refine Bk ?_
 refine DW.whileO (fun (s1:Ak×Ae×Int)=>Af [(0,rr 0),(4,rr 1032),(5,rr 1040),(6,pI s1.2.2)] [(0,bx (pm (Al s1.1))),(c96e1),(1040,bx (pm (Ag s1.2.1)))]) hm (Conv.frz [1104]) ?_
 intro s1 n1 hm
 unfold Vj at hm
 refine Sq (Sq (RD hnt (nn 2 []) [] [(19,pB (decide (s1.2.2>0)))] [] [] tv ?_))
 refine Ar hm ?_ ?_
 ·intro h18 hm
  refine Sk ?_
  refine Sq ?_
  refine Jn (ι:=Ak×Ae) (fun (y3:Ak×Ae)=>Af [(0,rr 0),(4,rr 1032),(5,rr 1040),(6,pI s1.2.2)] [(0,bx (pm (Al y3.1))),(c96e1),(1040,bx (pm (Ag y3.2)))]) (fun y3=>(Jh s1 n1) y3=some RES) ?_ ?_
  ·intro y3 hm
   unfold Jh at hm
   refine RD hnt (nn 3 []) [] [(6,pI (w64 (s1.2.2-1)))] [] [] tv ?_
   exact jD (y3.1,y3.2,(w64 (s1.2.2-1))) hm Conv.eqK
  ·refine Bk ?_
   obtain ⟨r19,hr19,hm⟩:=bo hm
   obtain ⟨g20,hm⟩:=go1 hm
   refine Sq (RD hnt (nn 6 (o97 [0] true r19::nn 4 [])) [19] [(7,pI (s1.2.1.nodes.getD (Int.toNat r19.1) Aq).id)] [] [(0,bx (pm (Al r19.2)))] (an (Cn s1.1 ((s1.2.1.nodes.length:Nat):Int) r19 hr19) (an tv (an g20.1 (an g20.2 tv)))) ?_)
   obtain ⟨r21,hr21,hm⟩:=bo hm
   obtain ⟨r22,hr22,hm⟩:=bo hm
   refine Sq (Sq (RD hnt (nn 3 (o98 [0] true r21::o5 [] true r22::nn 8 [])) [7] [(8,rr 1064),(10,pI r22.2.2)] [] [(0,bx (pm (Al r21.2))),(1064,bx [ow 1296 r22.1.nodes.length,pI r22.1.next]),(1296,ob0 (Dp r22.1.nodes))] (an (AdE r19.2 r21 hr21) (an tv (an (AaK s1.2.1 (s1.2.1.nodes.getD (Int.toNat r19.1) Aq).id r21.1 r22 hr22) tv))) ?_))
   refine Sq (RD hnt (nn 2 []) [10] [(42,pB (r22.2.2==0))] [] [] tv ?_)
   refine Jn (ι:=Ae) (fun (y4:Ae)=>Af [(0,rr 0),(4,rr 1032),(5,rr 1040),(6,pI s1.2.2)] [(0,bx (pm (Al r21.2))),(c96e1),(1040,bx (pm (Ag y4)))]) (fun y4=>(Ks s1 n1 r21) y4=some RES) ?_ ?_
   ·intro y4 hm
    unfold Ks at hm
    obtain ⟨r24,hr24,hm⟩:=bo hm
    refine Sq (RD hnt (.no::o99 [0] true r24 :: []) [] [(45,pB r24.1)] [] [(0,bx (pm (Al r24.2)))] (an (Eu r21.2 6 r24 hr24) (an tv tv)) ?_)
    refine Ar hm ?_ ?_
    ·intro h25 hm
     obtain ⟨r26,hr26,hm⟩:=bo hm
     obtain ⟨g27,hm⟩:=go1 hm
     obtain ⟨r28,hr28,hm⟩:=bo hm
     refine Sq (RD hnt (nn 7 (o97 [0] true r26::nn 3 (o100 [] true r28::nn 6 []))) [45] [(11,rr 1088),(12,pI r28.2)] [] [(0,bx (pm (Al r26.2))),(1088,bx [ow 1464 r28.1.nodes.length,pI r28.1.next]),(1464,ob0 (Dp r28.1.nodes))] (an (Cn r24.2 ((y4.nodes.length:Nat):Int) r26 hr26) (an tv (an g27.1 (an g27.2 (an (AfR y4 (y4.nodes.getD (Int.toNat r26.1) Aq).id r28 hr28) tv))))) ?_)
     refine Sq (RD hnt (nn 2 []) [12] [(62,pB (r28.2==0))] [] [] tv ?_)
     refine Ar hm ?_ ?_
     ·intro h29 hm
      refine RD hnt (nn 2 []) [11,62] [] [1088] [(1040,bx [ow 1464 r28.1.nodes.length,pI r28.1.next])] tv ?_
      exact bD (r26.2,r28.1) hm (Conv.frz [1464])
     ·intro h29 hm
      refine Sk ?_
      exact bD (r26.2,y4) hm Conv.t0
    ·intro h25 hm
     refine Sk ?_
     exact bD (r24.2,y4) hm Conv.t0
   ·refine Ar hm ?_ ?_
    ·intro h23 hm
     refine RD hnt (nn 2 []) [8,42] [] [1064] [(1040,bx [ow 1296 r22.1.nodes.length,pI r22.1.next])] tv ?_
     exact jD r22.1 hm (Conv.frz [1296])
    ·intro h23 hm
     refine Sk ?_
     exact jD s1.2.1 hm Conv.t0
 ·intro h18 hm
  refine DW.exit ?_
  refine Ao ?_
  refine Ba ?_
  refine Ai ?_
  show DW _ _ _ _ _
  refine Sq (RD hnt (nn 2 []) [0,5,6,19] [] [1040] [(1032,bx (pm (Ag s1.2.1)))] tv ?_)
  obtain rfl:=sj hm
  exact DW.ret (An [.box (pm (Al s1.1))] [] (.p (.agg (Ag s1.2.1))))
abbrev o96 (ks:List Nat) (b:Bool) (RES:Ae×Ak) (sm:List Nat := []):Orc := .call 7 ks b (.p (.agg (Ag RES.1))) [.box (pm (Al RES.2))] [] sm

theorem AcP (p0:Ak) (RES:Int×Ak) (hm:Nl p0=some RES):Spec Tryz.prog 57 [rr 0] [.box (pm (Al p0))] (pI RES.1) [.box (pm (Al RES.2))] []:=by
 unfold Nl at hm
 refine SO Tryz.func57 rfl rfl [(0,rr 0)] [(0,bx (pm (Al p0)))] ?_
 intro cx hnt
 refine Sq (RD hnt (.no :: []) [] [] [] [] tv ?_)
 obtain ⟨r4,hr4,hm⟩:=bo hm
 obtain ⟨r5,hr5,hm⟩:=bo hm
 obtain ⟨g6,g7,hm⟩:=go2 hm
 refine Sq (RK hnt (.no::o97 [0] true r4 :: .no :: .asR (ow 1048 [1,100,300,10000,50,200,7,(w64 (1+r4.1))].length) [1,100,300,10000,50,200,7,(w64 (1+r4.1))].length (elems Au 0 [1,100,300,10000,50,200,7,(w64 (1+r4.1))]) :: .no::o97 [0] true r5::nn 3 []) [(2,pI ([1,100,300,10000,50,200,7,(w64 (1+r4.1))].getD (Int.toNat r5.1) 0))] [(0,bx (pm (Al r5.2)))] (an (Cn p0 1000 r4 hr4) (an tv (an (congrArg (MV.own 1048 0 0) (RowIs.asP (enc:=Au) (d:=0) (L := [1,100,300,10000,50,200,7,(w64 (1+r4.1))]) (RowIs.lit (enc:=Au) (d:=0) (n:=8) (f:=(cut 1 [vi 1,vi 100,vi 300,vi 10000,vi 50,vi 200,vi 7,vi (w64 (1+r4.1))])) [1,100,300,10000,50,200,7,(w64 (1+r4.1))] rfl (fun|0,_=>rfl|1,_=>rfl|2,_=>rfl|3,_=>rfl|4,_=>rfl|5,_=>rfl|6,_=>rfl|7,_=>rfl|n+8,h=>absurd h (by omega)))).1) (an (RowIs.asP (enc:=Au) (d:=0) (L := [1,100,300,10000,50,200,7,(w64 (1+r4.1))]) (RowIs.lit (enc:=Au) (d:=0) (n:=8) (f:=(cut 1 [vi 1,vi 100,vi 300,vi 10000,vi 50,vi 200,vi 7,vi (w64 (1+r4.1))])) [1,100,300,10000,50,200,7,(w64 (1+r4.1))] rfl (fun|0,_=>rfl|1,_=>rfl|2,_=>rfl|3,_=>rfl|4,_=>rfl|5,_=>rfl|6,_=>rfl|7,_=>rfl|n+8,h=>absurd h (by omega)))) (an (Cn r4.2 8 r5 hr5) (an tv (an g6.1 (an g6.2 (an g7 tv))))))))) ?_)
 obtain rfl:=sj hm
 exact DW.ret (An [.box (pm (Al r5.2))] [] (pI ([1,100,300,10000,50,200,7,(w64 (1+r4.1))].getD (Int.toNat r5.1) 0)))
abbrev o104 (ks:List Nat) (b:Bool) (RES:Int×Ak) (sm:List Nat := []):Orc := .call 57 ks b (pI RES.1) [.box (pm (Al RES.2))] [] sm

theorem Pf (p0:Ak) (p1:Int) (RES:(List Int)×Ak) (hm:Mb p0 p1=some RES):Spec Tryz.prog 31 [rr 0,pI p1] [.box (pm (Al p0))] (ow 1 RES.1.length) [.box (pm (Al RES.2))] [roI RES.1]:=by
 unfold Mb at hm
 refine SO Tryz.func31 rfl rfl [(0,rr 0),(1,pI p1)] [(0,bx (pm (Al p0)))] ?_
 intro cx hnt
 refine Sq (RD hnt (.no :: []) [] [] [] [] tv ?_)
 refine Sq (RD hnt (.no :: []) [] [(5,.p (.sl .nil 0 0 (fun _ => [])))] [] [] tv ?_)
 refine Sq (Sq (RD hnt (.no :: []) [] [(6,pI 0)] [] [] tv ?_))
 refine Bk ?_
 obtain ⟨hc1,hm⟩:=go1 hm
 refine DW.forO (fun (k1:Int) (s1:Ak×(List Int))=>Af [(0,rr 0),(1,pI p1),(5,ow 1136 s1.2.length),(6,pI k1)] [(0,bx (pm (Al s1.1))),(1136,ob0 (roI s1.2))]) (lo:=0) (hi:=p1) hm (Conv.ads [(.s 5,1136,1,elems Au 0 [])]) ?_
 intro k1 s1 n1 hk1 hs1 he1
 refine Sq (Sq (RD hnt (nn 3 []) [] [(9,pB (decide (k1<p1)))] [] [] tv ?_))
 refine Cv (decide (k1<p1)) ?_ ?_
 ·intro h8
  have hlt1:k1<p1:=by have:=of_decide_eq_true h8; omega
  have hm:=hs1 hlt1
  unfold Wq at hm
  refine Sk ?_
  refine Sq ?_
  refine Jn (ι:=Ak×(List Int)) (fun (y3:Ak×(List Int))=>Af [(0,rr 0),(1,pI p1),(5,ow 1136 y3.2.length),(6,pI k1)] [(0,bx (pm (Al y3.1))),(1136,ob0 (roI y3.2))]) (fun y3=>(Oh n1) y3=some RES) ?_ ?_
  ·intro y3 hm
   unfold Oh at hm
   refine RD hnt (nn 3 []) [] [(6,pI (w64 (k1+1)))] [] [] tv ?_
   exact jD (y3.1,y3.2) ⟨hlt1,hm⟩ (Conv.tp [(6,pI (w64 (k1+1)))] [] (by kernel_rfl) (.cons rfl (.of_eq (congrArg pI (Rm (lo:=0) (hi:=p1) (by omega) hk1 hlt1 (by omega)))) .nil) .nil)
  ·refine Bk ?_
   obtain ⟨r9,hr9,hm⟩:=bo hm
   refine Sq (RD hnt (.no::o99 [0] true r9 :: []) [9] [(13,pB r9.1)] [] [(0,bx (pm (Al r9.2)))] (an (Eu s1.1 3 r9 hr9) (an tv tv)) ?_)
   refine Ar hm ?_ ?_
   ·intro h10 hm
    obtain ⟨g11,hm⟩:=go1 hm
    refine RN hnt (nn 5 []) [(0,rr 0),(1,pI p1),(5,ow 1136 (s1.2 ++ [k1]).length),(6,pI k1)] [(0,bx (pm (Al r9.2))),(1136,ob0 (roI (s1.2 ++ [k1])))] [(5,ow 1136 (s1.2.length+1))] [(1136,.row 1 (s1.2.length+1) (De s1.2.length (elI s1.2) (cut 1 [vi k1])))] (an (by omega:(s1.2.length+1)*8≤140737488355328) tv) (by kernel_rfl) (.cons rfl (MLe.ownLen (enc:=Au) (d:=0) (f:=(De s1.2.length (elI s1.2) (cut 1 [vi k1]))) (RowIs.cat RowIs.elems (RowIs.lit (enc:=Au) (d:=0) (n:=1) (f:=(cut 1 [vi k1])) [k1] rfl (fun|0,_=>rfl|n+1,h=>absurd h (by omega))))) .nil) (.cons rfl (BLe.typed (RowIs.cat RowIs.elems (RowIs.lit (enc:=Au) (d:=0) (n:=1) (f:=(cut 1 [vi k1])) [k1] rfl (fun|0,_=>rfl|n+1,h=>absurd h (by omega))))) .nil) ?_
    exact bD (r9.2,(s1.2 ++ [k1])) hm .refl
   ·intro h10 hm
    refine Sk ?_
    exact bD (r9.2,s1.2) hm Conv.t0
 ·intro h8
  have hge1:¬ k1<p1:=by have:=of_decide_eq_false h8; omega
  have hm:=he1 hge1
  unfold Wo at hm
  refine DW.exit ?_
  refine Ao ?_
  refine Ba ?_
  refine Ai ?_
  show DW _ _ _ _ _
  refine Sq (RD hnt (nn 2 []) [0,1,5,6,9] [(4,ow 1136 s1.2.length)] [] [] tv ?_)
  obtain rfl:=sj hm
  exact DW.ret (An [.box (pm (Al s1.1)),roI s1.2] [1136] (ow 1 s1.2.length))
abbrev o105 (ks:List Nat) (b:Bool) (RES:(List Int)×Ak) (sm:List Nat := []):Orc := .call 31 ks b (ow 1 RES.1.length) [.box (pm (Al RES.2))] [roI RES.1] sm

abbrev Yx : Nat×Obj:=(1016,bx [pI 0,pI 0,pI 0,pI 0,pI 0,pI 0,pI 0,.p (.sl .nil 0 0 (fun _ => [])),.p (.sl .nil 0 0 (fun _ => [])),pI 0,pI 0,pI 0,pI 0,pI 0,pI 0,pB false,.p (.sl .nil 0 0 (fun _ => []))])
abbrev Yi (r1:At):Nat×Obj:=(1034,ob0 (Aj r1.devices))
theorem AbN (p0:Ak) (RES:At×Ak) (hm:Lg p0=some RES):Spec Tryz.prog 30 [rr 0] [.box (pm (Al p0))] (.agg [pI RES.1.pidsMax,pI RES.1.weight,pI RES.1.quota,pI RES.1.period,pI RES.1.burst,pI RES.1.clampMin,pI RES.1.clampMax,.p (slI RES.1.cpus),.p (slI RES.1.mems),pI RES.1.partition,pI RES.1.memory.min,pI RES.1.memory.low,pI RES.1.memory.high,pI RES.1.memory.max,pI RES.1.memory.swapMax,pB RES.1.memory.together,ow 1 RES.1.devices.length]) [.box (pm (Al RES.2))] [Aj RES.1.devices]:=by
 unfold Lg at hm
 refine SO Tryz.func30 rfl rfl [(0,rr 0)] [(0,bx (pm (Al p0)))] ?_
 intro cx hnt
 refine Sq (RD hnt (.no :: []) [] [(2,rr 1016)] [] [(Yx)] tv ?_)
 obtain ⟨r1,hr1,hm⟩:=bo hm
 refine Sq (RD hnt (o19 [] true r1::nn 2 []) [] [(3,rr 1024)] [] [(1024,bx [pI r1.pidsMax,pI r1.weight,pI r1.quota,pI r1.period,pI r1.burst,pI r1.clampMin,pI r1.clampMax,ow 1032 r1.cpus.length,ow 1033 r1.mems.length,pI r1.partition,pI r1.memory.min,pI r1.memory.low,pI r1.memory.high,pI r1.memory.max,pI r1.memory.swapMax,pB r1.memory.together,ow 1034 r1.devices.length]),(1032,ob0 (roI r1.cpus)),(1033,ob0 (roI r1.mems)),(Yi r1)] (an (Pc r1 hr1) tv) ?_)
 obtain ⟨r2,hr2,hm⟩:=bo hm
 refine Sq (Sq (RD hnt (.no::o99 [0] true r2 :: []) [] [(6,pB r2.1)] [] [(0,bx (pm (Al r2.2)))] (an (Eu p0 2 r2 hr2) (an tv tv)) ?_))
 refine Jn (ι:=Ak×Int) (fun (y1:Ak×Int)=>Af [(0,rr 0),(2,rr 1016),(3,rr 1024)] [(0,bx (pm (Al y1.1))),(Yx),(1024,bx [pI y1.2,pI r1.weight,pI r1.quota,pI r1.period,pI r1.burst,pI r1.clampMin,pI r1.clampMax,ow 1032 r1.cpus.length,ow 1033 r1.mems.length,pI r1.partition,pI r1.memory.min,pI r1.memory.low,pI r1.memory.high,pI r1.memory.max,pI r1.memory.swapMax,pB r1.memory.together,ow 1034 r1.devices.length]),(1032,ob0 (roI r1.cpus)),(1033,ob0 (roI r1.mems)),(Yi r1)]) (fun y1=>(Ii r1) y1=some RES) ?_ ?_
 ·intro y1 hm
  unfold Ii at hm
  obtain ⟨r5,hr5,hm⟩:=bo hm
  refine Sq (RD hnt (.no::o104 [0] true r5::nn 2 []) [] [] [] [(0,bx (pm (Al r5.2))),(1024,bx [pI y1.2,pI r5.1,pI r1.quota,pI r1.period,pI r1.burst,pI r1.clampMin,pI r1.clampMax,ow 1032 r1.cpus.length,ow 1033 r1.mems.length,pI r1.partition,pI r1.memory.min,pI r1.memory.low,pI r1.memory.high,pI r1.memory.max,pI r1.memory.swapMax,pB r1.memory.together,ow 1034 r1.devices.length])] (an (AcP y1.1 r5 hr5) (an tv tv)) ?_)
  obtain ⟨r6,hr6,hm⟩:=bo hm
  refine Sq (Sq (RD hnt (.no::o99 [0] true r6 :: []) [] [(14,pB r6.1)] [] [(0,bx (pm (Al r6.2)))] (an (Eu r5.2 2 r6 hr6) (an tv tv)) ?_))
  refine Jn (ι:=Ak×Int×Int) (fun (y2:Ak×Int×Int)=>Af [(0,rr 0),(2,rr 1016),(3,rr 1024)] [(0,bx (pm (Al y2.1))),(Yx),(1024,bx [pI y1.2,pI r5.1,pI y2.2.1,pI r1.period,pI y2.2.2,pI r1.clampMin,pI r1.clampMax,ow 1032 r1.cpus.length,ow 1033 r1.mems.length,pI r1.partition,pI r1.memory.min,pI r1.memory.low,pI r1.memory.high,pI r1.memory.max,pI r1.memory.swapMax,pB r1.memory.together,ow 1034 r1.devices.length]),(1032,ob0 (roI r1.cpus)),(1033,ob0 (roI r1.mems)),(Yi r1)]) (fun y2=>(Im r1 y1 r5) y2=some RES) ?_ ?_
  ·intro y2 hm
   unfold Im at hm
   obtain ⟨r10,hr10,hm⟩:=bo hm
   refine Sq (RD hnt (.no::o97 [0] true r10::nn 3 []) [] [] [] [(0,bx (pm (Al r10.2))),(1024,bx [pI y1.2,pI r5.1,pI y2.2.1,pI (w64 (1+r10.1)),pI y2.2.2,pI r1.clampMin,pI r1.clampMax,ow 1032 r1.cpus.length,ow 1033 r1.mems.length,pI r1.partition,pI r1.memory.min,pI r1.memory.low,pI r1.memory.high,pI r1.memory.max,pI r1.memory.swapMax,pB r1.memory.together,ow 1034 r1.devices.length])] (an (Cn y2.1 9 r10 hr10) (an tv tv)) ?_)
   obtain ⟨r11,hr11,hm⟩:=bo hm
   obtain ⟨r12,hr12,hm⟩:=bo hm
   refine Sq (RD hnt (.no::o97 [0] true r11 :: .no::o97 [0] true r12::nn 4 []) [] [] [] [(0,bx (pm (Al r12.2))),(1024,bx [pI y1.2,pI r5.1,pI y2.2.1,pI (w64 (1+r10.1)),pI y2.2.2,pI r11.1,pI r12.1,ow 1032 r1.cpus.length,ow 1033 r1.mems.length,pI r1.partition,pI r1.memory.min,pI r1.memory.low,pI r1.memory.high,pI r1.memory.max,pI r1.memory.swapMax,pB r1.memory.together,ow 1034 r1.devices.length])] (an (Cn r10.2 10001 r11 hr11) (an tv (an (Cn r11.2 10001 r12 hr12) (an tv tv)))) ?_)
   obtain ⟨r13,hr13,hm⟩:=bo hm
   refine Sq (Sq (RD hnt (.no::o99 [0] true r13 :: []) [] [(36,pB r13.1)] [] [(0,bx (pm (Al r13.2)))] (an (Eu r12.2 2 r13 hr13) (an tv tv)) ?_))
   refine Jn (ι:=Ak×(List Int)) (fun (y3:Ak×(List Int))=>Af [(0,rr 0),(2,rr 1016),(3,rr 1024)] [(0,bx (pm (Al y3.1))),(Yx),(1024,bx [pI y1.2,pI r5.1,pI y2.2.1,pI (w64 (1+r10.1)),pI y2.2.2,pI r11.1,pI r12.1,.p (slI y3.2),ow 1033 r1.mems.length,pI r1.partition,pI r1.memory.min,pI r1.memory.low,pI r1.memory.high,pI r1.memory.max,pI r1.memory.swapMax,pB r1.memory.together,ow 1034 r1.devices.length]),(1033,ob0 (roI r1.mems)),(Yi r1)]) (fun y3=>(Ij r1 y1 r5 y2 r10 r11 r12) y3=some RES) ?_ ?_
   ·intro y3 hm
    unfold Ij at hm
    obtain ⟨r16,hr16,hm⟩:=bo hm
    refine Sq (Sq (RD hnt (.no::o99 [0] true r16 :: []) [] [(41,pB r16.1)] [] [(0,bx (pm (Al r16.2)))] (an (Eu y3.1 2 r16 hr16) (an tv tv)) ?_))
    refine Jn (ι:=Ak×(List Int)) (fun (y4:Ak×(List Int))=>Af [(0,rr 0),(2,rr 1016),(3,rr 1024)] [(0,bx (pm (Al y4.1))),(Yx),(1024,bx [pI y1.2,pI r5.1,pI y2.2.1,pI (w64 (1+r10.1)),pI y2.2.2,pI r11.1,pI r12.1,.p (slI y3.2),.p (slI y4.2),pI r1.partition,pI r1.memory.min,pI r1.memory.low,pI r1.memory.high,pI r1.memory.max,pI r1.memory.swapMax,pB r1.memory.together,ow 1034 r1.devices.length]),(Yi r1)]) (fun y4=>(Ie r1 y1 r5 y2 r10 r11 r12 y3) y4=some RES) ?_ ?_
    ·intro y4 hm
     unfold Ie at hm
     obtain ⟨r19,hr19,hm⟩:=bo hm
     refine Sq (Sq (RD hnt (.no::o99 [0] true r19 :: []) [0] [(46,pB r19.1)] [] [(0,bx (pm (Al r19.2)))] (an (Eu y4.1 3 r19 hr19) (an tv tv)) ?_))
     refine Jn (ι:=Int) (fun (y5:Int)=>Af [(2,rr 1016),(3,rr 1024)] [(0,bx (pm (Al r19.2))),(Yx),(1024,bx [pI y1.2,pI r5.1,pI y2.2.1,pI (w64 (1+r10.1)),pI y2.2.2,pI r11.1,pI r12.1,.p (slI y3.2),.p (slI y4.2),pI y5,pI r1.memory.min,pI r1.memory.low,pI r1.memory.high,pI r1.memory.max,pI r1.memory.swapMax,pB r1.memory.together,ow 1034 r1.devices.length]),(Yi r1)]) (fun y5=>(Ik r1 y1 r5 y2 r10 r11 r12 y3 y4 r19) y5=some RES) ?_ ?_
     ·intro y5 hm
      unfold Ik at hm
      refine Sq (RD hnt (nn 2 []) [3] [] [1024] [(1016,bx [pI y1.2,pI r5.1,pI y2.2.1,pI (w64 (1+r10.1)),pI y2.2.2,pI r11.1,pI r12.1,.p (slI y3.2),.p (slI y4.2),pI y5,pI r1.memory.min,pI r1.memory.low,pI r1.memory.high,pI r1.memory.max,pI r1.memory.swapMax,pB r1.memory.together,ow 1034 r1.devices.length])] tv ?_)
      obtain rfl:=sj hm
      exact DW.ret (An [.box (pm (Al r19.2)),Aj r1.devices] [1034] (.agg [pI y1.2,pI r5.1,pI y2.2.1,pI (w64 (1+r10.1)),pI y2.2.2,pI r11.1,pI r12.1,.p (slI y3.2),.p (slI y4.2),pI y5,pI r1.memory.min,pI r1.memory.low,pI r1.memory.high,pI r1.memory.max,pI r1.memory.swapMax,pB r1.memory.together,ow 1 r1.devices.length]))
     ·refine Ar hm ?_ ?_
      ·intro h20 hm
       refine RD hnt (nn 2 []) [46] [] [] [(1024,bx [pI y1.2,pI r5.1,pI y2.2.1,pI (w64 (1+r10.1)),pI y2.2.2,pI r11.1,pI r12.1,.p (slI y3.2),.p (slI y4.2),pI 1,pI r1.memory.min,pI r1.memory.low,pI r1.memory.high,pI r1.memory.max,pI r1.memory.swapMax,pB r1.memory.together,ow 1034 r1.devices.length])] tv ?_
       exact jD 1 hm Conv.eqK
      ·intro h20 hm
       refine Sk ?_
       exact jD r1.partition hm Conv.t0
    ·refine Ar hm ?_ ?_
     ·intro h17 hm
      obtain ⟨r18,hr18,hm⟩:=bo hm
      refine RD hnt (.no::o105 [0] true r18::nn 2 []) [41] [] [1033] [(0,bx (pm (Al r18.2))),(1024,bx [pI y1.2,pI r5.1,pI y2.2.1,pI (w64 (1+r10.1)),pI y2.2.2,pI r11.1,pI r12.1,.p (slI y3.2),ow 1344 r18.1.length,pI r1.partition,pI r1.memory.min,pI r1.memory.low,pI r1.memory.high,pI r1.memory.max,pI r1.memory.swapMax,pB r1.memory.together,ow 1034 r1.devices.length]),(1344,ob0 (roI r18.1))] (an (Pf r16.2 4 r18 hr18) (an tv tv)) ?_
      exact jD (r18.2,r18.1) hm (Conv.frz [1344])
     ·intro h17 hm
      refine Sk ?_
      exact jD (r16.2,r1.mems) hm (Conv.trans (τ:=Af [(0,rr 0),(2,rr 1016),(3,rr 1024),(41,pB r16.1)] [(0,bx (pm (Al r16.2))),(Yx),(1024,bx [pI y1.2,pI r5.1,pI y2.2.1,pI (w64 (1+r10.1)),pI y2.2.2,pI r11.1,pI r12.1,.p (slI y3.2),.p (slI r1.mems),pI r1.partition,pI r1.memory.min,pI r1.memory.low,pI r1.memory.high,pI r1.memory.max,pI r1.memory.swapMax,pB r1.memory.together,ow 1034 r1.devices.length]),(Yi r1)]) (Conv.frz [1033]) Conv.t0)
   ·refine Ar hm ?_ ?_
    ·intro h14 hm
     obtain ⟨r15,hr15,hm⟩:=bo hm
     refine RD hnt (.no::o105 [0] true r15::nn 2 []) [36] [] [1032] [(0,bx (pm (Al r15.2))),(1024,bx [pI y1.2,pI r5.1,pI y2.2.1,pI (w64 (1+r10.1)),pI y2.2.2,pI r11.1,pI r12.1,ow 1304 r15.1.length,ow 1033 r1.mems.length,pI r1.partition,pI r1.memory.min,pI r1.memory.low,pI r1.memory.high,pI r1.memory.max,pI r1.memory.swapMax,pB r1.memory.together,ow 1034 r1.devices.length]),(1304,ob0 (roI r15.1))] (an (Pf r13.2 6 r15 hr15) (an tv tv)) ?_
     exact jD (r15.2,r15.1) hm (Conv.frz [1304])
    ·intro h14 hm
     refine Sk ?_
     exact jD (r13.2,r1.cpus) hm (Conv.trans (τ:=Af [(0,rr 0),(2,rr 1016),(3,rr 1024),(36,pB r13.1)] [(0,bx (pm (Al r13.2))),(Yx),(1024,bx [pI y1.2,pI r5.1,pI y2.2.1,pI (w64 (1+r10.1)),pI y2.2.2,pI r11.1,pI r12.1,.p (slI r1.cpus),ow 1033 r1.mems.length,pI r1.partition,pI r1.memory.min,pI r1.memory.low,pI r1.memory.high,pI r1.memory.max,pI r1.memory.swapMax,pB r1.memory.together,ow 1034 r1.devices.length]),(1033,ob0 (roI r1.mems)),(Yi r1)]) (Conv.frz [1032]) Conv.t0)
  ·refine Ar hm ?_ ?_
   ·intro h7 hm
    obtain ⟨r8,hr8,hm⟩:=bo hm
    refine Sq (RD hnt (.no::o97 [0] true r8::nn 3 []) [14] [] [] [(0,bx (pm (Al r8.2))),(1024,bx [pI y1.2,pI r5.1,pI (w64 (1+r8.1)),pI r1.period,pI r1.burst,pI r1.clampMin,pI r1.clampMax,ow 1032 r1.cpus.length,ow 1033 r1.mems.length,pI r1.partition,pI r1.memory.min,pI r1.memory.low,pI r1.memory.high,pI r1.memory.max,pI r1.memory.swapMax,pB r1.memory.together,ow 1034 r1.devices.length])] (an (Cn r6.2 9 r8 hr8) (an tv tv)) ?_)
    obtain ⟨r9,hr9,hm⟩:=bo hm
    refine RD hnt (nn 4 (o97 [0] true r9::nn 2 [])) [] [] [] [(0,bx (pm (Al r9.2))),(1024,bx [pI y1.2,pI r5.1,pI (w64 (1+r8.1)),pI r1.period,pI r9.1,pI r1.clampMin,pI r1.clampMax,ow 1032 r1.cpus.length,ow 1033 r1.mems.length,pI r1.partition,pI r1.memory.min,pI r1.memory.low,pI r1.memory.high,pI r1.memory.max,pI r1.memory.swapMax,pB r1.memory.together,ow 1034 r1.devices.length])] (an (Cn r8.2 (w64 ((w64 (1+r8.1))+1)) r9 hr9) (an tv tv)) ?_
    exact jD (r9.2,(w64 (1+r8.1)),r9.1) hm Conv.eqK
   ·intro h7 hm
    refine Sk ?_
    exact jD (r6.2,r1.quota,r1.burst) hm Conv.t0
 ·refine Ar hm ?_ ?_
  ·intro h3 hm
   obtain ⟨r4,hr4,hm⟩:=bo hm
   refine RD hnt (.no::o97 [0] true r4::nn 2 []) [6] [] [] [(0,bx (pm (Al r4.2))),(1024,bx [pI r4.1,pI r1.weight,pI r1.quota,pI r1.period,pI r1.burst,pI r1.clampMin,pI r1.clampMax,ow 1032 r1.cpus.length,ow 1033 r1.mems.length,pI r1.partition,pI r1.memory.min,pI r1.memory.low,pI r1.memory.high,pI r1.memory.max,pI r1.memory.swapMax,pB r1.memory.together,ow 1034 r1.devices.length])] (an (Cn r2.2 6 r4 hr4) (an tv tv)) ?_
   exact jD (r4.2,r4.1) hm Conv.eqK
  ·intro h3 hm
   refine Sk ?_
   exact jD (r2.2,r1.pidsMax) hm Conv.t0
abbrev o103 (ks:List Nat) (b:Bool) (RES:At×Ak) (sm:List Nat := []):Orc := .call 30 ks b (.agg [pI RES.1.pidsMax,pI RES.1.weight,pI RES.1.quota,pI RES.1.period,pI RES.1.burst,pI RES.1.clampMin,pI RES.1.clampMax,.p (slI RES.1.cpus),.p (slI RES.1.mems),pI RES.1.partition,pI RES.1.memory.min,pI RES.1.memory.low,pI RES.1.memory.high,pI RES.1.memory.max,pI RES.1.memory.swapMax,pB RES.1.memory.together,ow 1 RES.1.devices.length]) [.box (pm (Al RES.2))] [Aj RES.1.devices] sm

abbrev AdW (p1:Ae) (k1:Nat) (y3:Ak×At):=({ group:=(p1.nodes.getD k1 Aq).id,settings:=y3.2 } : Ab)
theorem Acd (p0:Ak) (p1:Ae) (RES:(List Ab)×Ak) (hm:Mi p0 p1=some RES):Spec Tryz.prog 8 [rr 0,.p (.agg (Ag p1))] [.box (pm (Al p0))] (ow 1 RES.1.length) [.box (pm (Al RES.2))] [Ed RES.1]:=by
 unfold Mi at hm
 refine SO Tryz.func8 rfl rfl [(0,rr 0),(1,.p (.agg (Ag p1)))] [(0,bx (pm (Al p0)))] ?_
 intro cx hnt
 refine Sq (RD hnt (nn 2 []) [1] [(3,rr 1024)] [] [(1024,bx (pm (Ag p1)))] tv ?_)
 refine Sq (RD hnt (.no :: []) [] [(5,.p (.sl .nil 0 0 (fun _ => [])))] [] [] tv ?_)
 refine Sq (Sq (RD hnt (.no :: []) [] [(6,pI 0)] [] [] tv ?_))
 refine Bk ?_
 obtain ⟨hc1,hm⟩:=go1 hm
 refine DW.rangeO (fun (k1:Nat) (s1:Ak×(List Ab))=>Af [(0,rr 0),(3,rr 1024),(5,ow 1240 s1.2.length),(6,pI ((k1:Nat):Int))] [(0,bx (pm (Al s1.1))),(1024,bx (pm (Ag p1))),(1240,ob0 (Ed s1.2))]) Aq hm (Conv.ads [(.s 5,1240,18,elems Es Ap [])]) ?_
 intro k1 s1 n1 hk1 hs1 he1
 refine Sq (Sq (RD hnt (nn 5 []) [] [(12,pB (decide (((k1:Nat):Int)<((p1.nodes.length:Nat):Int))))] [] [] tv ?_))
 refine Cv (decide (((k1:Nat):Int)<((p1.nodes.length:Nat):Int))) ?_ ?_
 ·intro h14
  have hlt1:k1<p1.nodes.length:=by have:=of_decide_eq_true h14; omega
  have hm:=hs1 hlt1
  unfold Rt at hm
  refine Sk ?_
  refine Sq (Bk ?_)
  obtain ⟨r15,hr15,hm⟩:=bo hm
  refine Sq (RD hnt (o19 [] true r15::nn 2 []) [12] [(7,rr 1056)] [] [(1056,bx [pI r15.pidsMax,pI r15.weight,pI r15.quota,pI r15.period,pI r15.burst,pI r15.clampMin,pI r15.clampMax,ow 1120 r15.cpus.length,ow 1121 r15.mems.length,pI r15.partition,pI r15.memory.min,pI r15.memory.low,pI r15.memory.high,pI r15.memory.max,pI r15.memory.swapMax,pB r15.memory.together,ow 1122 r15.devices.length]),(1120,ob0 (roI r15.cpus)),(1121,ob0 (roI r15.mems)),(1122,ob0 (Aj r15.devices))] (an (Pc r15 hr15) tv) ?_)
  obtain ⟨r16,hr16,hm⟩:=bo hm
  refine Sq (Sq (RD hnt (.no::o99 [0] true r16 :: []) [] [(17,pB r16.1)] [] [(0,bx (pm (Al r16.2)))] (an (Eu s1.1 2 r16 hr16) (an tv tv)) ?_))
  refine Jn (ι:=Ak×At) (fun (y3:Ak×At)=>Af [(0,rr 0),(3,rr 1024),(5,ow 1240 s1.2.length),(6,pI ((k1:Nat):Int)),(7,rr 1056)] [(0,bx (pm (Al y3.1))),(1024,bx (pm (Ag p1))),(1056,bx (pm (Dn y3.2))),(1240,ob0 (Ed s1.2))]) (fun y3=>(Ja (p1.nodes.getD k1 Aq) s1 n1) y3=some RES) ?_ ?_
  ·intro y3 hm
   unfold Ja at hm
   obtain ⟨g19,hm⟩:=go1 hm
   refine RN hnt (nn 12 []) [(0,rr 0),(3,rr 1024),(5,ow 1240 (s1.2 ++ [(AdW p1 k1 y3)]).length),(6,pI ((k1:Nat):Int))] [(0,bx (pm (Al y3.1))),(1024,bx (pm (Ag p1))),(1240,ob0 (Ed (s1.2 ++ [(AdW p1 k1 y3)])))] [(5,ow 1240 (s1.2.length+1))] [(1240,.row 18 (s1.2.length+1) (De s1.2.length (Vd s1.2) (cut 18 [vi (p1.nodes.getD k1 Aq).id,vi y3.2.pidsMax,vi y3.2.weight,vi y3.2.quota,vi y3.2.period,vi y3.2.burst,vi y3.2.clampMin,vi y3.2.clampMax,slI y3.2.cpus,slI y3.2.mems,vi y3.2.partition,vi y3.2.memory.min,vi y3.2.memory.low,vi y3.2.memory.high,vi y3.2.memory.max,vi y3.2.memory.swapMax,vb y3.2.memory.together,Db y3.2.devices])))] (an (nn0 k1) (an (ltc hlt1) (an (by omega:(s1.2.length+1)*192≤140737488355328) tv))) (by kernel_rfl) (.cons rfl (MLe.ownLen (enc:=Es) (d:=Ap) (f:=(De s1.2.length (Vd s1.2) (cut 18 [vi (p1.nodes.getD k1 Aq).id,vi y3.2.pidsMax,vi y3.2.weight,vi y3.2.quota,vi y3.2.period,vi y3.2.burst,vi y3.2.clampMin,vi y3.2.clampMax,slI y3.2.cpus,slI y3.2.mems,vi y3.2.partition,vi y3.2.memory.min,vi y3.2.memory.low,vi y3.2.memory.high,vi y3.2.memory.max,vi y3.2.memory.swapMax,vb y3.2.memory.together,Db y3.2.devices]))) (RowIs.cat RowIs.elems (RowIs.lit (enc:=Es) (d:=Ap) (n:=1) (f:=(cut 18 [vi (p1.nodes.getD k1 Aq).id,vi y3.2.pidsMax,vi y3.2.weight,vi y3.2.quota,vi y3.2.period,vi y3.2.burst,vi y3.2.clampMin,vi y3.2.clampMax,slI y3.2.cpus,slI y3.2.mems,vi y3.2.partition,vi y3.2.memory.min,vi y3.2.memory.low,vi y3.2.memory.high,vi y3.2.memory.max,vi y3.2.memory.swapMax,vb y3.2.memory.together,Db y3.2.devices])) [(AdW p1 k1 y3)] rfl (fun|0,_=>rfl|n+1,h=>absurd h (by omega))))) .nil) (.cons rfl (BLe.typed (RowIs.cat RowIs.elems (RowIs.lit (enc:=Es) (d:=Ap) (n:=1) (f:=(cut 18 [vi (p1.nodes.getD k1 Aq).id,vi y3.2.pidsMax,vi y3.2.weight,vi y3.2.quota,vi y3.2.period,vi y3.2.burst,vi y3.2.clampMin,vi y3.2.clampMax,slI y3.2.cpus,slI y3.2.mems,vi y3.2.partition,vi y3.2.memory.min,vi y3.2.memory.low,vi y3.2.memory.high,vi y3.2.memory.max,vi y3.2.memory.swapMax,vb y3.2.memory.together,Db y3.2.devices])) [(AdW p1 k1 y3)] rfl (fun|0,_=>rfl|n+1,h=>absurd h (by omega))))) .nil) ?_
   refine DW.done ?_
   show DW _ _ _ _ _
   refine RD hnt (nn 3 []) [] [(6,pI (w64 (((k1:Nat):Int)+1)))] [] [] tv ?_
   exact jD (y3.1,(s1.2 ++ [(AdW p1 k1 y3)])) ⟨hlt1,hm⟩ (Conv.tp [(6,pI (w64 (((k1:Nat):Int)+1)))] [] (by kernel_rfl) (.cons rfl (.of_eq (congrArg pI (Bt hlt1 hc1))) .nil) .nil)
  ·refine Ar hm ?_ ?_
   ·intro h17 hm
    obtain ⟨r18,hr18,hm⟩:=bo hm
    refine RD hnt (.no::o103 [0] true r18 :: .no :: []) [17] [] [1120,1121,1122] [(0,bx (pm (Al r18.2))),(1056,bx [pI r18.1.pidsMax,pI r18.1.weight,pI r18.1.quota,pI r18.1.period,pI r18.1.burst,pI r18.1.clampMin,pI r18.1.clampMax,.p (slI r18.1.cpus),.p (slI r18.1.mems),pI r18.1.partition,pI r18.1.memory.min,pI r18.1.memory.low,pI r18.1.memory.high,pI r18.1.memory.max,pI r18.1.memory.swapMax,pB r18.1.memory.together,ow 1152 r18.1.devices.length]),(1152,ob0 (Aj r18.1.devices))] (an (AbN r16.2 r18 hr18) (an tv tv)) ?_
    exact jD (r18.2,r18.1) hm (Conv.frz [1152])
   ·intro h17 hm
    refine Sk ?_
    exact jD (r16.2,r15) hm (Conv.trans (τ:=Af [(0,rr 0),(3,rr 1024),(5,ow 1240 s1.2.length),(6,pI ((k1:Nat):Int)),(7,rr 1056),(17,pB r16.1)] [(0,bx (pm (Al r16.2))),(1024,bx (pm (Ag p1))),(1056,bx (pm (Dn r15))),(1240,ob0 (Ed s1.2))]) (Conv.frz [1120,1121,1122]) Conv.t0)
 ·intro h14
  have hge1:¬ k1<p1.nodes.length:=by have:=of_decide_eq_false h14; omega
  have hm:=he1 hge1
  unfold Ry at hm
  refine DW.exit ?_
  refine Ao ?_
  refine Ba ?_
  refine Ai ?_
  show DW _ _ _ _ _
  refine Sq (RD hnt (nn 2 []) [0,3,5,6,12] [(4,ow 1240 s1.2.length)] [1024] [] tv ?_)
  obtain rfl:=sj hm
  exact DW.ret (An [.box (pm (Al s1.1)),Ed s1.2] [1240] (ow 1 s1.2.length))
abbrev o102 (ks:List Nat) (b:Bool) (RES:(List Ab)×Ak) (sm:List Nat := []):Orc := .call 8 ks b (ow 1 RES.1.length) [.box (pm (Al RES.2))] [Ed RES.1] sm

theorem AjI (p0:Ak) (p1:Int) (RES:(List Int)×Ak) (hm:Hs p0 p1=some RES):Spec Tryz.prog 10 [rr 0,pI p1] [.box (pm (Al p0))] (ow 1 RES.1.length) [.box (pm (Al RES.2))] [roI RES.1]:=by
 unfold Hs at hm
 refine SO Tryz.func10 rfl rfl [(0,rr 0),(1,pI p1)] [(0,bx (pm (Al p0)))] ?_
 intro cx hnt
 refine Sq (RD hnt (.no :: []) [] [] [] [] tv ?_)
 obtain ⟨r1,hr1,hm⟩:=bo hm
 refine Sq (Sq (RK hnt (nn 2 (o105 [0] true r1 :: .no :: [])) [(1,pI p1),(5,ow 1080 r1.1.length)] [(0,bx (pm (Al r1.2))),(1080,ob0 (roI r1.1))] (an (Pf p0 p1 r1 hr1) (an tv tv)) ?_))
 refine Sq (RD hnt (nn 3 []) [] [(13,pB (decide (((r1.1.length:Nat):Int)>0)))] [] [] tv ?_)
 refine Ar hm ?_ ?_
 ·intro h2 hm
  refine Sq (RD hnt (nn 2 []) [1,5,13] [(4,ow 1080 r1.1.length)] [] [] tv ?_)
  obtain rfl:=sj hm
  exact DW.ret (An [.box (pm (Al r1.2)),roI r1.1] [1080] (ow 1 r1.1.length))
 ·intro h2 hm
  refine Sk ?_
  refine Sq (RD hnt (.no :: []) [5,13] [(6,.p (.sl .nil 0 0 (fun _ => [])))] [1080] [] tv ?_)
  refine Sq (Sq (RD hnt (.no :: []) [] [(7,pI 0)] [] [] tv ?_))
  refine Bk ?_
  obtain ⟨hc1,hm⟩:=go1 hm
  refine DW.forO (fun (k1:Int) (s1:List Int)=>Af [(1,pI p1),(6,ow 1184 s1.length),(7,pI k1)] [(0,bx (pm (Al r1.2))),(1184,ob0 (roI s1))]) (lo:=0) (hi:=p1) hm (Conv.ads [(.s 6,1184,1,elems Au 0 [])]) ?_
  intro k1 s1 n1 hk1 hs1 he1
  refine Sq (Sq (RD hnt (nn 3 []) [] [(17,pB (decide (k1<p1)))] [] [] tv ?_))
  refine Cv (decide (k1<p1)) ?_ ?_
  ·intro h6
   have hlt1:k1<p1:=by have:=of_decide_eq_true h6; omega
   have hm:=hs1 hlt1
   unfold Of at hm
   refine Sk ?_
   refine Sq (Bk ?_)
   obtain ⟨g7,hm⟩:=go1 hm
   refine RN hnt (nn 5 []) [(1,pI p1),(6,ow 1184 (s1 ++ [k1]).length),(7,pI k1)] [(0,bx (pm (Al r1.2))),(1184,ob0 (roI (s1 ++ [k1])))] [(6,ow 1184 (s1.length+1))] [(1184,.row 1 (s1.length+1) (De s1.length (elI s1) (cut 1 [vi k1])))] (an (by omega:(s1.length+1)*8≤140737488355328) tv) (by kernel_rfl) (.cons rfl (MLe.ownLen (enc:=Au) (d:=0) (f:=(De s1.length (elI s1) (cut 1 [vi k1]))) (RowIs.cat RowIs.elems (RowIs.lit (enc:=Au) (d:=0) (n:=1) (f:=(cut 1 [vi k1])) [k1] rfl (fun|0,_=>rfl|n+1,h=>absurd h (by omega))))) .nil) (.cons rfl (BLe.typed (RowIs.cat RowIs.elems (RowIs.lit (enc:=Au) (d:=0) (n:=1) (f:=(cut 1 [vi k1])) [k1] rfl (fun|0,_=>rfl|n+1,h=>absurd h (by omega))))) .nil) ?_
   refine DW.done ?_
   show DW _ _ _ _ _
   refine RD hnt (nn 3 []) [] [(7,pI (w64 (k1+1)))] [] [] tv ?_
   exact jD (s1 ++ [k1]) ⟨hlt1,hm⟩ (Conv.tp [(7,pI (w64 (k1+1)))] [] (by kernel_rfl) (.cons rfl (.of_eq (congrArg pI (Rm (lo:=0) (hi:=p1) (by omega) hk1 hlt1 (by omega)))) .nil) .nil)
  ·intro h6
   have hge1:¬ k1<p1:=by have:=of_decide_eq_false h6; omega
   have hm:=he1 hge1
   unfold Oo at hm
   refine DW.exit ?_
   refine Ao ?_
   refine Ba ?_
   refine Ai ?_
   show DW _ _ _ _ _
   refine Sq (RD hnt (nn 2 []) [1,6,7,17] [(4,ow 1184 s1.length)] [] [] tv ?_)
   obtain rfl:=sj hm
   exact DW.ret (An [.box (pm (Al r1.2)),roI s1] [1184] (ow 1 s1.length))
theorem Vq (p0:Ak) (p1:Int) (RES:(List Int)×Ak) (hm:Hs p0 p1=some RES):Spec Tryz.prog 10 [rr 0,pI p1] [.box (pm (Al p0))] (.p (slI RES.1)) [.box (pm (Al RES.2))] []:=by
 unfold Hs at hm
 refine SO Tryz.func10 rfl rfl [(0,rr 0),(1,pI p1)] [(0,bx (pm (Al p0)))] ?_
 intro cx hnt
 refine Sq (RD hnt (.no :: []) [] [] [] [] tv ?_)
 obtain ⟨r1,hr1,hm⟩:=bo hm
 refine Sq (Sq (RK hnt (nn 2 (o105 [0] true r1 :: .no :: [])) [(1,pI p1),(5,ow 1080 r1.1.length)] [(0,bx (pm (Al r1.2))),(1080,ob0 (roI r1.1))] (an (Pf p0 p1 r1 hr1) (an tv tv)) ?_))
 refine Sq (RD hnt (nn 3 []) [] [(13,pB (decide (((r1.1.length:Nat):Int)>0)))] [] [] tv ?_)
 refine Ar hm ?_ ?_
 ·intro h2 hm
  refine Sq (RD hnt (nn 2 []) [1,5,13] [(4,ow 1080 r1.1.length)] [] [] tv ?_)
  obtain rfl:=sj hm
  exact DW.ret (An [.box (pm (Al r1.2))] [] (.p (slI r1.1)))
 ·intro h2 hm
  refine Sk ?_
  refine Sq (RD hnt (.no :: []) [5,13] [(6,.p (.sl .nil 0 0 (fun _ => [])))] [1080] [] tv ?_)
  refine Sq (Sq (RD hnt (.no :: []) [] [(7,pI 0)] [] [] tv ?_))
  refine Bk ?_
  obtain ⟨hc1,hm⟩:=go1 hm
  refine DW.forO (fun (k1:Int) (s1:List Int)=>Af [(1,pI p1),(6,ow 1184 s1.length),(7,pI k1)] [(0,bx (pm (Al r1.2))),(1184,ob0 (roI s1))]) (lo:=0) (hi:=p1) hm (Conv.ads [(.s 6,1184,1,elems Au 0 [])]) ?_
  intro k1 s1 n1 hk1 hs1 he1
  refine Sq (Sq (RD hnt (nn 3 []) [] [(17,pB (decide (k1<p1)))] [] [] tv ?_))
  refine Cv (decide (k1<p1)) ?_ ?_
  ·intro h6
   have hlt1:k1<p1:=by have:=of_decide_eq_true h6; omega
   have hm:=hs1 hlt1
   unfold Of at hm
   refine Sk ?_
   refine Sq (Bk ?_)
   obtain ⟨g7,hm⟩:=go1 hm
   refine RN hnt (nn 5 []) [(1,pI p1),(6,ow 1184 (s1 ++ [k1]).length),(7,pI k1)] [(0,bx (pm (Al r1.2))),(1184,ob0 (roI (s1 ++ [k1])))] [(6,ow 1184 (s1.length+1))] [(1184,.row 1 (s1.length+1) (De s1.length (elI s1) (cut 1 [vi k1])))] (an (by omega:(s1.length+1)*8≤140737488355328) tv) (by kernel_rfl) (.cons rfl (MLe.ownLen (enc:=Au) (d:=0) (f:=(De s1.length (elI s1) (cut 1 [vi k1]))) (RowIs.cat RowIs.elems (RowIs.lit (enc:=Au) (d:=0) (n:=1) (f:=(cut 1 [vi k1])) [k1] rfl (fun|0,_=>rfl|n+1,h=>absurd h (by omega))))) .nil) (.cons rfl (BLe.typed (RowIs.cat RowIs.elems (RowIs.lit (enc:=Au) (d:=0) (n:=1) (f:=(cut 1 [vi k1])) [k1] rfl (fun|0,_=>rfl|n+1,h=>absurd h (by omega))))) .nil) ?_
   refine DW.done ?_
   show DW _ _ _ _ _
   refine RD hnt (nn 3 []) [] [(7,pI (w64 (k1+1)))] [] [] tv ?_
   exact jD (s1 ++ [k1]) ⟨hlt1,hm⟩ (Conv.tp [(7,pI (w64 (k1+1)))] [] (by kernel_rfl) (.cons rfl (.of_eq (congrArg pI (Rm (lo:=0) (hi:=p1) (by omega) hk1 hlt1 (by omega)))) .nil) .nil)
  ·intro h6
   have hge1:¬ k1<p1:=by have:=of_decide_eq_false h6; omega
   have hm:=he1 hge1
   unfold Oo at hm
   refine DW.exit ?_
   refine Ao ?_
   refine Ba ?_
   refine Ai ?_
   show DW _ _ _ _ _
   refine Sq (RD hnt (nn 2 []) [1,6,7,17] [(4,ow 1184 s1.length)] [] [] tv ?_)
   obtain rfl:=sj hm
   exact DW.ret (An [.box (pm (Al r1.2))] [] (.p (slI s1)))
abbrev o107 (ks:List Nat) (b:Bool) (RES:(List Int)×Ak) (sm:List Nat := []):Orc := .call 10 ks b (.p (slI RES.1)) [.box (pm (Al RES.2))] [] sm

theorem Abc (p0:List Int) (RES:List Int) (hm:Co p0=some RES):Spec Tryz.prog 34 [.p (.sl .nn 1 p0.length (elems Au 0 p0))] [] (.p (slI RES)) [] []:=by
 unfold Co at hm
 refine SO Tryz.func34 rfl rfl [(0,.p (.sl .nn 1 p0.length (elems Au 0 p0)))] [] ?_
 intro cx hnt
 refine Sq (RD hnt (.no :: []) [] [] [] [] tv ?_)
 refine Sq (Sq (RD hnt (nn 2 []) [] [(4,pB false)] [] [] tv ?_))
 refine AeC ff ?_
 refine Sk ?_
 obtain ⟨g1,hm⟩:=go1 hm
 refine Sq (RN hnt (nn 4 []) [(2,ow 1040 p0.length)] [(1040,ob0 (roI p0))] [(2,ow 1040 (0+p0.length))] [(1040,.row 1 (0+p0.length) (De 0 (cut 1 []) (elI p0)))] (an (by omega:(0+p0.length)*8≤140737488355328) tv) (by kernel_rfl) (.cons rfl (MLe.ownLen (enc:=Au) (d:=0) (f:=(De 0 (cut 1 []) (elI p0))) (RowIs.cat RowIs.nil RowIs.elems)) .nil) (.cons rfl (BLe.typed (RowIs.cat RowIs.nil RowIs.elems)) .nil) ?_)
 obtain rfl:=sj hm
 exact DW.ret (An [] [] (.p (slI p0)))

theorem AaA (p0:List Int) (RES:List Int) (hm:Iz p0=some RES):Spec Tryz.prog 34 [.p (.sl .nil 1 0 (elems Au 0 p0))] [] (.p (slI RES)) [] []:=by
 unfold Iz at hm
 refine SO Tryz.func34 rfl rfl [(0,.p (.sl .nil 1 0 (elems Au 0 p0)))] [] ?_
 intro cx hnt
 refine Sq (RD hnt (.no :: []) [] [] [] [] tv ?_)
 refine Sq (Sq (RD hnt (nn 2 []) [] [(4,pB true)] [] [] tv ?_))
 refine condT tt ?_
 refine Sq (RK hnt (.no :: []) [(2,.p (.sl .nil 0 0 (fun _ => [])))] [] tv ?_)
 refine DW.conv (τ:=Af [(2,.p (slI []))] []) (Conv.tp [(2,.p (.sl .nil 0 0 (fun _ => [])))] [] (by kernel_rfl) (.cons rfl MLe.nilL .nil) .nil) ?_
 obtain rfl:=sj hm
 exact DW.ret (An [] [] (.p (slI [])))

theorem Aci (p0:List Int) (RES:List Int) (hm:Co p0=some RES):Spec Tryz.prog 34 [.p (slI p0)] [] (.p (slI RES)) [] [] :=
  Spec.unk (fun h=>AaA p0 RES (by have e:p0 = []:=List.eq_nil_of_length_eq_zero h; subst e; simpa [Co,Iz] using hm)) (Abc p0 RES hm)
abbrev o109 (ks:List Nat) (b:Bool) (RES:List Int) (sm:List Nat := []):Orc := .call 34 ks b (.p (slI RES)) [] [] sm

abbrev c108e1 (r3:plan):Nat×Obj:=(1152,bx [.p (Da r3.tree.nodes),pI r3.tree.next,.p (Ah r3.configs),.mref 1153 0,.mref 1154 0])
theorem Agu (p0:Ae) (p1:List Ab) (p2:List Int) (RES:List (List Int)) (hm:Ob p0 p1 p2=some RES):Spec Tryz.prog 11 [.p (.agg (Ag p0)),.p (Ah p1),.p (slI p2)] [] (ow 0 RES.length) [] [Hj 1 (Eg 1 Au 0) [] RES]:=by
 unfold Ob at hm
 refine SO Tryz.func11 rfl rfl [(0,.p (.agg (Ag p0))),(1,.p (Ah p1)),(2,.p (slI p2))] [] ?_
 intro cx hnt
 refine Sq (RD hnt (nn 2 []) [0] [(3,rr 1024)] [] [(1024,bx (pm (Ag p0)))] tv ?_)
 obtain ⟨r1,hr1,hm⟩:=bo hm
 refine Sq (Sq (RD hnt (nn 3 (o24 [] true r1 :: .no :: [])) [] [(15,pB (!r1))] [] [] (an (Pd p0 p1 p2 16 r1 hr1) tv) ?_))
 refine Ar hm ?_ ?_
 ·intro h2 hm
  refine Sq (RK hnt (.no :: []) [(6,.p (.sl .nil 0 0 (fun _ => [])))] [] tv ?_)
  refine DW.cv [] [(6,ow 100000 0)] [] [(100000,ob0 (Hj 1 (Eg 1 Au 0) [] []))] (Conv.ads [(.s 6,100000,1,elems (Eg 1 Au 0) [] [])]) ?_
  obtain rfl:=sj hm
  exact DW.ret (An [Hj 1 (Eg 1 Au 0) [] []] [100000] (ow 0 0))
 ·intro h2 hm
  refine Sk ?_
  obtain ⟨r3,hr3,hm⟩:=bo hm
  refine Sq (RD hnt (nn 3 (o38 [] true r3 :: .no :: [])) [1,2,15] [(7,rr 1152)] [] [(c108e1 r3),(1153,ob0 (Ce slI (slI []) r3.sets)),(1154,ob0 (Ce vb (vb false) r3.partitions))] (an (Zi p0 p1 p2 r3 hr3) tv) ?_)
  refine Sq (RD hnt (.no :: []) [] [(8,.p (.sl .nil 0 0 (fun _ => [])))] [] [] tv ?_)
  refine Sq (Sq (RD hnt (nn 4 []) [3] [(21,.p (Da p0.nodes)),(22,pI ((p0.nodes.length:Nat):Int)),(23,pI 0)] [1024] [] tv ?_))
  refine Bk ?_
  obtain ⟨hc1,hm⟩:=go1 hm
  refine DW.rangeO (fun (k1:Nat) (s1:List (List Int))=>Af [(7,rr 1152),(8,ow 1296 s1.length),(21,.p (Da p0.nodes)),(22,pI ((p0.nodes.length:Nat):Int)),(23,pI ((k1:Nat):Int))] [(c108e1 r3),(1153,ob0 (Ce slI (slI []) r3.sets)),(1154,ob0 (Ce vb (vb false) r3.partitions)),(1296,ob0 (Hj 1 (Eg 1 Au 0) [] s1))]) Aq hm (Conv.ads [(.s 8,1296,1,elems (Eg 1 Au 0) [] [])]) ?_
  intro k1 s1 n1 hk1 hs1 he1
  refine Sq (RD hnt (.no :: []) [] [(24,pB (decide (((k1:Nat):Int)<((p0.nodes.length:Nat):Int))))] [] [] tv ?_)
  refine Sq (Cv (decide (((k1:Nat):Int)<((p0.nodes.length:Nat):Int))) ?_ ?_)
  ·intro h13
   have hlt1:k1<p0.nodes.length:=by have:=of_decide_eq_true h13; omega
   have hm:=hs1 hlt1
   unfold AaW at hm
   refine Sk ?_
   refine Sq (Bk ?_)
   refine Sq (RD hnt (nn 4 []) [24] [(10,rr 1080)] [] [(1080,bx (pm (Cc (p0.nodes.getD k1 Aq))))] (an (nn0 k1) (an (ltc hlt1) tv)) ?_)
   obtain ⟨r15,hr15,hm⟩:=bo hm
   obtain ⟨g16,hm⟩:=go1 hm
   refine RN hnt (nn 8 (o109 [] true r15::nn 3 [])) [(7,rr 1152),(8,ow 1296 (s1 ++ [r15]).length),(21,.p (Da p0.nodes)),(22,pI ((p0.nodes.length:Nat):Int)),(23,pI ((k1:Nat):Int))] [(c108e1 r3),(1153,ob0 (Ce slI (slI []) r3.sets)),(1154,ob0 (Ce vb (vb false) r3.partitions)),(1296,ob0 (Hj 1 (Eg 1 Au 0) [] (s1 ++ [r15])))] [(8,ow 1296 (s1.length+1))] [(1296,.row 1 (s1.length+1) (De s1.length (elems (Eg 1 Au 0) [] s1) (cut 1 [slI r15])))] (an (PLe.nilL:PLe (.sl .nil 0 0 fun _ => []) (slI [])) (an (Aci (r3.sets.get (p0.nodes.getD k1 Aq).id) r15 hr15) (an (by omega:(s1.length+1)*24≤140737488355328) tv))) (by kernel_rfl) (.cons rfl (MLe.ownLen (enc:=(Eg 1 Au 0)) (d := []) (f:=(De s1.length (elems (Eg 1 Au 0) [] s1) (cut 1 [slI r15]))) (RowIs.cat RowIs.elems (RowIs.lit (enc:=(Eg 1 Au 0)) (d := []) (n:=1) (f:=(cut 1 [slI r15])) [r15] rfl (fun|0,_=>rfl|n+1,h=>absurd h (by omega))))) .nil) (.cons rfl (BLe.typed (RowIs.cat RowIs.elems (RowIs.lit (enc:=(Eg 1 Au 0)) (d := []) (n:=1) (f:=(cut 1 [slI r15])) [r15] rfl (fun|0,_=>rfl|n+1,h=>absurd h (by omega))))) .nil) ?_
   refine DW.done ?_
   show DW _ _ _ _ _
   refine RD hnt (nn 2 []) [] [(23,pI (w64 (((k1:Nat):Int)+1)))] [] [] tv ?_
   exact jD (s1 ++ [r15]) ⟨hlt1,hm⟩ (Conv.tp [(23,pI (w64 (((k1:Nat):Int)+1)))] [] (by kernel_rfl) (.cons rfl (.of_eq (congrArg pI (Bt hlt1 hc1))) .nil) .nil)
  ·intro h13
   have hge1:¬ k1<p0.nodes.length:=by have:=of_decide_eq_false h13; omega
   have hm:=he1 hge1
   unfold AdB at hm
   refine DW.exit ?_
   refine Ao ?_
   refine Ba ?_
   refine Ai ?_
   show DW _ _ _ _ _
   refine Sq (RK hnt (nn 2 []) [(6,ow 1296 s1.length)] [(1296,ob0 (Hj 1 (Eg 1 Au 0) [] s1))] tv ?_)
   obtain rfl:=sj hm
   exact DW.ret (An [Hj 1 (Eg 1 Au 0) [] s1] [1296] (ow 0 s1.length))
abbrev o108 (ks:List Nat) (b:Bool) (RES:List (List Int)) (sm:List Nat := []):Orc := .call 11 ks b (ow 0 RES.length) [] [Hj 1 (Eg 1 Au 0) [] RES] sm

theorem Aa (p0:Int) (p1:Int) (p2:Int) (RES:Bool) (hm:Di p0 p1 p2=some RES):Spec Tryz.prog 112 [pI p0,pI p1,pI p2] [] (pB RES) [] []:=by
 unfold Di at hm
 refine SO Tryz.func112 rfl rfl [(0,pI p0),(1,pI p1),(2,pI p2)] [] ?_
 intro cx hnt
 refine Sq (RD hnt (.no :: []) [] [] [] [] tv ?_)
 refine Sq (DW.regJ (sl2 := [(6,pB ((decide (p0≥p1))&&(decide (p0≤p2))))]) (ob2 := []) ?_ ?_)
 ·rcases bt (decide (p0≥p1)) with h1|h1
  ·exact RT hnt (nn 7 (pT :: .no :: [])) [(6,pB (decide (p0≤p2)))] (an4 h1 tv) (by kernel_rfl) (.cons rfl (.of_eq (by rw [h1]; try rfl)) .nil)
  ·exact RT hnt (nn 4 (sk 3 (pF :: .no :: []))) [(6,pB false)] (an4 h1 tv) (by kernel_rfl) (.cons rfl (.of_eq (by rw [h1]; try rfl)) .nil)
 ·refine DW.ret ?_
  obtain rfl:=sj hm
  exact An [] [] (pB ((decide (p0≥p1))&&(decide (p0≤p2))))
abbrev Am (ks:List Nat) (b:Bool) (RES:Bool) (sm:List Nat := []):Orc := .call 112 ks b (pB RES) [] [] sm

theorem Bd (p0:List Int) (p1:Int) (RES:Bool) (hm:Gu p0 p1=some RES):Spec Tryz.prog 62 [.p (slI p0),pI p1] [] (pB RES) [] []:=by
 unfold Gu at hm
 refine SO Tryz.func62 rfl rfl [(0,.p (slI p0)),(1,pI p1)] [] ?_
 intro cx hnt
 refine Sq (RD hnt (.no :: []) [] [] [] [] tv ?_)
 refine Sq (Sq (RD hnt (.no :: []) [] [(5,pI 0)] [] [] tv ?_))
 refine Bk ?_
 obtain ⟨hc1,hm⟩:=go1 hm
 refine DW.rangeO (fun (k1:Nat) (s1:Unit)=>Af [(0,.p (slI p0)),(1,pI p1),(5,pI ((k1:Nat):Int))] []) 0 hm Conv.eqK ?_
 intro k1 s1 n1 hk1 hs1 he1
 refine Sq (Sq (RD hnt (nn 4 []) [] [(9,pB (decide (((k1:Nat):Int)<((p0.length:Nat):Int))))] [] [] tv ?_))
 refine Cv (decide (((k1:Nat):Int)<((p0.length:Nat):Int))) ?_ ?_
 ·intro h19
  have hlt1:k1<p0.length:=by have:=of_decide_eq_true h19; omega
  have hm:=hs1 hlt1
  unfold Wg at hm
  refine Sk ?_
  refine Sq (Bk ?_)
  refine Sq ?_
  refine Jn (ι:=Bool) (fun (y3:Bool)=>Af [(0,.p (slI p0)),(1,pI p1),(5,pI ((k1:Nat):Int)),(40,pB y3)] []) (fun y3=>(Hc n1) y3=some RES) ?_ ?_
  ·intro y3 hm
   unfold Hc at hm
   refine Ar hm ?_ ?_
   ·intro h24 hm
    refine Sq (RK hnt (.no :: []) [(4,pB false)] [] tv ?_)
    obtain rfl:=sj hm
    exact DW.ret (An [] [] (pB false))
   ·intro h24 hm
    refine Sk ?_
    refine DW.done ?_
    show DW _ _ _ _ _
    refine RD hnt (nn 3 []) [40] [(5,pI (w64 (((k1:Nat):Int)+1)))] [] [] tv ?_
    exact jD () ⟨hlt1,hm⟩ (Conv.tp [(5,pI (w64 (((k1:Nat):Int)+1)))] [] (by kernel_rfl) (.cons rfl (.of_eq (congrArg pI (Bt hlt1 hc1))) .nil) .nil)
  ·rcases bt (decide ((p0.getD k1 0)<0)) with h20|h20
   ·replace hm:=Az h20 hm
    refine RD hnt (nn 6 (sk 6 (pT :: .no::sk 14 (pT :: [])))) [9] [(40,pB true)] [] [] (an (nn0 k1) (an (ltc hlt1) (an h20 (an6 h20 (an5 tt tv))))) ?_
    exact jD true hm Conv.eqK
   ·replace hm:=Ay h20 hm
    rcases bt (decide ((p0.getD k1 0)≥p1)) with h21|h21
    ·replace hm:=Az h21 hm
     refine RD hnt (nn 12 (pF :: .no::sk 14 (pT :: []))) [9] [(40,pB true)] [] [] (an (nn0 k1) (an (ltc hlt1) (an3 h20 (an (nn0 k1) (an (ltc hlt1) (an4 h20 (an5 h21 tv))))))) ?_
     exact jD true hm Conv.eqK
    ·replace hm:=Ay h21 hm
     rcases bt (decide (((k1:Nat):Int)>0)) with h22|h22
     ·replace hm:=Az h22 hm
      obtain ⟨g23,hm⟩:=go1 hm
      refine RD hnt (nn 12 (pF::nn 14 (pT::pF :: []))) [9] [(40,pB (decide ((p0.getD (Int.toNat (w64 (((k1:Nat):Int)-1))) 0)≥(p0.getD k1 0))))] [] [] (an (nn0 k1) (an (ltc hlt1) (an3 h20 (an (nn0 k1) (an (ltc hlt1) (an4 h20 (an3 h21 (an4 h22 (an g23.1 (an g23.2 (an4 h22 (an (nn0 k1) (an (ltc hlt1) (an2 h22 (an h21 (an h22 (an h21 tv))))))))))))))))) ?_
      exact jD (decide ((p0.getD (Int.toNat (w64 (((k1:Nat):Int)-1))) 0)≥(p0.getD k1 0))) hm Conv.eqK
     ·replace hm:=Ay h22 hm
      refine RD hnt (nn 12 (pF::nn 4 (sk 10 (pF::pF :: [])))) [9] [(40,pB false)] [] [] (an (nn0 k1) (an (ltc hlt1) (an3 h20 (an (nn0 k1) (an (ltc hlt1) (an4 h20 (an3 h21 (an4 h22 (an6 h22 (an h21 (an h22 (an h21 tv)))))))))))) ?_
      exact jD false hm Conv.eqK
 ·intro h19
  have hge1:¬ k1<p0.length:=by have:=of_decide_eq_false h19; omega
  have hm:=he1 hge1
  unfold AdY at hm
  refine DW.exit ?_
  refine Ao ?_
  refine Ba ?_
  refine Ai ?_
  show DW _ _ _ _ _
  refine Sq (RK hnt (.no :: []) [(4,pB true)] [] tv ?_)
  obtain rfl:=sj hm
  exact DW.ret (An [] [] (pB true))
abbrev Hb (ks:List Nat) (b:Bool) (RES:Bool) (sm:List Nat := []):Orc := .call 62 ks b (pB RES) [] [] sm
end Go.Dm

