/- Texts of the proof of FreezeExact: the data machine, the models of the Go functions, their contracts. -/
import Derived.Test.YtkkeddafdmjhlaaGreatFreezeExactA4
set_option linter.unusedVariables false
set_option linter.unusedSimpArgs false
/- Go functions compute their models, printed by a program. -/
namespace Go.Dm
open Go.Proofs
set_option linter.unusedVariables false
theorem Adb (p0 : List Ae) (p1 : List Ae) (RES : Bool) (hm : Yf p0 p1 = some RES) : Spec Tryz.prog 116 [.p (En p0),.p (En p1)] [] (pB RES) [] [] := by
 unfold Yf at hm
 refine SO Tryz.func116 rfl rfl [(0,.p (En p0)),(1,.p (En p1))] [] ?_
 intro cx hnt
 refine Sq (RD hnt (.no :: []) [] [] [] [] tv ?_)
 refine Sq (Sq (RD hnt (nn 5 []) [] [(10,pB (((p0.length : Nat) : Int) != ((p1.length : Nat) : Int)))] [] [] tv ?_))
 refine Ah hm ?_ ?_
 ·intro h1 hm
  refine Sq (RK hnt (.no :: []) [(4,pB false)] [] tv ?_)
  obtain rfl := sj hm
  exact DW.ret (Ai [] [] (pB false))
 ·intro h1 hm
  refine Sk ?_
  refine Sq (Sq (RD hnt (.no :: []) [10] [(5,pI 0)] [] [] tv ?_))
  refine Bk ?_
  obtain ⟨hc1,hm⟩ := go1 hm
  refine DW.rangeO (fun (k1 : Nat) (s1 : Unit) => Aj [(0,.p (En p0)),(1,.p (En p1)),(5,pI ((k1 : Nat) : Int))] []) Bc hm Conv.eqK ?_
  intro k1 s1 n1 hk1 hs1 he1
  refine Sq (Sq (RD hnt (nn 4 []) [] [(14,pB (decide (((k1 : Nat) : Int) < ((p0.length : Nat) : Int))))] [] [] tv ?_))
  refine Cd (decide (((k1 : Nat) : Int) < ((p0.length : Nat) : Int))) ?_ ?_
  ·intro h10
   have hlt1 : k1 < p0.length := by have := of_decide_eq_true h10; omega
   have hm := hs1 hlt1
   unfold AbF at hm
   refine Sk ?_
   refine Sq (Bk ?_)
   obtain ⟨g11,hm⟩ := go1 hm
   refine Sq (RD hnt (nn 9 []) [14] [(25,pB (!(Zz (p0.getD k1 (default : Ae)) (p1.getD k1 Bc))))] [] [] (an (nn0 k1) (an (ltc hlt1) (an (nn0 k1) (an (ltc g11) tv)))) ?_)
   refine Ah hm ?_ ?_
   ·intro h12 hm
    refine Sq (RK hnt (.no :: []) [(4,pB false)] [] tv ?_)
    obtain rfl := sj hm
    exact DW.ret (Ai [] [] (pB false))
   ·intro h12 hm
    refine Sk ?_
    refine DW.done ?_
    show DW _ _ _ _ _
    refine RD hnt (nn 3 []) [25] [(5,pI (w64 (((k1 : Nat) : Int) + 1)))] [] [] tv ?_
    exact jD () ⟨hlt1,hm⟩ (Conv.tp [(5,pI (w64 (((k1 : Nat) : Int) + 1)))] [] (by kernel_rfl) (.cons rfl (.of_eq (congrArg pI (Bo hlt1 hc1))) .nil) .nil)
  ·intro h10
   have hge1 : ¬ k1 < p0.length := by have := of_decide_eq_false h10; omega
   have hm := he1 hge1
   unfold Afo at hm
   refine DW.exit ?_
   refine Ap ?_
   refine Au ?_
   refine Am ?_
   show DW _ _ _ _ _
   refine Sq (RK hnt (.no :: []) [(4,pB true)] [] tv ?_)
   obtain rfl := sj hm
   exact DW.ret (Ai [] [] (pB true))
abbrev o65 (ks : List Nat) (b : Bool) (RES : Bool) (sm : List Nat := []) : Orc := .call 116 ks b (pB RES) [] [] sm

theorem AfI (p0 : List Int) (p1 : List Int) (RES : Bool) (hm : Re p0 p1 = some RES) : Spec Tryz.prog 117 [.p (slI p0),.p (slI p1)] [] (pB RES) [] [] := by
 unfold Re at hm
 refine SO Tryz.func117 rfl rfl [(0,.p (slI p0)),(1,.p (slI p1))] [] ?_
 intro cx hnt
 refine Sq (RD hnt (.no :: []) [] [] [] [] tv ?_)
 refine Sq (Sq (RD hnt (nn 5 []) [] [(10,pB (((p0.length : Nat) : Int) != ((p1.length : Nat) : Int)))] [] [] tv ?_))
 refine Ah hm ?_ ?_
 ·intro h1 hm
  refine Sq (RK hnt (.no :: []) [(4,pB false)] [] tv ?_)
  obtain rfl := sj hm
  exact DW.ret (Ai [] [] (pB false))
 ·intro h1 hm
  refine Sk ?_
  refine Sq (Sq (RD hnt (.no :: []) [10] [(5,pI 0)] [] [] tv ?_))
  refine Bk ?_
  obtain ⟨hc1,hm⟩ := go1 hm
  refine DW.rangeO (fun (k1 : Nat) (s1 : Unit) => Aj [(0,.p (slI p0)),(1,.p (slI p1)),(5,pI ((k1 : Nat) : Int))] []) 0 hm Conv.eqK ?_
  intro k1 s1 n1 hk1 hs1 he1
  refine Sq (Sq (RD hnt (nn 4 []) [] [(14,pB (decide (((k1 : Nat) : Int) < ((p0.length : Nat) : Int))))] [] [] tv ?_))
  refine Cd (decide (((k1 : Nat) : Int) < ((p0.length : Nat) : Int))) ?_ ?_
  ·intro h10
   have hlt1 : k1 < p0.length := by have := of_decide_eq_true h10; omega
   have hm := hs1 hlt1
   unfold Wf at hm
   refine Sk ?_
   refine Sq (Bk ?_)
   obtain ⟨g11,hm⟩ := go1 hm
   refine Sq (RD hnt (nn 9 []) [14] [(25,pB ((p0.getD k1 0) != (p1.getD k1 0)))] [] [] (an (nn0 k1) (an (ltc hlt1) (an (nn0 k1) (an (ltc g11) tv)))) ?_)
   refine Ah hm ?_ ?_
   ·intro h12 hm
    refine Sq (RK hnt (.no :: []) [(4,pB false)] [] tv ?_)
    obtain rfl := sj hm
    exact DW.ret (Ai [] [] (pB false))
   ·intro h12 hm
    refine Sk ?_
    refine DW.done ?_
    show DW _ _ _ _ _
    refine RD hnt (nn 3 []) [25] [(5,pI (w64 (((k1 : Nat) : Int) + 1)))] [] [] tv ?_
    exact jD () ⟨hlt1,hm⟩ (Conv.tp [(5,pI (w64 (((k1 : Nat) : Int) + 1)))] [] (by kernel_rfl) (.cons rfl (.of_eq (congrArg pI (Bo hlt1 hc1))) .nil) .nil)
  ·intro h10
   have hge1 : ¬ k1 < p0.length := by have := of_decide_eq_false h10; omega
   have hm := he1 hge1
   unfold AbT at hm
   refine DW.exit ?_
   refine Ap ?_
   refine Au ?_
   refine Am ?_
   show DW _ _ _ _ _
   refine Sq (RK hnt (.no :: []) [(4,pB true)] [] tv ?_)
   obtain rfl := sj hm
   exact DW.ret (Ai [] [] (pB true))
abbrev o66 (ks : List Nat) (b : Bool) (RES : Bool) (sm : List Nat := []) : Orc := .call 117 ks b (pB RES) [] [] sm

theorem Bh (p0 : Ac) (p1 : Ac) (RES : Bool) (hm : Ga p0 p1 = some RES) : Spec Tryz.prog 62 [.p (.agg (Al p0)),.p (.agg (Al p1))] [] (pB RES) [] [] := by
 unfold Ga at hm
 refine SO Tryz.func62 rfl rfl [(0,.p (.agg (Al p0))),(1,.p (.agg (Al p1)))] [] ?_
 intro cx hnt
 refine Sq (RK hnt (nn 3 []) [(2,rr 1016),(3,rr 1024)] [(1016,bx (pm (Al p0))),(1024,bx (pm (Al p1)))] tv ?_)
 obtain ⟨r1,hr1,hm⟩ := bo hm
 refine Sq ?_
 refine Jn (ι := Bool) (fun (y1 : Bool) => Aj [(4,pB y1)] []) (fun y1 => Nh y1 = some RES) ?_ ?_
 ·intro y1 hm
  unfold Nh at hm
  obtain rfl := sj hm
  exact DW.ret (Ai [] [] (pB y1))
 ·rcases bt r1 with h2 | h2
  ·replace hm := Bg h2 hm
   obtain ⟨r3,hr3,hm⟩ := bo hm
   refine RK hnt (nn 4 (o65 [] true r1 :: nn 5 (o66 [] true r3 :: pT :: .no :: []))) [(4,pB r3)] [] (an (Adb p0.frosts p1.frosts r1 hr1) (an5 h2 (an (AfI p0.stopped p1.stopped r3 hr3) (an h2 tv)))) ?_
   exact jD r3 hm .refl
  ·replace hm := Bf h2 hm
   refine RK hnt (nn 4 (o65 [] true r1 :: .no :: sk 5 (pF :: .no :: []))) [(4,pB false)] [] (an (Adb p0.frosts p1.frosts r1 hr1) (an6 h2 tv)) ?_
   exact jD false hm .refl
abbrev o64 (ks : List Nat) (b : Bool) (RES : Bool) (sm : List Nat := []) : Orc := .call 62 ks b (pB RES) [] [] sm

theorem Wp (RES : Bool) (hm : Pm = some RES) : Spec Tryz.prog 22 [] [] (pB RES) [] [] := by
 unfold Pm at hm
 refine SO Tryz.func22 rfl rfl [] [] ?_
 intro cx hnt
 refine Sq (RK hnt (.no :: []) [] [] tv ?_)
 obtain ⟨r1,hr1,hm⟩ := bo hm
 refine Sq (RK hnt (o4 [] true r1 :: nn 2 []) [(1,rr 1008)] [(1008,bx [ow 1080 r1.tree.nodes.length,pI r1.tree.next,ow 1081 r1.tasks.length,pI r1.next]),(1080,ob0 (Ak r1.tree.nodes)),(1081,ob0 (At r1.tasks))] (an (Ahz r1 hr1) tv) ?_)
 refine Sq (DW.cv [] [] [1080] [(1008,bx [.p (Ba r1.tree.nodes),pI r1.tree.next,ow 1081 r1.tasks.length,pI r1.next])] (Conv.frz [1080]) ?_)
 refine DW.cv [] [] [1081] [(1008,bx (pm (Ab r1)))] (Conv.frz [1081]) ?_
 obtain ⟨r4,hr4,hm⟩ := bo hm
 obtain ⟨r5,hr5,hm⟩ := bo hm
 refine RD hnt (nn 2 (o5 [] true r4 :: o20 [] false r5 :: nn 6 [])) [] [(2,rr 1016),(3,pI r5.2)] [] [(1016,bx [ow 1120 r5.1.frosts.length,ow 1121 r5.1.stopped.length]),(1120,ob0 (Af r5.1.frosts)),(1121,ob0 (roI r5.1.stopped))] (an (Wm r1 r4 hr4) (an (Wo r1 r4 2 true r5 hr5) tv)) ?_
 refine Sq (DW.cv [] [] [1120] [(1016,bx [.p (En r5.1.frosts),ow 1121 r5.1.stopped.length])] (Conv.frz [1120]) ?_)
 refine DW.cv [] [] [1121] [(1016,bx (pm (Al r5.1)))] (Conv.frz [1121]) ?_
 obtain ⟨r8,hr8,hm⟩ := bo hm
 refine RD hnt (nn 3 (o43 [] false r8 :: nn 6 [])) [] [(4,rr 1032),(5,pI r8.2)] [] [(1032,bx [ow 1176 r8.1.frosts.length,ow 1177 r8.1.stopped.length]),(1176,ob0 (Af r8.1.frosts)),(1177,ob0 (roI r8.1.stopped))] (an (Spec.args (xs := [.p (.agg (Ab r1)),.p (.agg (Al r5.1)),.p (.sl .unk 1 1 (cut 1 [vi 1]))]) (Vs r1 r5.1 [1] r8 hr8) (.cons .rfl (.cons .rfl (.cons (.p (PLe.typed (RowIs.lit (enc := Bi) (d := 0) (n := 1) (f := (cut 1 [vi 1])) [1] rfl (fun | 0,_ => rfl | n + 1,h => absurd h (by omega))))) .nil)))) tv) ?_
 refine Sq (DW.cv [] [] [1176] [(1032,bx [.p (En r8.1.frosts),ow 1177 r8.1.stopped.length])] (Conv.frz [1176]) ?_)
 refine DW.cv [] [] [1177] [(1032,bx (pm (Al r8.1)))] (Conv.frz [1177]) ?_
 obtain ⟨r11,hr11,hm⟩ := bo hm
 refine RK hnt (nn 2 (o43 [] true r11 :: nn 6 [])) [(1,rr 1008),(2,rr 1016),(3,pI r5.2),(4,rr 1032),(5,pI r8.2),(6,rr 1048),(7,pI r11.2)] [(1008,bx (pm (Ab r1))),(1016,bx (pm (Al r5.1))),(1032,bx (pm (Al r8.1))),(1048,bx [ow 1224 r11.1.frosts.length,ow 1225 r11.1.stopped.length]),(1224,ob0 (Af r11.1.frosts)),(1225,ob0 (roI r11.1.stopped))] (an (Spec.args (xs := [.p (.agg (Ab r1)),.p (.agg (Al r8.1)),.p (.sl .nil 0 0 (fun _ => []))]) (Vs r1 r8.1 [] r11 hr11) (.cons .rfl (.cons .rfl (.cons (.p PLe.nilL) .nil)))) tv) ?_
 refine Sq (RD hnt (nn 2 []) [] [] [] [(1008,bx [.p (Ba r1.tree.nodes),pI r1.tree.next,.p (.sl .nil 0 0 (fun _ => [])),pI r1.next])] tv ?_)
 obtain ⟨r12,hr12,hm⟩ := bo hm
 obtain ⟨r13,hr13,hm⟩ := bo hm
 refine Sq (RD hnt (nn 2 (o5 [] true r12 :: o20 [] false r13 :: nn 6 [])) [1] [(8,rr 1064),(9,pI r13.2)] [1008] [(1064,bx [ow 1288 r13.1.frosts.length,ow 1289 r13.1.stopped.length]),(1288,ob0 (Af r13.1.frosts)),(1289,ob0 (roI r13.1.stopped))] (an (Spec.args (xs := [.p (.agg [Ba r1.tree.nodes,vi r1.tree.next,.sl .nil 0 0 (fun _ => []),vi r1.next])]) (Wm ({ tree := r1.tree,tasks := [],next := r1.next } : Aa) r12 hr12) (.cons (.p (.agg (.cons .rfl (.cons .rfl (.cons PLe.nilL (.cons .rfl .nil)))))) .nil)) (an (Spec.args (xs := [.p (.agg [Ba r1.tree.nodes,vi r1.tree.next,.sl .nil 0 0 (fun _ => []),vi r1.next]),.p (.agg (Al r12)),pI 3,pB true]) (Wo ({ tree := r1.tree,tasks := [],next := r1.next } : Aa) r12 3 true r13 hr13) (.cons (.p (.agg (.cons .rfl (.cons .rfl (.cons PLe.nilL (.cons .rfl .nil)))))) (.cons .rfl (.cons .rfl (.cons .rfl .nil))))) tv)) ?_)
 refine Sq ?_
 refine Jn (ι := Bool) (fun (y1 : Bool) => Aj [(0,pB y1)] []) (fun y1 => Ep y1 = some RES) ?_ ?_
 ·intro y1 hm
  unfold Ep at hm
  obtain rfl := sj hm
  exact DW.ret (Ai [] [] (pB y1))
 ·rcases bt (r5.2 == 0) with h14 | h14
  ·replace hm := Bg h14 hm
   obtain ⟨r15,hr15,hm⟩ := bo hm
   rcases bt (!r15.frozen) with h16 | h16
   ·replace hm := Bg h16 hm
    rcases bt (r8.2 == 0) with h17 | h17
    ·replace hm := Bg h17 hm
     obtain ⟨r18,hr18,hm⟩ := bo hm
     rcases bt r18 with h19 | h19
     ·replace hm := Bg h19 hm
      rcases bt (r11.2 == 0) with h20 | h20
      ·replace hm := Bg h20 hm
       obtain ⟨r21,hr21,hm⟩ := bo hm
       rcases bt r21.frozen with h22 | h22
       ·replace hm := Bg h22 hm
        obtain ⟨r23,hr23,hm⟩ := bo hm
        rcases bt r23.frozen with h24 | h24
        ·replace hm := Bg h24 hm
         obtain ⟨r25,hr25,hm⟩ := bo hm
         rcases bt (r25.changes == 1) with h26 | h26
         ·replace hm := Bg h26 hm
          obtain ⟨r27,hr27,hm⟩ := bo hm
          rcases bt (!r27.frozen) with h28 | h28
          ·replace hm := Bg h28 hm
           obtain ⟨r29,hr29,hm⟩ := bo hm
           rcases bt r29 with h30 | h30
           ·replace hm := Bg h30 hm
            rcases bt (r13.2 == 0) with h31 | h31
            ·replace hm := Bg h31 hm
             obtain ⟨r32,hr32,hm⟩ := bo hm
             refine RK hnt (nn 4 (o26 [] true r15 :: nn 2 (pT :: nn 3 (pT :: nn 3 (o64 [] true r18 :: pT :: nn 3 (pT :: nn 2 (o26 [] true r21 :: .no :: pT :: nn 2 (o26 [] true r23 :: .no :: pT :: nn 2 (o26 [] true r25 :: nn 2 (pT :: nn 2 (o26 [] true r27 :: nn 2 (pT :: nn 2 (o32 [] true r29 :: pT :: nn 3 (pT :: nn 2 (o26 [] true r32 :: .no :: pT :: .no :: []))))))))))))))) [(0,pB r32.frozen)] [] (an2 h14 (an (Ax r5.1 2 r15 hr15) (an3 h14 (an3 h16 (an3 h17 (an (Bh r5.1 r8.1 r18 hr18) (an h17 (an3 h19 (an2 h20 (an (Ax r11.1 2 r21 hr21) (an2 h20 (an2 h22 (an (Ax r11.1 3 r23 hr23) (an2 h22 (an2 h24 (an (Ax r11.1 3 r25 hr25) (an3 h24 (an2 h26 (an (Ax r11.1 1 r27 hr27) (an3 h26 (an2 h28 (an (Cn r11.1 1 r29 hr29) (an h28 (an3 h30 (an2 h31 (an (Ax r13.1 3 r32 hr32) (an2 h31 tv))))))))))))))))))))))))))) ?_
             exact jD r32.frozen hm .refl
            ·replace hm := Bf h31 hm
             refine RK hnt (nn 4 (o26 [] true r15 :: nn 2 (pT :: nn 3 (pT :: nn 3 (o64 [] true r18 :: pT :: nn 3 (pT :: nn 2 (o26 [] true r21 :: .no :: pT :: nn 2 (o26 [] true r23 :: .no :: pT :: nn 2 (o26 [] true r25 :: nn 2 (pT :: nn 2 (o26 [] true r27 :: nn 2 (pT :: nn 2 (o32 [] true r29 :: pT :: nn 3 (pT :: .no :: sk 3 (pF :: .no :: []))))))))))))))) [(0,pB false)] [] (an2 h14 (an (Ax r5.1 2 r15 hr15) (an3 h14 (an3 h16 (an3 h17 (an (Bh r5.1 r8.1 r18 hr18) (an h17 (an3 h19 (an2 h20 (an (Ax r11.1 2 r21 hr21) (an2 h20 (an2 h22 (an (Ax r11.1 3 r23 hr23) (an2 h22 (an2 h24 (an (Ax r11.1 3 r25 hr25) (an3 h24 (an2 h26 (an (Ax r11.1 1 r27 hr27) (an3 h26 (an2 h28 (an (Cn r11.1 1 r29 hr29) (an h28 (an3 h30 (an4 h31 tv))))))))))))))))))))))))) ?_
             exact jD false hm .refl
           ·replace hm := Bf h30 hm
            refine RK hnt (nn 4 (o26 [] true r15 :: nn 2 (pT :: nn 3 (pT :: nn 3 (o64 [] true r18 :: pT :: nn 3 (pT :: nn 2 (o26 [] true r21 :: .no :: pT :: nn 2 (o26 [] true r23 :: .no :: pT :: nn 2 (o26 [] true r25 :: nn 2 (pT :: nn 2 (o26 [] true r27 :: nn 2 (pT :: nn 2 (o32 [] true r29 :: pT :: .no :: sk 2 (pF :: .no :: sk 3 (pF :: .no :: []))))))))))))))) [(0,pB false)] [] (an2 h14 (an (Ax r5.1 2 r15 hr15) (an3 h14 (an3 h16 (an3 h17 (an (Bh r5.1 r8.1 r18 hr18) (an h17 (an3 h19 (an2 h20 (an (Ax r11.1 2 r21 hr21) (an2 h20 (an2 h22 (an (Ax r11.1 3 r23 hr23) (an2 h22 (an2 h24 (an (Ax r11.1 3 r25 hr25) (an3 h24 (an2 h26 (an (Ax r11.1 1 r27 hr27) (an3 h26 (an2 h28 (an (Cn r11.1 1 r29 hr29) (an h28 (an3 h30 (an4 ff tv))))))))))))))))))))))))) ?_
            exact jD false hm .refl
          ·replace hm := Bf h28 hm
           refine RK hnt (nn 4 (o26 [] true r15 :: nn 2 (pT :: nn 3 (pT :: nn 3 (o64 [] true r18 :: pT :: nn 3 (pT :: nn 2 (o26 [] true r21 :: .no :: pT :: nn 2 (o26 [] true r23 :: .no :: pT :: nn 2 (o26 [] true r25 :: nn 2 (pT :: nn 2 (o26 [] true r27 :: nn 2 (pT :: .no :: sk 2 (pF :: .no :: sk 2 (pF :: .no :: sk 3 (pF :: .no :: []))))))))))))))) [(0,pB false)] [] (an2 h14 (an (Ax r5.1 2 r15 hr15) (an3 h14 (an3 h16 (an3 h17 (an (Bh r5.1 r8.1 r18 hr18) (an h17 (an3 h19 (an2 h20 (an (Ax r11.1 2 r21 hr21) (an2 h20 (an2 h22 (an (Ax r11.1 3 r23 hr23) (an2 h22 (an2 h24 (an (Ax r11.1 3 r25 hr25) (an3 h24 (an2 h26 (an (Ax r11.1 1 r27 hr27) (an3 h26 (an3 h28 (an ff (an6 ff tv))))))))))))))))))))))) ?_
           exact jD false hm .refl
         ·replace hm := Bf h26 hm
          refine RK hnt (nn 4 (o26 [] true r15 :: nn 2 (pT :: nn 3 (pT :: nn 3 (o64 [] true r18 :: pT :: nn 3 (pT :: nn 2 (o26 [] true r21 :: .no :: pT :: nn 2 (o26 [] true r23 :: .no :: pT :: nn 2 (o26 [] true r25 :: nn 2 (pT :: .no :: sk 4 (pF :: .no :: sk 2 (pF :: .no :: sk 2 (pF :: .no :: sk 3 (pF :: .no :: [])))))))))))))) [(0,pB false)] [] (an2 h14 (an (Ax r5.1 2 r15 hr15) (an3 h14 (an3 h16 (an3 h17 (an (Bh r5.1 r8.1 r18 hr18) (an h17 (an3 h19 (an2 h20 (an (Ax r11.1 2 r21 hr21) (an2 h20 (an2 h22 (an (Ax r11.1 3 r23 hr23) (an2 h22 (an2 h24 (an (Ax r11.1 3 r25 hr25) (an3 h24 (an5 h26 (an4 ff (an6 ff tv)))))))))))))))))))) ?_
          exact jD false hm .refl
        ·replace hm := Bf h24 hm
         refine RK hnt (nn 4 (o26 [] true r15 :: nn 2 (pT :: nn 3 (pT :: nn 3 (o64 [] true r18 :: pT :: nn 3 (pT :: nn 2 (o26 [] true r21 :: .no :: pT :: nn 2 (o26 [] true r23 :: .no :: pT :: .no :: sk 4 (pF :: .no :: sk 4 (pF :: .no :: sk 2 (pF :: .no :: sk 2 (pF :: .no :: sk 3 (pF :: .no :: []))))))))))))) [(0,pB false)] [] (an2 h14 (an (Ax r5.1 2 r15 hr15) (an3 h14 (an3 h16 (an3 h17 (an (Bh r5.1 r8.1 r18 hr18) (an h17 (an3 h19 (an2 h20 (an (Ax r11.1 2 r21 hr21) (an2 h20 (an2 h22 (an (Ax r11.1 3 r23 hr23) (an2 h22 (an5 h24 (an3 ff (an6 ff (an6 ff tv)))))))))))))))))) ?_
         exact jD false hm .refl
       ·replace hm := Bf h22 hm
        refine RK hnt (nn 4 (o26 [] true r15 :: nn 2 (pT :: nn 3 (pT :: nn 3 (o64 [] true r18 :: pT :: nn 3 (pT :: nn 2 (o26 [] true r21 :: .no :: pT :: .no :: sk 3 (pF :: .no :: sk 4 (pF :: .no :: sk 4 (pF :: .no :: sk 2 (pF :: .no :: sk 2 (pF :: .no :: sk 3 (pF :: .no :: []))))))))))))) [(0,pB false)] [] (an2 h14 (an (Ax r5.1 2 r15 hr15) (an3 h14 (an3 h16 (an3 h17 (an (Bh r5.1 r8.1 r18 hr18) (an h17 (an3 h19 (an2 h20 (an (Ax r11.1 2 r21 hr21) (an2 h20 (an4 h22 (an2 ff (an6 ff (an6 ff (an6 ff tv)))))))))))))))) ?_
        exact jD false hm .refl
      ·replace hm := Bf h20 hm
       refine RK hnt (nn 4 (o26 [] true r15 :: nn 2 (pT :: nn 3 (pT :: nn 3 (o64 [] true r18 :: pT :: nn 3 (pT :: .no :: sk 3 (pF :: .no :: sk 3 (pF :: .no :: sk 4 (pF :: .no :: sk 4 (pF :: .no :: sk 2 (pF :: .no :: sk 2 (pF :: .no :: sk 3 (pF :: .no :: []))))))))))))) [(0,pB false)] [] (an2 h14 (an (Ax r5.1 2 r15 hr15) (an3 h14 (an3 h16 (an3 h17 (an (Bh r5.1 r8.1 r18 hr18) (an h17 (an3 h19 (an4 h20 (an6 ff (an6 ff (an6 ff (an6 ff tv))))))))))))) ?_
       exact jD false hm .refl
     ·replace hm := Bf h19 hm
      refine RK hnt (nn 4 (o26 [] true r15 :: nn 2 (pT :: nn 3 (pT :: nn 3 (o64 [] true r18 :: pT :: .no :: sk 2 (pF :: .no :: sk 3 (pF :: .no :: sk 3 (pF :: .no :: sk 4 (pF :: .no :: sk 4 (pF :: .no :: sk 2 (pF :: .no :: sk 2 (pF :: .no :: sk 3 (pF :: .no :: []))))))))))))) [(0,pB false)] [] (an2 h14 (an (Ax r5.1 2 r15 hr15) (an3 h14 (an3 h16 (an3 h17 (an (Bh r5.1 r8.1 r18 hr18) (an h17 (an3 h19 (an4 ff (an6 ff (an6 ff (an6 ff (an6 ff tv))))))))))))) ?_
      exact jD false hm .refl
    ·replace hm := Bf h17 hm
     refine RK hnt (nn 4 (o26 [] true r15 :: nn 2 (pT :: nn 3 (pT :: .no :: sk 3 (pF :: .no :: sk 2 (pF :: .no :: sk 3 (pF :: .no :: sk 3 (pF :: .no :: sk 4 (pF :: .no :: sk 4 (pF :: .no :: sk 2 (pF :: .no :: sk 2 (pF :: .no :: sk 3 (pF :: .no :: []))))))))))))) [(0,pB false)] [] (an2 h14 (an (Ax r5.1 2 r15 hr15) (an3 h14 (an3 h16 (an4 h17 (an ff (an6 ff (an6 ff (an6 ff (an6 ff (an6 ff tv))))))))))) ?_
     exact jD false hm .refl
   ·replace hm := Bf h16 hm
    refine RK hnt (nn 4 (o26 [] true r15 :: nn 2 (pT :: .no :: sk 2 (pF :: .no :: sk 3 (pF :: .no :: sk 2 (pF :: .no :: sk 3 (pF :: .no :: sk 3 (pF :: .no :: sk 4 (pF :: .no :: sk 4 (pF :: .no :: sk 2 (pF :: .no :: sk 2 (pF :: .no :: sk 3 (pF :: .no :: []))))))))))))) [(0,pB false)] [] (an2 h14 (an (Ax r5.1 2 r15 hr15) (an3 h14 (an3 h16 (an5 ff (an6 ff (an6 ff (an6 ff (an6 ff (an6 ff tv)))))))))) ?_
    exact jD false hm .refl
  ·replace hm := Bf h14 hm
   refine RK hnt (nn 3 (sk 4 (pF :: .no :: sk 2 (pF :: .no :: sk 3 (pF :: .no :: sk 2 (pF :: .no :: sk 3 (pF :: .no :: sk 3 (pF :: .no :: sk 4 (pF :: .no :: sk 4 (pF :: .no :: sk 2 (pF :: .no :: sk 2 (pF :: .no :: sk 3 (pF :: .no :: []))))))))))))) [(0,pB false)] [] (an5 h14 (an2 ff (an6 ff (an6 ff (an6 ff (an6 ff (an6 ff (an6 ff tv)))))))) ?_
   exact jD false hm .refl
abbrev o3 (ks : List Nat) (b : Bool) (RES : Bool) (sm : List Nat := []) : Orc := .call 22 ks b (pB RES) [] [] sm

theorem Aih (p0 : List Int) (RES : Aq) (hm : AdE p0 = some RES) : Spec Tryz.prog 10 [.p (slI p0)] [] (rr 0) [] [.box (pm (An RES))] := by
 unfold AdE at hm
 refine SO Tryz.func10 rfl rfl [(0,.p (slI p0))] [] ?_
 intro cx hnt
 refine Sq (RK hnt (.no :: []) [(0,.p (slI p0))] [] tv ?_)
 refine Sq (RK hnt (nn 4 []) [(2,rr 1040)] [(1040,bx [.p (slI p0),pI 0])] tv ?_)
 obtain rfl := sj hm
 exact DW.ret (Ai [.box [.p (slI p0),pI 0]] [1040] (rr 0))
abbrev o67 (ks : List Nat) (b : Bool) (RES : Aq) (sm : List Nat := []) : Orc := .call 10 ks b (rr 0) [] [.box (pm (An RES))] sm

abbrev AeI := ({ id := 1,parent := 0,name := ByteArray.empty,control := 0,kind := 0,owner := 0 } : Ao)
theorem Aes (RES : Ag) (hm : AaJ = some RES) : Spec Tryz.prog 44 [] [] (.agg [ow 0 RES.nodes.length,pI RES.next]) [] [Ak RES.nodes] := by
 unfold AaJ at hm
 refine SO Tryz.func44 rfl rfl [] [] ?_
 intro cx hnt
 refine Sq (RK hnt (.no :: []) [(0,rr 1000)] [(1000,bx [.p (.sl .nil 0 0 (fun _ => [])),pI 0])] tv ?_)
 refine Sq (RN hnt (nn 4 []) [(0,rr 1000)] [(1000,bx [ow 1016 [(AeI)].length,pI 2]),(1016,ob0 (Ak [(AeI)]))] [] [(1000,.box [ow 1016 1,pI 2]),(1016,.row 6 1 (cut 6 [vi 1,vi 0,vs ByteArray.empty,vi 0,vi 0,vi 0]))] tv (by kernel_rfl) .nil (.cons rfl (.box (.cons (MLe.ownLen (enc := Ar) (d := Bm) (f := (cut 6 [vi 1,vi 0,vs ByteArray.empty,vi 0,vi 0,vi 0])) (RowIs.lit (enc := Ar) (d := Bm) (n := 1) (f := (cut 6 [vi 1,vi 0,vs ByteArray.empty,vi 0,vi 0,vi 0])) [(AeI)] rfl (fun | 0,_ => rfl | n + 1,h => absurd h (by omega)))) (.cons .rfl .nil))) (.cons rfl (BLe.typed (RowIs.lit (enc := Ar) (d := Bm) (n := 1) (f := (cut 6 [vi 1,vi 0,vs ByteArray.empty,vi 0,vi 0,vi 0])) [(AeI)] rfl (fun | 0,_ => rfl | n + 1,h => absurd h (by omega)))) .nil)) ?_)
 obtain rfl := sj hm
 exact DW.ret (Ai [Ak [(AeI)]] [1016] (.agg [ow 0 [(AeI)].length,pI 2]))
abbrev o70 (ks : List Nat) (b : Bool) (RES : Ag) (sm : List Nat := []) : Orc := .call 44 ks b (.agg [ow 0 RES.nodes.length,pI RES.next]) [] [Ak RES.nodes] sm

theorem Ajc (RES : Aa) (hm : AfJ = some RES) : Spec Tryz.prog 64 [] [] (.agg [ow 0 RES.tree.nodes.length,pI RES.tree.next,ow 1 RES.tasks.length,pI RES.next]) [] [Ak RES.tree.nodes,At RES.tasks] := by
 unfold AfJ at hm
 refine SO Tryz.func64 rfl rfl [] [] ?_
 intro cx hnt
 refine Sq (RK hnt (.no :: []) [(0,rr 1000)] [(1000,bx [.p (.sl .nil 0 0 (fun _ => [])),pI 0,.p (.sl .nil 0 0 (fun _ => [])),pI 0])] tv ?_)
 obtain ⟨r1,hr1,hm⟩ := bo hm
 refine Sq (RK hnt (o70 [] true r1 :: nn 2 []) [(0,rr 1000)] [(1000,bx [ow 1008 r1.nodes.length,pI r1.next,.p (.sl .nil 0 0 (fun _ => [])),pI 1]),(1008,ob0 (Ak r1.nodes))] (an (Aes r1 hr1) tv) ?_)
 refine DW.cv [] [] [] [(1000,bx [ow 1008 r1.nodes.length,pI r1.next,ow 100000 0,pI 1]),(100000,ob0 (At []))] (Conv.ads [(.o 1000 2,100000,4,elems Az Bu [])]) ?_
 obtain rfl := sj hm
 exact DW.ret (Ai [Ak r1.nodes,At []] [1008,100000] (.agg [ow 0 r1.nodes.length,pI r1.next,ow 1 0,pI 1]))
abbrev o69 (ks : List Nat) (b : Bool) (RES : Aa) (sm : List Nat := []) : Orc := .call 64 ks b (.agg [ow 0 RES.tree.nodes.length,pI RES.tree.next,ow 1 RES.tasks.length,pI RES.next]) [] [Ak RES.tree.nodes,At RES.tasks] sm

abbrev c72e1 (p0 : Aq) := (p0.l.getD (Int.toNat (w64 ((w64 (p0.atF + 1)) - 1))) 0)
theorem Bp (p0 : Aq) (p1 : Int) (RES : Int × Aq) (hm : Bq p0 p1 = some RES) : Spec Tryz.prog 25 [rr 0,pI p1] [.box (pm (An p0))] (pI RES.1) [.box (pm (An RES.2))] [] := by
 unfold Bq at hm
 refine SO Tryz.func25 rfl rfl [(0,rr 0),(1,pI p1)] [(0,bx (pm (An p0)))] ?_
 intro cx hnt
 refine Sq (RD hnt (.no :: []) [] [] [] [] tv ?_)
 refine Sq (Sq (DW.regJ (sl2 := [(0,rr 0),(1,pI p1),(19,pB ((decide (p0.atF ≥ ((p0.l.length : Nat) : Int))) || (decide (p1 < 1))))]) (ob2 := [(0,bx (pm (An p0)))]) ?_ ?_))
 ·rcases bt (decide (p0.atF ≥ ((p0.l.length : Nat) : Int))) with h1 | h1
  ·exact RT hnt (nn 11 (sk 2 (pT :: []))) [(19,pB true)] (an3 h1 tv) (by kernel_rfl) (.cons rfl (.of_eq (by rw [h1]; try rfl)) .nil)
  ·exact RT hnt (nn 13 (pF :: [])) [(19,pB (decide (p1 < 1)))] (an3 h1 tv) (by kernel_rfl) (.cons rfl (.of_eq (by rw [h1]; try rfl)) .nil)
 ·refine Ah hm ?_ ?_
  ·intro h2 hm
   refine Sq (RD hnt (.no :: []) [0,1,19] [(4,pI 0)] [] [] tv ?_)
   obtain rfl := sj hm
   exact DW.ret (Ai [.box (pm (An p0))] [] (pI 0))
  ·intro h2 hm
   refine Sk ?_
   refine Sq (RD hnt (nn 8 []) [19] [] [] [(0,bx [.p (slI p0.l),pI (w64 (p0.atF + 1))])] tv ?_)
   obtain ⟨g3,g4,hm⟩ := go2 hm
   refine Sq (RD hnt (nn 14 []) [0] [(5,pI (Int.tmod (c72e1 p0) p1))] [] [] (an g3.1 (an g3.2 (an g4 tv))) ?_)
   refine Sq (Sq (RD hnt (nn 2 []) [] [(41,pB (decide ((Int.tmod (c72e1 p0) p1) < 0)))] [] [] tv ?_))
   refine Jn (ι := Int) (fun (y1 : Int) => Aj [(5,pI y1)] [(0,bx [.p (slI p0.l),pI (w64 (p0.atF + 1))])]) (fun y1 => (Mk p0) y1 = some RES) ?_ ?_
   ·intro y1 hm
    unfold Mk at hm
    refine Sq (RD hnt (nn 2 []) [5] [(4,pI y1)] [] [] tv ?_)
    obtain rfl := sj hm
    exact DW.ret (Ai [.box [.p (slI p0.l),pI (w64 (p0.atF + 1))]] [] (pI y1))
   ·refine Ah hm ?_ ?_
    ·intro h5 hm
     refine RD hnt (nn 4 []) [1,41] [(5,pI (w64 ((Int.tmod (c72e1 p0) p1) + p1)))] [] [] tv ?_
     exact jD (w64 ((Int.tmod (c72e1 p0) p1) + p1)) hm Conv.eqK
    ·intro h5 hm
     refine Sk ?_
     exact jD (Int.tmod (c72e1 p0) p1) hm Conv.t0
abbrev o72 (ks : List Nat) (b : Bool) (RES : Int × Aq) (sm : List Nat := []) : Orc := .call 25 ks b (pI RES.1) [.box (pm (An RES.2))] [] sm

theorem AdT (p0 : Aq) (RES : ByteArray × Aq) (hm : Nt p0 = some RES) : Spec Tryz.prog 46 [rr 0] [.box (pm (An p0))] (pS RES.1) [.box (pm (An RES.2))] [] := by
 unfold Nt at hm
 refine SO Tryz.func46 rfl rfl [(0,rr 0)] [(0,bx (pm (An p0)))] ?_
 intro cx hnt
 refine Sq (RD hnt (.no :: []) [] [] [] [] tv ?_)
 obtain ⟨r3,hr3,hm⟩ := bo hm
 obtain ⟨g4,g5,hm⟩ := go2 hm
 refine Sq (RK hnt (.asR (ow 1024 [(bs [97]),(bs [98]),(bs [99]),(bs [119,101,98]),(bs [100,98,45,49]),(bs [88,95,57])].length) [(bs [97]),(bs [98]),(bs [99]),(bs [119,101,98]),(bs [100,98,45,49]),(bs [88,95,57])].length (elems encS ByteArray.empty [(bs [97]),(bs [98]),(bs [99]),(bs [119,101,98]),(bs [100,98,45,49]),(bs [88,95,57])]) :: .no :: o72 [0] true r3 :: nn 3 []) [(2,pS ([(bs [97]),(bs [98]),(bs [99]),(bs [119,101,98]),(bs [100,98,45,49]),(bs [88,95,57])].getD (Int.toNat r3.1) ByteArray.empty))] [(0,bx (pm (An r3.2)))] (an (congrArg (MV.own 1024 0 0) (RowIs.asP (enc := encS) (d := ByteArray.empty) (L := [(bs [97]),(bs [98]),(bs [99]),(bs [119,101,98]),(bs [100,98,45,49]),(bs [88,95,57])]) (RowIs.lit (enc := encS) (d := ByteArray.empty) (n := 6) (f := (cut 1 [vs (bs [97]),vs (bs [98]),vs (bs [99]),vs (bs [119,101,98]),vs (bs [100,98,45,49]),vs (bs [88,95,57])])) [(bs [97]),(bs [98]),(bs [99]),(bs [119,101,98]),(bs [100,98,45,49]),(bs [88,95,57])] rfl (fun | 0,_ => rfl | 1,_ => rfl | 2,_ => rfl | 3,_ => rfl | 4,_ => rfl | 5,_ => rfl | n + 6,h => absurd h (by omega)))).1) (an (RowIs.asP (enc := encS) (d := ByteArray.empty) (L := [(bs [97]),(bs [98]),(bs [99]),(bs [119,101,98]),(bs [100,98,45,49]),(bs [88,95,57])]) (RowIs.lit (enc := encS) (d := ByteArray.empty) (n := 6) (f := (cut 1 [vs (bs [97]),vs (bs [98]),vs (bs [99]),vs (bs [119,101,98]),vs (bs [100,98,45,49]),vs (bs [88,95,57])])) [(bs [97]),(bs [98]),(bs [99]),(bs [119,101,98]),(bs [100,98,45,49]),(bs [88,95,57])] rfl (fun | 0,_ => rfl | 1,_ => rfl | 2,_ => rfl | 3,_ => rfl | 4,_ => rfl | 5,_ => rfl | n + 6,h => absurd h (by omega)))) (an (Bp p0 6 r3 hr3) (an tv (an g4.1 (an g4.2 (an g5 tv))))))) ?_)
 obtain rfl := sj hm
 exact DW.ret (Ai [.box (pm (An r3.2))] [] (pS ([(bs [97]),(bs [98]),(bs [99]),(bs [119,101,98]),(bs [100,98,45,49]),(bs [88,95,57])].getD (Int.toNat r3.1) ByteArray.empty)))
abbrev o73 (ks : List Nat) (b : Bool) (RES : ByteArray × Aq) (sm : List Nat := []) : Orc := .call 46 ks b (pS RES.1) [.box (pm (An RES.2))] [] sm

abbrev AaW (p0 : ByteArray) (k1 : Int) : Nat × MV := (57,pB (!((((Br p0 (Int.toNat k1)) : Nat) : Int) == 45)))
theorem Acc (p0 : ByteArray) (RES : Bool) (hm : Se p0 = some RES) : Spec Tryz.prog 97 [pS p0] [] (pB RES) [] [] := by
 unfold Se at hm
 refine SO Tryz.func97 rfl rfl [(0,pS p0)] [] ?_
 intro cx hnt
 refine Sq (RK hnt (.no :: []) [(0,pS p0)] [] tv ?_)
 refine Sq (Sq ?_)
 refine Jn (ι := Bool) (fun (y1 : Bool) => Aj [(0,pS p0),(17,pB y1)] []) (fun y1 => (Oi p0) y1 = some RES) ?_ ?_
 ·intro y1 hm
  unfold Oi at hm
  refine Ah hm ?_ ?_
  ·intro h4 hm
   refine Sq (RK hnt (.no :: []) [(2,pB false)] [] tv ?_)
   obtain rfl := sj hm
   exact DW.ret (Ai [] [] (pB false))
  ·intro h4 hm
   refine Sk ?_
   refine Sq (Sq (RK hnt (.no :: []) [(0,pS p0),(3,pI 0)] [] tv ?_))
   refine Bk ?_
   obtain ⟨hc1,hm⟩ := go1 hm
   refine DW.forO (fun (k1 : Int) (s1 : Unit) => Aj [(0,pS p0),(3,pI k1)] []) (lo := 0) (hi := ((p0.size : Nat) : Int)) hm .refl ?_
   intro k1 s1 n1 hk1 hs1 he1
   refine Sq (Sq (RD hnt (nn 4 []) [] [(21,pB (decide (k1 < ((p0.size : Nat) : Int))))] [] [] tv ?_))
   refine Cd (decide (k1 < ((p0.size : Nat) : Int))) ?_ ?_
   ·intro h55
    have hlt1 : k1 < ((p0.size : Nat) : Int) := by have := of_decide_eq_true h55; omega
    have hm := hs1 hlt1
    unfold AaE at hm
    refine Sk ?_
    refine Sq (Bk ?_)
    obtain ⟨g56,hm⟩ := go1 hm
    refine Sq (RD hnt (nn 4 []) [21] [(4,.p (vk .u8 (((Br p0 (Int.toNat k1)) : Nat) : Int)))] [] [] (an g56.1 (an g56.2 tv)) ?_)
    refine Sq (DW.regJ (sl2 := [(0,pS p0),(3,pI k1),(57,pB (!((((((decide ((((Br p0 (Int.toNat k1)) : Nat) : Int) ≥ 97)) && (decide ((((Br p0 (Int.toNat k1)) : Nat) : Int) ≤ 122))) || ((decide ((((Br p0 (Int.toNat k1)) : Nat) : Int) ≥ 65)) && (decide ((((Br p0 (Int.toNat k1)) : Nat) : Int) ≤ 90)))) || ((decide ((((Br p0 (Int.toNat k1)) : Nat) : Int) ≥ 48)) && (decide ((((Br p0 (Int.toNat k1)) : Nat) : Int) ≤ 57)))) || ((((Br p0 (Int.toNat k1)) : Nat) : Int) == 95)) || ((((Br p0 (Int.toNat k1)) : Nat) : Int) == 45))))]) (ob2 := []) ?_ ?_)
    ·rcases bt (decide ((((Br p0 (Int.toNat k1)) : Nat) : Int) ≥ 97)) with h57 | h57
     ·rcases bt (decide ((((Br p0 (Int.toNat k1)) : Nat) : Int) ≤ 122)) with h58 | h58
      ·exact RT hnt (nn 5 (pT :: .no :: sk 6 (pT :: .no :: sk 6 (pT :: .no :: sk 2 (pT :: .no :: sk 2 (pT :: .no :: [])))))) [(57,pB false)] (an3 h57 (an5 h58 (an5 tt (an6 tt tv)))) (by kernel_rfl) (.cons rfl (.of_eq (by rw [h57,h58]; try rfl)) .nil)
      ·rcases bt (decide ((((Br p0 (Int.toNat k1)) : Nat) : Int) ≥ 65)) with h59 | h59
       ·rcases bt (decide ((((Br p0 (Int.toNat k1)) : Nat) : Int) ≤ 90)) with h60 | h60
        ·exact RT hnt (nn 5 (pT :: nn 6 (pT :: pF :: .no :: sk 6 (pT :: .no :: sk 2 (pT :: .no :: sk 2 (pT :: .no :: [])))))) [(57,pB false)] (an3 h57 (an3 h58 (an2 h59 (an h58 (an h59 (an h58 (an5 h60 (an6 tt tv)))))))) (by kernel_rfl) (.cons rfl (.of_eq (by rw [h57,h58,h59,h60]; try rfl)) .nil)
        ·rcases bt (decide ((((Br p0 (Int.toNat k1)) : Nat) : Int) ≥ 48)) with h61 | h61
         ·rcases bt (decide ((((Br p0 (Int.toNat k1)) : Nat) : Int) ≤ 57)) with h62 | h62
          ·exact RT hnt (nn 5 (pT :: nn 6 (pT :: pF :: nn 6 (pT :: pF :: .no :: sk 2 (pT :: .no :: sk 2 (pT :: .no :: [])))))) [(57,pB false)] (an3 h57 (an3 h58 (an2 h59 (an h58 (an h59 (an h58 (an3 h60 (an2 h61 (an h60 (an h61 (an h60 (an3 h62 (an3 tt tv))))))))))))) (by kernel_rfl) (.cons rfl (.of_eq (by rw [h57,h58,h59,h60,h61,h62]; try rfl)) .nil)
          ·rcases bt ((((Br p0 (Int.toNat k1)) : Nat) : Int) == 95) with h63 | h63
           ·exact RT hnt (nn 5 (pT :: nn 6 (pT :: pF :: nn 6 (pT :: pF :: nn 3 (pF :: .no :: sk 2 (pT :: .no :: [])))))) [(57,pB false)] (an3 h57 (an3 h58 (an2 h59 (an h58 (an h59 (an h58 (an3 h60 (an2 h61 (an h60 (an h61 (an h60 (an3 h62 (an3 h63 tv))))))))))))) (by kernel_rfl) (.cons rfl (.of_eq (by rw [h57,h58,h59,h60,h61,h62,h63]; try rfl)) .nil)
           ·exact RT hnt (nn 5 (pT :: nn 6 (pT :: pF :: nn 6 (pT :: pF :: nn 3 (pF :: nn 3 (pF :: .no :: [])))))) [(AaW p0 k1)] (an3 h57 (an3 h58 (an2 h59 (an h58 (an h59 (an h58 (an3 h60 (an2 h61 (an h60 (an h61 (an h60 (an3 h62 (an3 h63 tv))))))))))))) (by kernel_rfl) (.cons rfl (.of_eq (by rw [h57,h58,h59,h60,h61,h62,h63]; try rfl)) .nil)
         ·rcases bt ((((Br p0 (Int.toNat k1)) : Nat) : Int) == 95) with h64 | h64
          ·exact RT hnt (nn 5 (pT :: nn 6 (pT :: pF :: nn 4 (sk 2 (pF :: pF :: nn 3 (pF :: .no :: sk 2 (pT :: .no :: []))))))) [(57,pB false)] (an3 h57 (an3 h58 (an2 h59 (an h58 (an h59 (an h58 (an3 h60 (an2 h61 (an h60 (an h61 (an h60 (an3 ff (an3 h64 tv))))))))))))) (by kernel_rfl) (.cons rfl (.of_eq (by rw [h57,h58,h59,h60,h61,h64]; try rfl)) .nil)
          ·exact RT hnt (nn 5 (pT :: nn 6 (pT :: pF :: nn 4 (sk 2 (pF :: pF :: nn 3 (pF :: nn 3 (pF :: .no :: []))))))) [(AaW p0 k1)] (an3 h57 (an3 h58 (an2 h59 (an h58 (an h59 (an h58 (an3 h60 (an2 h61 (an h60 (an h61 (an h60 (an3 ff (an3 h64 tv))))))))))))) (by kernel_rfl) (.cons rfl (.of_eq (by rw [h57,h58,h59,h60,h61,h64]; try rfl)) .nil)
       ·rcases bt (decide ((((Br p0 (Int.toNat k1)) : Nat) : Int) ≥ 48)) with h65 | h65
        ·rcases bt (decide ((((Br p0 (Int.toNat k1)) : Nat) : Int) ≤ 57)) with h66 | h66
         ·exact RT hnt (nn 5 (pT :: nn 4 (sk 2 (pF :: pF :: nn 6 (pT :: pF :: .no :: sk 2 (pT :: .no :: sk 2 (pT :: .no :: []))))))) [(57,pB false)] (an3 h57 (an3 h58 (an2 h59 (an h58 (an h59 (an h58 (an3 ff (an2 h65 (an ff (an h65 (an ff (an3 h66 (an3 tt tv))))))))))))) (by kernel_rfl) (.cons rfl (.of_eq (by rw [h57,h58,h59,h65,h66]; try rfl)) .nil)
         ·rcases bt ((((Br p0 (Int.toNat k1)) : Nat) : Int) == 95) with h67 | h67
          ·exact RT hnt (nn 5 (pT :: nn 4 (sk 2 (pF :: pF :: nn 6 (pT :: pF :: nn 3 (pF :: .no :: sk 2 (pT :: .no :: []))))))) [(57,pB false)] (an3 h57 (an3 h58 (an2 h59 (an h58 (an h59 (an h58 (an3 ff (an2 h65 (an ff (an h65 (an ff (an3 h66 (an3 h67 tv))))))))))))) (by kernel_rfl) (.cons rfl (.of_eq (by rw [h57,h58,h59,h65,h66,h67]; try rfl)) .nil)
          ·exact RT hnt (nn 5 (pT :: nn 4 (sk 2 (pF :: pF :: nn 6 (pT :: pF :: nn 3 (pF :: nn 3 (pF :: .no :: []))))))) [(AaW p0 k1)] (an3 h57 (an3 h58 (an2 h59 (an h58 (an h59 (an h58 (an3 ff (an2 h65 (an ff (an h65 (an ff (an3 h66 (an3 h67 tv))))))))))))) (by kernel_rfl) (.cons rfl (.of_eq (by rw [h57,h58,h59,h65,h66,h67]; try rfl)) .nil)
        ·rcases bt ((((Br p0 (Int.toNat k1)) : Nat) : Int) == 95) with h68 | h68
         ·exact RT hnt (nn 5 (pT :: nn 4 (sk 2 (pF :: pF :: nn 4 (sk 2 (pF :: pF :: nn 3 (pF :: .no :: sk 2 (pT :: .no :: [])))))))) [(57,pB false)] (an3 h57 (an3 h58 (an2 h59 (an h58 (an h59 (an h58 (an3 ff (an2 h65 (an ff (an h65 (an4 ff (an3 h68 tv)))))))))))) (by kernel_rfl) (.cons rfl (.of_eq (by rw [h57,h58,h59,h65,h68]; try rfl)) .nil)
         ·exact RT hnt (nn 5 (pT :: nn 4 (sk 2 (pF :: pF :: nn 4 (sk 2 (pF :: pF :: nn 3 (pF :: nn 3 (pF :: .no :: [])))))))) [(AaW p0 k1)] (an3 h57 (an3 h58 (an2 h59 (an h58 (an h59 (an h58 (an3 ff (an2 h65 (an ff (an h65 (an4 ff (an3 h68 tv)))))))))))) (by kernel_rfl) (.cons rfl (.of_eq (by rw [h57,h58,h59,h65,h68]; try rfl)) .nil)
     ·rcases bt (decide ((((Br p0 (Int.toNat k1)) : Nat) : Int) ≥ 65)) with h69 | h69
      ·rcases bt (decide ((((Br p0 (Int.toNat k1)) : Nat) : Int) ≤ 90)) with h70 | h70
       ·exact RT hnt (nn 3 (sk 2 (pF :: nn 6 (pT :: pF :: .no :: sk 6 (pT :: .no :: sk 2 (pT :: .no :: sk 2 (pT :: .no :: []))))))) [(57,pB false)] (an3 h57 (an3 ff (an2 h69 (an ff (an h69 (an ff (an5 h70 (an6 tt tv)))))))) (by kernel_rfl) (.cons rfl (.of_eq (by rw [h57,h69,h70]; try rfl)) .nil)
       ·rcases bt (decide ((((Br p0 (Int.toNat k1)) : Nat) : Int) ≥ 48)) with h71 | h71
        ·rcases bt (decide ((((Br p0 (Int.toNat k1)) : Nat) : Int) ≤ 57)) with h72 | h72
         ·exact RT hnt (nn 3 (sk 2 (pF :: nn 6 (pT :: pF :: nn 6 (pT :: pF :: .no :: sk 2 (pT :: .no :: sk 2 (pT :: .no :: []))))))) [(57,pB false)] (an3 h57 (an3 ff (an2 h69 (an ff (an h69 (an ff (an3 h70 (an2 h71 (an h70 (an h71 (an h70 (an3 h72 (an3 tt tv))))))))))))) (by kernel_rfl) (.cons rfl (.of_eq (by rw [h57,h69,h70,h71,h72]; try rfl)) .nil)
         ·rcases bt ((((Br p0 (Int.toNat k1)) : Nat) : Int) == 95) with h73 | h73
          ·exact RT hnt (nn 3 (sk 2 (pF :: nn 6 (pT :: pF :: nn 6 (pT :: pF :: nn 3 (pF :: .no :: sk 2 (pT :: .no :: []))))))) [(57,pB false)] (an3 h57 (an3 ff (an2 h69 (an ff (an h69 (an ff (an3 h70 (an2 h71 (an h70 (an h71 (an h70 (an3 h72 (an3 h73 tv))))))))))))) (by kernel_rfl) (.cons rfl (.of_eq (by rw [h57,h69,h70,h71,h72,h73]; try rfl)) .nil)
          ·exact RT hnt (nn 3 (sk 2 (pF :: nn 6 (pT :: pF :: nn 6 (pT :: pF :: nn 3 (pF :: nn 3 (pF :: .no :: []))))))) [(AaW p0 k1)] (an3 h57 (an3 ff (an2 h69 (an ff (an h69 (an ff (an3 h70 (an2 h71 (an h70 (an h71 (an h70 (an3 h72 (an3 h73 tv))))))))))))) (by kernel_rfl) (.cons rfl (.of_eq (by rw [h57,h69,h70,h71,h72,h73]; try rfl)) .nil)
        ·rcases bt ((((Br p0 (Int.toNat k1)) : Nat) : Int) == 95) with h74 | h74
         ·exact RT hnt (nn 3 (sk 2 (pF :: nn 6 (pT :: pF :: nn 4 (sk 2 (pF :: pF :: nn 3 (pF :: .no :: sk 2 (pT :: .no :: [])))))))) [(57,pB false)] (an3 h57 (an3 ff (an2 h69 (an ff (an h69 (an ff (an3 h70 (an2 h71 (an h70 (an h71 (an h70 (an3 ff (an3 h74 tv))))))))))))) (by kernel_rfl) (.cons rfl (.of_eq (by rw [h57,h69,h70,h71,h74]; try rfl)) .nil)
         ·exact RT hnt (nn 3 (sk 2 (pF :: nn 6 (pT :: pF :: nn 4 (sk 2 (pF :: pF :: nn 3 (pF :: nn 3 (pF :: .no :: [])))))))) [(AaW p0 k1)] (an3 h57 (an3 ff (an2 h69 (an ff (an h69 (an ff (an3 h70 (an2 h71 (an h70 (an h71 (an h70 (an3 ff (an3 h74 tv))))))))))))) (by kernel_rfl) (.cons rfl (.of_eq (by rw [h57,h69,h70,h71,h74]; try rfl)) .nil)
      ·rcases bt (decide ((((Br p0 (Int.toNat k1)) : Nat) : Int) ≥ 48)) with h75 | h75
       ·rcases bt (decide ((((Br p0 (Int.toNat k1)) : Nat) : Int) ≤ 57)) with h76 | h76
        ·exact RT hnt (nn 3 (sk 2 (pF :: nn 4 (sk 2 (pF :: pF :: nn 6 (pT :: pF :: .no :: sk 2 (pT :: .no :: sk 2 (pT :: .no :: [])))))))) [(57,pB false)] (an3 h57 (an3 ff (an2 h69 (an ff (an h69 (an4 ff (an2 h75 (an ff (an h75 (an ff (an3 h76 (an3 tt tv)))))))))))) (by kernel_rfl) (.cons rfl (.of_eq (by rw [h57,h69,h75,h76]; try rfl)) .nil)
        ·rcases bt ((((Br p0 (Int.toNat k1)) : Nat) : Int) == 95) with h77 | h77
         ·exact RT hnt (nn 3 (sk 2 (pF :: nn 4 (sk 2 (pF :: pF :: nn 6 (pT :: pF :: nn 3 (pF :: .no :: sk 2 (pT :: .no :: [])))))))) [(57,pB false)] (an3 h57 (an3 ff (an2 h69 (an ff (an h69 (an4 ff (an2 h75 (an ff (an h75 (an ff (an3 h76 (an3 h77 tv)))))))))))) (by kernel_rfl) (.cons rfl (.of_eq (by rw [h57,h69,h75,h76,h77]; try rfl)) .nil)
         ·exact RT hnt (nn 3 (sk 2 (pF :: nn 4 (sk 2 (pF :: pF :: nn 6 (pT :: pF :: nn 3 (pF :: nn 3 (pF :: .no :: [])))))))) [(AaW p0 k1)] (an3 h57 (an3 ff (an2 h69 (an ff (an h69 (an4 ff (an2 h75 (an ff (an h75 (an ff (an3 h76 (an3 h77 tv)))))))))))) (by kernel_rfl) (.cons rfl (.of_eq (by rw [h57,h69,h75,h76,h77]; try rfl)) .nil)
       ·rcases bt ((((Br p0 (Int.toNat k1)) : Nat) : Int) == 95) with h78 | h78
        ·exact RT hnt (nn 3 (sk 2 (pF :: nn 4 (sk 2 (pF :: pF :: nn 4 (sk 2 (pF :: pF :: nn 3 (pF :: .no :: sk 2 (pT :: .no :: []))))))))) [(57,pB false)] (an3 h57 (an3 ff (an2 h69 (an ff (an h69 (an4 ff (an2 h75 (an ff (an h75 (an4 ff (an3 h78 tv))))))))))) (by kernel_rfl) (.cons rfl (.of_eq (by rw [h57,h69,h75,h78]; try rfl)) .nil)
        ·exact RT hnt (nn 3 (sk 2 (pF :: nn 4 (sk 2 (pF :: pF :: nn 4 (sk 2 (pF :: pF :: nn 3 (pF :: nn 3 (pF :: .no :: []))))))))) [(AaW p0 k1)] (an3 h57 (an3 ff (an2 h69 (an ff (an h69 (an4 ff (an2 h75 (an ff (an h75 (an4 ff (an3 h78 tv))))))))))) (by kernel_rfl) (.cons rfl (.of_eq (by rw [h57,h69,h75,h78]; try rfl)) .nil)
    ·refine Ah hm ?_ ?_
     ·intro h79 hm
      refine Sq (RK hnt (.no :: []) [(2,pB false)] [] tv ?_)
      obtain rfl := sj hm
      exact DW.ret (Ai [] [] (pB false))
     ·intro h79 hm
      refine Sk ?_
      refine DW.done ?_
      show DW _ _ _ _ _
      refine RK hnt (nn 3 []) [(0,pS p0),(3,pI (w64 (k1 + 1)))] [] tv ?_
      exact jD () ⟨hlt1,hm⟩ (Conv.tp [(3,pI (w64 (k1 + 1)))] [] (by kernel_rfl) (.cons rfl (.of_eq (congrArg pI (Sn (lo := 0) (hi := ((p0.size : Nat) : Int)) (by omega) hk1 hlt1 (by omega)))) .nil) .nil)
   ·intro h55
    have hge1 : ¬ k1 < ((p0.size : Nat) : Int) := by have := of_decide_eq_false h55; omega
    have hm := he1 hge1
    unfold Ady at hm
    refine DW.exit ?_
    refine Ap ?_
    refine Au ?_
    refine Am ?_
    show DW _ _ _ _ _
    refine Sq (RK hnt (.no :: []) [(2,pB true)] [] tv ?_)
    obtain rfl := sj hm
    exact DW.ret (Ai [] [] (pB true))
 ·rcases bt (((p0.size : Nat) : Int) == 0) with h1 | h1
  ·replace hm := Bg h1 hm
   refine RK hnt (nn 4 (sk 3 (pT :: .no :: sk 3 (pT :: [])))) [(0,pS p0),(17,pB true)] [] (an4 h1 (an4 tt tv)) ?_
   exact jD true hm .refl
  ·replace hm := Bf h1 hm
   rcases bt (decide (((p0.size : Nat) : Int) > 32)) with h2 | h2
   ·replace hm := Bg h2 hm
    refine RK hnt (nn 7 (pF :: .no :: sk 3 (pT :: []))) [(0,pS p0),(17,pB true)] [] (an4 h1 (an4 h2 tv)) ?_
    exact jD true hm .refl
   ·replace hm := Bf h2 hm
    obtain ⟨g3,hm⟩ := go1 hm
    refine RK hnt (nn 7 (pF :: nn 4 (pF :: []))) [(0,pS p0),(17,pB ((((Br p0 0) : Nat) : Int) == 45))] [] (an4 h1 (an2 h2 (an (nn0 0) (an (ltc g3) (an2 h2 tv))))) ?_
    exact jD ((((Br p0 0) : Nat) : Int) == 45) hm .refl
abbrev o77 (ks : List Nat) (b : Bool) (RES : Bool) (sm : List Nat := []) : Orc := .call 97 ks b (pB RES) [] [] sm

abbrev Ei (p0 : Ag) (p1 : Int) := (p0.nodes.getD (Int.toNat p1) Bm)
abbrev AeY (p0 : Ag) (p1 : Int) : Nat × Obj := (1040,bx (pm (Ar (Ei p0 p1))))
abbrev AeU (p0 : Ag) : Nat × Obj := (1016,bx (pm (As p0)))
abbrev c76e4 (p0 : Ag) (k1 : Int) := (p0.nodes.getD (Int.toNat k1) Bm)
theorem Aib (p0 : Ag) (p1 : Int) (RES : Bool) (hm : Xs p0 p1 = some RES) : Spec Tryz.prog 107 [.p (.agg (As p0)),pI p1] [] (pB RES) [] [] := by
 unfold Xs at hm
 refine SO Tryz.func107 rfl rfl [(0,.p (.agg (As p0))),(1,pI p1)] [] ?_
 intro cx hnt
 refine Sq (RK hnt (nn 2 []) [(1,pI p1),(2,rr 1016)] [(AeU p0)] tv ?_)
 obtain ⟨g1,hm⟩ := go1 hm
 refine Sq (RD hnt (nn 7 []) [] [(5,rr 1040)] [] [(AeY p0 p1)] (an g1.1 (an g1.2 tv)) ?_)
 refine Sq (Sq (DW.regJ (sl2 := [(1,pI p1),(2,rr 1016),(5,rr 1040),(40,pB (((((((Ei p0 p1).kind != 0) && ((Ei p0 p1).kind != 1)) || (decide ((Ei p0 p1).control < 0))) || (decide ((Ei p0 p1).control > 31))) || (decide ((Ei p0 p1).owner < 0))) || (decide ((Ei p0 p1).owner > 1048576))))]) (ob2 := [(AeU p0),(AeY p0 p1)]) ?_ ?_))
 ·rcases bt ((Ei p0 p1).kind != 0) with h2 | h2
  ·rcases bt ((Ei p0 p1).kind != 1) with h3 | h3
   ·exact RT hnt (nn 7 (pT :: .no :: sk 3 (pT :: .no :: sk 3 (pT :: .no :: sk 3 (pT :: .no :: sk 3 (pT :: [])))))) [(40,pB true)] (an4 h2 (an4 h3 (an6 tt (an6 tt tv)))) (by kernel_rfl) (.cons rfl (.of_eq (by rw [h2,h3]; try rfl)) .nil)
   ·rcases bt (decide ((Ei p0 p1).control < 0)) with h4 | h4
    ·exact RT hnt (nn 7 (pT :: nn 4 (pF :: .no :: sk 3 (pT :: .no :: sk 3 (pT :: .no :: sk 3 (pT :: [])))))) [(40,pB true)] (an4 h2 (an4 h3 (an4 h4 (an2 tt (an6 tt tv))))) (by kernel_rfl) (.cons rfl (.of_eq (by rw [h2,h3,h4]; try rfl)) .nil)
    ·rcases bt (decide ((Ei p0 p1).control > 31)) with h5 | h5
     ·exact RT hnt (nn 7 (pT :: nn 4 (pF :: nn 4 (pF :: .no :: sk 3 (pT :: .no :: sk 3 (pT :: [])))))) [(40,pB true)] (an4 h2 (an4 h3 (an4 h4 (an4 h5 (an4 tt tv))))) (by kernel_rfl) (.cons rfl (.of_eq (by rw [h2,h3,h4,h5]; try rfl)) .nil)
     ·rcases bt (decide ((Ei p0 p1).owner < 0)) with h6 | h6
      ·exact RT hnt (nn 7 (pT :: nn 4 (pF :: nn 4 (pF :: nn 4 (pF :: .no :: sk 3 (pT :: [])))))) [(40,pB true)] (an4 h2 (an4 h3 (an4 h4 (an4 h5 (an4 h6 tv))))) (by kernel_rfl) (.cons rfl (.of_eq (by rw [h2,h3,h4,h5,h6]; try rfl)) .nil)
      ·exact RT hnt (nn 7 (pT :: nn 4 (pF :: nn 4 (pF :: nn 4 (pF :: nn 4 (pF :: [])))))) [(40,pB (decide ((Ei p0 p1).owner > 1048576)))] (an4 h2 (an4 h3 (an4 h4 (an4 h5 (an4 h6 tv))))) (by kernel_rfl) (.cons rfl (.of_eq (by rw [h2,h3,h4,h5,h6]; try rfl)) .nil)
  ·rcases bt (decide ((Ei p0 p1).control < 0)) with h7 | h7
   ·exact RT hnt (nn 4 (sk 3 (pF :: nn 4 (pF :: .no :: sk 3 (pT :: .no :: sk 3 (pT :: .no :: sk 3 (pT :: []))))))) [(40,pB true)] (an4 h2 (an4 ff (an4 h7 (an2 tt (an6 tt tv))))) (by kernel_rfl) (.cons rfl (.of_eq (by rw [h2,h7]; try rfl)) .nil)
   ·rcases bt (decide ((Ei p0 p1).control > 31)) with h8 | h8
    ·exact RT hnt (nn 4 (sk 3 (pF :: nn 4 (pF :: nn 4 (pF :: .no :: sk 3 (pT :: .no :: sk 3 (pT :: []))))))) [(40,pB true)] (an4 h2 (an4 ff (an4 h7 (an4 h8 (an4 tt tv))))) (by kernel_rfl) (.cons rfl (.of_eq (by rw [h2,h7,h8]; try rfl)) .nil)
    ·rcases bt (decide ((Ei p0 p1).owner < 0)) with h9 | h9
     ·exact RT hnt (nn 4 (sk 3 (pF :: nn 4 (pF :: nn 4 (pF :: nn 4 (pF :: .no :: sk 3 (pT :: []))))))) [(40,pB true)] (an4 h2 (an4 ff (an4 h7 (an4 h8 (an4 h9 tv))))) (by kernel_rfl) (.cons rfl (.of_eq (by rw [h2,h7,h8,h9]; try rfl)) .nil)
     ·exact RT hnt (nn 4 (sk 3 (pF :: nn 4 (pF :: nn 4 (pF :: nn 4 (pF :: nn 4 (pF :: []))))))) [(40,pB (decide ((Ei p0 p1).owner > 1048576)))] (an4 h2 (an4 ff (an4 h7 (an4 h8 (an4 h9 tv))))) (by kernel_rfl) (.cons rfl (.of_eq (by rw [h2,h7,h8,h9]; try rfl)) .nil)
 ·refine Ah hm ?_ ?_
  ·intro h10 hm
   refine Sq (RK hnt (.no :: []) [(4,pB false)] [] tv ?_)
   obtain rfl := sj hm
   exact DW.ret (Ai [] [] (pB false))
  ·intro h10 hm
   refine Sk ?_
   refine Sq (Sq (RD hnt (nn 2 []) [40] [(42,pB (p1 == 0))] [] [] tv ?_))
   refine Ah hm ?_ ?_
   ·intro h11 hm
    refine Sq (DW.regJ (sl2 := [(4,pB (((((Ei p0 p1).id == 1) && ((Ei p0 p1).parent == 0)) && (Ea (Ei p0 p1).name ByteArray.empty)) && ((Ei p0 p1).kind == 0)))]) (ob2 := []) ?_ ?_)
    ·rcases bt ((Ei p0 p1).id == 1) with h12 | h12
     ·rcases bt ((Ei p0 p1).parent == 0) with h13 | h13
      ·rcases bt (Ea (Ei p0 p1).name ByteArray.empty) with h14 | h14
       ·exact RT hnt (nn 7 (pT :: nn 4 (pT :: nn 4 (pT :: .no :: [])))) [(4,pB ((Ei p0 p1).kind == 0))] (an4 h12 (an4 h13 (an4 h14 tv))) (by kernel_rfl) (.cons rfl (.of_eq (by rw [h12,h13,h14]; try rfl)) .nil)
       ·exact RT hnt (nn 7 (pT :: nn 4 (pT :: .no :: sk 3 (pF :: .no :: [])))) [(4,pB false)] (an4 h12 (an4 h13 (an4 h14 tv))) (by kernel_rfl) (.cons rfl (.of_eq (by rw [h12,h13,h14]; try rfl)) .nil)
      ·exact RT hnt (nn 7 (pT :: .no :: sk 3 (pF :: .no :: sk 3 (pF :: .no :: [])))) [(4,pB false)] (an4 h12 (an4 h13 (an4 ff tv))) (by kernel_rfl) (.cons rfl (.of_eq (by rw [h12,h13]; try rfl)) .nil)
     ·exact RT hnt (nn 4 (sk 3 (pF :: .no :: sk 3 (pF :: .no :: sk 3 (pF :: .no :: []))))) [(4,pB false)] (an4 h12 (an2 ff (an6 ff tv))) (by kernel_rfl) (.cons rfl (.of_eq (by rw [h12]; try rfl)) .nil)
    ·refine DW.ret ?_
     obtain rfl := sj hm
     exact Ai [] [] (pB (((((Ei p0 p1).id == 1) && ((Ei p0 p1).parent == 0)) && (Ea (Ei p0 p1).name ByteArray.empty)) && ((Ei p0 p1).kind == 0)))
   ·intro h11 hm
    refine Sk ?_
    obtain ⟨g15,hm⟩ := go1 hm
    refine Sq (Sq ?_)
    refine Jn (ι := Bool) (fun (y1 : Bool) => Aj [(1,pI p1),(2,rr 1016),(5,rr 1040),(76,pB y1)] [(AeU p0),(AeY p0 p1)]) (fun y1 => (Ti p0 p1) y1 = some RES) ?_ ?_
    ·intro y1 hm
     unfold Ti at hm
     refine Ah hm ?_ ?_
     ·intro h18 hm
      refine Sq (RK hnt (.no :: []) [(4,pB false)] [] tv ?_)
      obtain rfl := sj hm
      exact DW.ret (Ai [] [] (pB false))
     ·intro h18 hm
      refine Sk ?_
      refine Sq (RD hnt (.no :: []) [76] [(6,pB false)] [] [] tv ?_)
      refine Sq (Sq (RD hnt (.no :: []) [] [(7,pI 0)] [] [] tv ?_))
      refine Bk ?_
      obtain ⟨hc1,hm⟩ := go1 hm
      refine DW.forO (fun (k1 : Int) (s1 : Bool) => Aj [(1,pI p1),(2,rr 1016),(5,rr 1040),(6,pB s1),(7,pI k1)] [(AeU p0),(AeY p0 p1)]) (lo := 0) (hi := p1) hm Conv.eqK ?_
      intro k1 s1 n1 hk1 hs1 he1
      refine Sq (Sq (RD hnt (nn 3 []) [] [(79,pB (decide (k1 < p1)))] [] [] tv ?_))
      refine Cd (decide (k1 < p1)) ?_ ?_
      ·intro h32
       have hlt1 : k1 < p1 := by have := of_decide_eq_true h32; omega
       have hm := hs1 hlt1
       unfold AbL at hm
       refine Sk ?_
       refine Sq (Bk ?_)
       refine Sq ?_
       refine Jn (ι := Bool) (fun (y5 : Bool) => Aj [(1,pI p1),(2,rr 1016),(5,rr 1040),(6,pB y5),(7,pI k1)] [(AeU p0),(AeY p0 p1)]) (fun y5 => (Qk p0 p1 k1 n1) y5 = some RES) ?_ ?_
       ·intro y5 hm
        unfold Qk at hm
        obtain ⟨g35,hm⟩ := go1 hm
        refine Sq ?_
        refine Jn (ι := Bool) (fun (y6 : Bool) => Aj [(1,pI p1),(2,rr 1016),(5,rr 1040),(6,pB y5),(7,pI k1),(113,pB y6)] [(AeU p0),(AeY p0 p1)]) (fun y6 => (Ql n1 y5) y6 = some RES) ?_ ?_
        ·intro y6 hm
         unfold Ql at hm
         refine Ah hm ?_ ?_
         ·intro h38 hm
          refine Sq (RK hnt (.no :: []) [(4,pB false)] [] tv ?_)
          obtain rfl := sj hm
          exact DW.ret (Ai [] [] (pB false))
         ·intro h38 hm
          refine Sk ?_
          refine DW.done ?_
          show DW _ _ _ _ _
          refine RD hnt (nn 3 []) [113] [(7,pI (w64 (k1 + 1)))] [] [] tv ?_
          exact jD y5 ⟨hlt1,hm⟩ (Conv.tp [(7,pI (w64 (k1 + 1)))] [] (by kernel_rfl) (.cons rfl (.of_eq (congrArg pI (Sn (lo := 0) (hi := p1) (by omega) hk1 hlt1 (by omega)))) .nil) .nil)
        ·rcases bt ((c76e4 p0 k1).parent == (Ei p0 p1).parent) with h36 | h36
         ·replace hm := Bg h36 hm
          obtain ⟨g37,hm⟩ := go1 hm
          refine RD hnt (nn 19 (pT :: [])) [] [(113,pB (Ea (c76e4 p0 k1).name (Ei p0 p1).name))] [] [] (an g35.1 (an g35.2 (an4 h36 (an g37.1 (an g37.2 (an6 h36 tv)))))) ?_
          exact jD (Ea (c76e4 p0 k1).name (Ei p0 p1).name) hm Conv.eqK
         ·replace hm := Bf h36 hm
          refine RD hnt (nn 10 (sk 9 (pF :: []))) [] [(113,pB false)] [] [] (an g35.1 (an g35.2 (an4 h36 (an6 h36 tv)))) ?_
          exact jD false hm Conv.eqK
       ·rcases bt s1 with h33 | h33
        ·replace hm := Bg h33 hm
         refine RD hnt (nn 2 (sk 9 (pT :: .no :: []))) [79] [(6,pB true)] [] [] (an4 h33 (an6 h33 tv)) ?_
         exact jD true hm Conv.eqK
        ·replace hm := Bf h33 hm
         obtain ⟨g34,hm⟩ := go1 hm
         refine RD hnt (nn 11 (pF :: .no :: [])) [79] [(6,pB ((c76e4 p0 k1).id == (Ei p0 p1).parent))] [] [] (an4 h33 (an g34.1 (an g34.2 (an6 h33 tv)))) ?_
         exact jD ((c76e4 p0 k1).id == (Ei p0 p1).parent) hm Conv.eqK
      ·intro h32
       have hge1 : ¬ k1 < p1 := by have := of_decide_eq_false h32; omega
       have hm := he1 hge1
       unfold Afk at hm
       refine DW.exit ?_
       refine Ap ?_
       refine Au ?_
       refine Am ?_
       show DW _ _ _ _ _
       refine Sq (RK hnt (nn 2 []) [(4,pB s1)] [] tv ?_)
       obtain rfl := sj hm
       exact DW.ret (Ai [] [] (pB s1))
    ·rcases bt (decide ((Ei p0 p1).id ≤ (p0.nodes.getD (Int.toNat (w64 (p1 - 1))) Bm).id)) with h16 | h16
     ·replace hm := Bg h16 hm
      refine RD hnt (nn 11 (sk 4 (pT :: []))) [42] [(76,pB true)] [] [] (an g15.1 (an g15.2 (an5 h16 tv))) ?_
      exact jD true hm Conv.eqK
     ·replace hm := Bf h16 hm
      obtain ⟨r17,hr17,hm⟩ := bo hm
      refine RD hnt (nn 13 (o77 [] true r17 :: .no :: pF :: [])) [42] [(76,pB (!r17))] [] [] (an g15.1 (an g15.2 (an3 h16 (an (Acc (Ei p0 p1).name r17 hr17) (an2 h16 tv))))) ?_
      exact jD (!r17) hm Conv.eqK
abbrev o76 (ks : List Nat) (b : Bool) (RES : Bool) (sm : List Nat := []) : Orc := .call 107 ks b (pB RES) [] [] sm

theorem Afp (p0 : Ag) (p1 : Int) (RES : List Int) (hm : Aaa p0 p1 = some RES) : Spec Tryz.prog 108 [.p (.agg (As p0)),pI p1] [] (ow 0 RES.length) [] [roI RES] := by
 unfold Aaa at hm
 refine SO Tryz.func108 rfl rfl [(0,.p (.agg (As p0))),(1,pI p1)] [] ?_
 intro cx hnt
 refine Sq (RK hnt (nn 2 []) [(1,pI p1),(2,rr 1016)] [(1016,bx (pm (As p0)))] tv ?_)
 refine Sq (RD hnt (.no :: []) [] [(5,.p (.sl .nil 0 0 (fun _ => [])))] [] [] tv ?_)
 refine Sq (Sq (RD hnt (nn 5 []) [] [(6,pI (w64 (((p0.nodes.length : Nat) : Int) - 1)))] [] [] tv ?_))
 refine Bk ?_
 refine DW.whileO (fun (s1 : (List Int) × Int × Int) => Aj [(1,pI s1.2.1),(2,rr 1016),(5,ow 1208 s1.1.length),(6,pI s1.2.2)] [(1016,bx (pm (As p0))),(1208,ob0 (roI s1.1))]) hm (Conv.ads [(.s 5,1208,1,elems Bi 0 [])]) ?_
 intro s1 n1 hm
 unfold Aen at hm
 refine Sq (Sq (RD hnt (nn 2 []) [] [(12,pB (decide (s1.2.2 ≥ 0)))] [] [] tv ?_))
 refine Ah hm ?_ ?_
 ·intro h5 hm
  refine Sk ?_
  refine Sq ?_
  refine Jn (ι := (List Int) × Int) (fun (y2 : (List Int) × Int) => Aj [(1,pI y2.2),(2,rr 1016),(5,ow 1208 y2.1.length),(6,pI s1.2.2)] [(1016,bx (pm (As p0))),(1208,ob0 (roI y2.1))]) (fun y2 => (Uk s1 n1) y2 = some RES) ?_ ?_
  ·intro y2 hm
   unfold Uk at hm
   refine RD hnt (nn 3 []) [] [(6,pI (w64 (s1.2.2 - 1)))] [] [] tv ?_
   exact jD (y2.1,y2.2,(w64 (s1.2.2 - 1))) hm Conv.eqK
  ·refine Bk ?_
   obtain ⟨g6,hm⟩ := go1 hm
   refine Sq (RD hnt (nn 8 []) [12] [(22,pB ((p0.nodes.getD (Int.toNat s1.2.2) Bm).id == s1.2.1))] [] [] (an g6.1 (an g6.2 tv)) ?_)
   refine Ah hm ?_ ?_
   ·intro h7 hm
    obtain ⟨g8,hm⟩ := go1 hm
    refine Sq (RN hnt (nn 5 []) [(2,rr 1016),(5,ow 1208 (s1.1 ++ [s1.2.1]).length),(6,pI s1.2.2)] [(1016,bx (pm (As p0))),(1208,ob0 (roI (s1.1 ++ [s1.2.1])))] [(5,ow 1208 (s1.1.length + 1))] [(1208,.row 1 (s1.1.length + 1) (Cp s1.1.length (elI s1.1) (cut 1 [vi s1.2.1])))] (an (by omega : (s1.1.length + 1) * 8 ≤ 140737488355328) tv) (by kernel_rfl) (.cons rfl (MLe.ownLen (enc := Bi) (d := 0) (f := (Cp s1.1.length (elI s1.1) (cut 1 [vi s1.2.1]))) (RowIs.cat RowIs.elems (RowIs.lit (enc := Bi) (d := 0) (n := 1) (f := (cut 1 [vi s1.2.1])) [s1.2.1] rfl (fun | 0,_ => rfl | n + 1,h => absurd h (by omega))))) .nil) (.cons rfl (BLe.typed (RowIs.cat RowIs.elems (RowIs.lit (enc := Bi) (d := 0) (n := 1) (f := (cut 1 [vi s1.2.1])) [s1.2.1] rfl (fun | 0,_ => rfl | n + 1,h => absurd h (by omega))))) .nil) ?_)
    obtain ⟨g9,hm⟩ := go1 hm
    refine RD hnt (nn 7 []) [] [(1,pI (p0.nodes.getD (Int.toNat s1.2.2) Bm).parent)] [] [] (an g9.1 (an g9.2 tv)) ?_
    exact bD ((s1.1 ++ [s1.2.1]),(p0.nodes.getD (Int.toNat s1.2.2) Bm).parent) hm Conv.eqK
   ·intro h7 hm
    refine Sk ?_
    exact bD (s1.1,s1.2.1) hm Conv.t0
 ·intro h5 hm
  refine DW.exit ?_
  refine Ap ?_
  refine Au ?_
  refine Am ?_
  show DW _ _ _ _ _
  refine Sq (RK hnt (nn 2 []) [(4,ow 1208 s1.1.length)] [(1208,ob0 (roI s1.1))] tv ?_)
  obtain rfl := sj hm
  exact DW.ret (Ai [roI s1.1] [1208] (ow 0 s1.1.length))
abbrev o78 (ks : List Nat) (b : Bool) (RES : List Int) (sm : List Nat := []) : Orc := .call 108 ks b (ow 0 RES.length) [] [roI RES] sm

abbrev c75e1 (p0 : Ag) : Nat × MV := (3,pI ((p0.nodes.length : Nat) : Int))
theorem Gi (p0 : Ag) (RES : Bool) (hm : Ki p0 = some RES) : Spec Tryz.prog 54 [.p (.agg (As p0))] [] (pB RES) [] [] := by
 unfold Ki at hm
 refine SO Tryz.func54 rfl rfl [(0,.p (.agg (As p0)))] [] ?_
 intro cx hnt
 refine Sq (RK hnt (nn 2 []) [(1,rr 1008)] [(1008,bx (pm (As p0)))] tv ?_)
 refine Sq (RD hnt (nn 4 []) [] [(c75e1 p0)] [] [] tv ?_)
 refine Sq (Sq (DW.regJ (sl2 := [(1,rr 1008),(c75e1 p0),(14,pB ((decide (((p0.nodes.length : Nat) : Int) < 1)) || (decide (((p0.nodes.length : Nat) : Int) > 64))))]) (ob2 := [(1008,bx (pm (As p0)))]) ?_ ?_))
 ·rcases bt (decide (((p0.nodes.length : Nat) : Int) < 1)) with h1 | h1
  ·exact RT hnt (nn 3 (sk 2 (pT :: []))) [(14,pB true)] (an3 h1 tv) (by kernel_rfl) (.cons rfl (.of_eq (by rw [h1]; try rfl)) .nil)
  ·exact RT hnt (nn 5 (pF :: [])) [(14,pB (decide (((p0.nodes.length : Nat) : Int) > 64)))] (an3 h1 tv) (by kernel_rfl) (.cons rfl (.of_eq (by rw [h1]; try rfl)) .nil)
 ·refine Ah hm ?_ ?_
  ·intro h2 hm
   refine Sq (RK hnt (.no :: []) [(2,pB false)] [] tv ?_)
   obtain rfl := sj hm
   exact DW.ret (Ai [] [] (pB false))
  ·intro h2 hm
   refine Sk ?_
   refine Sq (Sq (RD hnt (.no :: []) [14] [(4,pI 0)] [] [] tv ?_))
   refine Bk ?_
   obtain ⟨hc1,hm⟩ := go1 hm
   refine DW.rangeO (fun (k1 : Nat) (s1 : Unit) => Aj [(1,rr 1008),(c75e1 p0),(4,pI ((k1 : Nat) : Int))] [(1008,bx (pm (As p0)))]) Bm hm Conv.eqK ?_
   intro k1 s1 n1 hk1 hs1 he1
   refine Sq (Sq (RD hnt (nn 3 []) [] [(17,pB (decide (((k1 : Nat) : Int) < ((p0.nodes.length : Nat) : Int))))] [] [] tv ?_))
   refine Cd (decide (((k1 : Nat) : Int) < ((p0.nodes.length : Nat) : Int))) ?_ ?_
   ·intro h32
    have hlt1 : k1 < p0.nodes.length := by have := of_decide_eq_true h32; omega
    have hm := hs1 hlt1
    unfold Aah at hm
    refine Sk ?_
    refine Sq (Bk ?_)
    obtain ⟨r33,hr33,hm⟩ := bo hm
    refine Sq (RD hnt (nn 2 (o76 [] true r33 :: .no :: [])) [17] [(23,pB (!r33))] [] [] (an (Aib p0 ((k1 : Nat) : Int) r33 hr33) tv) ?_)
    refine Ah hm ?_ ?_
    ·intro h34 hm
     refine Sq (RK hnt (.no :: []) [(2,pB false)] [] tv ?_)
     obtain rfl := sj hm
     exact DW.ret (Ai [] [] (pB false))
    ·intro h34 hm
     refine Sk ?_
     refine DW.done ?_
     show DW _ _ _ _ _
     refine RD hnt (nn 3 []) [23] [(4,pI (w64 (((k1 : Nat) : Int) + 1)))] [] [] tv ?_
     exact jD () ⟨hlt1,hm⟩ (Conv.tp [(4,pI (w64 (((k1 : Nat) : Int) + 1)))] [] (by kernel_rfl) (.cons rfl (.of_eq (congrArg pI (Bo hlt1 hc1))) .nil) .nil)
   ·intro h32
    have hge1 : ¬ k1 < p0.nodes.length := by have := of_decide_eq_false h32; omega
    have hm := he1 hge1
    unfold AaL at hm
    refine DW.exit ?_
    refine Ap ?_
    refine Au ?_
    refine Am ?_
    show DW _ _ _ _ _
    refine Sq (Sq (RD hnt (.no :: []) [4,17] [(5,pI 0)] [] [] tv ?_))
    refine Bk ?_
    obtain ⟨hc4,hm⟩ := go1 hm
    refine DW.rangeO (fun (k4 : Nat) (s4 : Unit) => Aj [(1,rr 1008),(c75e1 p0),(5,pI ((k4 : Nat) : Int))] [(1008,bx (pm (As p0)))]) Bm hm Conv.eqK ?_
    intro k4 s4 n4 hk4 hs4 he4
    refine Sq (Sq (RD hnt (nn 3 []) [] [(26,pB (decide (((k4 : Nat) : Int) < ((p0.nodes.length : Nat) : Int))))] [] [] tv ?_))
    refine Cd (decide (((k4 : Nat) : Int) < ((p0.nodes.length : Nat) : Int))) ?_ ?_
    ·intro h49
     have hlt4 : k4 < p0.nodes.length := by have := of_decide_eq_true h49; omega
     have hm := hs4 hlt4
     unfold Aag at hm
     refine Sk ?_
     refine Sq (Bk ?_)
     obtain ⟨r50,hr50,hm⟩ := bo hm
     refine Sq (RD hnt (nn 7 (o78 [] true r50 :: nn 2 [])) [26] [(38,pB (decide (((r50.length : Nat) : Int) > 9)))] [] [] (an (nn0 k4) (an (ltc hlt4) (an (Afp p0 (p0.nodes.getD k4 (default : Ao)).id r50 hr50) tv))) ?_)
     refine Ah hm ?_ ?_
     ·intro h51 hm
      refine Sq (RK hnt (.no :: []) [(2,pB false)] [] tv ?_)
      obtain rfl := sj hm
      exact DW.ret (Ai [] [] (pB false))
     ·intro h51 hm
      refine Sk ?_
      refine DW.done ?_
      show DW _ _ _ _ _
      refine RD hnt (nn 3 []) [38] [(5,pI (w64 (((k4 : Nat) : Int) + 1)))] [] [] tv ?_
      exact jD () ⟨hlt4,hm⟩ (Conv.tp [(5,pI (w64 (((k4 : Nat) : Int) + 1)))] [] (by kernel_rfl) (.cons rfl (.of_eq (congrArg pI (Bo hlt4 hc4))) .nil) .nil)
    ·intro h49
     have hge4 : ¬ k4 < p0.nodes.length := by have := of_decide_eq_false h49; omega
     have hm := he4 hge4
     unfold AaN at hm
     refine DW.exit ?_
     refine Ap ?_
     refine Au ?_
     refine Am ?_
     show DW _ _ _ _ _
     obtain ⟨g52,hm⟩ := go1 hm
     refine Sq ?_
     refine Jn (ι := Bool) (fun (y7 : Bool) => Aj [(2,pB y7)] []) (fun y7 => Ri y7 = some RES) ?_ ?_
     ·intro y7 hm
      unfold Ri at hm
      obtain rfl := sj hm
      exact DW.ret (Ai [] [] (pB y7))
     ·rcases bt (decide (p0.next > (p0.nodes.getD (Int.toNat (w64 (((p0.nodes.length : Nat) : Int) - 1))) Bm).id)) with h53 | h53
      ·replace hm := Bg h53 hm
       refine RK hnt (nn 14 (pT :: .no :: [])) [(2,pB (decide (p0.next ≤ 2147483648)))] [] (an g52.1 (an g52.2 (an4 h53 tv))) ?_
       exact jD (decide (p0.next ≤ 2147483648)) hm .refl
      ·replace hm := Bf h53 hm
       refine RK hnt (nn 11 (sk 3 (pF :: .no :: []))) [(2,pB false)] [] (an g52.1 (an g52.2 (an4 h53 tv))) ?_
       exact jD false hm .refl
abbrev o75 (ks : List Nat) (b : Bool) (RES : Bool) (sm : List Nat := []) : Orc := .call 54 ks b (pB RES) [] [] sm

theorem Dn (p0 : Ag) (p1 : Int) (RES : Ao × Bool) (hm : Dp p0 p1 = some RES) : Spec Tryz.prog 16 [.p (.agg (As p0)),pI p1] [] (.p (.tup [.agg (Ar RES.1),vb RES.2])) [] [] := by
 unfold Dp at hm
 refine SO Tryz.func16 rfl rfl [(0,.p (.agg (As p0))),(1,pI p1)] [] ?_
 intro cx hnt
 refine Sq (RK hnt (nn 3 []) [(1,pI p1),(2,rr 1016),(4,rr 1032)] [(1016,bx (pm (As p0))),(1032,bx [pI 0,pI 0,pS ByteArray.empty,pI 0,pI 0,pI 0])] tv ?_)
 obtain ⟨r1,hr1,hm⟩ := bo hm
 refine Sq (Sq (RD hnt (.no :: o75 [] true r1 :: .no :: []) [] [(9,pB (!r1))] [] [] (an (Gi p0 r1 hr1) tv) ?_))
 refine Ah hm ?_ ?_
 ·intro h2 hm
  refine Sq (RD hnt (nn 3 []) [1,2,9] [(5,pB false)] [1016] [] tv ?_)
  obtain rfl := sj hm
  exact DW.ret (Ai [] [] (.p (.tup [.agg [vi 0,vi 0,vs ByteArray.empty,vi 0,vi 0,vi 0],vb false])))
 ·intro h2 hm
  refine Sk ?_
  refine Sq (Sq (RD hnt (.no :: []) [9] [(6,pI 0)] [] [] tv ?_))
  refine Bk ?_
  obtain ⟨hc1,hm⟩ := go1 hm
  refine DW.rangeO (fun (k1 : Nat) (s1 : Unit) => Aj [(1,pI p1),(2,rr 1016),(4,rr 1032),(6,pI ((k1 : Nat) : Int))] [(1016,bx (pm (As p0))),(1032,bx [pI 0,pI 0,pS ByteArray.empty,pI 0,pI 0,pI 0])]) Bm hm Conv.eqK ?_
  intro k1 s1 n1 hk1 hs1 he1
  refine Sq (Sq (RD hnt (nn 5 []) [] [(15,pB (decide (((k1 : Nat) : Int) < ((p0.nodes.length : Nat) : Int))))] [] [] tv ?_))
  refine Cd (decide (((k1 : Nat) : Int) < ((p0.nodes.length : Nat) : Int))) ?_ ?_
  ·intro h11
   have hlt1 : k1 < p0.nodes.length := by have := of_decide_eq_true h11; omega
   have hm := hs1 hlt1
   unfold Aft at hm
   refine Sk ?_
   refine Sq (Bk ?_)
   refine Sq (RD hnt (nn 8 []) [15] [(25,pB ((p0.nodes.getD k1 (default : Ao)).id == p1))] [] [] (an (nn0 k1) (an (ltc hlt1) tv)) ?_)
   refine Ah hm ?_ ?_
   ·intro h12 hm
    refine Sq (RK hnt (nn 7 []) [(4,rr 1032),(5,pB true)] [(1032,bx (pm (Ar (p0.nodes.getD k1 (default : Ao)))))] (an (nn0 k1) (an (ltc hlt1) tv)) ?_)
    obtain rfl := sj hm
    exact DW.ret (Ai [] [] (.p (.tup [.agg (Ar (p0.nodes.getD k1 (default : Ao))),vb true])))
   ·intro h12 hm
    refine Sk ?_
    refine DW.done ?_
    show DW _ _ _ _ _
    refine RD hnt (nn 3 []) [25] [(6,pI (w64 (((k1 : Nat) : Int) + 1)))] [] [] tv ?_
    exact jD () ⟨hlt1,hm⟩ (Conv.tp [(6,pI (w64 (((k1 : Nat) : Int) + 1)))] [] (by kernel_rfl) (.cons rfl (.of_eq (congrArg pI (Bo hlt1 hc1))) .nil) .nil)
  ·intro h11
   have hge1 : ¬ k1 < p0.nodes.length := by have := of_decide_eq_false h11; omega
   have hm := he1 hge1
   unfold Afs at hm
   refine DW.exit ?_
   refine Ap ?_
   refine Au ?_
   refine Am ?_
   show DW _ _ _ _ _
   refine Sq (RD hnt (nn 3 []) [1,2,6,15] [(5,pB false)] [1016] [] tv ?_)
   obtain rfl := sj hm
   exact DW.ret (Ai [] [] (.p (.tup [.agg [vi 0,vi 0,vs ByteArray.empty,vi 0,vi 0,vi 0],vb false])))
abbrev o80 (ks : List Nat) (b : Bool) (RES : Ao × Bool) (sm : List Nat := []) : Orc := .call 16 ks b (.p (.tup [.agg (Ar RES.1),vb RES.2])) [] [] sm

theorem Cy (p0 : Ag) (p1 : Int) (RES : Bool) (hm : Gd p0 p1 = some RES) : Spec Tryz.prog 84 [.p (.agg (As p0)),pI p1] [] (pB RES) [] [] := by
 unfold Gd at hm
 refine SO Tryz.func84 rfl rfl [(0,.p (.agg (As p0))),(1,pI p1)] [] ?_
 intro cx hnt
 refine Sq (RK hnt (nn 2 []) [(1,pI p1),(2,rr 1016)] [(1016,bx (pm (As p0)))] tv ?_)
 obtain ⟨r1,hr1,hm⟩ := bo hm
 refine Sq (RK hnt (nn 2 (o80 [] true r1 :: nn 6 [])) [(6,pB r1.2)] [] (an (Dn p0 p1 r1 hr1) tv) ?_)
 refine Sq (RK hnt (nn 2 []) [(4,pB r1.2)] [] tv ?_)
 obtain rfl := sj hm
 exact DW.ret (Ai [] [] (pB r1.2))
abbrev o79 (ks : List Nat) (b : Bool) (RES : Bool) (sm : List Nat := []) : Orc := .call 84 ks b (pB RES) [] [] sm

theorem Kp (p0 : Ag) (p1 : Int) (RES : List Int) (hm : Fo p0 p1 = some RES) : Spec Tryz.prog 95 [.p (.agg (As p0)),pI p1] [] (ow 0 RES.length) [] [roI RES] := by
 unfold Fo at hm
 refine SO Tryz.func95 rfl rfl [(0,.p (.agg (As p0))),(1,pI p1)] [] ?_
 intro cx hnt
 refine Sq (RK hnt (nn 2 []) [(1,pI p1),(2,rr 1016)] [(1016,bx (pm (As p0)))] tv ?_)
 obtain ⟨r1,hr1,hm⟩ := bo hm
 refine Sq (Sq (RD hnt (nn 2 (o79 [] true r1 :: .no :: [])) [] [(8,pB (!r1))] [] [] (an (Cy p0 p1 r1 hr1) tv) ?_))
 refine Ah hm ?_ ?_
 ·intro h2 hm
  refine Sq (RK hnt (.no :: []) [(4,.p (.sl .nil 0 0 (fun _ => [])))] [] tv ?_)
  refine DW.cv [] [(4,ow 100000 0)] [] [(100000,ob0 (roI []))] (Conv.ads [(.s 4,100000,1,elems Bi 0 [])]) ?_
  obtain rfl := sj hm
  exact DW.ret (Ai [roI []] [100000] (ow 0 0))
 ·intro h2 hm
  refine Sk ?_
  obtain ⟨r3,hr3,hm⟩ := bo hm
  refine Sq (RK hnt (nn 2 (o78 [] true r3 :: .no :: [])) [(4,ow 1088 r3.length)] [(1088,ob0 (roI r3))] (an (Afp p0 p1 r3 hr3) tv) ?_)
  obtain rfl := sj hm
  exact DW.ret (Ai [roI r3] [1088] (ow 0 r3.length))
abbrev o82 (ks : List Nat) (b : Bool) (RES : List Int) (sm : List Nat := []) : Orc := .call 95 ks b (ow 0 RES.length) [] [roI RES] sm

theorem Wz (p0 : Ag) (p1 : Int) (RES : Int) (hm : Vf p0 p1 = some RES) : Spec Tryz.prog 98 [.p (.agg (As p0)),pI p1] [] (pI RES) [] [] := by
 unfold Vf at hm
 refine SO Tryz.func98 rfl rfl [(0,.p (.agg (As p0))),(1,pI p1)] [] ?_
 intro cx hnt
 refine Sq (RK hnt (nn 2 []) [(1,pI p1),(2,rr 1016)] [(1016,bx (pm (As p0)))] tv ?_)
 obtain ⟨r1,hr1,hm⟩ := bo hm
 refine Sq (RK hnt (nn 2 (o82 [] true r1 :: nn 3 [])) [(4,pI (w64 (((r1.length : Nat) : Int) - 1)))] [] (an (Kp p0 p1 r1 hr1) tv) ?_)
 obtain rfl := sj hm
 exact DW.ret (Ai [] [] (pI (w64 (((r1.length : Nat) : Int) - 1))))
abbrev o81 (ks : List Nat) (b : Bool) (RES : Int) (sm : List Nat := []) : Orc := .call 98 ks b (pI RES) [] [] sm

theorem Ua (p0 : Ag) (RES : Ag) (hm : Pa p0 = some RES) : Spec Tryz.prog 99 [.p (.agg (As p0))] [] (.agg [ow 0 RES.nodes.length,pI RES.next]) [] [Ak RES.nodes] := by
 unfold Pa at hm
 refine SO Tryz.func99 rfl rfl [(0,.p (.agg (As p0)))] [] ?_
 intro cx hnt
 refine Sq (RK hnt (nn 2 []) [(1,rr 1008),(2,rr 1016)] [(1008,bx (pm (As p0))),(1016,bx [.p (.sl .nil 0 0 (fun _ => [])),pI 0])] tv ?_)
 obtain ⟨g1,hm⟩ := go1 hm
 refine Sq (RN hnt (nn 7 []) [(2,rr 1016)] [(1016,bx [ow 1040 p0.nodes.length,pI p0.next]),(1040,ob0 (Ak p0.nodes))] [] [(1040,.row 6 p0.nodes.length (Xu p0.nodes))] (an (by omega : p0.nodes.length * 56 ≤ 140737488355328) tv) (by kernel_rfl) .nil (.cons rfl (BLe.typed RowIs.elems) .nil) ?_)
 obtain rfl := sj hm
 exact DW.ret (Ai [Ak p0.nodes] [1040] (.agg [ow 0 p0.nodes.length,pI p0.next]))
abbrev o83 (ks : List Nat) (b : Bool) (RES : Ag) (sm : List Nat := []) : Orc := .call 99 ks b (.agg [ow 0 RES.nodes.length,pI RES.next]) [] [Ak RES.nodes] sm

abbrev Abb (p0 : Ag) (p1 : Int) (p2 : ByteArray) := ({ id := p0.next,parent := p1,name := p2,control := 0,kind := 0,owner := 0 } : Ao)
abbrev Afa : Nat × Obj := (1048,bx [.p (.sl .nil 0 0 (fun _ => [])),pI 0])
abbrev AeJ (p0 : Ag) : Nat × Obj := (1024,bx (pm (As p0)))
abbrev c74e4 : Nat × Obj := (1048,bx [ow 100000 0,pI 0])
theorem AiC (p0 : Ag) (p1 : Int) (p2 : ByteArray) (RES : Ag × Int × Int) (hm : AaP p0 p1 p2 = some RES) : Spec Tryz.prog 43 [.p (.agg (As p0)),pI p1,pS p2] [] (.tup [.agg [ow 0 RES.1.nodes.length,pI RES.1.next],pI RES.2.1,pI RES.2.2]) [] [Ak RES.1.nodes] := by
 unfold AaP at hm
 refine SO Tryz.func43 rfl rfl [(0,.p (.agg (As p0))),(1,pI p1),(2,pS p2)] [] ?_
 intro cx hnt
 refine Sq (RD hnt (nn 4 []) [0] [(3,rr 1024),(6,rr 1048)] [] [(AeJ p0),(Afa)] tv ?_)
 obtain ⟨r1,hr1,hm⟩ := bo hm
 refine Sq (Sq ?_)
 refine Jn (ι := Bool) (fun (y1 : Bool) => Aj [(1,pI p1),(2,pS p2),(3,rr 1024),(6,rr 1048),(18,pB y1)] [(AeJ p0),(Afa)]) (fun y1 => (Vi p0 p1 p2) y1 = some RES) ?_ ?_
 ·intro y1 hm
  unfold Vi at hm
  refine Ah hm ?_ ?_
  ·intro h4 hm
   refine Sq (RD hnt (nn 4 []) [1,2,3,18] [(7,pI 0),(8,pI 1)] [1024] [] tv ?_)
   refine DW.cv [] [] [] [(c74e4),(100000,ob0 (Ak []))] (Conv.ads [(.o 1048 0,100000,6,elems Ar Bm [])]) ?_
   obtain rfl := sj hm
   exact DW.ret (Ai [Ak []] [100000] (.tup [.agg [ow 0 0,pI 0],pI 0,pI 1]))
  ·intro h4 hm
   refine Sk ?_
   obtain ⟨r5,hr5,hm⟩ := bo hm
   refine Sq (Sq (RD hnt (nn 2 (o79 [] true r5 :: .no :: [])) [18] [(23,pB (!r5))] [] [] (an (Cy p0 p1 r5 hr5) tv) ?_))
   refine Ah hm ?_ ?_
   ·intro h6 hm
    refine Sq (RD hnt (nn 4 []) [1,2,3,23] [(7,pI 0),(8,pI 4)] [1024] [] tv ?_)
    refine DW.cv [] [] [] [(c74e4),(100000,ob0 (Ak []))] (Conv.ads [(.o 1048 0,100000,6,elems Ar Bm [])]) ?_
    obtain rfl := sj hm
    exact DW.ret (Ai [Ak []] [100000] (.tup [.agg [ow 0 0,pI 0],pI 0,pI 4]))
   ·intro h6 hm
    refine Sk ?_
    refine Sq (Sq (RD hnt (.no :: []) [23] [(9,pI 0)] [] [] tv ?_))
    refine Bk ?_
    obtain ⟨hc1,hm⟩ := go1 hm
    refine DW.rangeO (fun (k1 : Nat) (s1 : Unit) => Aj [(1,pI p1),(2,pS p2),(3,rr 1024),(6,rr 1048),(9,pI ((k1 : Nat) : Int))] [(AeJ p0),(Afa)]) Bm hm Conv.eqK ?_
    intro k1 s1 n1 hk1 hs1 he1
    refine Sq (Sq (RD hnt (nn 5 []) [] [(29,pB (decide (((k1 : Nat) : Int) < ((p0.nodes.length : Nat) : Int))))] [] [] tv ?_))
    refine Cd (decide (((k1 : Nat) : Int) < ((p0.nodes.length : Nat) : Int))) ?_ ?_
    ·intro h29
     have hlt1 : k1 < p0.nodes.length := by have := of_decide_eq_true h29; omega
     have hm := hs1 hlt1
     unfold AcJ at hm
     refine Sk ?_
     refine Sq (Bk ?_)
     refine Sq (DW.regJ (sl2 := [(1,pI p1),(2,pS p2),(3,rr 1024),(6,rr 1048),(9,pI ((k1 : Nat) : Int)),(49,pB (((p0.nodes.getD k1 (default : Ao)).parent == p1) && (Ea (p0.nodes.getD k1 (default : Ao)).name p2)))]) (ob2 := [(AeJ p0),(Afa)]) ?_ ?_)
     ·rcases bt ((p0.nodes.getD k1 (default : Ao)).parent == p1) with h30 | h30
      ·exact RT hnt (nn 17 (pT :: [])) [(49,pB (Ea (p0.nodes.getD k1 (default : Ao)).name p2))] (an (nn0 k1) (an (ltc hlt1) (an4 h30 (an (nn0 k1) (an (ltc hlt1) (an5 h30 tv)))))) (by kernel_rfl) (.cons rfl (.of_eq (by rw [h30]; try rfl)) .nil)
      ·exact RT hnt (nn 9 (sk 8 (pF :: []))) [(49,pB false)] (an (nn0 k1) (an (ltc hlt1) (an3 h30 (an6 h30 tv)))) (by kernel_rfl) (.cons rfl (.of_eq (by rw [h30]; try rfl)) .nil)
     ·refine Ah hm ?_ ?_
      ·intro h31 hm
       refine Sq (RD hnt (nn 4 []) [1,2,3,9,49] [(7,pI 0),(8,pI 5)] [1024] [] tv ?_)
       refine DW.cv [] [] [] [(c74e4),(100000,ob0 (Ak []))] (Conv.ads [(.o 1048 0,100000,6,elems Ar Bm [])]) ?_
       obtain rfl := sj hm
       exact DW.ret (Ai [Ak []] [100000] (.tup [.agg [ow 0 0,pI 0],pI 0,pI 5]))
      ·intro h31 hm
       refine Sk ?_
       refine DW.done ?_
       show DW _ _ _ _ _
       refine RD hnt (nn 3 []) [49] [(9,pI (w64 (((k1 : Nat) : Int) + 1)))] [] [] tv ?_
       exact jD () ⟨hlt1,hm⟩ (Conv.tp [(9,pI (w64 (((k1 : Nat) : Int) + 1)))] [] (by kernel_rfl) (.cons rfl (.of_eq (congrArg pI (Bo hlt1 hc1))) .nil) .nil)
    ·intro h29
     have hge1 : ¬ k1 < p0.nodes.length := by have := of_decide_eq_false h29; omega
     have hm := he1 hge1
     unfold AcH at hm
     refine DW.exit ?_
     refine Ap ?_
     refine Au ?_
     refine Am ?_
     show DW _ _ _ _ _
     obtain ⟨r32,hr32,hm⟩ := bo hm
     refine Sq (Sq ?_)
     refine Jn (ι := Bool) (fun (y6 : Bool) => Aj [(1,pI p1),(2,pS p2),(3,rr 1024),(6,rr 1048),(65,pB y6)] [(AeJ p0),(Afa)]) (fun y6 => (Ph p0 p1 p2) y6 = some RES) ?_ ?_
     ·intro y6 hm
      unfold Ph at hm
      refine Ah hm ?_ ?_
      ·intro h35 hm
       refine Sq (RD hnt (nn 4 []) [1,2,3,65] [(7,pI 0),(8,pI 7)] [1024] [] tv ?_)
       refine DW.cv [] [] [] [(c74e4),(100000,ob0 (Ak []))] (Conv.ads [(.o 1048 0,100000,6,elems Ar Bm [])]) ?_
       obtain rfl := sj hm
       exact DW.ret (Ai [Ak []] [100000] (.tup [.agg [ow 0 0,pI 0],pI 0,pI 7]))
      ·intro h35 hm
       refine Sk ?_
       obtain ⟨r36,hr36,hm⟩ := bo hm
       refine Sq (RD hnt (.no :: o83 [] true r36 :: nn 2 []) [65] [(10,rr 1080)] [] [(1080,bx [ow 1544 r36.nodes.length,pI r36.next]),(1544,ob0 (Ak r36.nodes))] (an (Ua p0 r36 hr36) tv) ?_)
       obtain ⟨g37,hm⟩ := go1 hm
       refine Sq (RN hnt (nn 11 []) [(3,rr 1024),(6,rr 1048),(10,rr 1080)] [(AeJ p0),(Afa),(1080,bx [ow 1544 (r36.nodes ++ [(Abb p0 p1 p2)]).length,pI r36.next]),(1544,ob0 (Ak (r36.nodes ++ [(Abb p0 p1 p2)])))] [] [(1080,.box [ow 1544 (r36.nodes.length + 1),pI r36.next]),(1544,.row 6 (r36.nodes.length + 1) (Cp r36.nodes.length (Xu r36.nodes) (cut 6 [vi p0.next,vi p1,vs p2,vi 0,vi 0,vi 0])))] (an (by omega : (r36.nodes.length + 1) * 56 ≤ 140737488355328) tv) (by kernel_rfl) .nil (.cons rfl (.box (.cons (MLe.ownLen (enc := Ar) (d := Bm) (f := (Cp r36.nodes.length (Xu r36.nodes) (cut 6 [vi p0.next,vi p1,vs p2,vi 0,vi 0,vi 0]))) (RowIs.cat RowIs.elems (RowIs.lit (enc := Ar) (d := Bm) (n := 1) (f := (cut 6 [vi p0.next,vi p1,vs p2,vi 0,vi 0,vi 0])) [(Abb p0 p1 p2)] rfl (fun | 0,_ => rfl | n + 1,h => absurd h (by omega))))) (.cons .rfl .nil))) (.cons rfl (BLe.typed (RowIs.cat RowIs.elems (RowIs.lit (enc := Ar) (d := Bm) (n := 1) (f := (cut 6 [vi p0.next,vi p1,vs p2,vi 0,vi 0,vi 0])) [(Abb p0 p1 p2)] rfl (fun | 0,_ => rfl | n + 1,h => absurd h (by omega))))) .nil)) ?_)
       refine Sq (RD hnt (nn 5 []) [] [] [] [(1080,bx [ow 1544 (r36.nodes ++ [(Abb p0 p1 p2)]).length,pI (w64 (r36.next + 1))])] tv ?_)
       refine Sq (RD hnt (nn 6 []) [3,10] [(7,pI p0.next),(8,pI 0)] [1024,1080] [(1048,bx [ow 1544 (r36.nodes ++ [(Abb p0 p1 p2)]).length,pI (w64 (r36.next + 1))])] tv ?_)
       obtain rfl := sj hm
       exact DW.ret (Ai [Ak (r36.nodes ++ [(Abb p0 p1 p2)])] [1544] (.tup [.agg [ow 0 (r36.nodes ++ [(Abb p0 p1 p2)]).length,pI (w64 (r36.next + 1))],pI p0.next,pI 0]))
     ·rcases bt (decide (r32 ≥ 8)) with h33 | h33
      ·replace hm := Bg h33 hm
       refine RD hnt (nn 2 (o81 [] true r32 :: nn 2 (sk 4 (pT :: .no :: sk 3 (pT :: []))))) [9,29] [(65,pB true)] [] [] (an (Wz p0 p1 r32 hr32) (an5 h33 (an4 tt tv))) ?_
       exact jD true hm Conv.eqK
      ·replace hm := Bf h33 hm
       rcases bt (decide (((p0.nodes.length : Nat) : Int) ≥ 64)) with h34 | h34
       ·replace hm := Bg h34 hm
        refine RD hnt (nn 2 (o81 [] true r32 :: nn 6 (pF :: .no :: sk 3 (pT :: [])))) [9,29] [(65,pB true)] [] [] (an (Wz p0 p1 r32 hr32) (an5 h33 (an4 h34 tv))) ?_
        exact jD true hm Conv.eqK
       ·replace hm := Bf h34 hm
        refine RD hnt (nn 2 (o81 [] true r32 :: nn 6 (pF :: nn 4 (pF :: [])))) [9,29] [(65,pB (decide (p0.next > 2147483647)))] [] [] (an (Wz p0 p1 r32 hr32) (an5 h33 (an4 h34 tv))) ?_
        exact jD (decide (p0.next > 2147483647)) hm Conv.eqK
 ·rcases bt (!r1) with h2 | h2
  ·replace hm := Bg h2 hm
   refine RD hnt (.no :: o75 [] true r1 :: nn 2 (sk 3 (pT :: []))) [] [(18,pB true)] [] [] (an (Gi p0 r1 hr1) (an4 h2 tv)) ?_
   exact jD true hm Conv.eqK
  ·replace hm := Bf h2 hm
   obtain ⟨r3,hr3,hm⟩ := bo hm
   refine RD hnt (.no :: o75 [] true r1 :: nn 3 (o77 [] true r3 :: .no :: pF :: [])) [] [(18,pB (!r3))] [] [] (an (Gi p0 r1 hr1) (an2 h2 (an (Acc p2 r3 hr3) (an2 h2 tv)))) ?_
   exact jD (!r3) hm Conv.eqK
abbrev o74 (ks : List Nat) (b : Bool) (RES : Ag × Int × Int) (sm : List Nat := []) : Orc := .call 43 ks b (.tup [.agg [ow 0 RES.1.nodes.length,pI RES.1.next],pI RES.2.1,pI RES.2.2]) [] [Ak RES.1.nodes] sm

theorem Cm (p0 : Aq) (p1 : Int) (RES : Bool × Aq) (hm : Dk p0 p1 = some RES) : Spec Tryz.prog 27 [rr 0,pI p1] [.box (pm (An p0))] (pB RES.1) [.box (pm (An RES.2))] [] := by
 unfold Dk at hm
 refine SO Tryz.func27 rfl rfl [(0,rr 0),(1,pI p1)] [(0,bx (pm (An p0)))] ?_
 intro cx hnt
 refine Sq (RD hnt (.no :: []) [] [] [] [] tv ?_)
 obtain ⟨r1,hr1,hm⟩ := bo hm
 refine Sq (RK hnt (nn 2 (o72 [0] true r1 :: nn 4 [])) [(4,pB (r1.1 == (w64 (p1 - 1))))] [(0,bx (pm (An r1.2)))] (an (Bp p0 p1 r1 hr1) (an tv tv)) ?_)
 obtain rfl := sj hm
 exact DW.ret (Ai [.box (pm (An r1.2))] [] (pB (r1.1 == (w64 (p1 - 1)))))
abbrev o84 (ks : List Nat) (b : Bool) (RES : Bool × Aq) (sm : List Nat := []) : Orc := .call 27 ks b (pB RES.1) [.box (pm (An RES.2))] [] sm

abbrev Xk (p0 : Ag) (k1 : Nat) := (p0.nodes.getD k1 (default : Ao))
theorem Sw (p0 : Ag) (p1 : Int) (RES : List Int) (hm : Hy p0 p1 = some RES) : Spec Tryz.prog 88 [.p (.agg (As p0)),pI p1] [] (ow 0 RES.length) [] [roI RES] := by
 unfold Hy at hm
 refine SO Tryz.func88 rfl rfl [(0,.p (.agg (As p0))),(1,pI p1)] [] ?_
 intro cx hnt
 refine Sq (RK hnt (nn 2 []) [(1,pI p1),(2,rr 1016)] [(1016,bx (pm (As p0)))] tv ?_)
 obtain ⟨r1,hr1,hm⟩ := bo hm
 refine Sq (Sq (RD hnt (nn 2 (o79 [] true r1 :: .no :: [])) [] [(10,pB (!r1))] [] [] (an (Cy p0 p1 r1 hr1) tv) ?_))
 refine Ah hm ?_ ?_
 ·intro h2 hm
  refine Sq (RK hnt (.no :: []) [(4,.p (.sl .nil 0 0 (fun _ => [])))] [] tv ?_)
  refine DW.cv [] [(4,ow 100000 0)] [] [(100000,ob0 (roI []))] (Conv.ads [(.s 4,100000,1,elems Bi 0 [])]) ?_
  obtain rfl := sj hm
  exact DW.ret (Ai [roI []] [100000] (ow 0 0))
 ·intro h2 hm
  refine Sk ?_
  refine Sq (RD hnt (.no :: []) [10] [(5,.p (.sl .nil 0 0 (fun _ => [])))] [] [] tv ?_)
  refine Sq (Sq (RD hnt (.no :: []) [] [(6,pI 0)] [] [] tv ?_))
  refine Bk ?_
  obtain ⟨hc1,hm⟩ := go1 hm
  refine DW.rangeO (fun (k1 : Nat) (s1 : List Int) => Aj [(1,pI p1),(2,rr 1016),(5,ow 1272 s1.length),(6,pI ((k1 : Nat) : Int))] [(1016,bx (pm (As p0))),(1272,ob0 (roI s1))]) Bm hm (Conv.ads [(.s 5,1272,1,elems Bi 0 [])]) ?_
  intro k1 s1 n1 hk1 hs1 he1
  refine Sq (Sq (RD hnt (nn 5 []) [] [(15,pB (decide (((k1 : Nat) : Int) < ((p0.nodes.length : Nat) : Int))))] [] [] tv ?_))
  refine Cd (decide (((k1 : Nat) : Int) < ((p0.nodes.length : Nat) : Int))) ?_ ?_
  ·intro h12
   have hlt1 : k1 < p0.nodes.length := by have := of_decide_eq_true h12; omega
   have hm := hs1 hlt1
   unfold Va at hm
   refine Sk ?_
   refine Sq ?_
   refine Jn (ι := List Int) (fun (y3 : List Int) => Aj [(1,pI p1),(2,rr 1016),(5,ow 1272 y3.length),(6,pI ((k1 : Nat) : Int))] [(1016,bx (pm (As p0))),(1272,ob0 (roI y3))]) (fun y3 => (Nk n1) y3 = some RES) ?_ ?_
   ·intro y3 hm
    unfold Nk at hm
    refine RD hnt (nn 3 []) [] [(6,pI (w64 (((k1 : Nat) : Int) + 1)))] [] [] tv ?_
    exact jD y3 ⟨hlt1,hm⟩ (Conv.tp [(6,pI (w64 (((k1 : Nat) : Int) + 1)))] [] (by kernel_rfl) (.cons rfl (.of_eq (congrArg pI (Bo hlt1 hc1))) .nil) .nil)
   ·refine Bk ?_
    refine Sq (RD hnt (nn 8 []) [15] [(25,pB ((Xk p0 k1).parent == p1))] [] [] (an (nn0 k1) (an (ltc hlt1) tv)) ?_)
    refine Ah hm ?_ ?_
    ·intro h13 hm
     obtain ⟨g14,hm⟩ := go1 hm
     refine RN hnt (nn 10 []) [(1,pI p1),(2,rr 1016),(5,ow 1272 (s1 ++ [(Xk p0 k1).id]).length),(6,pI ((k1 : Nat) : Int))] [(1016,bx (pm (As p0))),(1272,ob0 (roI (s1 ++ [(Xk p0 k1).id])))] [(5,ow 1272 (s1.length + 1))] [(1272,.row 1 (s1.length + 1) (Cp s1.length (elI s1) (cut 1 [vi (Xk p0 k1).id])))] (an (nn0 k1) (an (ltc hlt1) (an (by omega : (s1.length + 1) * 8 ≤ 140737488355328) tv))) (by kernel_rfl) (.cons rfl (MLe.ownLen (enc := Bi) (d := 0) (f := (Cp s1.length (elI s1) (cut 1 [vi (Xk p0 k1).id]))) (RowIs.cat RowIs.elems (RowIs.lit (enc := Bi) (d := 0) (n := 1) (f := (cut 1 [vi (Xk p0 k1).id])) [(Xk p0 k1).id] rfl (fun | 0,_ => rfl | n + 1,h => absurd h (by omega))))) .nil) (.cons rfl (BLe.typed (RowIs.cat RowIs.elems (RowIs.lit (enc := Bi) (d := 0) (n := 1) (f := (cut 1 [vi (Xk p0 k1).id])) [(Xk p0 k1).id] rfl (fun | 0,_ => rfl | n + 1,h => absurd h (by omega))))) .nil) ?_
     exact bD (s1 ++ [(Xk p0 k1).id]) hm .refl
    ·intro h13 hm
     refine Sk ?_
     exact bD s1 hm Conv.t0
  ·intro h12
   have hge1 : ¬ k1 < p0.nodes.length := by have := of_decide_eq_false h12; omega
   have hm := he1 hge1
   unfold Abo at hm
   refine DW.exit ?_
   refine Ap ?_
   refine Au ?_
   refine Am ?_
   show DW _ _ _ _ _
   refine Sq (RK hnt (nn 2 []) [(4,ow 1272 s1.length)] [(1272,ob0 (roI s1))] tv ?_)
   obtain rfl := sj hm
   exact DW.ret (Ai [roI s1] [1272] (ow 0 s1.length))
abbrev o86 (ks : List Nat) (b : Bool) (RES : List Int) (sm : List Nat := []) : Orc := .call 88 ks b (ow 0 RES.length) [] [roI RES] sm

abbrev Gh (p0 : Ag) (k1 : Nat) := (p0.nodes.getD k1 (default : Ao))
abbrev c85e2 : Nat × Obj := (1032,bx [.p (.sl .nil 0 0 (fun _ => [])),pI 0])
abbrev c85e3 : Nat × Obj := (1032,bx [ow 100000 0,pI 0])
theorem AgD (p0 : Ag) (p1 : Int) (RES : Ag × Int) (hm : Tj p0 p1 = some RES) : Spec Tryz.prog 47 [.p (.agg (As p0)),pI p1] [] (.tup [.agg [ow 0 RES.1.nodes.length,pI RES.1.next],pI RES.2]) [] [Ak RES.1.nodes] := by
 unfold Tj at hm
 refine SO Tryz.func47 rfl rfl [(0,.p (.agg (As p0))),(1,pI p1)] [] ?_
 intro cx hnt
 refine Sq (RK hnt (nn 3 []) [(1,pI p1),(2,rr 1016),(4,rr 1032)] [(1016,bx (pm (As p0))),(c85e2)] tv ?_)
 refine Sq (Bk ?_)
 obtain ⟨r1,hr1,hm⟩ := bo hm
 refine Sq (RD hnt (.no :: o75 [] true r1 :: nn 2 []) [] [(8,pB (!r1))] [] [] (an (Gi p0 r1 hr1) tv) ?_)
 refine Ah hm ?_ ?_
 ·intro h2 hm
  refine Sq (RD hnt (nn 3 []) [1,2,8] [(5,pI 1)] [1016] [] tv ?_)
  refine DW.cv [] [] [] [(c85e3),(100000,ob0 (Ak []))] (Conv.ads [(.o 1032 0,100000,6,elems Ar Bm [])]) ?_
  obtain rfl := sj hm
  exact DW.ret (Ai [Ak []] [100000] (.tup [.agg [ow 0 0,pI 0],pI 1]))
 ·intro h2 hm
  obtain ⟨r3,hr3,hm⟩ := bo hm
  refine Sq (RD hnt (nn 2 (o79 [] true r3 :: nn 2 [])) [8] [(13,pB (!r3))] [] [] (an (Cy p0 p1 r3 hr3) tv) ?_)
  refine Ah hm ?_ ?_
  ·intro h4 hm
   refine Sq (RD hnt (nn 3 []) [1,2,13] [(5,pI 4)] [1016] [] tv ?_)
   refine DW.cv [] [] [] [(c85e3),(100000,ob0 (Ak []))] (Conv.ads [(.o 1032 0,100000,6,elems Ar Bm [])]) ?_
   obtain rfl := sj hm
   exact DW.ret (Ai [Ak []] [100000] (.tup [.agg [ow 0 0,pI 0],pI 4]))
  ·intro h4 hm
   refine Sq (RD hnt (nn 3 []) [13] [(19,pB (p1 == 1))] [] [] tv ?_)
   refine Ah hm ?_ ?_
   ·intro h5 hm
    refine Sq (RD hnt (nn 3 []) [1,2,19] [(5,pI 9)] [1016] [] tv ?_)
    refine DW.cv [] [] [] [(c85e3),(100000,ob0 (Ak []))] (Conv.ads [(.o 1032 0,100000,6,elems Ar Bm [])]) ?_
    obtain rfl := sj hm
    exact DW.ret (Ai [Ak []] [100000] (.tup [.agg [ow 0 0,pI 0],pI 9]))
   ·intro h5 hm
    obtain ⟨r6,hr6,hm⟩ := bo hm
    refine Sq (RD hnt (nn 2 (o86 [] true r6 :: nn 3 [])) [19] [(23,pB (decide (((r6.length : Nat) : Int) > 0)))] [] [] (an (Sw p0 p1 r6 hr6) tv) ?_)
    refine Ah hm ?_ ?_
    ·intro h7 hm
     refine Sq (RD hnt (nn 3 []) [1,2,23] [(5,pI 6)] [1016] [] tv ?_)
     refine DW.cv [] [] [] [(c85e3),(100000,ob0 (Ak []))] (Conv.ads [(.o 1032 0,100000,6,elems Ar Bm [])]) ?_
     obtain rfl := sj hm
     exact DW.ret (Ai [Ak []] [100000] (.tup [.agg [ow 0 0,pI 0],pI 6]))
    ·intro h7 hm
     refine Sk ?_
     refine DW.done ?_
     show DW _ _ _ _ _
     refine Sq (RD hnt (nn 5 []) [23] [(6,rr 1048)] [] [(1048,bx [.p (.sl .nil 0 0 (fun _ => [])),pI p0.next])] tv ?_)
     refine Sq (Sq (RD hnt (.no :: []) [] [(7,pI 0)] [] [] tv ?_))
     refine Bk ?_
     obtain ⟨hc1,hm⟩ := go1 hm
     refine DW.rangeO (fun (k1 : Nat) (s1 : List Ao) => Aj [(1,pI p1),(2,rr 1016),(4,rr 1032),(6,rr 1048),(7,pI ((k1 : Nat) : Int))] [(1016,bx (pm (As p0))),(c85e2),(1048,bx [ow 1448 s1.length,pI p0.next]),(1448,ob0 (Ak s1))]) Bm hm (Conv.ads [(.o 1048 0,1448,6,elems Ar Bm [])]) ?_
     intro k1 s1 n1 hk1 hs1 he1
     refine Sq (Sq (RD hnt (nn 5 []) [] [(37,pB (decide (((k1 : Nat) : Int) < ((p0.nodes.length : Nat) : Int))))] [] [] tv ?_))
     refine Cd (decide (((k1 : Nat) : Int) < ((p0.nodes.length : Nat) : Int))) ?_ ?_
     ·intro h17
      have hlt1 : k1 < p0.nodes.length := by have := of_decide_eq_true h17; omega
      have hm := hs1 hlt1
      unfold Ub at hm
      refine Sk ?_
      refine Sq ?_
      refine Jn (ι := List Ao) (fun (y3 : List Ao) => Aj [(1,pI p1),(2,rr 1016),(4,rr 1032),(6,rr 1048),(7,pI ((k1 : Nat) : Int))] [(1016,bx (pm (As p0))),(c85e2),(1048,bx [ow 1448 y3.length,pI p0.next]),(1448,ob0 (Ak y3))]) (fun y3 => (Pw n1) y3 = some RES) ?_ ?_
      ·intro y3 hm
       unfold Pw at hm
       refine RD hnt (nn 3 []) [] [(7,pI (w64 (((k1 : Nat) : Int) + 1)))] [] [] tv ?_
       exact jD y3 ⟨hlt1,hm⟩ (Conv.tp [(7,pI (w64 (((k1 : Nat) : Int) + 1)))] [] (by kernel_rfl) (.cons rfl (.of_eq (congrArg pI (Bo hlt1 hc1))) .nil) .nil)
      ·refine Bk ?_
       refine Sq (RD hnt (nn 8 []) [37] [(47,pB ((Gh p0 k1).id != p1))] [] [] (an (nn0 k1) (an (ltc hlt1) tv)) ?_)
       refine Ah hm ?_ ?_
       ·intro h18 hm
        obtain ⟨g19,hm⟩ := go1 hm
        refine RN hnt (nn 11 []) [(1,pI p1),(2,rr 1016),(4,rr 1032),(6,rr 1048),(7,pI ((k1 : Nat) : Int))] [(1016,bx (pm (As p0))),(c85e2),(1048,bx [ow 1448 (s1 ++ [(Gh p0 k1)]).length,pI p0.next]),(1448,ob0 (Ak (s1 ++ [(Gh p0 k1)])))] [] [(1048,.box [ow 1448 (s1.length + 1),pI p0.next]),(1448,.row 6 (s1.length + 1) (Cp s1.length (Xu s1) (cut 6 [vi (Gh p0 k1).id,vi (Gh p0 k1).parent,vs (Gh p0 k1).name,vi (Gh p0 k1).control,vi (Gh p0 k1).kind,vi (Gh p0 k1).owner])))] (an (nn0 k1) (an (ltc hlt1) (an (by omega : (s1.length + 1) * 56 ≤ 140737488355328) tv))) (by kernel_rfl) .nil (.cons rfl (.box (.cons (MLe.ownLen (enc := Ar) (d := Bm) (f := (Cp s1.length (Xu s1) (cut 6 [vi (Gh p0 k1).id,vi (Gh p0 k1).parent,vs (Gh p0 k1).name,vi (Gh p0 k1).control,vi (Gh p0 k1).kind,vi (Gh p0 k1).owner]))) (RowIs.cat RowIs.elems (RowIs.lit (enc := Ar) (d := Bm) (n := 1) (f := (cut 6 [vi (Gh p0 k1).id,vi (Gh p0 k1).parent,vs (Gh p0 k1).name,vi (Gh p0 k1).control,vi (Gh p0 k1).kind,vi (Gh p0 k1).owner])) [(Gh p0 k1)] rfl (fun | 0,_ => rfl | n + 1,h => absurd h (by omega))))) (.cons .rfl .nil))) (.cons rfl (BLe.typed (RowIs.cat RowIs.elems (RowIs.lit (enc := Ar) (d := Bm) (n := 1) (f := (cut 6 [vi (Gh p0 k1).id,vi (Gh p0 k1).parent,vs (Gh p0 k1).name,vi (Gh p0 k1).control,vi (Gh p0 k1).kind,vi (Gh p0 k1).owner])) [(Gh p0 k1)] rfl (fun | 0,_ => rfl | n + 1,h => absurd h (by omega))))) .nil)) ?_
        exact bD (s1 ++ [(Gh p0 k1)]) hm .refl
       ·intro h18 hm
        refine Sk ?_
        exact bD s1 hm Conv.t0
     ·intro h17
      have hge1 : ¬ k1 < p0.nodes.length := by have := of_decide_eq_false h17; omega
      have hm := he1 hge1
      unfold Tx at hm
      refine DW.exit ?_
      refine Ap ?_
      refine Au ?_
      refine Am ?_
      show DW _ _ _ _ _
      refine Sq (RK hnt (nn 3 []) [(4,rr 1032),(5,pI 0)] [(1032,bx [ow 1448 s1.length,pI p0.next]),(1448,ob0 (Ak s1))] tv ?_)
      obtain rfl := sj hm
      exact DW.ret (Ai [Ak s1] [1448] (.tup [.agg [ow 0 s1.length,pI p0.next],pI 0]))
abbrev o85 (ks : List Nat) (b : Bool) (RES : Ag × Int) (sm : List Nat := []) : Orc := .call 47 ks b (.tup [.agg [ow 0 RES.1.nodes.length,pI RES.1.next],pI RES.2]) [] [Ak RES.1.nodes] sm

abbrev c71e1 : Nat × Obj := (1032,bx [.p (.sl .nil 0 0 (fun _ => [])),pI 0])
theorem Aeo (p0 : Aq) (p1 : Int) (RES : Ag × Aq) (hm : Od p0 p1 = some RES) : Spec Tryz.prog 11 [rr 0,pI p1] [.box (pm (An p0))] (.p (.agg (As RES.1))) [.box (pm (An RES.2))] [] := by
 unfold Od at hm
 refine SO Tryz.func11 rfl rfl [(0,rr 0),(1,pI p1)] [(0,bx (pm (An p0)))] ?_
 intro cx hnt
 refine Sq (RD hnt (.no :: []) [] [(4,rr 1032)] [] [(c71e1)] tv ?_)
 obtain ⟨r1,hr1,hm⟩ := bo hm
 refine Sq (RD hnt (o70 [] true r1 :: nn 2 []) [] [(5,rr 1040)] [] [(1040,bx [ow 1104 r1.nodes.length,pI r1.next]),(1104,ob0 (Ak r1.nodes))] (an (Aes r1 hr1) tv) ?_)
 obtain ⟨r2,hr2,hm⟩ := bo hm
 refine Sq (Sq (RD hnt (nn 3 (o72 [0] true r2 :: .no :: [])) [1] [(6,pI r2.1)] [] [(0,bx (pm (An r2.2)))] (an (Bp p0 (w64 (p1 + 1)) r2 hr2) (an tv tv)) ?_))
 refine Bk ?_
 refine DW.whileO (fun (s1 : Aq × Ag × Int) => Aj [(0,rr 0),(4,rr 1032),(5,rr 1040),(6,pI s1.2.2)] [(0,bx (pm (An s1.1))),(c71e1),(1040,bx (pm (As s1.2.1)))]) hm (Conv.frz [1104]) ?_
 intro s1 n1 hm
 unfold Ug at hm
 refine Sq (Sq (RD hnt (nn 2 []) [] [(19,pB (decide (s1.2.2 > 0)))] [] [] tv ?_))
 refine Ah hm ?_ ?_
 ·intro h18 hm
  refine Sk ?_
  refine Sq ?_
  refine Jn (ι := Aq × Ag) (fun (y3 : Aq × Ag) => Aj [(0,rr 0),(4,rr 1032),(5,rr 1040),(6,pI s1.2.2)] [(0,bx (pm (An y3.1))),(c71e1),(1040,bx (pm (As y3.2)))]) (fun y3 => (Ib s1 n1) y3 = some RES) ?_ ?_
  ·intro y3 hm
   unfold Ib at hm
   refine RD hnt (nn 3 []) [] [(6,pI (w64 (s1.2.2 - 1)))] [] [] tv ?_
   exact jD (y3.1,y3.2,(w64 (s1.2.2 - 1))) hm Conv.eqK
  ·refine Bk ?_
   obtain ⟨r19,hr19,hm⟩ := bo hm
   obtain ⟨g20,hm⟩ := go1 hm
   refine Sq (RD hnt (nn 6 (o72 [0] true r19 :: nn 4 [])) [19] [(7,pI (s1.2.1.nodes.getD (Int.toNat r19.1) Bm).id)] [] [(0,bx (pm (An r19.2)))] (an (Bp s1.1 ((s1.2.1.nodes.length : Nat) : Int) r19 hr19) (an tv (an g20.1 (an g20.2 tv)))) ?_)
   obtain ⟨r21,hr21,hm⟩ := bo hm
   obtain ⟨r22,hr22,hm⟩ := bo hm
   refine Sq (Sq (RD hnt (nn 3 (o73 [0] true r21 :: o74 [] true r22 :: nn 8 [])) [7] [(8,rr 1064),(10,pI r22.2.2)] [] [(0,bx (pm (An r21.2))),(1064,bx [ow 1296 r22.1.nodes.length,pI r22.1.next]),(1296,ob0 (Ak r22.1.nodes))] (an (AdT r19.2 r21 hr21) (an tv (an (AiC s1.2.1 (s1.2.1.nodes.getD (Int.toNat r19.1) Bm).id r21.1 r22 hr22) tv))) ?_))
   refine Sq (RD hnt (nn 2 []) [10] [(42,pB (r22.2.2 == 0))] [] [] tv ?_)
   refine Jn (ι := Ag) (fun (y4 : Ag) => Aj [(0,rr 0),(4,rr 1032),(5,rr 1040),(6,pI s1.2.2)] [(0,bx (pm (An r21.2))),(c71e1),(1040,bx (pm (As y4)))]) (fun y4 => (Jv s1 n1 r21) y4 = some RES) ?_ ?_
   ·intro y4 hm
    unfold Jv at hm
    obtain ⟨r24,hr24,hm⟩ := bo hm
    refine Sq (RD hnt (.no :: o84 [0] true r24 :: []) [] [(45,pB r24.1)] [] [(0,bx (pm (An r24.2)))] (an (Cm r21.2 6 r24 hr24) (an tv tv)) ?_)
    refine Ah hm ?_ ?_
    ·intro h25 hm
     obtain ⟨r26,hr26,hm⟩ := bo hm
     obtain ⟨g27,hm⟩ := go1 hm
     obtain ⟨r28,hr28,hm⟩ := bo hm
     refine Sq (RD hnt (nn 7 (o72 [0] true r26 :: nn 3 (o85 [] true r28 :: nn 6 []))) [45] [(11,rr 1088),(12,pI r28.2)] [] [(0,bx (pm (An r26.2))),(1088,bx [ow 1464 r28.1.nodes.length,pI r28.1.next]),(1464,ob0 (Ak r28.1.nodes))] (an (Bp r24.2 ((y4.nodes.length : Nat) : Int) r26 hr26) (an tv (an g27.1 (an g27.2 (an (AgD y4 (y4.nodes.getD (Int.toNat r26.1) Bm).id r28 hr28) tv))))) ?_)
     refine Sq (RD hnt (nn 2 []) [12] [(62,pB (r28.2 == 0))] [] [] tv ?_)
     refine Ah hm ?_ ?_
     ·intro h29 hm
      refine RD hnt (nn 2 []) [11,62] [] [1088] [(1040,bx [ow 1464 r28.1.nodes.length,pI r28.1.next])] tv ?_
      exact bD (r26.2,r28.1) hm (Conv.frz [1464])
     ·intro h29 hm
      refine Sk ?_
      exact bD (r26.2,y4) hm Conv.t0
    ·intro h25 hm
     refine Sk ?_
     exact bD (r24.2,y4) hm Conv.t0
   ·refine Ah hm ?_ ?_
    ·intro h23 hm
     refine RD hnt (nn 2 []) [8,42] [] [1064] [(1040,bx [ow 1296 r22.1.nodes.length,pI r22.1.next])] tv ?_
     exact jD r22.1 hm (Conv.frz [1296])
    ·intro h23 hm
     refine Sk ?_
     exact jD s1.2.1 hm Conv.t0
 ·intro h18 hm
  refine DW.exit ?_
  refine Ap ?_
  refine Au ?_
  refine Am ?_
  show DW _ _ _ _ _
  refine Sq (RD hnt (nn 2 []) [0,5,6,19] [] [1040] [(1032,bx (pm (As s1.2.1)))] tv ?_)
  obtain rfl := sj hm
  exact DW.ret (Ai [.box (pm (An s1.1))] [] (.p (.agg (As s1.2.1))))
abbrev o71 (ks : List Nat) (b : Bool) (RES : Ag × Aq) (sm : List Nat := []) : Orc := .call 11 ks b (.p (.agg (As RES.1))) [.box (pm (An RES.2))] [] sm

theorem Gn (p0 : Aq) (p1 : Ag) (RES : Int × Aq) (hm : Fs p0 p1 = some RES) : Spec Tryz.prog 29 [rr 0,.p (.agg (As p1))] [.box (pm (An p0))] (pI RES.1) [.box (pm (An RES.2))] [] := by
 unfold Fs at hm
 refine SO Tryz.func29 rfl rfl [(0,rr 0),(1,.p (.agg (As p1)))] [(0,bx (pm (An p0)))] ?_
 intro cx hnt
 refine Sq (RD hnt (nn 2 []) [1] [(3,rr 1024)] [] [(1024,bx (pm (As p1)))] tv ?_)
 obtain ⟨r1,hr1,hm⟩ := bo hm
 refine Sq (Sq ?_)
 refine Jn (ι := Bool) (fun (y1 : Bool) => Aj [(0,rr 0),(3,rr 1024),(12,pB y1)] [(0,bx (pm (An r1.2))),(1024,bx (pm (As p1)))]) (fun y1 => (Jf p1 r1) y1 = some RES) ?_ ?_
 ·intro y1 hm
  unfold Jf at hm
  refine Ah hm ?_ ?_
  ·intro h3 hm
   obtain ⟨r4,hr4,hm⟩ := bo hm
   refine Sq (RK hnt (.no :: o72 [0] true r4 :: nn 2 []) [(4,pI (w64 (r4.1 - 1)))] [(0,bx (pm (An r4.2)))] (an (Bp r1.2 9 r4 hr4) (an tv tv)) ?_)
   obtain rfl := sj hm
   exact DW.ret (Ai [.box (pm (An r4.2))] [] (pI (w64 (r4.1 - 1))))
  ·intro h3 hm
   refine Sk ?_
   obtain ⟨r5,hr5,hm⟩ := bo hm
   obtain ⟨g6,hm⟩ := go1 hm
   refine Sq (RK hnt (nn 6 (o72 [0] true r5 :: nn 4 [])) [(4,pI (p1.nodes.getD (Int.toNat r5.1) Bm).id)] [(0,bx (pm (An r5.2)))] (an (Bp r1.2 ((p1.nodes.length : Nat) : Int) r5 hr5) (an tv (an g6.1 (an g6.2 tv)))) ?_)
   obtain rfl := sj hm
   exact DW.ret (Ai [.box (pm (An r5.2))] [] (pI (p1.nodes.getD (Int.toNat r5.1) Bm).id))
 ·rcases bt r1.1 with h2 | h2
  ·replace hm := Bg h2 hm
   refine RD hnt (.no :: o84 [0] true r1 :: .no :: sk 4 (pT :: [])) [] [(12,pB true)] [] [(0,bx (pm (An r1.2)))] (an (Cm p0 15 r1 hr1) (an tv (an5 h2 tv))) ?_
   exact jD true hm Conv.eqK
  ·replace hm := Bf h2 hm
   refine RD hnt (.no :: o84 [0] true r1 :: nn 5 (pF :: [])) [] [(12,pB (((p1.nodes.length : Nat) : Int) == 0))] [] [(0,bx (pm (An r1.2)))] (an (Cm p0 15 r1 hr1) (an tv (an5 h2 tv))) ?_
   exact jD (((p1.nodes.length : Nat) : Int) == 0) hm Conv.eqK
abbrev o88 (ks : List Nat) (b : Bool) (RES : Int × Aq) (sm : List Nat := []) : Orc := .call 29 ks b (pI RES.1) [.box (pm (An RES.2))] [] sm

theorem Zk (p0 : Aq) (RES : Int × Aq) (hm : Ik p0 = some RES) : Spec Tryz.prog 119 [rr 0] [.box (pm (An p0))] (pI RES.1) [.box (pm (An RES.2))] [] := by
 unfold Ik at hm
 refine SO Tryz.func119 rfl rfl [(0,rr 0)] [(0,bx (pm (An p0)))] ?_
 intro cx hnt
 refine Sq (RD hnt (.no :: []) [] [] [] [] tv ?_)
 obtain ⟨r3,hr3,hm⟩ := bo hm
 obtain ⟨g4,g5,hm⟩ := go2 hm
 refine Sq (RK hnt (.asR (ow 1024 [1,9,31,2,25,4,0,32,(-1)].length) [1,9,31,2,25,4,0,32,(-1)].length (elems Bi 0 [1,9,31,2,25,4,0,32,(-1)]) :: .no :: o72 [0] true r3 :: nn 3 []) [(2,pI ([1,9,31,2,25,4,0,32,(-1)].getD (Int.toNat r3.1) 0))] [(0,bx (pm (An r3.2)))] (an (congrArg (MV.own 1024 0 0) (RowIs.asP (enc := Bi) (d := 0) (L := [1,9,31,2,25,4,0,32,(-1)]) (RowIs.lit (enc := Bi) (d := 0) (n := 9) (f := (cut 1 [vi 1,vi 9,vi 31,vi 2,vi 25,vi 4,vi 0,vi 32,vi (-1)])) [1,9,31,2,25,4,0,32,(-1)] rfl (fun | 0,_ => rfl | 1,_ => rfl | 2,_ => rfl | 3,_ => rfl | 4,_ => rfl | 5,_ => rfl | 6,_ => rfl | 7,_ => rfl | 8,_ => rfl | n + 9,h => absurd h (by omega)))).1) (an (RowIs.asP (enc := Bi) (d := 0) (L := [1,9,31,2,25,4,0,32,(-1)]) (RowIs.lit (enc := Bi) (d := 0) (n := 9) (f := (cut 1 [vi 1,vi 9,vi 31,vi 2,vi 25,vi 4,vi 0,vi 32,vi (-1)])) [1,9,31,2,25,4,0,32,(-1)] rfl (fun | 0,_ => rfl | 1,_ => rfl | 2,_ => rfl | 3,_ => rfl | 4,_ => rfl | 5,_ => rfl | 6,_ => rfl | 7,_ => rfl | 8,_ => rfl | n + 9,h => absurd h (by omega)))) (an (Bp p0 9 r3 hr3) (an tv (an g4.1 (an g4.2 (an g5 tv))))))) ?_)
 obtain rfl := sj hm
 exact DW.ret (Ai [.box (pm (An r3.2))] [] (pI ([1,9,31,2,25,4,0,32,(-1)].getD (Int.toNat r3.1) 0)))
abbrev o89 (ks : List Nat) (b : Bool) (RES : Int × Aq) (sm : List Nat := []) : Orc := .call 119 ks b (pI RES.1) [.box (pm (An RES.2))] [] sm

theorem Agl (p0 : List Aw) (p1 : Int) (RES : Aw × Bool) (hm : Tl p0 p1 = some RES) : Spec Tryz.prog 172 [.p (Be p0),pI p1] [] (.p (.tup [.agg (Az RES.1),vb RES.2])) [] [] := by
 unfold Tl at hm
 refine SO Tryz.func172 rfl rfl [(0,.p (Be p0)),(1,pI p1)] [] ?_
 intro cx hnt
 refine Sq (RD hnt (nn 2 []) [] [(4,rr 1032)] [] [(1032,bx [pI 0,pI 0,pI 0,pI 0])] tv ?_)
 refine Sq (Sq (RD hnt (.no :: []) [] [(6,pI 0)] [] [] tv ?_))
 refine Bk ?_
 obtain ⟨hc1,hm⟩ := go1 hm
 refine DW.rangeO (fun (k1 : Nat) (s1 : Unit) => Aj [(0,.p (Be p0)),(1,pI p1),(4,rr 1032),(6,pI ((k1 : Nat) : Int))] [(1032,bx [pI 0,pI 0,pI 0,pI 0])]) Bu hm Conv.eqK ?_
 intro k1 s1 n1 hk1 hs1 he1
 refine Sq (Sq (RD hnt (nn 4 []) [] [(10,pB (decide (((k1 : Nat) : Int) < ((p0.length : Nat) : Int))))] [] [] tv ?_))
 refine Cd (decide (((k1 : Nat) : Int) < ((p0.length : Nat) : Int))) ?_ ?_
 ·intro h11
  have hlt1 : k1 < p0.length := by have := of_decide_eq_true h11; omega
  have hm := hs1 hlt1
  unfold Adl at hm
  refine Sk ?_
  refine Sq (Bk ?_)
  refine Sq (RD hnt (nn 7 []) [10] [(19,pB ((p0.getD k1 (default : Aw)).id == p1))] [] [] (an (nn0 k1) (an (ltc hlt1) tv)) ?_)
  refine Ah hm ?_ ?_
  ·intro h12 hm
   refine Sq (RK hnt (nn 13 []) [(4,rr 1032),(5,pB ((p0.getD k1 (default : Aw)).process == p1))] [(1032,bx (pm (Az (p0.getD k1 (default : Aw)))))] (an (nn0 k1) (an (ltc hlt1) (an (nn0 k1) (an (ltc hlt1) tv)))) ?_)
   obtain rfl := sj hm
   exact DW.ret (Ai [] [] (.p (.tup [.agg (Az (p0.getD k1 (default : Aw))),vb ((p0.getD k1 (default : Aw)).process == p1)])))
  ·intro h12 hm
   refine Sk ?_
   refine DW.done ?_
   show DW _ _ _ _ _
   refine RD hnt (nn 3 []) [19] [(6,pI (w64 (((k1 : Nat) : Int) + 1)))] [] [] tv ?_
   exact jD () ⟨hlt1,hm⟩ (Conv.tp [(6,pI (w64 (((k1 : Nat) : Int) + 1)))] [] (by kernel_rfl) (.cons rfl (.of_eq (congrArg pI (Bo hlt1 hc1))) .nil) .nil)
 ·intro h11
  have hge1 : ¬ k1 < p0.length := by have := of_decide_eq_false h11; omega
  have hm := he1 hge1
  unfold Adj at hm
  refine DW.exit ?_
  refine Ap ?_
  refine Au ?_
  refine Am ?_
  show DW _ _ _ _ _
  refine Sq (RD hnt (nn 3 []) [0,1,6,10] [(5,pB false)] [] [] tv ?_)
  obtain rfl := sj hm
  exact DW.ret (Ai [] [] (.p (.tup [.agg [vi 0,vi 0,vi 0,vi 0],vb false])))
abbrev o94 (ks : List Nat) (b : Bool) (RES : Aw × Bool) (sm : List Nat := []) : Orc := .call 172 ks b (.p (.tup [.agg (Az RES.1),vb RES.2])) [] [] sm

abbrev Jk (p0 : Aa) (k1 : Nat) := (p0.tasks.getD k1 (default : Aw))
abbrev c93e2 (p0 : Aa) : Nat × MV := (3,pI ((p0.tasks.length : Nat) : Int))
theorem El (p0 : Aa) (RES : Bool) (hm : Gc p0 = some RES) : Spec Tryz.prog 124 [.p (.agg (Ab p0))] [] (pB RES) [] [] := by
 unfold Gc at hm
 refine SO Tryz.func124 rfl rfl [(0,.p (.agg (Ab p0)))] [] ?_
 intro cx hnt
 refine Sq (RK hnt (nn 2 []) [(1,rr 1008)] [(1008,bx (pm (Ab p0)))] tv ?_)
 refine Sq (RD hnt (nn 4 []) [] [(c93e2 p0)] [] [] tv ?_)
 obtain ⟨r1,hr1,hm⟩ := bo hm
 refine Sq (Sq ?_)
 refine Jn (ι := Bool) (fun (y1 : Bool) => Aj [(1,rr 1008),(c93e2 p0),(44,pB y1)] [(1008,bx (pm (Ab p0)))]) (fun y1 => (Jb p0) y1 = some RES) ?_ ?_
 ·intro y1 hm
  unfold Jb at hm
  refine Ah hm ?_ ?_
  ·intro h8 hm
   refine Sq (RK hnt (.no :: []) [(2,pB false)] [] tv ?_)
   obtain rfl := sj hm
   exact DW.ret (Ai [] [] (pB false))
  ·intro h8 hm
   refine Sk ?_
   refine Sq (Sq (RD hnt (.no :: []) [44] [(4,pI 0)] [] [] tv ?_))
   refine Bk ?_
   obtain ⟨hc1,hm⟩ := go1 hm
   refine DW.rangeO (fun (k1 : Nat) (s1 : Unit) => Aj [(1,rr 1008),(c93e2 p0),(4,pI ((k1 : Nat) : Int))] [(1008,bx (pm (Ab p0)))]) Bu hm Conv.eqK ?_
   intro k1 s1 n1 hk1 hs1 he1
   refine Sq (Sq (RD hnt (nn 3 []) [] [(47,pB (decide (((k1 : Nat) : Int) < ((p0.tasks.length : Nat) : Int))))] [] [] tv ?_))
   refine Cd (decide (((k1 : Nat) : Int) < ((p0.tasks.length : Nat) : Int))) ?_ ?_
   ·intro h45
    have hlt1 : k1 < p0.tasks.length := by have := of_decide_eq_true h45; omega
    have hm := hs1 hlt1
    unfold Vt at hm
    refine Sk ?_
    refine Sq (Bk ?_)
    refine Sq (RD hnt (nn 7 []) [47] [(5,rr 1040)] [] [(1040,bx (pm (Az (Jk p0 k1))))] (an (nn0 k1) (an (ltc hlt1) tv)) ?_)
    obtain ⟨r46,hr46,hm⟩ := bo hm
    refine Sq (RD hnt (nn 4 (o94 [] true r46 :: nn 6 [])) [] [(6,rr 1048),(7,pB r46.2)] [] [(1048,bx (pm (Az r46.1)))] (an (Agl p0.tasks (Jk p0 k1).process r46 hr46) tv) ?_)
    refine Sq ?_
    refine Jn (ι := Bool) (fun (y4 : Bool) => Aj [(1,rr 1008),(c93e2 p0),(4,pI ((k1 : Nat) : Int)),(110,pB y4)] [(1008,bx (pm (Ab p0)))]) (fun y4 => (Ci n1) y4 = some RES) ?_ ?_
    ·intro y4 hm
     unfold Ci at hm
     refine Ah hm ?_ ?_
     ·intro h61 hm
      refine Sq (RK hnt (.no :: []) [(2,pB false)] [] tv ?_)
      obtain rfl := sj hm
      exact DW.ret (Ai [] [] (pB false))
     ·intro h61 hm
      refine Sk ?_
      refine DW.done ?_
      show DW _ _ _ _ _
      refine RD hnt (nn 3 []) [110] [(4,pI (w64 (((k1 : Nat) : Int) + 1)))] [] [] tv ?_
      exact jD () ⟨hlt1,hm⟩ (Conv.tp [(4,pI (w64 (((k1 : Nat) : Int) + 1)))] [] (by kernel_rfl) (.cons rfl (.of_eq (congrArg pI (Bo hlt1 hc1))) .nil) .nil)
    ·rcases bt (decide ((Jk p0 k1).id < 1)) with h47 | h47
     ·replace hm := Bg h47 hm
      refine RD hnt (nn 4 (sk 14 (pT :: .no :: sk 6 (pT :: .no :: sk 3 (pT :: .no :: sk 3 (pT :: .no :: sk 2 (pT :: .no :: sk 5 (pT :: [])))))))) [5,6,7] [(110,pB true)] [1040,1048] [] (an5 h47 (an6 tt (an6 tt (an6 tt (an6 tt tv))))) ?_
      exact jD true hm Conv.eqK
     ·replace hm := Bf h47 hm
      rcases bt (decide (((k1 : Nat) : Int) > 0)) with h48 | h48
      ·replace hm := Bg h48 hm
       obtain ⟨g49,hm⟩ := go1 hm
       rcases bt (decide ((p0.tasks.getD (Int.toNat (w64 (((k1 : Nat) : Int) - 1))) Bu).id ≥ (Jk p0 k1).id)) with h50 | h50
       ·replace hm := Bg h50 hm
        refine RD hnt (nn 17 (pT :: pF :: .no :: sk 6 (pT :: .no :: sk 3 (pT :: .no :: sk 3 (pT :: .no :: sk 2 (pT :: .no :: sk 5 (pT :: []))))))) [5,6,7] [(110,pB true)] [1040,1048] [] (an3 h47 (an5 h48 (an g49.1 (an g49.2 (an5 h48 (an h47 (an h48 (an h47 (an h50 (an6 h50 (an5 tt (an6 tt (an6 tt tv))))))))))))) ?_
        exact jD true hm Conv.eqK
       ·replace hm := Bf h50 hm
        obtain ⟨r51,hr51,hm⟩ := bo hm
        rcases bt (!r51) with h52 | h52
        ·replace hm := Bg h52 hm
         refine RD hnt (nn 17 (pT :: pF :: nn 5 (o79 [] true r51 :: .no :: pF :: .no :: sk 3 (pT :: .no :: sk 3 (pT :: .no :: sk 2 (pT :: .no :: sk 5 (pT :: []))))))) [5,6,7] [(110,pB true)] [1040,1048] [] (an3 h47 (an5 h48 (an g49.1 (an g49.2 (an5 h48 (an h47 (an h48 (an h47 (an5 h50 (an (Cy p0.tree (Jk p0 k1).group r51 hr51) (an2 h50 (an4 h52 (an tt (an6 tt (an6 tt tv))))))))))))))) ?_
         exact jD true hm Conv.eqK
        ·replace hm := Bf h52 hm
         rcases bt (decide ((Jk p0 k1).user < 0)) with h53 | h53
         ·replace hm := Bg h53 hm
          refine RD hnt (nn 17 (pT :: pF :: nn 5 (o79 [] true r51 :: .no :: pF :: nn 4 (pF :: .no :: sk 3 (pT :: .no :: sk 2 (pT :: .no :: sk 5 (pT :: []))))))) [5,6,7] [(110,pB true)] [1040,1048] [] (an3 h47 (an5 h48 (an g49.1 (an g49.2 (an5 h48 (an h47 (an h48 (an h47 (an5 h50 (an (Cy p0.tree (Jk p0 k1).group r51 hr51) (an2 h50 (an4 h52 (an4 h53 (an3 tt (an6 tt tv))))))))))))))) ?_
          exact jD true hm Conv.eqK
         ·replace hm := Bf h53 hm
          rcases bt (decide ((Jk p0 k1).user > 1048576)) with h54 | h54
          ·replace hm := Bg h54 hm
           refine RD hnt (nn 17 (pT :: pF :: nn 5 (o79 [] true r51 :: .no :: pF :: nn 4 (pF :: nn 4 (pF :: .no :: sk 2 (pT :: .no :: sk 5 (pT :: []))))))) [5,6,7] [(110,pB true)] [1040,1048] [] (an3 h47 (an5 h48 (an g49.1 (an g49.2 (an5 h48 (an h47 (an h48 (an h47 (an5 h50 (an (Cy p0.tree (Jk p0 k1).group r51 hr51) (an2 h50 (an4 h52 (an4 h53 (an3 h54 (an6 tt tv))))))))))))))) ?_
           exact jD true hm Conv.eqK
          ·replace hm := Bf h54 hm
           rcases bt (!r46.2) with h55 | h55
           ·replace hm := Bg h55 hm
            refine RD hnt (nn 17 (pT :: pF :: nn 5 (o79 [] true r51 :: .no :: pF :: nn 4 (pF :: nn 4 (pF :: nn 3 (pF :: .no :: sk 5 (pT :: []))))))) [5,6,7] [(110,pB true)] [1040,1048] [] (an3 h47 (an5 h48 (an g49.1 (an g49.2 (an5 h48 (an h47 (an h48 (an h47 (an5 h50 (an (Cy p0.tree (Jk p0 k1).group r51 hr51) (an2 h50 (an4 h52 (an4 h53 (an3 h54 (an6 h55 tv))))))))))))))) ?_
            exact jD true hm Conv.eqK
           ·replace hm := Bf h55 hm
            refine RD hnt (nn 17 (pT :: pF :: nn 5 (o79 [] true r51 :: .no :: pF :: nn 4 (pF :: nn 4 (pF :: nn 3 (pF :: nn 6 (pF :: []))))))) [5,6,7] [(110,pB (r46.1.user != (Jk p0 k1).user))] [1040,1048] [] (an3 h47 (an5 h48 (an g49.1 (an g49.2 (an5 h48 (an h47 (an h48 (an h47 (an5 h50 (an (Cy p0.tree (Jk p0 k1).group r51 hr51) (an2 h50 (an4 h52 (an4 h53 (an3 h54 (an6 h55 tv))))))))))))))) ?_
            exact jD (r46.1.user != (Jk p0 k1).user) hm Conv.eqK
      ·replace hm := Bf h48 hm
       obtain ⟨r56,hr56,hm⟩ := bo hm
       rcases bt (!r56) with h57 | h57
       ·replace hm := Bg h57 hm
        refine RD hnt (nn 7 (sk 10 (pF :: pF :: nn 5 (o79 [] true r56 :: .no :: pF :: .no :: sk 3 (pT :: .no :: sk 3 (pT :: .no :: sk 2 (pT :: .no :: sk 5 (pT :: [])))))))) [5,6,7] [(110,pB true)] [1040,1048] [] (an3 h47 (an4 h48 (an6 h48 (an h47 (an h48 (an h47 (an5 ff (an (Cy p0.tree (Jk p0 k1).group r56 hr56) (an2 ff (an4 h57 (an tt (an6 tt (an6 tt tv))))))))))))) ?_
        exact jD true hm Conv.eqK
       ·replace hm := Bf h57 hm
        rcases bt (decide ((Jk p0 k1).user < 0)) with h58 | h58
        ·replace hm := Bg h58 hm
         refine RD hnt (nn 7 (sk 10 (pF :: pF :: nn 5 (o79 [] true r56 :: .no :: pF :: nn 4 (pF :: .no :: sk 3 (pT :: .no :: sk 2 (pT :: .no :: sk 5 (pT :: [])))))))) [5,6,7] [(110,pB true)] [1040,1048] [] (an3 h47 (an4 h48 (an6 h48 (an h47 (an h48 (an h47 (an5 ff (an (Cy p0.tree (Jk p0 k1).group r56 hr56) (an2 ff (an4 h57 (an4 h58 (an3 tt (an6 tt tv))))))))))))) ?_
         exact jD true hm Conv.eqK
        ·replace hm := Bf h58 hm
         rcases bt (decide ((Jk p0 k1).user > 1048576)) with h59 | h59
         ·replace hm := Bg h59 hm
          refine RD hnt (nn 7 (sk 10 (pF :: pF :: nn 5 (o79 [] true r56 :: .no :: pF :: nn 4 (pF :: nn 4 (pF :: .no :: sk 2 (pT :: .no :: sk 5 (pT :: [])))))))) [5,6,7] [(110,pB true)] [1040,1048] [] (an3 h47 (an4 h48 (an6 h48 (an h47 (an h48 (an h47 (an5 ff (an (Cy p0.tree (Jk p0 k1).group r56 hr56) (an2 ff (an4 h57 (an4 h58 (an3 h59 (an6 tt tv))))))))))))) ?_
          exact jD true hm Conv.eqK
         ·replace hm := Bf h59 hm
          rcases bt (!r46.2) with h60 | h60
          ·replace hm := Bg h60 hm
           refine RD hnt (nn 7 (sk 10 (pF :: pF :: nn 5 (o79 [] true r56 :: .no :: pF :: nn 4 (pF :: nn 4 (pF :: nn 3 (pF :: .no :: sk 5 (pT :: [])))))))) [5,6,7] [(110,pB true)] [1040,1048] [] (an3 h47 (an4 h48 (an6 h48 (an h47 (an h48 (an h47 (an5 ff (an (Cy p0.tree (Jk p0 k1).group r56 hr56) (an2 ff (an4 h57 (an4 h58 (an3 h59 (an6 h60 tv))))))))))))) ?_
           exact jD true hm Conv.eqK
          ·replace hm := Bf h60 hm
           refine RD hnt (nn 7 (sk 10 (pF :: pF :: nn 5 (o79 [] true r56 :: .no :: pF :: nn 4 (pF :: nn 4 (pF :: nn 3 (pF :: nn 6 (pF :: [])))))))) [5,6,7] [(110,pB (r46.1.user != (Jk p0 k1).user))] [1040,1048] [] (an3 h47 (an4 h48 (an6 h48 (an h47 (an h48 (an h47 (an5 ff (an (Cy p0.tree (Jk p0 k1).group r56 hr56) (an2 ff (an4 h57 (an4 h58 (an3 h59 (an6 h60 tv))))))))))))) ?_
           exact jD (r46.1.user != (Jk p0 k1).user) hm Conv.eqK
   ·intro h45
    have hge1 : ¬ k1 < p0.tasks.length := by have := of_decide_eq_false h45; omega
    have hm := he1 hge1
    unfold AaK at hm
    refine DW.exit ?_
    refine Ap ?_
    refine Au ?_
    refine Am ?_
    show DW _ _ _ _ _
    refine Sq (RK hnt (.no :: []) [(2,pB true)] [] tv ?_)
    obtain rfl := sj hm
    exact DW.ret (Ai [] [] (pB true))
 ·rcases bt (!r1) with h2 | h2
  ·replace hm := Bg h2 hm
   refine RD hnt (nn 2 (o75 [] true r1 :: nn 2 (sk 2 (pT :: .no :: sk 3 (pT :: .no :: sk 3 (pT :: .no :: sk 14 (pT :: []))))))) [] [(44,pB true)] [] [] (an (Gi p0.tree r1 hr1) (an3 h2 (an tt (an6 tt (an6 tt tv))))) ?_
   exact jD true hm Conv.eqK
  ·replace hm := Bf h2 hm
   rcases bt (decide (((p0.tasks.length : Nat) : Int) > 128)) with h3 | h3
   ·replace hm := Bg h3 hm
    refine RD hnt (nn 2 (o75 [] true r1 :: nn 4 (pF :: .no :: sk 3 (pT :: .no :: sk 3 (pT :: .no :: sk 14 (pT :: [])))))) [] [(44,pB true)] [] [] (an (Gi p0.tree r1 hr1) (an3 h2 (an4 h3 (an3 tt (an6 tt tv))))) ?_
    exact jD true hm Conv.eqK
   ·replace hm := Bf h3 hm
    rcases bt (decide (p0.next < 1)) with h4 | h4
    ·replace hm := Bg h4 hm
     refine RD hnt (nn 2 (o75 [] true r1 :: nn 4 (pF :: nn 4 (pF :: .no :: sk 3 (pT :: .no :: sk 14 (pT :: [])))))) [] [(44,pB true)] [] [] (an (Gi p0.tree r1 hr1) (an3 h2 (an4 h3 (an4 h4 (an5 tt tv))))) ?_
     exact jD true hm Conv.eqK
    ·replace hm := Bf h4 hm
     rcases bt (decide (p0.next > 2147483648)) with h5 | h5
     ·replace hm := Bg h5 hm
      refine RD hnt (nn 2 (o75 [] true r1 :: nn 4 (pF :: nn 4 (pF :: nn 4 (pF :: .no :: sk 14 (pT :: [])))))) [] [(44,pB true)] [] [] (an (Gi p0.tree r1 hr1) (an3 h2 (an4 h3 (an4 h4 (an5 h5 tv))))) ?_
      exact jD true hm Conv.eqK
     ·replace hm := Bf h5 hm
      rcases bt (decide (((p0.tasks.length : Nat) : Int) > 0)) with h6 | h6
      ·replace hm := Bg h6 hm
       obtain ⟨g7,hm⟩ := go1 hm
       refine RD hnt (nn 2 (o75 [] true r1 :: nn 4 (pF :: nn 4 (pF :: nn 4 (pF :: nn 14 (pT :: pF :: [])))))) [] [(44,pB (decide (p0.next ≤ (p0.tasks.getD (Int.toNat (w64 (((p0.tasks.length : Nat) : Int) - 1))) Bu).id)))] [] [] (an (Gi p0.tree r1 hr1) (an3 h2 (an4 h3 (an4 h4 (an3 h5 (an h6 (an6 h6 (an g7.1 (an g7.2 (an3 h6 (an h5 (an h6 (an h5 tv))))))))))))) ?_
       exact jD (decide (p0.next ≤ (p0.tasks.getD (Int.toNat (w64 (((p0.tasks.length : Nat) : Int) - 1))) Bu).id)) hm Conv.eqK
      ·replace hm := Bf h6 hm
       refine RD hnt (nn 2 (o75 [] true r1 :: nn 4 (pF :: nn 4 (pF :: nn 4 (pF :: nn 4 (sk 10 (pF :: pF :: []))))))) [] [(44,pB false)] [] [] (an (Gi p0.tree r1 hr1) (an3 h2 (an4 h3 (an4 h4 (an3 h5 (an4 h6 (an6 h6 (an h5 (an h6 (an h5 tv)))))))))) ?_
       exact jD false hm Conv.eqK
abbrev o93 (ks : List Nat) (b : Bool) (RES : Bool) (sm : List Nat := []) : Orc := .call 124 ks b (pB RES) [] [] sm

theorem Agk (p0 : Ag) (p1 : Int) (RES : Int) (hm : Te p0 p1 = some RES) : Spec Tryz.prog 206 [.p (.agg (As p0)),pI p1] [] (pI RES) [] [] := by
 unfold Te at hm
 refine SO Tryz.func206 rfl rfl [(0,.p (.agg (As p0))),(1,pI p1)] [] ?_
 intro cx hnt
 refine Sq (RK hnt (nn 2 []) [(1,pI p1),(2,rr 1016)] [(1016,bx (pm (As p0)))] tv ?_)
 obtain ⟨r1,hr1,hm⟩ := bo hm
 refine Sq (RD hnt (nn 2 (o80 [] true r1 :: nn 6 [])) [] [(5,rr 1040),(6,pB r1.2)] [] [(1040,bx (pm (Ar r1.1)))] (an (Dn p0 p1 r1 hr1) tv) ?_)
 refine Sq (Sq (DW.regJ (sl2 := [(2,rr 1016),(5,rr 1040),(20,pB ((!r1.2) || (p1 == 1)))]) (ob2 := [(1016,bx (pm (As p0))),(1040,bx (pm (Ar r1.1)))]) ?_ ?_))
 ·rcases bt (!r1.2) with h2 | h2
  ·exact RT hnt (nn 3 (sk 2 (pT :: []))) [(20,pB true)] (an3 h2 tv) (by kernel_rfl) (.cons rfl (.of_eq (by rw [h2]; try rfl)) .nil)
  ·exact RT hnt (nn 5 (pF :: [])) [(20,pB (p1 == 1))] (an3 h2 tv) (by kernel_rfl) (.cons rfl (.of_eq (by rw [h2]; try rfl)) .nil)
 ·refine Ah hm ?_ ?_
  ·intro h3 hm
   refine Sq (RK hnt (.no :: []) [(4,pI 0)] [] tv ?_)
   obtain rfl := sj hm
   exact DW.ret (Ai [] [] (pI 0))
  ·intro h3 hm
   refine Sk ?_
   obtain ⟨r4,hr4,hm⟩ := bo hm
   refine Sq (RD hnt (nn 3 (o80 [] true r4 :: nn 6 [])) [2,20] [(7,rr 1056)] [1016] [(1056,bx (pm (Ar r4.1)))] (an (Dn p0 r1.1.parent r4 hr4) tv) ?_)
   refine Sq (Sq (RD hnt (nn 3 []) [5] [(30,pB (r1.1.kind == 1))] [1040] [] tv ?_))
   refine Ah hm ?_ ?_
   ·intro h5 hm
    refine Sq (RK hnt (nn 4 []) [(4,pI (Ek .i64 r4.1.control 6))] [] tv ?_)
    obtain rfl := sj hm
    exact DW.ret (Ai [] [] (pI (Ek .i64 r4.1.control 6)))
   ·intro h5 hm
    refine Sk ?_
    refine Sq (RK hnt (nn 3 []) [(4,pI r4.1.control)] [] tv ?_)
    obtain rfl := sj hm
    exact DW.ret (Ai [] [] (pI r4.1.control))
abbrev o96 (ks : List Nat) (b : Bool) (RES : Int) (sm : List Nat := []) : Orc := .call 206 ks b (pI RES) [] [] sm

theorem Ko (p0 : Ag) (p1 : Int) (RES : Int) (hm : Lv p0 p1 = some RES) : Spec Tryz.prog 198 [.p (.agg (As p0)),pI p1] [] (pI RES) [] [] := by
 unfold Lv at hm
 refine SO Tryz.func198 rfl rfl [(0,.p (.agg (As p0))),(1,pI p1)] [] ?_
 intro cx hnt
 refine Sq (RK hnt (nn 2 []) [(1,pI p1),(2,rr 1016)] [(1016,bx (pm (As p0)))] tv ?_)
 obtain ⟨r1,hr1,hm⟩ := bo hm
 refine Sq (RD hnt (nn 2 (o80 [] true r1 :: nn 6 [])) [] [(5,rr 1040),(6,pB r1.2)] [] [(1040,bx (pm (Ar r1.1)))] (an (Dn p0 p1 r1 hr1) tv) ?_)
 refine Sq (Sq (RD hnt (nn 2 []) [6] [(15,pB (!r1.2))] [] [] tv ?_))
 refine Ah hm ?_ ?_
 ·intro h2 hm
  refine Sq (RK hnt (.no :: []) [(4,pI 0)] [] tv ?_)
  obtain rfl := sj hm
  exact DW.ret (Ai [] [] (pI 0))
 ·intro h2 hm
  refine Sk ?_
  refine Sq (RD hnt (.no :: []) [15] [(7,pI 31)] [] [] tv ?_)
  refine Sq (Sq (RD hnt (nn 2 []) [] [(17,pB (p1 != 1))] [] [] tv ?_))
  refine Jn (ι := Int) (fun (y1 : Int) => Aj [(5,rr 1040),(7,pI y1)] [(1040,bx (pm (Ar r1.1)))]) (fun y1 => (Jy r1) y1 = some RES) ?_ ?_
  ·intro y1 hm
   unfold Jy at hm
   refine Sq (Sq (RK hnt (nn 3 []) [(7,pI y1),(23,pB (r1.1.kind == 1))] [] tv ?_))
   refine Jn (ι := Int) (fun (y2 : Int) => Aj [(7,pI y2)] []) (fun y2 => Me y2 = some RES) ?_ ?_
   ·intro y2 hm
    unfold Me at hm
    refine Sq (RK hnt (nn 2 []) [(4,pI y2)] [] tv ?_)
    obtain rfl := sj hm
    exact DW.ret (Ai [] [] (pI y2))
   ·refine Ah hm ?_ ?_
    ·intro h5 hm
     refine RK hnt (nn 3 []) [(7,pI (Ek .i64 y1 6))] [] tv ?_
     exact jD (Ek .i64 y1 6) hm .refl
    ·intro h5 hm
     refine Sk ?_
     exact jD y1 hm Conv.t0
  ·refine Ah hm ?_ ?_
   ·intro h3 hm
    obtain ⟨r4,hr4,hm⟩ := bo hm
    refine RD hnt (nn 2 (o96 [] true r4 :: .no :: [])) [1,2,17] [(7,pI r4)] [1016] [] (an (Agk p0 p1 r4 hr4) tv) ?_
    exact jD r4 hm Conv.eqK
   ·intro h3 hm
    refine Sk ?_
    exact jD 31 hm Conv.t0
abbrev o95 (ks : List Nat) (b : Bool) (RES : Int) (sm : List Nat := []) : Orc := .call 198 ks b (pI RES) [] [] sm
end Go.Dm


/- Go functions compute their models, printed by a program. -/
namespace Go.Dm
open Go.Proofs
set_option linter.unusedVariables false
abbrev Xj (p0 : Aa) (k1 : Nat) := (p0.tasks.getD k1 (default : Aw))
theorem Ny (p0 : Aa) (p1 : Int) (RES : List Int) (hm : Iw p0 p1 = some RES) : Spec Tryz.prog 170 [.p (.agg (Ab p0)),pI p1] [] (ow 0 RES.length) [] [roI RES] := by
 unfold Iw at hm
 refine SO Tryz.func170 rfl rfl [(0,.p (.agg (Ab p0))),(1,pI p1)] [] ?_
 intro cx hnt
 refine Sq (RK hnt (nn 2 []) [(1,pI p1),(2,rr 1016)] [(1016,bx (pm (Ab p0)))] tv ?_)
 obtain ⟨r1,hr1,hm⟩ := bo hm
 refine Sq (Sq (RD hnt (.no :: o93 [] true r1 :: .no :: []) [] [(9,pB (!r1))] [] [] (an (El p0 r1 hr1) tv) ?_))
 refine Ah hm ?_ ?_
 ·intro h2 hm
  refine Sq (RK hnt (.no :: []) [(4,.p (.sl .nil 0 0 (fun _ => [])))] [] tv ?_)
  refine DW.cv [] [(4,ow 100000 0)] [] [(100000,ob0 (roI []))] (Conv.ads [(.s 4,100000,1,elems Bi 0 [])]) ?_
  obtain rfl := sj hm
  exact DW.ret (Ai [roI []] [100000] (ow 0 0))
 ·intro h2 hm
  refine Sk ?_
  refine Sq (RD hnt (.no :: []) [9] [(5,.p (.sl .nil 0 0 (fun _ => [])))] [] [] tv ?_)
  refine Sq (Sq (RD hnt (.no :: []) [] [(6,pI 0)] [] [] tv ?_))
  refine Bk ?_
  obtain ⟨hc1,hm⟩ := go1 hm
  refine DW.rangeO (fun (k1 : Nat) (s1 : List Int) => Aj [(1,pI p1),(2,rr 1016),(5,ow 1264 s1.length),(6,pI ((k1 : Nat) : Int))] [(1016,bx (pm (Ab p0))),(1264,ob0 (roI s1))]) Bu hm (Conv.ads [(.s 5,1264,1,elems Bi 0 [])]) ?_
  intro k1 s1 n1 hk1 hs1 he1
  refine Sq (Sq (RD hnt (nn 5 []) [] [(14,pB (decide (((k1 : Nat) : Int) < ((p0.tasks.length : Nat) : Int))))] [] [] tv ?_))
  refine Cd (decide (((k1 : Nat) : Int) < ((p0.tasks.length : Nat) : Int))) ?_ ?_
  ·intro h12
   have hlt1 : k1 < p0.tasks.length := by have := of_decide_eq_true h12; omega
   have hm := hs1 hlt1
   unfold Aan at hm
   refine Sk ?_
   refine Sq ?_
   refine Jn (ι := List Int) (fun (y3 : List Int) => Aj [(1,pI p1),(2,rr 1016),(5,ow 1264 y3.length),(6,pI ((k1 : Nat) : Int))] [(1016,bx (pm (Ab p0))),(1264,ob0 (roI y3))]) (fun y3 => (Rm n1) y3 = some RES) ?_ ?_
   ·intro y3 hm
    unfold Rm at hm
    refine RD hnt (nn 3 []) [] [(6,pI (w64 (((k1 : Nat) : Int) + 1)))] [] [] tv ?_
    exact jD y3 ⟨hlt1,hm⟩ (Conv.tp [(6,pI (w64 (((k1 : Nat) : Int) + 1)))] [] (by kernel_rfl) (.cons rfl (.of_eq (congrArg pI (Bo hlt1 hc1))) .nil) .nil)
   ·refine Bk ?_
    refine Sq (RD hnt (nn 8 []) [14] [(24,pB ((Xj p0 k1).group == p1))] [] [] (an (nn0 k1) (an (ltc hlt1) tv)) ?_)
    refine Ah hm ?_ ?_
    ·intro h13 hm
     obtain ⟨g14,hm⟩ := go1 hm
     refine RN hnt (nn 10 []) [(1,pI p1),(2,rr 1016),(5,ow 1264 (s1 ++ [(Xj p0 k1).id]).length),(6,pI ((k1 : Nat) : Int))] [(1016,bx (pm (Ab p0))),(1264,ob0 (roI (s1 ++ [(Xj p0 k1).id])))] [(5,ow 1264 (s1.length + 1))] [(1264,.row 1 (s1.length + 1) (Cp s1.length (elI s1) (cut 1 [vi (Xj p0 k1).id])))] (an (nn0 k1) (an (ltc hlt1) (an (by omega : (s1.length + 1) * 8 ≤ 140737488355328) tv))) (by kernel_rfl) (.cons rfl (MLe.ownLen (enc := Bi) (d := 0) (f := (Cp s1.length (elI s1) (cut 1 [vi (Xj p0 k1).id]))) (RowIs.cat RowIs.elems (RowIs.lit (enc := Bi) (d := 0) (n := 1) (f := (cut 1 [vi (Xj p0 k1).id])) [(Xj p0 k1).id] rfl (fun | 0,_ => rfl | n + 1,h => absurd h (by omega))))) .nil) (.cons rfl (BLe.typed (RowIs.cat RowIs.elems (RowIs.lit (enc := Bi) (d := 0) (n := 1) (f := (cut 1 [vi (Xj p0 k1).id])) [(Xj p0 k1).id] rfl (fun | 0,_ => rfl | n + 1,h => absurd h (by omega))))) .nil) ?_
     exact bD (s1 ++ [(Xj p0 k1).id]) hm .refl
    ·intro h13 hm
     refine Sk ?_
     exact bD s1 hm Conv.t0
  ·intro h12
   have hge1 : ¬ k1 < p0.tasks.length := by have := of_decide_eq_false h12; omega
   have hm := he1 hge1
   unfold AdR at hm
   refine DW.exit ?_
   refine Ap ?_
   refine Au ?_
   refine Am ?_
   show DW _ _ _ _ _
   refine Sq (RK hnt (nn 2 []) [(4,ow 1264 s1.length)] [(1264,ob0 (roI s1))] tv ?_)
   obtain rfl := sj hm
   exact DW.ret (Ai [roI s1] [1264] (ow 0 s1.length))
abbrev o97 (ks : List Nat) (b : Bool) (RES : List Int) (sm : List Nat := []) : Orc := .call 170 ks b (ow 0 RES.length) [] [roI RES] sm

abbrev Zq (p0 : Aa) (k1 : Nat) := (p0.tree.nodes.getD k1 (default : Ao))
theorem Ov (p0 : Aa) (RES : Bool) (hm : Sr p0 = some RES) : Spec Tryz.prog 171 [.p (.agg (Ab p0))] [] (pB RES) [] [] := by
 unfold Sr at hm
 refine SO Tryz.func171 rfl rfl [(0,.p (.agg (Ab p0)))] [] ?_
 intro cx hnt
 refine Sq (RK hnt (nn 2 []) [(1,rr 1008)] [(1008,bx (pm (Ab p0)))] tv ?_)
 obtain ⟨r1,hr1,hm⟩ := bo hm
 refine Sq (Sq (RD hnt (.no :: o93 [] true r1 :: .no :: []) [] [(7,pB (!r1))] [] [] (an (El p0 r1 hr1) tv) ?_))
 refine Ah hm ?_ ?_
 ·intro h2 hm
  refine Sq (RK hnt (.no :: []) [(2,pB false)] [] tv ?_)
  obtain rfl := sj hm
  exact DW.ret (Ai [] [] (pB false))
 ·intro h2 hm
  refine Sk ?_
  refine Sq (Sq (RD hnt (.no :: []) [7] [(3,pI 0)] [] [] tv ?_))
  refine Bk ?_
  obtain ⟨hc1,hm⟩ := go1 hm
  refine DW.rangeO (fun (k1 : Nat) (s1 : Unit) => Aj [(1,rr 1008),(3,pI ((k1 : Nat) : Int))] [(1008,bx (pm (Ab p0)))]) Bm hm Conv.eqK ?_
  intro k1 s1 n1 hk1 hs1 he1
  refine Sq (Sq (RD hnt (nn 6 []) [] [(13,pB (decide (((k1 : Nat) : Int) < ((p0.tree.nodes.length : Nat) : Int))))] [] [] tv ?_))
  refine Cd (decide (((k1 : Nat) : Int) < ((p0.tree.nodes.length : Nat) : Int))) ?_ ?_
  ·intro h19
   have hlt1 : k1 < p0.tree.nodes.length := by have := of_decide_eq_true h19; omega
   have hm := hs1 hlt1
   unfold AaH at hm
   refine Sk ?_
   refine Sq (Bk ?_)
   refine Sq (RD hnt (nn 8 []) [13] [(4,rr 1032)] [] [(1032,bx (pm (Ar (Zq p0 k1))))] (an (nn0 k1) (an (ltc hlt1) tv)) ?_)
   obtain ⟨r20,hr20,hm⟩ := bo hm
   refine Sq ?_
   refine Jn (ι := Bool) (fun (y3 : Bool) => Aj [(1,rr 1008),(3,pI ((k1 : Nat) : Int)),(49,pB y3)] [(1008,bx (pm (Ab p0)))]) (fun y3 => (Kq n1) y3 = some RES) ?_ ?_
   ·intro y3 hm
    unfold Kq at hm
    refine Ah hm ?_ ?_
    ·intro h25 hm
     refine Sq (RK hnt (.no :: []) [(2,pB false)] [] tv ?_)
     obtain rfl := sj hm
     exact DW.ret (Ai [] [] (pB false))
    ·intro h25 hm
     refine Sk ?_
     refine DW.done ?_
     show DW _ _ _ _ _
     refine RD hnt (nn 3 []) [49] [(3,pI (w64 (((k1 : Nat) : Int) + 1)))] [] [] tv ?_
     exact jD () ⟨hlt1,hm⟩ (Conv.tp [(3,pI (w64 (((k1 : Nat) : Int) + 1)))] [] (by kernel_rfl) (.cons rfl (.of_eq (congrArg pI (Bo hlt1 hc1))) .nil) .nil)
   ·rcases bt ((Ek .i64 (Zq p0 k1).control r20) != 0) with h21 | h21
    ·replace hm := Bg h21 hm
     refine RD hnt (nn 6 (o95 [] true r20 :: nn 3 (sk 17 (pT :: [])))) [4] [(49,pB true)] [1032] [] (an (Ko p0.tree (Zq p0 k1).id r20 hr20) (an2 h21 (an6 h21 tv))) ?_
     exact jD true hm Conv.eqK
    ·replace hm := Bf h21 hm
     rcases bt ((Zq p0 k1).id != 1) with h22 | h22
     ·replace hm := Bg h22 hm
      rcases bt ((kand .i64 (Zq p0 k1).control 6) != 0) with h23 | h23
      ·replace hm := Bg h23 hm
       obtain ⟨r24,hr24,hm⟩ := bo hm
       refine RD hnt (nn 6 (o95 [] true r20 :: nn 11 (pT :: nn 4 (o97 [] true r24 :: nn 2 (pT :: pF :: []))))) [4] [(49,pB (decide (((r24.length : Nat) : Int) > 0)))] [1032] [] (an (Ko p0.tree (Zq p0 k1).id r20 hr20) (an4 h21 (an4 h22 (an h21 (an h22 (an h21 (an4 h23 (an (Ny p0 (Zq p0 k1).id r24 hr24) (an2 h23 (an h21 (an h23 (an h21 tv)))))))))))) ?_
       exact jD (decide (((r24.length : Nat) : Int) > 0)) hm Conv.eqK
      ·replace hm := Bf h23 hm
       refine RD hnt (nn 6 (o95 [] true r20 :: nn 11 (pT :: .no :: sk 6 (pF :: pF :: [])))) [4] [(49,pB false)] [1032] [] (an (Ko p0.tree (Zq p0 k1).id r20 hr20) (an4 h21 (an4 h22 (an h21 (an h22 (an h21 (an6 h23 (an h21 (an h23 (an h21 tv)))))))))) ?_
       exact jD false hm Conv.eqK
     ·replace hm := Bf h22 hm
      refine RD hnt (nn 6 (o95 [] true r20 :: nn 7 (sk 4 (pF :: .no :: sk 6 (pF :: pF :: []))))) [4] [(49,pB false)] [1032] [] (an (Ko p0.tree (Zq p0 k1).id r20 hr20) (an4 h21 (an4 h22 (an h21 (an h22 (an h21 (an6 ff (an h21 (an ff (an h21 tv)))))))))) ?_
      exact jD false hm Conv.eqK
  ·intro h19
   have hge1 : ¬ k1 < p0.tree.nodes.length := by have := of_decide_eq_false h19; omega
   have hm := he1 hge1
   unfold Aeg at hm
   refine DW.exit ?_
   refine Ap ?_
   refine Au ?_
   refine Am ?_
   show DW _ _ _ _ _
   refine Sq (RK hnt (.no :: []) [(2,pB true)] [] tv ?_)
   obtain rfl := sj hm
   exact DW.ret (Ai [] [] (pB true))
abbrev o92 (ks : List Nat) (b : Bool) (RES : Bool) (sm : List Nat := []) : Orc := .call 171 ks b (pB RES) [] [] sm

theorem Mv (p0 : Aa) (p1 : Int) (RES : Aw × Bool) (hm : Hm p0 p1 = some RES) : Spec Tryz.prog 126 [.p (.agg (Ab p0)),pI p1] [] (.p (.tup [.agg (Az RES.1),vb RES.2])) [] [] := by
 unfold Hm at hm
 refine SO Tryz.func126 rfl rfl [(0,.p (.agg (Ab p0))),(1,pI p1)] [] ?_
 intro cx hnt
 refine Sq (RK hnt (nn 3 []) [(1,pI p1),(2,rr 1016),(4,rr 1032)] [(1016,bx (pm (Ab p0))),(1032,bx [pI 0,pI 0,pI 0,pI 0])] tv ?_)
 obtain ⟨r1,hr1,hm⟩ := bo hm
 refine Sq (Sq (RD hnt (.no :: o93 [] true r1 :: .no :: []) [] [(9,pB (!r1))] [] [] (an (El p0 r1 hr1) tv) ?_))
 refine Ah hm ?_ ?_
 ·intro h2 hm
  refine Sq (RD hnt (nn 3 []) [1,2,9] [(5,pB false)] [1016] [] tv ?_)
  obtain rfl := sj hm
  exact DW.ret (Ai [] [] (.p (.tup [.agg [vi 0,vi 0,vi 0,vi 0],vb false])))
 ·intro h2 hm
  refine Sk ?_
  refine Sq (Sq (RD hnt (.no :: []) [9] [(6,pI 0)] [] [] tv ?_))
  refine Bk ?_
  obtain ⟨hc1,hm⟩ := go1 hm
  refine DW.rangeO (fun (k1 : Nat) (s1 : Unit) => Aj [(1,pI p1),(2,rr 1016),(4,rr 1032),(6,pI ((k1 : Nat) : Int))] [(1016,bx (pm (Ab p0))),(1032,bx [pI 0,pI 0,pI 0,pI 0])]) Bu hm Conv.eqK ?_
  intro k1 s1 n1 hk1 hs1 he1
  refine Sq (Sq (RD hnt (nn 5 []) [] [(15,pB (decide (((k1 : Nat) : Int) < ((p0.tasks.length : Nat) : Int))))] [] [] tv ?_))
  refine Cd (decide (((k1 : Nat) : Int) < ((p0.tasks.length : Nat) : Int))) ?_ ?_
  ·intro h11
   have hlt1 : k1 < p0.tasks.length := by have := of_decide_eq_true h11; omega
   have hm := hs1 hlt1
   unfold Afw at hm
   refine Sk ?_
   refine Sq (Bk ?_)
   refine Sq (RD hnt (nn 8 []) [15] [(25,pB ((p0.tasks.getD k1 (default : Aw)).id == p1))] [] [] (an (nn0 k1) (an (ltc hlt1) tv)) ?_)
   refine Ah hm ?_ ?_
   ·intro h12 hm
    refine Sq (RK hnt (nn 7 []) [(4,rr 1032),(5,pB true)] [(1032,bx (pm (Az (p0.tasks.getD k1 (default : Aw)))))] (an (nn0 k1) (an (ltc hlt1) tv)) ?_)
    obtain rfl := sj hm
    exact DW.ret (Ai [] [] (.p (.tup [.agg (Az (p0.tasks.getD k1 (default : Aw))),vb true])))
   ·intro h12 hm
    refine Sk ?_
    refine DW.done ?_
    show DW _ _ _ _ _
    refine RD hnt (nn 3 []) [25] [(6,pI (w64 (((k1 : Nat) : Int) + 1)))] [] [] tv ?_
    exact jD () ⟨hlt1,hm⟩ (Conv.tp [(6,pI (w64 (((k1 : Nat) : Int) + 1)))] [] (by kernel_rfl) (.cons rfl (.of_eq (congrArg pI (Bo hlt1 hc1))) .nil) .nil)
  ·intro h11
   have hge1 : ¬ k1 < p0.tasks.length := by have := of_decide_eq_false h11; omega
   have hm := he1 hge1
   unfold Afq at hm
   refine DW.exit ?_
   refine Ap ?_
   refine Au ?_
   refine Am ?_
   show DW _ _ _ _ _
   refine Sq (RD hnt (nn 3 []) [1,2,6,15] [(5,pB false)] [1016] [] tv ?_)
   obtain rfl := sj hm
   exact DW.ret (Ai [] [] (.p (.tup [.agg [vi 0,vi 0,vi 0,vi 0],vb false])))
abbrev o98 (ks : List Nat) (b : Bool) (RES : Aw × Bool) (sm : List Nat := []) : Orc := .call 126 ks b (.p (.tup [.agg (Az RES.1),vb RES.2])) [] [] sm

theorem Qw (p0 : Ag) (p1 : Int) (RES : Int × Bool) (hm : Ls p0 p1 = some RES) : Spec Tryz.prog 127 [.p (.agg (As p0)),pI p1] [] (.p (.tup [vi RES.1,vb RES.2])) [] [] := by
 unfold Ls at hm
 refine SO Tryz.func127 rfl rfl [(0,.p (.agg (As p0))),(1,pI p1)] [] ?_
 intro cx hnt
 refine Sq (RK hnt (nn 3 []) [(1,pI p1),(2,rr 1016)] [(1016,bx (pm (As p0)))] tv ?_)
 obtain ⟨r1,hr1,hm⟩ := bo hm
 refine Sq (RD hnt (nn 2 (o82 [] true r1 :: .no :: [])) [1] [(6,ow 1096 r1.length)] [] [(1096,ob0 (roI r1))] (an (Kp p0 p1 r1 hr1) tv) ?_)
 refine Sq (Sq (RD hnt (.no :: []) [] [(7,pI 0)] [] [] tv ?_))
 refine Bk ?_
 obtain ⟨hc1,hm⟩ := go1 hm
 refine DW.rangeO (fun (k1 : Nat) (s1 : Unit) => Aj [(2,rr 1016),(6,ow 1096 r1.length),(7,pI ((k1 : Nat) : Int))] [(1016,bx (pm (As p0))),(1096,ob0 (roI r1))]) 0 hm Conv.eqK ?_
 intro k1 s1 n1 hk1 hs1 he1
 refine Sq (Sq (RD hnt (nn 4 []) [] [(16,pB (decide (((k1 : Nat) : Int) < ((r1.length : Nat) : Int))))] [] [] tv ?_))
 refine Cd (decide (((k1 : Nat) : Int) < ((r1.length : Nat) : Int))) ?_ ?_
 ·intro h16
  have hlt1 : k1 < r1.length := by have := of_decide_eq_true h16; omega
  have hm := hs1 hlt1
  unfold Yq at hm
  refine Sk ?_
  refine Sq (Bk ?_)
  obtain ⟨r17,hr17,hm⟩ := bo hm
  refine Sq (RD hnt (nn 5 (o80 [] true r17 :: nn 6 [])) [16] [(8,rr 1064)] [] [(1064,bx (pm (Ar r17.1)))] (an (nn0 k1) (an (ltc hlt1) (an (by omega : k1 < r1.length) (an (Dn p0 (r1.getD k1 0) r17 hr17) tv)))) ?_)
  refine Sq (RD hnt (nn 3 []) [8] [(30,pB (r17.1.kind != 1))] [1064] [] tv ?_)
  refine Ah hm ?_ ?_
  ·intro h18 hm
   refine Sq (RK hnt (nn 6 []) [(4,pI (r1.getD k1 0)),(5,pB true)] [] (an (nn0 k1) (an (ltc hlt1) (an (by omega : k1 < r1.length) tv))) ?_)
   obtain rfl := sj hm
   exact DW.ret (Ai [] [] (.p (.tup [vi (r1.getD k1 0),vb true])))
  ·intro h18 hm
   refine Sk ?_
   refine DW.done ?_
   show DW _ _ _ _ _
   refine RD hnt (nn 3 []) [30] [(7,pI (w64 (((k1 : Nat) : Int) + 1)))] [] [] tv ?_
   exact jD () ⟨hlt1,hm⟩ (Conv.tp [(7,pI (w64 (((k1 : Nat) : Int) + 1)))] [] (by kernel_rfl) (.cons rfl (.of_eq (congrArg pI (Bo hlt1 hc1))) .nil) .nil)
 ·intro h16
  have hge1 : ¬ k1 < r1.length := by have := of_decide_eq_false h16; omega
  have hm := he1 hge1
  unfold Adk at hm
  refine DW.exit ?_
  refine Ap ?_
  refine Au ?_
  refine Am ?_
  show DW _ _ _ _ _
  refine Sq (RK hnt (nn 2 []) [(4,pI 0),(5,pB false)] [] tv ?_)
  obtain rfl := sj hm
  exact DW.ret (Ai [] [] (.p (.tup [vi 0,vb false])))
abbrev o99 (ks : List Nat) (b : Bool) (RES : Int × Bool) (sm : List Nat := []) : Orc := .call 127 ks b (.p (.tup [vi RES.1,vb RES.2])) [] [] sm

theorem Ahe (rec : Ag → Int → Option Int) (ih : ∀ (p0 : Ag) (p1 : Int) (RES : Int),rec p0 p1 = some RES → Spec Tryz.prog 123 [.p (.agg (As p0)),pI p1] [] (pI RES) [] []) (p0 : Ag) (p1 : Int) (RES : Int) (hm : Sj rec p0 p1 = some RES) : Spec Tryz.prog 123 [.p (.agg (As p0)),pI p1] [] (pI RES) [] [] := by
 unfold Sj at hm
 refine SO Tryz.func123 rfl rfl [(0,.p (.agg (As p0))),(1,pI p1)] [] ?_
 intro cx hnt
 refine Sq (RK hnt (nn 2 []) [(1,pI p1),(2,rr 1016)] [(1016,bx (pm (As p0)))] tv ?_)
 obtain ⟨r1,hr1,hm⟩ := bo hm
 refine Sq (RD hnt (nn 2 (o80 [] true r1 :: nn 6 [])) [] [(5,rr 1040),(6,pB r1.2)] [] [(1040,bx (pm (Ar r1.1)))] (an (Dn p0 p1 r1 hr1) tv) ?_)
 refine Sq (Sq (RD hnt (nn 2 []) [6] [(20,pB (!r1.2))] [] [] tv ?_))
 refine Ah hm ?_ ?_
 ·intro h2 hm
  refine Sq (RK hnt (.no :: []) [(4,pI 0)] [] tv ?_)
  obtain rfl := sj hm
  exact DW.ret (Ai [] [] (pI 0))
 ·intro h2 hm
  refine Sk ?_
  refine Sq (Sq (RD hnt (nn 3 []) [20] [(23,pB (r1.1.kind == 1))] [] [] tv ?_))
  refine Ah hm ?_ ?_
  ·intro h3 hm
   refine Sq (RK hnt (.no :: []) [(4,pI 2)] [] tv ?_)
   obtain rfl := sj hm
   exact DW.ret (Ai [] [] (pI 2))
  ·intro h3 hm
   refine Sk ?_
   obtain ⟨r4,hr4,hm⟩ := bo hm
   refine Sq (Sq (RD hnt (nn 3 (o80 [] true r4 :: nn 6 [])) [5,23] [(7,rr 1056),(8,pB r4.2)] [1040] [(1056,bx (pm (Ar r4.1)))] (an (Dn p0 r1.1.parent r4 hr4) tv) ?_))
   refine Sq ?_
   refine Jn (ι := Bool) (fun (y1 : Bool) => Aj [(1,pI p1),(2,rr 1016),(43,pB y1)] [(1016,bx (pm (As p0)))]) (fun y1 => (Nm p0 p1) y1 = some RES) ?_ ?_
   ·intro y1 hm
    unfold Nm at hm
    refine Ah hm ?_ ?_
    ·intro h8 hm
     refine Sq (RK hnt (.no :: []) [(4,pI 3)] [] tv ?_)
     obtain rfl := sj hm
     exact DW.ret (Ai [] [] (pI 3))
    ·intro h8 hm
     refine Sk ?_
     obtain ⟨r9,hr9,hm⟩ := bo hm
     refine Sq (RD hnt (nn 2 (o86 [] true r9 :: .no :: [])) [1,43] [(9,ow 1368 r9.length)] [] [(1368,ob0 (roI r9))] (an (Sw p0 p1 r9 hr9) tv) ?_)
     refine Sq (Sq (RD hnt (.no :: []) [] [(10,pI 0)] [] [] tv ?_))
     refine Bk ?_
     obtain ⟨hc1,hm⟩ := go1 hm
     refine DW.rangeO (fun (k1 : Nat) (s1 : Unit) => Aj [(2,rr 1016),(9,ow 1368 r9.length),(10,pI ((k1 : Nat) : Int))] [(1016,bx (pm (As p0))),(1368,ob0 (roI r9))]) 0 hm Conv.eqK ?_
     intro k1 s1 n1 hk1 hs1 he1
     refine Sq (Sq (RD hnt (nn 4 []) [] [(50,pB (decide (((k1 : Nat) : Int) < ((r9.length : Nat) : Int))))] [] [] tv ?_))
     refine Cd (decide (((k1 : Nat) : Int) < ((r9.length : Nat) : Int))) ?_ ?_
     ·intro h20
      have hlt1 : k1 < r9.length := by have := of_decide_eq_true h20; omega
      have hm := hs1 hlt1
      unfold Abz at hm
      refine Sk ?_
      refine Sq (Bk ?_)
      obtain ⟨r21,hr21,hm⟩ := bo hm
      refine Sq (RD hnt (nn 5 (o80 [] true r21 :: nn 6 [])) [50] [(11,rr 1088)] [] [(1088,bx (pm (Ar r21.1)))] (an (nn0 k1) (an (ltc hlt1) (an (by omega : k1 < r9.length) (an (Dn p0 (r9.getD k1 0) r21 hr21) tv)))) ?_)
      refine Sq (RD hnt (nn 3 []) [11] [(64,pB (r21.1.kind == 1))] [1088] [] tv ?_)
      refine Ah hm ?_ ?_
      ·intro h22 hm
       refine Sq (RK hnt (.no :: []) [(4,pI 1)] [] tv ?_)
       obtain rfl := sj hm
       exact DW.ret (Ai [] [] (pI 1))
      ·intro h22 hm
       refine Sk ?_
       refine DW.done ?_
       show DW _ _ _ _ _
       refine RD hnt (nn 3 []) [64] [(10,pI (w64 (((k1 : Nat) : Int) + 1)))] [] [] tv ?_
       exact jD () ⟨hlt1,hm⟩ (Conv.tp [(10,pI (w64 (((k1 : Nat) : Int) + 1)))] [] (by kernel_rfl) (.cons rfl (.of_eq (congrArg pI (Bo hlt1 hc1))) .nil) .nil)
     ·intro h20
      have hge1 : ¬ k1 < r9.length := by have := of_decide_eq_false h20; omega
      have hm := he1 hge1
      unfold AfB at hm
      refine DW.exit ?_
      refine Ap ?_
      refine Au ?_
      refine Am ?_
      show DW _ _ _ _ _
      refine Sq (RK hnt (.no :: []) [(4,pI 0)] [] tv ?_)
      obtain rfl := sj hm
      exact DW.ret (Ai [] [] (pI 0))
   ·rcases bt r4.2 with h5 | h5
    ·replace hm := Bg h5 hm
     rcases bt (r4.1.kind == 1) with h6 | h6
     ·replace hm := Bg h6 hm
      refine RD hnt (nn 6 (sk 5 (pT :: pT :: []))) [7,8] [(43,pB true)] [1056] [] (an4 h5 (an5 h6 (an h5 (an h6 (an h5 tv))))) ?_
      exact jD true hm Conv.eqK
     ·replace hm := Bf h6 hm
      obtain ⟨r7,hr7,hm⟩ := bo hm
      refine RD hnt (nn 9 (.call 123 [] true (pI r7) [] [] [] :: .no :: pF :: pT :: [])) [7,8] [(43,pB (r7 == 3))] [1056] [] (an4 h5 (an4 h6 (an (ih p0 r4.1.id r7 hr7) (an h6 (an h5 (an h6 (an h5 tv))))))) ?_
      exact jD (r7 == 3) hm Conv.eqK
    ·replace hm := Bf h5 hm
     refine RD hnt (nn 2 (sk 10 (pF :: []))) [7,8] [(43,pB false)] [1056] [] (an6 h5 tv) ?_
     exact jD false hm Conv.eqK
theorem Acp : ∀ (n : Nat) (p0 : Ag) (p1 : Int) (RES : Int),Ll n p0 p1 = some RES → Spec Tryz.prog 123 [.p (.agg (As p0)),pI p1] [] (pI RES) [] []
  | 0,p0,p1,RES,hm => by simp [Ll] at hm
  | n + 1,p0,p1,RES,hm => Ahe (Ll n) (Acp n) p0 p1 RES hm
theorem Ia (p0 : Ag) (p1 : Int) (RES : Int) (hm : Na p0 p1 = some RES) : Spec Tryz.prog 123 [.p (.agg (As p0)),pI p1] [] (pI RES) [] [] := Acp Ej p0 p1 RES hm
abbrev o100 (ks : List Nat) (b : Bool) (RES : Int) (sm : List Nat := []) : Orc := .call 123 ks b (pI RES) [] [] sm

abbrev Xl (p0 : Aa) (k4 : Nat) := (p0.tree.nodes.getD k4 (default : Ao))
abbrev c91e2 (p0 : Aa) : Nat × Obj := (1008,bx (pm (Ab p0)))
theorem Ms (p0 : Aa) (RES : Bool) (hm : Lr p0 = some RES) : Spec Tryz.prog 122 [.p (.agg (Ab p0))] [] (pB RES) [] [] := by
 unfold Lr at hm
 refine SO Tryz.func122 rfl rfl [(0,.p (.agg (Ab p0)))] [] ?_
 intro cx hnt
 refine Sq (RK hnt (nn 2 []) [(1,rr 1008)] [(c91e2 p0)] tv ?_)
 obtain ⟨r1,hr1,hm⟩ := bo hm
 refine Sq (Sq (RD hnt (.no :: o92 [] true r1 :: .no :: []) [] [(16,pB (!r1))] [] [] (an (Ov p0 r1 hr1) tv) ?_))
 refine Ah hm ?_ ?_
 ·intro h2 hm
  refine Sq (RK hnt (.no :: []) [(2,pB false)] [] tv ?_)
  obtain rfl := sj hm
  exact DW.ret (Ai [] [] (pB false))
 ·intro h2 hm
  refine Sk ?_
  refine Sq (Sq (RD hnt (.no :: []) [16] [(3,pI 0)] [] [] tv ?_))
  refine Bk ?_
  obtain ⟨hc1,hm⟩ := go1 hm
  refine DW.rangeO (fun (k1 : Nat) (s1 : Unit) => Aj [(1,rr 1008),(3,pI ((k1 : Nat) : Int))] [(c91e2 p0)]) Bu hm Conv.eqK ?_
  intro k1 s1 n1 hk1 hs1 he1
  refine Sq (Sq (RD hnt (nn 5 []) [] [(21,pB (decide (((k1 : Nat) : Int) < ((p0.tasks.length : Nat) : Int))))] [] [] tv ?_))
  refine Cd (decide (((k1 : Nat) : Int) < ((p0.tasks.length : Nat) : Int))) ?_ ?_
  ·intro h99
   have hlt1 : k1 < p0.tasks.length := by have := of_decide_eq_true h99; omega
   have hm := hs1 hlt1
   unfold Abv at hm
   refine Sk ?_
   refine Sq (Bk ?_)
   obtain ⟨r100,hr100,hm⟩ := bo hm
   refine Sq (RD hnt (nn 7 (o98 [] true r100 :: nn 6 [])) [21] [(4,rr 1032)] [] [(1032,bx (pm (Az r100.1)))] (an (nn0 k1) (an (ltc hlt1) (an (Mv p0 (p0.tasks.getD k1 (default : Aw)).process r100 hr100) tv))) ?_)
   obtain ⟨r101,hr101,hm⟩ := bo hm
   refine Sq (RD hnt (nn 8 (o99 [] true r101 :: nn 5 [])) [] [(6,pI r101.1)] [] [] (an (nn0 k1) (an (ltc hlt1) (an (Qw p0.tree (p0.tasks.getD k1 (default : Aw)).group r101 hr101) tv))) ?_)
   obtain ⟨r102,hr102,hm⟩ := bo hm
   refine Sq (RD hnt (nn 4 (o99 [] true r102 :: nn 5 [])) [4] [(8,pI r102.1)] [1032] [] (an (Qw p0.tree r100.1.group r102 hr102) tv) ?_)
   refine Sq (RD hnt (nn 3 []) [6,8] [(57,pB (r101.1 != r102.1))] [] [] tv ?_)
   refine Ah hm ?_ ?_
   ·intro h103 hm
    refine Sq (RK hnt (.no :: []) [(2,pB false)] [] tv ?_)
    obtain rfl := sj hm
    exact DW.ret (Ai [] [] (pB false))
   ·intro h103 hm
    refine Sk ?_
    refine DW.done ?_
    show DW _ _ _ _ _
    refine RD hnt (nn 3 []) [57] [(3,pI (w64 (((k1 : Nat) : Int) + 1)))] [] [] tv ?_
    exact jD () ⟨hlt1,hm⟩ (Conv.tp [(3,pI (w64 (((k1 : Nat) : Int) + 1)))] [] (by kernel_rfl) (.cons rfl (.of_eq (congrArg pI (Bo hlt1 hc1))) .nil) .nil)
  ·intro h99
   have hge1 : ¬ k1 < p0.tasks.length := by have := of_decide_eq_false h99; omega
   have hm := he1 hge1
   unfold AbK at hm
   refine DW.exit ?_
   refine Ap ?_
   refine Au ?_
   refine Am ?_
   show DW _ _ _ _ _
   refine Sq (Sq (RD hnt (.no :: []) [3,21] [(10,pI 0)] [] [] tv ?_))
   refine Bk ?_
   obtain ⟨hc4,hm⟩ := go1 hm
   refine DW.rangeO (fun (k4 : Nat) (s4 : Unit) => Aj [(1,rr 1008),(10,pI ((k4 : Nat) : Int))] [(c91e2 p0)]) Bm hm Conv.eqK ?_
   intro k4 s4 n4 hk4 hs4 he4
   refine Sq (Sq (RD hnt (nn 6 []) [] [(63,pB (decide (((k4 : Nat) : Int) < ((p0.tree.nodes.length : Nat) : Int))))] [] [] tv ?_))
   refine Cd (decide (((k4 : Nat) : Int) < ((p0.tree.nodes.length : Nat) : Int))) ?_ ?_
   ·intro h132
    have hlt4 : k4 < p0.tree.nodes.length := by have := of_decide_eq_true h132; omega
    have hm := hs4 hlt4
    unfold AbI at hm
    refine Sk ?_
    refine Sq (Bk ?_)
    refine Sq (RD hnt (nn 8 []) [63] [(11,rr 1088)] [] [(1088,bx (pm (Ar (Xl p0 k4))))] (an (nn0 k4) (an (ltc hlt4) tv)) ?_)
    obtain ⟨r133,hr133,hm⟩ := bo hm
    refine Sq (RD hnt (nn 4 (o80 [] true r133 :: nn 6 [])) [] [(12,rr 1096)] [] [(1096,bx (pm (Ar r133.1)))] (an (Dn p0.tree (Xl p0 k4).parent r133 hr133) tv) ?_)
    obtain ⟨r134,hr134,hm⟩ := bo hm
    refine Sq (Sq ?_)
    refine Jn (ι := Bool) (fun (y17 : Bool) => Aj [(1,rr 1008),(10,pI ((k4 : Nat) : Int)),(11,rr 1088),(12,rr 1096),(98,pB y17)] [(c91e2 p0),(1088,bx (pm (Ar (Xl p0 k4)))),(1096,bx (pm (Ar r133.1)))]) (fun y17 => (Mf p0 (Xl p0 k4) n4 r133) y17 = some RES) ?_ ?_
    ·intro y17 hm
     unfold Mf at hm
     refine Ah hm ?_ ?_
     ·intro h138 hm
      refine Sq (RK hnt (.no :: []) [(2,pB false)] [] tv ?_)
      obtain rfl := sj hm
      exact DW.ret (Ai [] [] (pB false))
     ·intro h138 hm
      refine Sk ?_
      refine Sq ?_
      refine Jn (ι := Bool) (fun (y18 : Bool) => Aj [(1,rr 1008),(10,pI ((k4 : Nat) : Int)),(120,pB y18)] [(c91e2 p0)]) (fun y18 => (Kr n4) y18 = some RES) ?_ ?_
      ·intro y18 hm
       unfold Kr at hm
       refine Ah hm ?_ ?_
       ·intro h144 hm
        refine Sq (RK hnt (.no :: []) [(2,pB false)] [] tv ?_)
        obtain rfl := sj hm
        exact DW.ret (Ai [] [] (pB false))
       ·intro h144 hm
        refine Sk ?_
        refine DW.done ?_
        show DW _ _ _ _ _
        refine RD hnt (nn 3 []) [120] [(10,pI (w64 (((k4 : Nat) : Int) + 1)))] [] [] tv ?_
        exact jD () ⟨hlt4,hm⟩ (Conv.tp [(10,pI (w64 (((k4 : Nat) : Int) + 1)))] [] (by kernel_rfl) (.cons rfl (.of_eq (congrArg pI (Bo hlt4 hc4))) .nil) .nil)
      ·rcases bt ((Xl p0 k4).kind == 1) with h139 | h139
       ·replace hm := Bg h139 hm
        rcases bt (r133.1.id != 1) with h140 | h140
        ·replace hm := Bg h140 hm
         rcases bt ((kand .i64 r133.1.control 6) != 0) with h141 | h141
         ·replace hm := Bg h141 hm
          refine RD hnt (nn 12 (pT :: .no :: sk 6 (pT :: pT :: []))) [11,12,98] [(120,pB true)] [1088,1096] [] (an4 h139 (an4 h140 (an h139 (an h140 (an h139 (an6 h141 (an h139 (an h141 (an h139 tv))))))))) ?_
          exact jD true hm Conv.eqK
         ·replace hm := Bf h141 hm
          obtain ⟨r142,hr142,hm⟩ := bo hm
          refine RD hnt (nn 12 (pT :: nn 5 (o100 [] true r142 :: .no :: pF :: pT :: []))) [11,12,98] [(120,pB (r142 == 3))] [1088,1096] [] (an4 h139 (an4 h140 (an h139 (an h140 (an h139 (an5 h141 (an (Ia p0.tree r133.1.id r142 hr142) (an h141 (an h139 (an h141 (an h139 tv))))))))))) ?_
          exact jD (r142 == 3) hm Conv.eqK
        ·replace hm := Bf h140 hm
         obtain ⟨r143,hr143,hm⟩ := bo hm
         refine RD hnt (nn 8 (sk 4 (pF :: nn 5 (o100 [] true r143 :: .no :: pF :: pT :: [])))) [11,12,98] [(120,pB (r143 == 3))] [1088,1096] [] (an4 h139 (an4 h140 (an h139 (an h140 (an h139 (an5 ff (an (Ia p0.tree r133.1.id r143 hr143) (an ff (an h139 (an ff (an h139 tv))))))))))) ?_
         exact jD (r143 == 3) hm Conv.eqK
       ·replace hm := Bf h139 hm
        refine RD hnt (nn 4 (sk 17 (pF :: []))) [11,12,98] [(120,pB false)] [1088,1096] [] (an2 h139 (an6 h139 tv)) ?_
        exact jD false hm Conv.eqK
    ·rcases bt (r134 == 3) with h135 | h135
     ·replace hm := Bg h135 hm
      rcases bt ((Xl p0 k4).control != 0) with h136 | h136
      ·replace hm := Bg h136 hm
       refine RD hnt (nn 4 (o100 [] true r134 :: nn 6 (sk 6 (pT :: pT :: [])))) [] [(98,pB true)] [] [] (an (Ia p0.tree (Xl p0 k4).id r134 hr134) (an4 h135 (an6 h136 (an h135 (an h136 (an h135 tv)))))) ?_
       exact jD true hm Conv.eqK
      ·replace hm := Bf h136 hm
       obtain ⟨r137,hr137,hm⟩ := bo hm
       refine RD hnt (nn 4 (o100 [] true r134 :: nn 9 (o97 [] true r137 :: nn 2 (pF :: pT :: [])))) [] [(98,pB (decide (((r137.length : Nat) : Int) > 0)))] [] [] (an (Ia p0.tree (Xl p0 k4).id r134 hr134) (an4 h135 (an4 h136 (an (Ny p0 (Xl p0 k4).id r137 hr137) (an2 h136 (an h135 (an h136 (an h135 tv)))))))) ?_
       exact jD (decide (((r137.length : Nat) : Int) > 0)) hm Conv.eqK
     ·replace hm := Bf h135 hm
      refine RD hnt (nn 4 (o100 [] true r134 :: nn 2 (sk 11 (pF :: [])))) [] [(98,pB false)] [] [] (an (Ia p0.tree (Xl p0 k4).id r134 hr134) (an6 h135 tv)) ?_
      exact jD false hm Conv.eqK
   ·intro h132
    have hge4 : ¬ k4 < p0.tree.nodes.length := by have := of_decide_eq_false h132; omega
    have hm := he4 hge4
    unfold AfG at hm
    refine DW.exit ?_
    refine Ap ?_
    refine Au ?_
    refine Am ?_
    show DW _ _ _ _ _
    refine Sq (RK hnt (.no :: []) [(2,pB true)] [] tv ?_)
    obtain rfl := sj hm
    exact DW.ret (Ai [] [] (pB true))
abbrev o91 (ks : List Nat) (b : Bool) (RES : Bool) (sm : List Nat := []) : Orc := .call 122 ks b (pB RES) [] [] sm

theorem Sa (p0 : Int) (RES : Bool) (hm : AaC p0 = some RES) : Spec Tryz.prog 197 [pI p0] [] (pB RES) [] [] := by
 unfold AaC at hm
 refine SO Tryz.func197 rfl rfl [(0,pI p0)] [] ?_
 intro cx hnt
 refine Sq (RK hnt (.no :: []) [(0,pI p0)] [] tv ?_)
 refine Sq (DW.regJ (sl2 := [(2,pB ((decide (p0 ≥ 0)) && (decide (p0 ≤ 31))))]) (ob2 := []) ?_ ?_)
 ·rcases bt (decide (p0 ≥ 0)) with h1 | h1
  ·exact RT hnt (nn 5 (pT :: .no :: [])) [(2,pB (decide (p0 ≤ 31)))] (an3 h1 tv) (by kernel_rfl) (.cons rfl (.of_eq (by rw [h1]; try rfl)) .nil)
  ·exact RT hnt (nn 3 (sk 2 (pF :: .no :: []))) [(2,pB false)] (an3 h1 tv) (by kernel_rfl) (.cons rfl (.of_eq (by rw [h1]; try rfl)) .nil)
 ·refine DW.ret ?_
  obtain rfl := sj hm
  exact Ai [] [] (pB ((decide (p0 ≥ 0)) && (decide (p0 ≤ 31))))
abbrev o102 (ks : List Nat) (b : Bool) (RES : Bool) (sm : List Nat := []) : Orc := .call 197 ks b (pB RES) [] [] sm

theorem Tz (p0 : Aa) (RES : Aa) (hm : Oy p0 = some RES) : Spec Tryz.prog 169 [.p (.agg (Ab p0))] [] (.agg [ow 0 RES.tree.nodes.length,pI RES.tree.next,ow 1 RES.tasks.length,pI RES.next]) [] [Ak RES.tree.nodes,At RES.tasks] := by
 unfold Oy at hm
 refine SO Tryz.func169 rfl rfl [(0,.p (.agg (Ab p0)))] [] ?_
 intro cx hnt
 refine Sq (RK hnt (nn 2 []) [(1,rr 1008),(2,rr 1016)] [(1008,bx (pm (Ab p0))),(1016,bx [.p (.sl .nil 0 0 (fun _ => [])),pI 0,.p (.sl .nil 0 0 (fun _ => [])),pI 0])] tv ?_)
 obtain ⟨r1,hr1,hm⟩ := bo hm
 obtain ⟨g2,hm⟩ := go1 hm
 refine Sq (RN hnt (nn 2 (o83 [] true r1 :: nn 7 [])) [(2,rr 1016)] [(1016,bx [ow 1040 r1.nodes.length,pI r1.next,ow 1064 p0.tasks.length,pI p0.next]),(1040,ob0 (Ak r1.nodes)),(1064,ob0 (At p0.tasks))] [] [(1064,.row 4 p0.tasks.length (Ack p0.tasks))] (an (Ua p0.tree r1 hr1) (an (by omega : p0.tasks.length * 32 ≤ 140737488355328) tv)) (by kernel_rfl) .nil (.cons rfl (BLe.typed RowIs.elems) .nil) ?_)
 obtain rfl := sj hm
 exact DW.ret (Ai [Ak r1.nodes,At p0.tasks] [1040,1064] (.agg [ow 0 r1.nodes.length,pI r1.next,ow 1 p0.tasks.length,pI p0.next]))
abbrev o103 (ks : List Nat) (b : Bool) (RES : Aa) (sm : List Nat := []) : Orc := .call 169 ks b (.agg [ow 0 RES.tree.nodes.length,pI RES.tree.next,ow 1 RES.tasks.length,pI RES.next]) [] [Ak RES.tree.nodes,At RES.tasks] sm

abbrev Agg : Nat × Obj := (1032,bx [.p (.sl .nil 0 0 (fun _ => [])),pI 0])
theorem AaA (p0 : Ag) (p1 : Ao) (RES : Ag) (hm : Ud p0 p1 = some RES) : Spec Tryz.prog 121 [.p (.agg (As p0)),.p (.agg (Ar p1))] [] (.agg [ow 0 RES.nodes.length,pI RES.next]) [] [Ak RES.nodes] := by
 unfold Ud at hm
 refine SO Tryz.func121 rfl rfl [(0,.p (.agg (As p0))),(1,.p (.agg (Ar p1)))] [] ?_
 intro cx hnt
 refine Sq (RK hnt (nn 3 []) [(2,rr 1016),(3,rr 1024),(4,rr 1032)] [(1016,bx (pm (As p0))),(1024,bx (pm (Ar p1))),(Agg)] tv ?_)
 obtain ⟨r1,hr1,hm⟩ := bo hm
 refine Sq (RD hnt (.no :: o83 [] true r1 :: nn 2 []) [2] [(5,rr 1040)] [1016] [(1040,bx [ow 1064 r1.nodes.length,pI r1.next]),(1064,ob0 (Ak r1.nodes))] (an (Ua p0 r1 hr1) tv) ?_)
 refine Sq (Sq (RD hnt (.no :: []) [] [(6,pI 0)] [] [] tv ?_))
 refine Bk ?_
 refine DW.whileO (fun (s1 : (List Ao) × Int) => Aj [(3,rr 1024),(4,rr 1032),(5,rr 1040),(6,pI s1.2)] [(1024,bx (pm (Ar p1))),(Agg),(1040,bx [ow 1064 s1.1.length,pI r1.next]),(1064,ob0 (Ak s1.1))]) hm Conv.eqK ?_
 intro s1 n1 hm
 unfold AcL at hm
 refine Sq (Sq (RD hnt (nn 5 []) [] [(13,pB (decide (s1.2 < ((s1.1.length : Nat) : Int))))] [] [] tv ?_))
 refine Ah hm ?_ ?_
 ·intro h8 hm
  refine Sk ?_
  refine Sq ?_
  refine Jn (ι := List Ao) (fun (y2 : List Ao) => Aj [(3,rr 1024),(4,rr 1032),(5,rr 1040),(6,pI s1.2)] [(1024,bx (pm (Ar p1))),(Agg),(1040,bx [ow 1064 y2.length,pI r1.next]),(1064,ob0 (Ak y2))]) (fun y2 => (Ux s1 n1) y2 = some RES) ?_ ?_
  ·intro y2 hm
   unfold Ux at hm
   refine RD hnt (nn 3 []) [] [(6,pI (w64 (s1.2 + 1)))] [] [] tv ?_
   exact jD (y2,(w64 (s1.2 + 1))) hm Conv.eqK
  ·refine Bk ?_
   obtain ⟨g9,g10,hm⟩ := go2 hm
   refine Sq (RD hnt (nn 9 []) [13] [(24,pB ((s1.1.getD (Int.toNat s1.2) Bm).id == p1.id))] [] [] (an g9.1 (an g9.2 (an g10 tv))) ?_)
   refine Ah hm ?_ ?_
   ·intro h11 hm
    obtain ⟨g12,g13,hm⟩ := go2 hm
    refine RN hnt (nn 6 []) [(3,rr 1024),(4,rr 1032),(5,rr 1040),(6,pI s1.2)] [(1024,bx (pm (Ar p1))),(Agg),(1040,bx [ow 1064 (s1.1.set (Int.toNat s1.2) p1).length,pI r1.next]),(1064,ob0 (Ak (s1.1.set (Int.toNat s1.2) p1)))] [] [(1040,.box [ow 1064 s1.1.length,pI r1.next]),(1064,.row 6 s1.1.length (Ca (Xu s1.1) (Int.toNat s1.2) [vi p1.id,vi p1.parent,vs p1.name,vi p1.control,vi p1.kind,vi p1.owner]))] (an g12.1 (an g12.2 (an g13 tv))) (by kernel_rfl) .nil (.cons rfl (.box (.cons (MLe.ownLen (enc := Ar) (d := Bm) (f := (Ca (Xu s1.1) (Int.toNat s1.2) [vi p1.id,vi p1.parent,vs p1.name,vi p1.control,vi p1.kind,vi p1.owner])) (RowIs.upd RowIs.elems p1 rfl)) (.cons .rfl .nil))) (.cons rfl (BLe.typed (RowIs.upd RowIs.elems p1 rfl)) .nil)) ?_
    exact bD (s1.1.set (Int.toNat s1.2) p1) hm .refl
   ·intro h11 hm
    refine Sk ?_
    exact bD s1.1 hm Conv.t0
 ·intro h8 hm
  refine DW.exit ?_
  refine Ap ?_
  refine Au ?_
  refine Am ?_
  show DW _ _ _ _ _
  refine Sq (RD hnt (nn 2 []) [3,5,6,13] [] [1024,1040] [(1032,bx [ow 1064 s1.1.length,pI r1.next])] tv ?_)
  obtain rfl := sj hm
  exact DW.ret (Ai [Ak s1.1] [1064] (.agg [ow 0 s1.1.length,pI r1.next]))
abbrev o104 (ks : List Nat) (b : Bool) (RES : Ag) (sm : List Nat := []) : Orc := .call 121 ks b (.agg [ow 0 RES.nodes.length,pI RES.next]) [] [Ak RES.nodes] sm

abbrev AgO : Nat × Obj := (1064,bx [.p (.sl .nil 0 0 (fun _ => [])),pI 0,.p (.sl .nil 0 0 (fun _ => [])),pI 0])
abbrev Ads : Nat × Obj := (1064,bx [ow 100000 0,pI 0,ow 100001 0,pI 0])
abbrev c101e3 (r8 : Ao × Bool) (p3 : Int) (p2 : Int) : Nat × Obj := (1080,bx [pI r8.1.id,pI r8.1.parent,pS r8.1.name,pI (kor .i64 (Ek .i64 r8.1.control p3) p2),pI r8.1.kind,pI r8.1.owner])
theorem AhA (p0 : Aa) (p1 : Int) (p2 : Int) (p3 : Int) (RES : Aa × Int) (hm : Vg p0 p1 p2 p3 = some RES) : Spec Tryz.prog 168 [.p (.agg (Ab p0)),pI p1,pI p2,pI p3] [] (.tup [.agg [ow 0 RES.1.tree.nodes.length,pI RES.1.tree.next,ow 1 RES.1.tasks.length,pI RES.1.next],pI RES.2]) [] [Ak RES.1.tree.nodes,At RES.1.tasks] := by
 unfold Vg at hm
 refine SO Tryz.func168 rfl rfl [(0,.p (.agg (Ab p0))),(1,pI p1),(2,pI p2),(3,pI p3)] [] ?_
 intro cx hnt
 refine Sq (RD hnt (nn 3 []) [0] [(4,rr 1032),(8,rr 1064)] [] [(1032,bx (pm (Ab p0))),(AgO)] tv ?_)
 obtain ⟨r1,hr1,hm⟩ := bo hm
 refine Sq (Sq ?_)
 refine Jn (ι := Bool) (fun (y1 : Bool) => Aj [(1,pI p1),(2,pI p2),(3,pI p3),(4,rr 1032),(8,rr 1064),(37,pB y1)] [(1032,bx (pm (Ab p0))),(AgO)]) (fun y1 => (Ja p0 p1 p2 p3) y1 = some RES) ?_ ?_
 ·intro y1 hm
  unfold Ja at hm
  refine Ah hm ?_ ?_
  ·intro h7 hm
   refine Sq (RD hnt (nn 3 []) [1,2,3,4,37] [(9,pI 1)] [1032] [] tv ?_)
   refine DW.cv [] [] [] [(Ads),(100000,ob0 (Ak [])),(100001,ob0 (At []))] (Conv.ads [(.o 1064 0,100000,6,elems Ar Bm []),(.o 1064 2,100001,4,elems Az Bu [])]) ?_
   obtain rfl := sj hm
   exact DW.ret (Ai [Ak [],At []] [100000,100001] (.tup [.agg [ow 0 0,pI 0,ow 1 0,pI 0],pI 1]))
  ·intro h7 hm
   refine Sk ?_
   obtain ⟨r8,hr8,hm⟩ := bo hm
   refine Sq (RD hnt (nn 3 (o80 [] true r8 :: nn 6 [])) [37] [(10,rr 1080),(11,pB r8.2)] [] [(1080,bx (pm (Ar r8.1)))] (an (Dn p0.tree p1 r8 hr8) tv) ?_)
   refine Sq (Sq (RD hnt (nn 2 []) [11] [(47,pB (!r8.2))] [] [] tv ?_))
   refine Ah hm ?_ ?_
   ·intro h9 hm
    refine Sq (RD hnt (nn 3 []) [1,2,3,4,10,47] [(9,pI 4)] [1032,1080] [] tv ?_)
    refine DW.cv [] [] [] [(Ads),(100000,ob0 (Ak [])),(100001,ob0 (At []))] (Conv.ads [(.o 1064 0,100000,6,elems Ar Bm []),(.o 1064 2,100001,4,elems Az Bu [])]) ?_
    obtain rfl := sj hm
    exact DW.ret (Ai [Ak [],At []] [100000,100001] (.tup [.agg [ow 0 0,pI 0,ow 1 0,pI 0],pI 4]))
   ·intro h9 hm
    refine Sk ?_
    obtain ⟨r10,hr10,hm⟩ := bo hm
    refine Sq (Sq (RD hnt (nn 4 (o95 [] true r10 :: nn 2 [])) [47] [(55,pB ((Ek .i64 p2 r10) != 0))] [] [] (an (Ko p0.tree p1 r10 hr10) tv) ?_))
    refine Ah hm ?_ ?_
    ·intro h11 hm
     refine Sq (RD hnt (nn 3 []) [1,2,3,4,10,55] [(9,pI 9)] [1032,1080] [] tv ?_)
     refine DW.cv [] [] [] [(Ads),(100000,ob0 (Ak [])),(100001,ob0 (At []))] (Conv.ads [(.o 1064 0,100000,6,elems Ar Bm []),(.o 1064 2,100001,4,elems Az Bu [])]) ?_
     obtain rfl := sj hm
     exact DW.ret (Ai [Ak [],At []] [100000,100001] (.tup [.agg [ow 0 0,pI 0,ow 1 0,pI 0],pI 9]))
    ·intro h11 hm
     refine Sk ?_
     obtain ⟨r12,hr12,hm⟩ := bo hm
     refine Sq (RD hnt (nn 3 (o86 [] true r12 :: .no :: [])) [55] [(12,ow 1480 r12.length)] [] [(1480,ob0 (roI r12))] (an (Sw p0.tree p1 r12 hr12) tv) ?_)
     refine Sq (Sq (RD hnt (.no :: []) [] [(13,pI 0)] [] [] tv ?_))
     refine Bk ?_
     obtain ⟨hc1,hm⟩ := go1 hm
     refine DW.rangeO (fun (k1 : Nat) (s1 : Unit) => Aj [(1,pI p1),(2,pI p2),(3,pI p3),(4,rr 1032),(8,rr 1064),(10,rr 1080),(12,ow 1480 r12.length),(13,pI ((k1 : Nat) : Int))] [(1032,bx (pm (Ab p0))),(AgO),(1080,bx (pm (Ar r8.1))),(1480,ob0 (roI r12))]) 0 hm Conv.eqK ?_
     intro k1 s1 n1 hk1 hs1 he1
     refine Sq (Sq (RD hnt (nn 4 []) [] [(64,pB (decide (((k1 : Nat) : Int) < ((r12.length : Nat) : Int))))] [] [] tv ?_))
     refine Cd (decide (((k1 : Nat) : Int) < ((r12.length : Nat) : Int))) ?_ ?_
     ·intro h35
      have hlt1 : k1 < r12.length := by have := of_decide_eq_true h35; omega
      have hm := hs1 hlt1
      unfold Aak at hm
      refine Sk ?_
      refine Sq (Bk ?_)
      obtain ⟨r36,hr36,hm⟩ := bo hm
      refine Sq (RD hnt (nn 6 (o80 [] true r36 :: nn 6 [])) [64] [(14,rr 1112)] [] [(1112,bx (pm (Ar r36.1)))] (an (nn0 k1) (an (ltc hlt1) (an (by omega : k1 < r12.length) (an (Dn p0.tree (r12.getD k1 0) r36 hr36) tv)))) ?_)
      refine Sq (RD hnt (nn 5 []) [14] [(81,pB ((kand .i64 r36.1.control p3) != 0))] [1112] [] tv ?_)
      refine Ah hm ?_ ?_
      ·intro h37 hm
       refine Sq (RD hnt (nn 3 []) [1,2,3,4,10,12,13,81] [(9,pI 9)] [1032,1080,1480] [] tv ?_)
       refine DW.cv [] [] [] [(Ads),(100000,ob0 (Ak [])),(100001,ob0 (At []))] (Conv.ads [(.o 1064 0,100000,6,elems Ar Bm []),(.o 1064 2,100001,4,elems Az Bu [])]) ?_
       obtain rfl := sj hm
       exact DW.ret (Ai [Ak [],At []] [100000,100001] (.tup [.agg [ow 0 0,pI 0,ow 1 0,pI 0],pI 9]))
      ·intro h37 hm
       refine Sk ?_
       refine DW.done ?_
       show DW _ _ _ _ _
       refine RD hnt (nn 3 []) [81] [(13,pI (w64 (((k1 : Nat) : Int) + 1)))] [] [] tv ?_
       exact jD () ⟨hlt1,hm⟩ (Conv.tp [(13,pI (w64 (((k1 : Nat) : Int) + 1)))] [] (by kernel_rfl) (.cons rfl (.of_eq (congrArg pI (Bo hlt1 hc1))) .nil) .nil)
     ·intro h35
      have hge1 : ¬ k1 < r12.length := by have := of_decide_eq_false h35; omega
      have hm := he1 hge1
      unfold Aaw at hm
      refine DW.exit ?_
      refine Ap ?_
      refine Au ?_
      refine Am ?_
      show DW _ _ _ _ _
      refine Sq (RD hnt (nn 3 []) [12,13,64] [(16,pI r8.1.control)] [1480] [] tv ?_)
      refine Sq (RD hnt (nn 7 []) [2,3] [] [] [(c101e3 r8 p3 p2)] tv ?_)
      refine Sq (Sq (RD hnt (nn 4 []) [] [(17,pI (kand .i64 (kor .i64 (Ek .i64 r8.1.control p3) p2) 6))] [] [] tv ?_))
      refine Sq ?_
      refine Jn (ι := Bool) (fun (y4 : Bool) => Aj [(4,rr 1032),(8,rr 1064),(10,rr 1080),(108,pB y4)] [(1032,bx (pm (Ab p0))),(AgO),(c101e3 r8 p3 p2)]) (fun y4 => (Mb p0 p2 p3 r8) y4 = some RES) ?_ ?_
      ·intro y4 hm
       unfold Mb at hm
       refine Ah hm ?_ ?_
       ·intro h41 hm
        refine Sq (RD hnt (nn 3 []) [4,10,108] [(9,pI 6)] [1032,1080] [] tv ?_)
        refine DW.cv [] [] [] [(Ads),(100000,ob0 (Ak [])),(100001,ob0 (At []))] (Conv.ads [(.o 1064 0,100000,6,elems Ar Bm []),(.o 1064 2,100001,4,elems Az Bu [])]) ?_
        obtain rfl := sj hm
        exact DW.ret (Ai [Ak [],At []] [100000,100001] (.tup [.agg [ow 0 0,pI 0,ow 1 0,pI 0],pI 6]))
       ·intro h41 hm
        refine Sk ?_
        obtain ⟨r42,hr42,hm⟩ := bo hm
        refine Sq (RD hnt (.no :: o103 [] true r42 :: nn 2 []) [108] [(18,rr 1144)] [] [(1144,bx [ow 1888 r42.tree.nodes.length,pI r42.tree.next,ow 1889 r42.tasks.length,pI r42.next]),(1888,ob0 (Ak r42.tree.nodes)),(1889,ob0 (At r42.tasks))] (an (Tz p0 r42 hr42) tv) ?_)
        obtain ⟨r43,hr43,hm⟩ := bo hm
        refine Sq (RD hnt (nn 3 (o104 [] true r43 :: nn 2 [])) [4,10] [] [1032,1080,1888] [(1144,bx [ow 1920 r43.nodes.length,pI r43.next,ow 1889 r42.tasks.length,pI r42.next]),(1920,ob0 (Ak r43.nodes))] (an (AaA p0.tree ({ id := r8.1.id,parent := r8.1.parent,name := r8.1.name,control := (kor .i64 (Ek .i64 r8.1.control p3) p2),kind := r8.1.kind,owner := r8.1.owner } : Ao) r43 hr43) tv) ?_)
        refine Sq (RD hnt (nn 3 []) [18] [(9,pI 0)] [1144] [(1064,bx [ow 1920 r43.nodes.length,pI r43.next,ow 1889 r42.tasks.length,pI r42.next])] tv ?_)
        obtain rfl := sj hm
        exact DW.ret (Ai [Ak r43.nodes,At r42.tasks] [1920,1889] (.tup [.agg [ow 0 r43.nodes.length,pI r43.next,ow 1 r42.tasks.length,pI r42.next],pI 0]))
      ·rcases bt ((Ek .i64 (kand .i64 (kor .i64 (Ek .i64 r8.1.control p3) p2) 6) r8.1.control) != 0) with h38 | h38
       ·replace hm := Bg h38 hm
        rcases bt (p1 != 1) with h39 | h39
        ·replace hm := Bg h39 hm
         obtain ⟨r40,hr40,hm⟩ := bo hm
         refine RD hnt (nn 7 (pT :: nn 3 (o97 [] true r40 :: nn 2 (pT :: [])))) [1,16,17] [(108,pB (decide (((r40.length : Nat) : Int) > 0)))] [] [] (an3 h38 (an3 h39 (an (Ny p0 p1 r40 hr40) (an3 h39 tv)))) ?_
         exact jD (decide (((r40.length : Nat) : Int) > 0)) hm Conv.eqK
        ·replace hm := Bf h39 hm
         refine RD hnt (nn 7 (pT :: .no :: sk 5 (pF :: []))) [1,16,17] [(108,pB false)] [] [] (an3 h38 (an6 h39 tv)) ?_
         exact jD false hm Conv.eqK
       ·replace hm := Bf h38 hm
        refine RD hnt (nn 5 (sk 2 (pF :: .no :: sk 5 (pF :: [])))) [1,16,17] [(108,pB false)] [] [] (an3 h38 (an6 ff tv)) ?_
        exact jD false hm Conv.eqK
 ·rcases bt (!r1) with h2 | h2
  ·replace hm := Bg h2 hm
   refine RD hnt (.no :: o92 [] true r1 :: nn 2 (sk 3 (pT :: .no :: sk 3 (pT :: .no :: sk 4 (pT :: []))))) [] [(37,pB true)] [] [] (an (Ov p0 r1 hr1) (an4 h2 (an3 tt (an6 tt tv)))) ?_
   exact jD true hm Conv.eqK
  ·replace hm := Bf h2 hm
   obtain ⟨r3,hr3,hm⟩ := bo hm
   rcases bt (!r3) with h4 | h4
   ·replace hm := Bg h4 hm
    refine RD hnt (.no :: o92 [] true r1 :: nn 3 (o102 [] true r3 :: .no :: pF :: .no :: sk 3 (pT :: .no :: sk 4 (pT :: [])))) [] [(37,pB true)] [] [] (an (Ov p0 r1 hr1) (an2 h2 (an (Sa p2 r3 hr3) (an2 h2 (an4 h4 (an5 tt tv)))))) ?_
    exact jD true hm Conv.eqK
   ·replace hm := Bf h4 hm
    obtain ⟨r5,hr5,hm⟩ := bo hm
    rcases bt (!r5) with h6 | h6
    ·replace hm := Bg h6 hm
     refine RD hnt (.no :: o92 [] true r1 :: nn 3 (o102 [] true r3 :: .no :: pF :: nn 2 (o102 [] true r5 :: .no :: pF :: .no :: sk 4 (pT :: [])))) [] [(37,pB true)] [] [] (an (Ov p0 r1 hr1) (an2 h2 (an (Sa p2 r3 hr3) (an2 h2 (an2 h4 (an (Sa p3 r5 hr5) (an2 h4 (an5 h6 tv)))))))) ?_
     exact jD true hm Conv.eqK
    ·replace hm := Bf h6 hm
     refine RD hnt (.no :: o92 [] true r1 :: nn 3 (o102 [] true r3 :: .no :: pF :: nn 2 (o102 [] true r5 :: .no :: pF :: nn 5 (pF :: [])))) [] [(37,pB ((kand .i64 p2 p3) != 0))] [] [] (an (Ov p0 r1 hr1) (an2 h2 (an (Sa p2 r3 hr3) (an2 h2 (an2 h4 (an (Sa p3 r5 hr5) (an2 h4 (an5 h6 tv)))))))) ?_
     exact jD ((kand .i64 p2 p3) != 0) hm Conv.eqK
abbrev o101 (ks : List Nat) (b : Bool) (RES : Aa × Int) (sm : List Nat := []) : Orc := .call 168 ks b (.tup [.agg [ow 0 RES.1.tree.nodes.length,pI RES.1.tree.next,ow 1 RES.1.tasks.length,pI RES.1.next],pI RES.2]) [] [Ak RES.1.tree.nodes,At RES.1.tasks] sm

abbrev c90e1 : Nat × Obj := (1064,bx [ow 100000 0,pI 0,ow 100001 0,pI 0])
theorem AgU (p0 : Aa) (p1 : Int) (p2 : Int) (p3 : Int) (RES : Aa × Int) (hm : Tr p0 p1 p2 p3 = some RES) : Spec Tryz.prog 118 [.p (.agg (Ab p0)),pI p1,pI p2,pI p3] [] (.tup [.agg [ow 0 RES.1.tree.nodes.length,pI RES.1.tree.next,ow 1 RES.1.tasks.length,pI RES.1.next],pI RES.2]) [] [Ak RES.1.tree.nodes,At RES.1.tasks] := by
 unfold Tr at hm
 refine SO Tryz.func118 rfl rfl [(0,.p (.agg (Ab p0))),(1,pI p1),(2,pI p2),(3,pI p3)] [] ?_
 intro cx hnt
 refine Sq (RD hnt (nn 3 []) [0] [(4,rr 1032),(8,rr 1064)] [] [(1032,bx (pm (Ab p0))),(1064,bx [.p (.sl .nil 0 0 (fun _ => [])),pI 0,.p (.sl .nil 0 0 (fun _ => [])),pI 0])] tv ?_)
 obtain ⟨r1,hr1,hm⟩ := bo hm
 refine Sq (Sq (RD hnt (.no :: o91 [] true r1 :: .no :: []) [] [(14,pB (!r1))] [] [] (an (Ms p0 r1 hr1) tv) ?_))
 refine Ah hm ?_ ?_
 ·intro h2 hm
  refine Sq (RD hnt (nn 3 []) [1,2,3,4,14] [(9,pI 1)] [1032] [] tv ?_)
  refine DW.cv [] [] [] [(c90e1),(100000,ob0 (Ak [])),(100001,ob0 (At []))] (Conv.ads [(.o 1064 0,100000,6,elems Ar Bm []),(.o 1064 2,100001,4,elems Az Bu [])]) ?_
  obtain rfl := sj hm
  exact DW.ret (Ai [Ak [],At []] [100000,100001] (.tup [.agg [ow 0 0,pI 0,ow 1 0,pI 0],pI 1]))
 ·intro h2 hm
  refine Sk ?_
  obtain ⟨r3,hr3,hm⟩ := bo hm
  refine Sq (RD hnt (nn 4 (o101 [] true r3 :: nn 6 [])) [1,2,3,4,14] [(10,rr 1080),(11,pI r3.2)] [1032] [(1080,bx [ow 1168 r3.1.tree.nodes.length,pI r3.1.tree.next,ow 1169 r3.1.tasks.length,pI r3.1.next]),(1168,ob0 (Ak r3.1.tree.nodes)),(1169,ob0 (At r3.1.tasks))] (an (AhA p0 p1 p2 p3 r3 hr3) tv) ?_)
  refine Sq (Sq (RD hnt (nn 2 []) [] [(25,pB (r3.2 != 0))] [] [] tv ?_))
  refine Ah hm ?_ ?_
  ·intro h4 hm
   refine Sq (RD hnt (nn 4 []) [10,11,25] [(9,pI r3.2)] [1080,1168,1169] [] tv ?_)
   refine DW.cv [] [] [] [(c90e1),(100000,ob0 (Ak [])),(100001,ob0 (At []))] (Conv.ads [(.o 1064 0,100000,6,elems Ar Bm []),(.o 1064 2,100001,4,elems Az Bu [])]) ?_
   obtain rfl := sj hm
   exact DW.ret (Ai [Ak [],At []] [100000,100001] (.tup [.agg [ow 0 0,pI 0,ow 1 0,pI 0],pI r3.2]))
  ·intro h4 hm
   refine Sk ?_
   obtain ⟨r5,hr5,hm⟩ := bo hm
   refine Sq (Sq (RD hnt (.no :: o91 [] true r5 :: .no :: []) [11,25] [(30,pB (!r5))] [] [] (an (Ms r3.1 r5 hr5) tv) ?_))
   refine Ah hm ?_ ?_
   ·intro h6 hm
    refine Sq (RD hnt (nn 3 []) [10,30] [(9,pI 10)] [1080,1168,1169] [] tv ?_)
    refine DW.cv [] [] [] [(c90e1),(100000,ob0 (Ak [])),(100001,ob0 (At []))] (Conv.ads [(.o 1064 0,100000,6,elems Ar Bm []),(.o 1064 2,100001,4,elems Az Bu [])]) ?_
    obtain rfl := sj hm
    exact DW.ret (Ai [Ak [],At []] [100000,100001] (.tup [.agg [ow 0 0,pI 0,ow 1 0,pI 0],pI 10]))
   ·intro h6 hm
    refine Sk ?_
    refine Sq (RD hnt (nn 3 []) [10,30] [(9,pI 0)] [1080] [(1064,bx [ow 1168 r3.1.tree.nodes.length,pI r3.1.tree.next,ow 1169 r3.1.tasks.length,pI r3.1.next])] tv ?_)
    obtain rfl := sj hm
    exact DW.ret (Ai [Ak r3.1.tree.nodes,At r3.1.tasks] [1168,1169] (.tup [.agg [ow 0 r3.1.tree.nodes.length,pI r3.1.tree.next,ow 1 r3.1.tasks.length,pI r3.1.next],pI 0]))
abbrev o90 (ks : List Nat) (b : Bool) (RES : Aa × Int) (sm : List Nat := []) : Orc := .call 118 ks b (.tup [.agg [ow 0 RES.1.tree.nodes.length,pI RES.1.tree.next,ow 1 RES.1.tasks.length,pI RES.1.next],pI RES.2]) [] [Ak RES.1.tree.nodes,At RES.1.tasks] sm

abbrev Agv : Nat × Obj := (1032,bx [.p (.sl .nil 0 0 (fun _ => [])),pI 0,.p (.sl .nil 0 0 (fun _ => [])),pI 0])
abbrev Acr : Nat × Obj := (1032,bx [ow 100000 0,pI 0,ow 100001 0,pI 0])
theorem AfT (p0 : Aa) (p1 : Int) (RES : Aa × Int) (hm : Rp p0 p1 = some RES) : Spec Tryz.prog 120 [.p (.agg (Ab p0)),pI p1] [] (.tup [.agg [ow 0 RES.1.tree.nodes.length,pI RES.1.tree.next,ow 1 RES.1.tasks.length,pI RES.1.next],pI RES.2]) [] [Ak RES.1.tree.nodes,At RES.1.tasks] := by
 unfold Rp at hm
 refine SO Tryz.func120 rfl rfl [(0,.p (.agg (Ab p0))),(1,pI p1)] [] ?_
 intro cx hnt
 refine Sq (RK hnt (nn 3 []) [(1,pI p1),(2,rr 1016),(4,rr 1032)] [(1016,bx (pm (Ab p0))),(Agv)] tv ?_)
 obtain ⟨r1,hr1,hm⟩ := bo hm
 refine Sq (Sq (RD hnt (.no :: o91 [] true r1 :: .no :: []) [] [(13,pB (!r1))] [] [] (an (Ms p0 r1 hr1) tv) ?_))
 refine Ah hm ?_ ?_
 ·intro h2 hm
  refine Sq (RD hnt (nn 3 []) [1,2,13] [(5,pI 1)] [1016] [] tv ?_)
  refine DW.cv [] [] [] [(Acr),(100000,ob0 (Ak [])),(100001,ob0 (At []))] (Conv.ads [(.o 1032 0,100000,6,elems Ar Bm []),(.o 1032 2,100001,4,elems Az Bu [])]) ?_
  obtain rfl := sj hm
  exact DW.ret (Ai [Ak [],At []] [100000,100001] (.tup [.agg [ow 0 0,pI 0,ow 1 0,pI 0],pI 1]))
 ·intro h2 hm
  refine Sk ?_
  obtain ⟨r3,hr3,hm⟩ := bo hm
  refine Sq (RD hnt (nn 3 (o80 [] true r3 :: nn 6 [])) [13] [(6,rr 1048),(7,pB r3.2)] [] [(1048,bx (pm (Ar r3.1)))] (an (Dn p0.tree p1 r3 hr3) tv) ?_)
  refine Sq (Sq (RD hnt (nn 2 []) [7] [(23,pB (!r3.2))] [] [] tv ?_))
  refine Ah hm ?_ ?_
  ·intro h4 hm
   refine Sq (RD hnt (nn 3 []) [1,2,6,23] [(5,pI 4)] [1016,1048] [] tv ?_)
   refine DW.cv [] [] [] [(Acr),(100000,ob0 (Ak [])),(100001,ob0 (At []))] (Conv.ads [(.o 1032 0,100000,6,elems Ar Bm []),(.o 1032 2,100001,4,elems Az Bu [])]) ?_
   obtain rfl := sj hm
   exact DW.ret (Ai [Ak [],At []] [100000,100001] (.tup [.agg [ow 0 0,pI 0,ow 1 0,pI 0],pI 4]))
  ·intro h4 hm
   refine Sk ?_
   refine Sq (Sq (DW.regJ (sl2 := [(1,pI p1),(2,rr 1016),(4,rr 1032),(6,rr 1048),(31,pB ((p1 == 1) || (r3.1.kind == 1)))]) (ob2 := [(1016,bx (pm (Ab p0))),(Agv),(1048,bx (pm (Ar r3.1)))]) ?_ ?_))
   ·rcases bt (p1 == 1) with h5 | h5
    ·exact RT hnt (nn 3 (sk 3 (pT :: []))) [(31,pB true)] (an4 h5 tv) (by kernel_rfl) (.cons rfl (.of_eq (by rw [h5]; try rfl)) .nil)
    ·exact RT hnt (nn 6 (pF :: [])) [(31,pB (r3.1.kind == 1))] (an4 h5 tv) (by kernel_rfl) (.cons rfl (.of_eq (by rw [h5]; try rfl)) .nil)
   ·refine Ah hm ?_ ?_
    ·intro h6 hm
     refine Sq (RD hnt (nn 3 []) [1,2,6,31] [(5,pI 9)] [1016,1048] [] tv ?_)
     refine DW.cv [] [] [] [(Acr),(100000,ob0 (Ak [])),(100001,ob0 (At []))] (Conv.ads [(.o 1032 0,100000,6,elems Ar Bm []),(.o 1032 2,100001,4,elems Az Bu [])]) ?_
     obtain rfl := sj hm
     exact DW.ret (Ai [Ak [],At []] [100000,100001] (.tup [.agg [ow 0 0,pI 0,ow 1 0,pI 0],pI 9]))
    ·intro h6 hm
     refine Sk ?_
     obtain ⟨r7,hr7,hm⟩ := bo hm
     refine Sq (RD hnt (nn 4 (o80 [] true r7 :: nn 6 [])) [31] [(8,rr 1064)] [] [(1064,bx (pm (Ar r7.1)))] (an (Dn p0.tree r3.1.parent r7 hr7) tv) ?_)
     obtain ⟨r8,hr8,hm⟩ := bo hm
     refine Sq (Sq ?_)
     refine Jn (ι := Bool) (fun (y1 : Bool) => Aj [(1,pI p1),(2,rr 1016),(4,rr 1032),(6,rr 1048),(57,pB y1)] [(1016,bx (pm (Ab p0))),(Agv),(1048,bx (pm (Ar r3.1)))]) (fun y1 => (Jz p0 p1 r3) y1 = some RES) ?_ ?_
     ·intro y1 hm
      unfold Jz at hm
      refine Ah hm ?_ ?_
      ·intro h11 hm
       refine Sq (RD hnt (nn 3 []) [1,2,6,57] [(5,pI 10)] [1016,1048] [] tv ?_)
       refine DW.cv [] [] [] [(Acr),(100000,ob0 (Ak [])),(100001,ob0 (At []))] (Conv.ads [(.o 1032 0,100000,6,elems Ar Bm []),(.o 1032 2,100001,4,elems Az Bu [])]) ?_
       obtain rfl := sj hm
       exact DW.ret (Ai [Ak [],At []] [100000,100001] (.tup [.agg [ow 0 0,pI 0,ow 1 0,pI 0],pI 10]))
      ·intro h11 hm
       refine Sk ?_
       refine Sq (Sq (RD hnt (nn 4 []) [57] [(62,pB ((kand .i64 r3.1.control 6) != 0))] [] [] tv ?_))
       refine Ah hm ?_ ?_
       ·intro h12 hm
        refine Sq (RD hnt (nn 3 []) [1,2,6,62] [(5,pI 9)] [1016,1048] [] tv ?_)
        refine DW.cv [] [] [] [(Acr),(100000,ob0 (Ak [])),(100001,ob0 (At []))] (Conv.ads [(.o 1032 0,100000,6,elems Ar Bm []),(.o 1032 2,100001,4,elems Az Bu [])]) ?_
        obtain rfl := sj hm
        exact DW.ret (Ai [Ak [],At []] [100000,100001] (.tup [.agg [ow 0 0,pI 0,ow 1 0,pI 0],pI 9]))
       ·intro h12 hm
        refine Sk ?_
        refine Sq (RD hnt (nn 2 []) [62] [] [] [(1048,bx [pI r3.1.id,pI r3.1.parent,pS r3.1.name,pI r3.1.control,pI 1,pI r3.1.owner])] tv ?_)
        obtain ⟨r13,hr13,hm⟩ := bo hm
        refine Sq (RD hnt (.no :: o103 [] true r13 :: nn 2 []) [] [(10,rr 1080)] [] [(1080,bx [ow 1528 r13.tree.nodes.length,pI r13.tree.next,ow 1529 r13.tasks.length,pI r13.next]),(1528,ob0 (Ak r13.tree.nodes)),(1529,ob0 (At r13.tasks))] (an (Tz p0 r13 hr13) tv) ?_)
        obtain ⟨r14,hr14,hm⟩ := bo hm
        refine Sq (RD hnt (nn 3 (o104 [] true r14 :: nn 2 [])) [6] [] [1048,1528] [(1080,bx [ow 1560 r14.nodes.length,pI r14.next,ow 1529 r13.tasks.length,pI r13.next]),(1560,ob0 (Ak r14.nodes))] (an (AaA p0.tree ({ id := r3.1.id,parent := r3.1.parent,name := r3.1.name,control := r3.1.control,kind := 1,owner := r3.1.owner } : Ao) r14 hr14) tv) ?_)
        obtain ⟨r15,hr15,hm⟩ := bo hm
        refine Sq (Sq ?_)
        refine Jn (ι := Bool) (fun (y2 : Bool) => Aj [(4,rr 1032),(10,rr 1080),(81,pB y2)] [(Agv),(1080,bx [ow 1560 r14.nodes.length,pI r14.next,ow 1529 r13.tasks.length,pI r13.next]),(1529,ob0 (At r13.tasks)),(1560,ob0 (Ak r14.nodes))]) (fun y2 => (Oh r13 r14) y2 = some RES) ?_ ?_
        ·intro y2 hm
         unfold Oh at hm
         refine Ah hm ?_ ?_
         ·intro h18 hm
          refine Sq (RD hnt (nn 3 []) [10,81] [(5,pI 6)] [1080,1529,1560] [] tv ?_)
          refine DW.cv [] [] [] [(Acr),(100000,ob0 (Ak [])),(100001,ob0 (At []))] (Conv.ads [(.o 1032 0,100000,6,elems Ar Bm []),(.o 1032 2,100001,4,elems Az Bu [])]) ?_
          obtain rfl := sj hm
          exact DW.ret (Ai [Ak [],At []] [100000,100001] (.tup [.agg [ow 0 0,pI 0,ow 1 0,pI 0],pI 6]))
         ·intro h18 hm
          refine Sk ?_
          refine Sq (RD hnt (nn 3 []) [10,81] [(5,pI 0)] [1080] [(1032,bx [ow 1560 r14.nodes.length,pI r14.next,ow 1529 r13.tasks.length,pI r13.next])] tv ?_)
          obtain rfl := sj hm
          exact DW.ret (Ai [Ak r14.nodes,At r13.tasks] [1560,1529] (.tup [.agg [ow 0 r14.nodes.length,pI r14.next,ow 1 r13.tasks.length,pI r13.next],pI 0]))
        ·rcases bt (decide (((r15.length : Nat) : Int) > 0)) with h16 | h16
         ·replace hm := Bg h16 hm
          refine RD hnt (nn 2 (o97 [] true r15 :: nn 3 (sk 3 (pT :: [])))) [1,2] [(81,pB true)] [1016] [] (an (Ny p0 p1 r15 hr15) (an4 h16 tv)) ?_
          exact jD true hm Conv.eqK
         ·replace hm := Bf h16 hm
          obtain ⟨r17,hr17,hm⟩ := bo hm
          refine RD hnt (nn 2 (o97 [] true r15 :: nn 4 (o91 [] true r17 :: .no :: pF :: []))) [1,2] [(81,pB (!r17))] [1016] [] (an (Ny p0 p1 r15 hr15) (an2 h16 (an (Ms ({ tree := r14,tasks := r13.tasks,next := r13.next } : Aa) r17 hr17) (an2 h16 tv)))) ?_
          exact jD (!r17) hm Conv.eqK
     ·rcases bt (r8 == 3) with h9 | h9
      ·replace hm := Bg h9 hm
       refine RD hnt (nn 4 (o100 [] true r8 :: nn 2 (sk 9 (pT :: [])))) [8] [(57,pB true)] [1064] [] (an (Ia p0.tree r7.1.id r8 hr8) (an6 h9 tv)) ?_
       exact jD true hm Conv.eqK
      ·replace hm := Bf h9 hm
       rcases bt (r7.1.id != 1) with h10 | h10
       ·replace hm := Bg h10 hm
        refine RD hnt (nn 4 (o100 [] true r8 :: nn 10 (pT :: pF :: []))) [8] [(57,pB ((kand .i64 r7.1.control 6) != 0))] [1064] [] (an (Ia p0.tree r7.1.id r8 hr8) (an4 h9 (an4 h10 (an h9 (an h10 (an h9 tv)))))) ?_
        exact jD ((kand .i64 r7.1.control 6) != 0) hm Conv.eqK
       ·replace hm := Bf h10 hm
        refine RD hnt (nn 4 (o100 [] true r8 :: nn 6 (sk 4 (pF :: pF :: [])))) [8] [(57,pB false)] [1064] [] (an (Ia p0.tree r7.1.id r8 hr8) (an4 h9 (an4 h10 (an h9 (an h10 (an h9 tv)))))) ?_
        exact jD false hm Conv.eqK
abbrev o105 (ks : List Nat) (b : Bool) (RES : Aa × Int) (sm : List Nat := []) : Orc := .call 120 ks b (.tup [.agg [ow 0 RES.1.tree.nodes.length,pI RES.1.tree.next,ow 1 RES.1.tasks.length,pI RES.1.next],pI RES.2]) [] [Ak RES.1.tree.nodes,At RES.1.tasks] sm

abbrev c87e1 : Nat × Obj := (1032,bx [.p (.sl .nil 0 0 (fun _ => [])),pI 0,.p (.sl .nil 0 0 (fun _ => [])),pI 0])
theorem Aed (p0 : Aq) (p1 : Aa) (RES : Aa × Aq) (hm : Nu p0 p1 = some RES) : Spec Tryz.prog 65 [rr 0,.p (.agg (Ab p1))] [.box (pm (An p0))] (.p (.agg (Ab RES.1))) [.box (pm (An RES.2))] [] := by
 unfold Nu at hm
 refine SO Tryz.func65 rfl rfl [(0,rr 0),(1,.p (.agg (Ab p1)))] [(0,bx (pm (An p0)))] ?_
 intro cx hnt
 refine Sq (RD hnt (nn 2 []) [1] [(3,rr 1024),(4,rr 1032)] [] [(1024,bx (pm (Ab p1))),(c87e1)] tv ?_)
 obtain ⟨r1,hr1,hm⟩ := bo hm
 refine Sq (RD hnt (nn 3 (o88 [0] true r1 :: .no :: [])) [] [(5,pI r1.1)] [] [(0,bx (pm (An r1.2)))] (an (Gn p0 p1.tree r1 hr1) (an tv tv)) ?_)
 obtain ⟨r2,hr2,hm⟩ := bo hm
 refine Sq (Sq (RD hnt (.no :: o72 [0] true r2 :: []) [] [(17,pI r2.1)] [] [(0,bx (pm (An r2.2)))] (an (Bp r1.2 5 r2 hr2) (an tv tv)) ?_))
 refine Jn (ι := Aq × Aa) (fun (y1 : Aq × Aa) => Aj [(3,rr 1024),(4,rr 1032)] [(0,bx (pm (An y1.1))),(1024,bx (pm (Ab y1.2))),(c87e1)]) (fun y1 => Gw y1 = some RES) ?_ ?_
 ·intro y1 hm
  unfold Gw at hm
  refine Sq (RD hnt (nn 2 []) [3] [] [1024] [(1032,bx (pm (Ab y1.2)))] tv ?_)
  obtain rfl := sj hm
  exact DW.ret (Ai [.box (pm (An y1.1))] [] (.p (.agg (Ab y1.2))))
 ·refine Bk ?_
  refine Sq (Sq (RD hnt (nn 2 []) [] [(18,pB (r2.1 == 0))] [] [] tv ?_))
  refine Jn (ι := Bool) (fun (y2 : Bool) => Aj [(0,rr 0),(3,rr 1024),(4,rr 1032),(5,pI r1.1),(17,pI r2.1),(18,pB y2)] [(0,bx (pm (An r2.2))),(1024,bx (pm (Ab p1))),(c87e1)]) (fun y2 => (Jt p1 r1 r2) y2 = some RES) ?_ ?_
  ·intro y2 hm
   unfold Jt at hm
   refine Ah hm ?_ ?_
   ·intro h4 hm
    obtain ⟨r5,hr5,hm⟩ := bo hm
    obtain ⟨r6,hr6,hm⟩ := bo hm
    refine Sq (RD hnt (nn 3 (o89 [0] true r5 :: o90 [] true r6 :: nn 6 [])) [0,5,17,18] [(6,rr 1048),(7,pI r6.2)] [] [(0,bx (pm (An r5.2))),(1048,bx [ow 1208 r6.1.tree.nodes.length,pI r6.1.tree.next,ow 1209 r6.1.tasks.length,pI r6.1.next]),(1208,ob0 (Ak r6.1.tree.nodes)),(1209,ob0 (At r6.1.tasks))] (an (Zk r2.2 r5 hr5) (an tv (an (AgU p1 r1.1 r5.1 0 r6 hr6) tv))) ?_)
    refine Sq (RD hnt (nn 2 []) [7] [(30,pB (r6.2 == 0))] [] [] tv ?_)
    refine Ah hm ?_ ?_
    ·intro h7 hm
     refine Sq (RD hnt (nn 2 []) [3,6,30] [] [1024,1048] [(1032,bx [ow 1208 r6.1.tree.nodes.length,pI r6.1.tree.next,ow 1209 r6.1.tasks.length,pI r6.1.next])] tv ?_)
     obtain rfl := sj hm
     exact DW.ret (Ai [.box (pm (An r5.2))] [] (.p (.agg (Ab r6.1))))
    ·intro h7 hm
     refine Sk ?_
     exact bD (r5.2,p1) hm Conv.t0
   ·intro h4 hm
    refine Sq (RD hnt (nn 2 []) [18] [(32,pB (r2.1 == 2))] [] [] tv ?_)
    refine Ah hm ?_ ?_
    ·intro h8 hm
     obtain ⟨r9,hr9,hm⟩ := bo hm
     refine Sq (RD hnt (nn 2 (o105 [] true r9 :: nn 6 [])) [0,5,17,32] [(8,rr 1064),(9,pI r9.2)] [] [(1064,bx [ow 1296 r9.1.tree.nodes.length,pI r9.1.tree.next,ow 1297 r9.1.tasks.length,pI r9.1.next]),(1296,ob0 (Ak r9.1.tree.nodes)),(1297,ob0 (At r9.1.tasks))] (an (AfT p1 r1.1 r9 hr9) tv) ?_)
     refine Sq (RD hnt (nn 2 []) [9] [(41,pB (r9.2 == 0))] [] [] tv ?_)
     refine Ah hm ?_ ?_
     ·intro h10 hm
      refine Sq (RD hnt (nn 2 []) [3,8,41] [] [1024,1064] [(1032,bx [ow 1296 r9.1.tree.nodes.length,pI r9.1.tree.next,ow 1297 r9.1.tasks.length,pI r9.1.next])] tv ?_)
      obtain rfl := sj hm
      exact DW.ret (Ai [.box (pm (An r2.2))] [] (.p (.agg (Ab r9.1))))
     ·intro h10 hm
      refine Sk ?_
      exact bD (r2.2,p1) hm Conv.t0
    ·intro h8 hm
     refine Sq (RD hnt (nn 2 []) [17,32] [(43,pB (r2.1 == 3))] [] [] tv ?_)
     refine Ah hm ?_ ?_
     ·intro h11 hm
      obtain ⟨r12,hr12,hm⟩ := bo hm
      refine Sq (RD hnt (nn 3 (o80 [] true r12 :: nn 6 [])) [43] [(10,rr 1080),(11,pB r12.2)] [] [(1080,bx (pm (Ar r12.1)))] (an (Dn p1.tree r1.1 r12 hr12) tv) ?_)
      refine Sq (DW.regJ (sl2 := [(0,rr 0),(3,rr 1024),(4,rr 1032),(10,rr 1080),(56,pB (r12.2 && (r1.1 != 1)))]) (ob2 := [(0,bx (pm (An r2.2))),(1024,bx (pm (Ab p1))),(c87e1),(1080,bx (pm (Ar r12.1)))]) ?_ ?_)
      ·rcases bt r12.2 with h13 | h13
       ·exact RT hnt (nn 4 (pT :: [])) [(56,pB (r1.1 != 1))] (an3 h13 tv) (by kernel_rfl) (.cons rfl (.of_eq (by rw [h13]; try rfl)) .nil)
       ·exact RT hnt (nn 2 (sk 2 (pF :: []))) [(56,pB false)] (an3 h13 tv) (by kernel_rfl) (.cons rfl (.of_eq (by rw [h13]; try rfl)) .nil)
      ·refine Ah hm ?_ ?_
       ·intro h14 hm
        obtain ⟨r15,hr15,hm⟩ := bo hm
        refine Sq (RD hnt (.no :: o72 [0] true r15 :: nn 2 []) [0,56] [] [] [(0,bx (pm (An r15.2))),(1080,bx [pI r12.1.id,pI r12.1.parent,pS r12.1.name,pI r12.1.control,pI r12.1.kind,pI r15.1])] (an (Bp r2.2 3 r15 hr15) (an tv tv)) ?_)
        obtain ⟨r16,hr16,hm⟩ := bo hm
        refine RD hnt (nn 3 (o104 [] true r16 :: nn 2 [])) [10] [] [1080] [(1024,bx [ow 1504 r16.nodes.length,pI r16.next,.p (Be p1.tasks),pI p1.next]),(1504,ob0 (Ak r16.nodes))] (an (AaA p1.tree ({ id := r12.1.id,parent := r12.1.parent,name := r12.1.name,control := r12.1.control,kind := r12.1.kind,owner := r15.1 } : Ao) r16 hr16) tv) ?_
        exact bD (r15.2,({ tree := r16,tasks := p1.tasks,next := p1.next } : Aa)) hm (Conv.frz [1504])
       ·intro h14 hm
        refine Sk ?_
        exact bD (r2.2,p1) hm Conv.t0
     ·intro h11 hm
      refine Sk ?_
      exact bD (r2.2,p1) hm Conv.t0
  ·refine Ah hm ?_ ?_
   ·intro h3 hm
    refine Sk ?_
    exact jD (r2.1 == 0) hm Conv.eqK
   ·intro h3 hm
    refine RD hnt (nn 2 []) [] [(18,pB (r2.1 == 1))] [] [] tv ?_
    exact jD (r2.1 == 1) hm Conv.eqK
abbrev o87 (ks : List Nat) (b : Bool) (RES : Aa × Aq) (sm : List Nat := []) : Orc := .call 65 ks b (.p (.agg (Ab RES.1))) [.box (pm (An RES.2))] [] sm

theorem Abk (p0 : Aa) (p1 : Int) (RES : Int) (hm : Qh p0 p1 = some RES) : Spec Tryz.prog 66 [.p (.agg (Ab p0)),pI p1] [] (pI RES) [] [] := by
 unfold Qh at hm
 refine SO Tryz.func66 rfl rfl [(0,.p (.agg (Ab p0))),(1,pI p1)] [] ?_
 intro cx hnt
 refine Sq (RK hnt (nn 2 []) [(1,pI p1),(2,rr 1016)] [(1016,bx (pm (Ab p0)))] tv ?_)
 obtain ⟨r1,hr1,hm⟩ := bo hm
 refine Sq (Sq (RD hnt (.no :: o91 [] true r1 :: .no :: []) [] [(9,pB (!r1))] [] [] (an (Ms p0 r1 hr1) tv) ?_))
 refine Ah hm ?_ ?_
 ·intro h2 hm
  refine Sq (RK hnt (.no :: []) [(4,pI 1)] [] tv ?_)
  obtain rfl := sj hm
  exact DW.ret (Ai [] [] (pI 1))
 ·intro h2 hm
  refine Sk ?_
  obtain ⟨r3,hr3,hm⟩ := bo hm
  refine Sq (RD hnt (nn 3 (o80 [] true r3 :: nn 6 [])) [9] [(5,rr 1040),(6,pB r3.2)] [] [(1040,bx (pm (Ar r3.1)))] (an (Dn p0.tree p1 r3 hr3) tv) ?_)
  refine Sq (Bk ?_)
  refine Sq (RD hnt (nn 3 []) [6] [(17,pB (!r3.2))] [] [] tv ?_)
  refine Ah hm ?_ ?_
  ·intro h4 hm
   refine Sq (RK hnt (.no :: []) [(4,pI 4)] [] tv ?_)
   obtain rfl := sj hm
   exact DW.ret (Ai [] [] (pI 4))
  ·intro h4 hm
   obtain ⟨r5,hr5,hm⟩ := bo hm
   refine Sq (RD hnt (nn 3 (o100 [] true r5 :: nn 2 [])) [2,17] [(20,pB (r5 == 3))] [1016] [] (an (Ia p0.tree p1 r5 hr5) tv) ?_)
   refine Ah hm ?_ ?_
   ·intro h6 hm
    refine Sq (RK hnt (.no :: []) [(4,pI 10)] [] tv ?_)
    obtain rfl := sj hm
    exact DW.ret (Ai [] [] (pI 10))
   ·intro h6 hm
    refine Sq (DW.regJ (sl2 := [(26,pB ((p1 != 1) && ((kand .i64 r3.1.control 6) != 0)))]) (ob2 := []) ?_ ?_)
    ·rcases bt (p1 != 1) with h7 | h7
     ·exact RT hnt (nn 7 (pT :: .no :: [])) [(26,pB ((kand .i64 r3.1.control 6) != 0))] (an5 h7 tv) (by kernel_rfl) (.cons rfl (.of_eq (by rw [h7]; try rfl)) .nil)
     ·exact RT hnt (nn 3 (sk 4 (pF :: .no :: []))) [(26,pB false)] (an5 h7 tv) (by kernel_rfl) (.cons rfl (.of_eq (by rw [h7]; try rfl)) .nil)
    ·refine Ah hm ?_ ?_
     ·intro h8 hm
      refine Sq (RK hnt (.no :: []) [(4,pI 6)] [] tv ?_)
      obtain rfl := sj hm
      exact DW.ret (Ai [] [] (pI 6))
     ·intro h8 hm
      refine Sk ?_
      refine DW.done ?_
      show DW _ _ _ _ _
      refine Sq (RK hnt (.no :: []) [(4,pI 0)] [] tv ?_)
      obtain rfl := sj hm
      exact DW.ret (Ai [] [] (pI 0))
abbrev o106 (ks : List Nat) (b : Bool) (RES : Int) (sm : List Nat := []) : Orc := .call 66 ks b (pI RES) [] [] sm

abbrev AgE : Nat × Obj := (1032,bx [.p (.sl .nil 0 0 (fun _ => [])),pI 0,.p (.sl .nil 0 0 (fun _ => [])),pI 0])
abbrev c108e2 (r3 : Aa) : Nat × Obj := (1056,bx [ow 1152 r3.tree.nodes.length,pI r3.tree.next,ow 1153 r3.tasks.length,pI r3.next])
theorem Ael (p0 : Aa) (p1 : Aw) (RES : Aa × Int × Int) (hm : Wr p0 p1 = some RES) : Spec Tryz.prog 125 [.p (.agg (Ab p0)),.p (.agg (Az p1))] [] (.tup [.agg [ow 0 RES.1.tree.nodes.length,pI RES.1.tree.next,ow 1 RES.1.tasks.length,pI RES.1.next],pI RES.2.1,pI RES.2.2]) [] [Ak RES.1.tree.nodes,At RES.1.tasks] := by
 unfold Wr at hm
 refine SO Tryz.func125 rfl rfl [(0,.p (.agg (Ab p0))),(1,.p (.agg (Az p1)))] [] ?_
 intro cx hnt
 refine Sq (RK hnt (nn 5 []) [(2,rr 1016),(3,rr 1024),(4,rr 1032)] [(1016,bx (pm (Ab p0))),(1024,bx (pm (Az p1))),(AgE)] tv ?_)
 refine Sq (Sq (DW.regJ (sl2 := [(2,rr 1016),(3,rr 1024),(4,rr 1032),(16,pB ((decide (((p0.tasks.length : Nat) : Int) ≥ 128)) || (decide (p0.next > 2147483647))))]) (ob2 := [(1016,bx (pm (Ab p0))),(1024,bx (pm (Az p1))),(AgE)]) ?_ ?_))
 ·rcases bt (decide (((p0.tasks.length : Nat) : Int) ≥ 128)) with h1 | h1
  ·exact RT hnt (nn 5 (sk 3 (pT :: []))) [(16,pB true)] (an4 h1 tv) (by kernel_rfl) (.cons rfl (.of_eq (by rw [h1]; try rfl)) .nil)
  ·exact RT hnt (nn 8 (pF :: [])) [(16,pB (decide (p0.next > 2147483647)))] (an4 h1 tv) (by kernel_rfl) (.cons rfl (.of_eq (by rw [h1]; try rfl)) .nil)
 ·refine Ah hm ?_ ?_
  ·intro h2 hm
   refine Sq (RD hnt (nn 4 []) [2,3,16] [(5,pI 0),(6,pI 7)] [1016,1024] [] tv ?_)
   refine DW.cv [] [] [] [(1032,bx [ow 100000 0,pI 0,ow 100001 0,pI 0]),(100000,ob0 (Ak [])),(100001,ob0 (At []))] (Conv.ads [(.o 1032 0,100000,6,elems Ar Bm []),(.o 1032 2,100001,4,elems Az Bu [])]) ?_
   obtain rfl := sj hm
   exact DW.ret (Ai [Ak [],At []] [100000,100001] (.tup [.agg [ow 0 0,pI 0,ow 1 0,pI 0],pI 0,pI 7]))
  ·intro h2 hm
   refine Sk ?_
   obtain ⟨r3,hr3,hm⟩ := bo hm
   refine Sq (RD hnt (.no :: o103 [] true r3 :: nn 2 []) [16] [(7,rr 1056)] [] [(c108e2 r3),(1152,ob0 (Ak r3.tree.nodes)),(1153,ob0 (At r3.tasks))] (an (Tz p0 r3 hr3) tv) ?_)
   refine Sq (RD hnt (nn 4 []) [2] [] [1016] [(1024,bx [pI p0.next,pI p1.process,pI p1.group,pI p1.user])] tv ?_)
   refine Sq (Sq (RD hnt (nn 3 []) [] [(25,pB (p1.process == 0))] [] [] tv ?_))
   refine Jn (ι := Aw) (fun (y1 : Aw) => Aj [(3,rr 1024),(4,rr 1032),(7,rr 1056)] [(1024,bx (pm (Az y1))),(AgE),(c108e2 r3),(1152,ob0 (Ak r3.tree.nodes)),(1153,ob0 (At r3.tasks))]) (fun y1 => (Ur r3) y1 = some RES) ?_ ?_
   ·intro y1 hm
    unfold Ur at hm
    obtain ⟨g5,hm⟩ := go1 hm
    refine Sq (RN hnt (nn 7 []) [(3,rr 1024),(4,rr 1032),(7,rr 1056)] [(1024,bx (pm (Az y1))),(AgE),(1056,bx [ow 1152 r3.tree.nodes.length,pI r3.tree.next,ow 1153 (r3.tasks ++ [y1]).length,pI r3.next]),(1152,ob0 (Ak r3.tree.nodes)),(1153,ob0 (At (r3.tasks ++ [y1])))] [] [(1056,.box [ow 1152 r3.tree.nodes.length,pI r3.tree.next,ow 1153 (r3.tasks.length + 1),pI r3.next]),(1153,.row 4 (r3.tasks.length + 1) (Cp r3.tasks.length (Ack r3.tasks) (cut 4 [vi y1.id,vi y1.process,vi y1.group,vi y1.user])))] (an (by omega : (r3.tasks.length + 1) * 32 ≤ 140737488355328) tv) (by kernel_rfl) .nil (.cons rfl (.box (.cons .rfl (.cons .rfl (.cons (MLe.ownLen (enc := Az) (d := Bu) (f := (Cp r3.tasks.length (Ack r3.tasks) (cut 4 [vi y1.id,vi y1.process,vi y1.group,vi y1.user]))) (RowIs.cat RowIs.elems (RowIs.lit (enc := Az) (d := Bu) (n := 1) (f := (cut 4 [vi y1.id,vi y1.process,vi y1.group,vi y1.user])) [y1] rfl (fun | 0,_ => rfl | n + 1,h => absurd h (by omega))))) (.cons .rfl .nil))))) (.cons rfl (BLe.typed (RowIs.cat RowIs.elems (RowIs.lit (enc := Az) (d := Bu) (n := 1) (f := (cut 4 [vi y1.id,vi y1.process,vi y1.group,vi y1.user])) [y1] rfl (fun | 0,_ => rfl | n + 1,h => absurd h (by omega))))) .nil)) ?_)
    refine Sq (RD hnt (nn 5 []) [] [] [] [(1056,bx [ow 1152 r3.tree.nodes.length,pI r3.tree.next,ow 1153 (r3.tasks ++ [y1]).length,pI (w64 (r3.next + 1))])] tv ?_)
    refine Sq (RD hnt (nn 6 []) [3,7] [(5,pI y1.id),(6,pI 0)] [1024,1056] [(1032,bx [ow 1152 r3.tree.nodes.length,pI r3.tree.next,ow 1153 (r3.tasks ++ [y1]).length,pI (w64 (r3.next + 1))])] tv ?_)
    obtain rfl := sj hm
    exact DW.ret (Ai [Ak r3.tree.nodes,At (r3.tasks ++ [y1])] [1152,1153] (.tup [.agg [ow 0 r3.tree.nodes.length,pI r3.tree.next,ow 1 (r3.tasks ++ [y1]).length,pI (w64 (r3.next + 1))],pI y1.id,pI 0]))
   ·refine Ah hm ?_ ?_
    ·intro h4 hm
     refine RD hnt (nn 4 []) [25] [] [] [(1024,bx [pI p0.next,pI p0.next,pI p1.group,pI p1.user])] tv ?_
     exact jD ({ id := p0.next,process := p0.next,group := p1.group,user := p1.user } : Aw) hm Conv.eqK
    ·intro h4 hm
     refine Sk ?_
     exact jD ({ id := p0.next,process := p1.process,group := p1.group,user := p1.user } : Aw) hm Conv.t0
abbrev o108 (ks : List Nat) (b : Bool) (RES : Aa × Int × Int) (sm : List Nat := []) : Orc := .call 125 ks b (.tup [.agg [ow 0 RES.1.tree.nodes.length,pI RES.1.tree.next,ow 1 RES.1.tasks.length,pI RES.1.next],pI RES.2.1,pI RES.2.2]) [] [Ak RES.1.tree.nodes,At RES.1.tasks] sm

abbrev c107e1 : Nat × Obj := (1048,bx [.p (.sl .nil 0 0 (fun _ => [])),pI 0,.p (.sl .nil 0 0 (fun _ => [])),pI 0])
theorem Ahp (p0 : Aa) (p1 : Int) (p2 : Int) (RES : Aa × Int × Int) (hm : Up p0 p1 p2 = some RES) : Spec Tryz.prog 67 [.p (.agg (Ab p0)),pI p1,pI p2] [] (.tup [.agg [ow 0 RES.1.tree.nodes.length,pI RES.1.tree.next,ow 1 RES.1.tasks.length,pI RES.1.next],pI RES.2.1,pI RES.2.2]) [] [Ak RES.1.tree.nodes,At RES.1.tasks] := by
 unfold Up at hm
 refine SO Tryz.func67 rfl rfl [(0,.p (.agg (Ab p0))),(1,pI p1),(2,pI p2)] [] ?_
 intro cx hnt
 refine Sq (RD hnt (nn 4 []) [0] [(3,rr 1024),(6,rr 1048)] [] [(1024,bx (pm (Ab p0))),(c107e1)] tv ?_)
 obtain ⟨r1,hr1,hm⟩ := bo hm
 refine Sq (Sq ?_)
 refine Jn (ι := Bool) (fun (y1 : Bool) => Aj [(1,pI p1),(2,pI p2),(3,rr 1024),(6,rr 1048),(19,pB y1)] [(1024,bx (pm (Ab p0))),(c107e1)]) (fun y1 => (Nx p0 p1 p2) y1 = some RES) ?_ ?_
 ·intro y1 hm
  unfold Nx at hm
  refine Ah hm ?_ ?_
  ·intro h4 hm
   refine Sq (RD hnt (nn 4 []) [1,2,3,19] [(7,pI 0),(8,pI 1)] [1024] [] tv ?_)
   refine DW.cv [] [] [] [(1048,bx [ow 100000 0,pI 0,ow 100001 0,pI 0]),(100000,ob0 (Ak [])),(100001,ob0 (At []))] (Conv.ads [(.o 1048 0,100000,6,elems Ar Bm []),(.o 1048 2,100001,4,elems Az Bu [])]) ?_
   obtain rfl := sj hm
   exact DW.ret (Ai [Ak [],At []] [100000,100001] (.tup [.agg [ow 0 0,pI 0,ow 1 0,pI 0],pI 0,pI 1]))
  ·intro h4 hm
   refine Sk ?_
   obtain ⟨r5,hr5,hm⟩ := bo hm
   refine Sq (Sq (RD hnt (nn 3 (o79 [] true r5 :: .no :: [])) [19] [(25,pB (!r5))] [] [] (an (Cy p0.tree p1 r5 hr5) tv) ?_))
   refine Ah hm ?_ ?_
   ·intro h6 hm
    refine Sq (RD hnt (nn 4 []) [1,2,3,25] [(7,pI 0),(8,pI 4)] [1024] [] tv ?_)
    refine DW.cv [] [] [] [(1048,bx [ow 100000 0,pI 0,ow 100001 0,pI 0]),(100000,ob0 (Ak [])),(100001,ob0 (At []))] (Conv.ads [(.o 1048 0,100000,6,elems Ar Bm []),(.o 1048 2,100001,4,elems Az Bu [])]) ?_
    obtain rfl := sj hm
    exact DW.ret (Ai [Ak [],At []] [100000,100001] (.tup [.agg [ow 0 0,pI 0,ow 1 0,pI 0],pI 0,pI 4]))
   ·intro h6 hm
    refine Sk ?_
    obtain ⟨r7,hr7,hm⟩ := bo hm
    refine Sq (RK hnt (nn 4 (o108 [] true r7 :: nn 6 [])) [(6,rr 1048),(7,pI r7.2.1),(8,pI r7.2.2)] [(1048,bx [ow 1248 r7.1.tree.nodes.length,pI r7.1.tree.next,ow 1249 r7.1.tasks.length,pI r7.1.next]),(1248,ob0 (Ak r7.1.tree.nodes)),(1249,ob0 (At r7.1.tasks))] (an (Ael p0 ({ id := 0,process := 0,group := p1,user := p2 } : Aw) r7 hr7) tv) ?_)
    obtain rfl := sj hm
    exact DW.ret (Ai [Ak r7.1.tree.nodes,At r7.1.tasks] [1248,1249] (.tup [.agg [ow 0 r7.1.tree.nodes.length,pI r7.1.tree.next,ow 1 r7.1.tasks.length,pI r7.1.next],pI r7.2.1,pI r7.2.2]))
 ·rcases bt (!r1) with h2 | h2
  ·replace hm := Bg h2 hm
   refine RD hnt (.no :: o93 [] true r1 :: nn 2 (sk 2 (pT :: .no :: sk 2 (pT :: [])))) [] [(19,pB true)] [] [] (an (El p0 r1 hr1) (an3 h2 (an3 tt tv))) ?_
   exact jD true hm Conv.eqK
  ·replace hm := Bf h2 hm
   rcases bt (decide (p2 < 0)) with h3 | h3
   ·replace hm := Bg h3 hm
    refine RD hnt (.no :: o93 [] true r1 :: nn 4 (pF :: .no :: sk 2 (pT :: []))) [] [(19,pB true)] [] [] (an (El p0 r1 hr1) (an3 h2 (an3 h3 tv))) ?_
    exact jD true hm Conv.eqK
   ·replace hm := Bf h3 hm
    refine RD hnt (.no :: o93 [] true r1 :: nn 4 (pF :: nn 3 (pF :: []))) [] [(19,pB (decide (p2 > 1048576)))] [] [] (an (El p0 r1 hr1) (an3 h2 (an3 h3 tv))) ?_
    exact jD (decide (p2 > 1048576)) hm Conv.eqK
abbrev o107 (ks : List Nat) (b : Bool) (RES : Aa × Int × Int) (sm : List Nat := []) : Orc := .call 67 ks b (.tup [.agg [ow 0 RES.1.tree.nodes.length,pI RES.1.tree.next,ow 1 RES.1.tasks.length,pI RES.1.next],pI RES.2.1,pI RES.2.2]) [] [Ak RES.1.tree.nodes,At RES.1.tasks] sm

theorem Rs (p0 : Aq) (p1 : Aa) (RES : Int × Aq) (hm : Js p0 p1 = some RES) : Spec Tryz.prog 69 [rr 0,.p (.agg (Ab p1))] [.box (pm (An p0))] (pI RES.1) [.box (pm (An RES.2))] [] := by
 unfold Js at hm
 refine SO Tryz.func69 rfl rfl [(0,rr 0),(1,.p (.agg (Ab p1)))] [(0,bx (pm (An p0)))] ?_
 intro cx hnt
 refine Sq (RD hnt (nn 2 []) [1] [(3,rr 1024)] [] [(1024,bx (pm (Ab p1)))] tv ?_)
 obtain ⟨r1,hr1,hm⟩ := bo hm
 refine Sq (Sq ?_)
 refine Jn (ι := Bool) (fun (y1 : Bool) => Aj [(0,rr 0),(3,rr 1024),(12,pB y1)] [(0,bx (pm (An r1.2))),(1024,bx (pm (Ab p1)))]) (fun y1 => (Jx p1 r1) y1 = some RES) ?_ ?_
 ·intro y1 hm
  unfold Jx at hm
  refine Ah hm ?_ ?_
  ·intro h3 hm
   obtain ⟨r4,hr4,hm⟩ := bo hm
   refine Sq (RK hnt (.no :: o72 [0] true r4 :: nn 2 []) [(4,pI (w64 (r4.1 - 1)))] [(0,bx (pm (An r4.2)))] (an (Bp r1.2 9 r4 hr4) (an tv tv)) ?_)
   obtain rfl := sj hm
   exact DW.ret (Ai [.box (pm (An r4.2))] [] (pI (w64 (r4.1 - 1))))
  ·intro h3 hm
   refine Sk ?_
   obtain ⟨r5,hr5,hm⟩ := bo hm
   obtain ⟨g6,hm⟩ := go1 hm
   refine Sq (RK hnt (nn 6 (o72 [0] true r5 :: nn 4 [])) [(4,pI (p1.tasks.getD (Int.toNat r5.1) Bu).id)] [(0,bx (pm (An r5.2)))] (an (Bp r1.2 ((p1.tasks.length : Nat) : Int) r5 hr5) (an tv (an g6.1 (an g6.2 tv)))) ?_)
   obtain rfl := sj hm
   exact DW.ret (Ai [.box (pm (An r5.2))] [] (pI (p1.tasks.getD (Int.toNat r5.1) Bu).id))
 ·rcases bt r1.1 with h2 | h2
  ·replace hm := Bg h2 hm
   refine RD hnt (.no :: o84 [0] true r1 :: .no :: sk 4 (pT :: [])) [] [(12,pB true)] [] [(0,bx (pm (An r1.2)))] (an (Cm p0 15 r1 hr1) (an tv (an5 h2 tv))) ?_
   exact jD true hm Conv.eqK
  ·replace hm := Bf h2 hm
   refine RD hnt (.no :: o84 [0] true r1 :: nn 5 (pF :: [])) [] [(12,pB (((p1.tasks.length : Nat) : Int) == 0))] [] [(0,bx (pm (An r1.2)))] (an (Cm p0 15 r1 hr1) (an tv (an5 h2 tv))) ?_
   exact jD (((p1.tasks.length : Nat) : Int) == 0) hm Conv.eqK
abbrev o109 (ks : List Nat) (b : Bool) (RES : Int × Aq) (sm : List Nat := []) : Orc := .call 69 ks b (pI RES.1) [.box (pm (An RES.2))] [] sm

theorem Aho (p0 : Aa) (p1 : Int) (RES : Aa × Int × Int) (hm : Vq p0 p1 = some RES) : Spec Tryz.prog 68 [.p (.agg (Ab p0)),pI p1] [] (.tup [.agg [ow 0 RES.1.tree.nodes.length,pI RES.1.tree.next,ow 1 RES.1.tasks.length,pI RES.1.next],pI RES.2.1,pI RES.2.2]) [] [Ak RES.1.tree.nodes,At RES.1.tasks] := by
 unfold Vq at hm
 refine SO Tryz.func68 rfl rfl [(0,.p (.agg (Ab p0))),(1,pI p1)] [] ?_
 intro cx hnt
 refine Sq (RK hnt (nn 4 []) [(1,pI p1),(2,rr 1016),(4,rr 1032)] [(1016,bx (pm (Ab p0))),(1032,bx [.p (.sl .nil 0 0 (fun _ => [])),pI 0,.p (.sl .nil 0 0 (fun _ => [])),pI 0])] tv ?_)
 obtain ⟨r1,hr1,hm⟩ := bo hm
 refine Sq (Sq (RD hnt (.no :: o93 [] true r1 :: .no :: []) [] [(11,pB (!r1))] [] [] (an (El p0 r1 hr1) tv) ?_))
 refine Ah hm ?_ ?_
 ·intro h2 hm
  refine Sq (RD hnt (nn 4 []) [1,2,11] [(5,pI 0),(6,pI 1)] [1016] [] tv ?_)
  refine DW.cv [] [] [] [(1032,bx [ow 100000 0,pI 0,ow 100001 0,pI 0]),(100000,ob0 (Ak [])),(100001,ob0 (At []))] (Conv.ads [(.o 1032 0,100000,6,elems Ar Bm []),(.o 1032 2,100001,4,elems Az Bu [])]) ?_
  obtain rfl := sj hm
  exact DW.ret (Ai [Ak [],At []] [100000,100001] (.tup [.agg [ow 0 0,pI 0,ow 1 0,pI 0],pI 0,pI 1]))
 ·intro h2 hm
  refine Sk ?_
  obtain ⟨r3,hr3,hm⟩ := bo hm
  refine Sq (RD hnt (nn 2 (o98 [] true r3 :: nn 6 [])) [1,11] [(7,rr 1056),(8,pB r3.2)] [] [(1056,bx (pm (Az r3.1)))] (an (Mv p0 p1 r3 hr3) tv) ?_)
  refine Sq (Sq (RD hnt (nn 2 []) [8] [(20,pB (!r3.2))] [] [] tv ?_))
  refine Ah hm ?_ ?_
  ·intro h4 hm
   refine Sq (RD hnt (nn 4 []) [2,7,20] [(5,pI 0),(6,pI 4)] [1016,1056] [] tv ?_)
   refine DW.cv [] [] [] [(1032,bx [ow 100000 0,pI 0,ow 100001 0,pI 0]),(100000,ob0 (Ak [])),(100001,ob0 (At []))] (Conv.ads [(.o 1032 0,100000,6,elems Ar Bm []),(.o 1032 2,100001,4,elems Az Bu [])]) ?_
   obtain rfl := sj hm
   exact DW.ret (Ai [Ak [],At []] [100000,100001] (.tup [.agg [ow 0 0,pI 0,ow 1 0,pI 0],pI 0,pI 4]))
  ·intro h4 hm
   refine Sk ?_
   obtain ⟨r5,hr5,hm⟩ := bo hm
   refine Sq (RK hnt (nn 2 (o108 [] true r5 :: nn 6 [])) [(4,rr 1032),(5,pI r5.2.1),(6,pI r5.2.2)] [(1032,bx [ow 1192 r5.1.tree.nodes.length,pI r5.1.tree.next,ow 1193 r5.1.tasks.length,pI r5.1.next]),(1192,ob0 (Ak r5.1.tree.nodes)),(1193,ob0 (At r5.1.tasks))] (an (Ael p0 r3.1 r5 hr5) tv) ?_)
   obtain rfl := sj hm
   exact DW.ret (Ai [Ak r5.1.tree.nodes,At r5.1.tasks] [1192,1193] (.tup [.agg [ow 0 r5.1.tree.nodes.length,pI r5.1.tree.next,ow 1 r5.1.tasks.length,pI r5.1.next],pI r5.2.1,pI r5.2.2]))
abbrev o110 (ks : List Nat) (b : Bool) (RES : Aa × Int × Int) (sm : List Nat := []) : Orc := .call 68 ks b (.tup [.agg [ow 0 RES.1.tree.nodes.length,pI RES.1.tree.next,ow 1 RES.1.tasks.length,pI RES.1.next],pI RES.2.1,pI RES.2.2]) [] [Ak RES.1.tree.nodes,At RES.1.tasks] sm

abbrev Aee (s1 : (List Aw) × Int) (p2 : Int) := ({ id := (s1.1.getD (Int.toNat s1.2) Bu).id,process := (s1.1.getD (Int.toNat s1.2) Bu).process,group := p2,user := (s1.1.getD (Int.toNat s1.2) Bu).user } : Aw)
abbrev AdC : Nat × Obj := (1048,bx [.p (.sl .nil 0 0 (fun _ => [])),pI 0,.p (.sl .nil 0 0 (fun _ => [])),pI 0])
abbrev c112e3 (s1 : (List Aw) × Int) (p2 : Int) := (Ca (Ack s1.1) (Int.toNat s1.2) [vi (s1.1.getD (Int.toNat s1.2) Bu).id,vi (s1.1.getD (Int.toNat s1.2) Bu).process,vi p2,vi (s1.1.getD (Int.toNat s1.2) Bu).user])
theorem AgZ (p0 : Aa) (p1 : Int) (p2 : Int) (RES : Aa × Int) (hm : Vb p0 p1 p2 = some RES) : Spec Tryz.prog 128 [.p (.agg (Ab p0)),pI p1,pI p2] [] (.tup [.agg [ow 0 RES.1.tree.nodes.length,pI RES.1.tree.next,ow 1 RES.1.tasks.length,pI RES.1.next],pI RES.2]) [] [Ak RES.1.tree.nodes,At RES.1.tasks] := by
 unfold Vb at hm
 refine SO Tryz.func128 rfl rfl [(0,.p (.agg (Ab p0))),(1,pI p1),(2,pI p2)] [] ?_
 intro cx hnt
 refine Sq (RD hnt (nn 3 []) [0] [(3,rr 1024),(6,rr 1048)] [] [(1024,bx (pm (Ab p0))),(AdC)] tv ?_)
 obtain ⟨r1,hr1,hm⟩ := bo hm
 refine Sq (Sq (RD hnt (.no :: o93 [] true r1 :: .no :: []) [] [(14,pB (!r1))] [] [] (an (El p0 r1 hr1) tv) ?_))
 refine Ah hm ?_ ?_
 ·intro h2 hm
  refine Sq (RD hnt (nn 3 []) [1,2,3,14] [(7,pI 1)] [1024] [] tv ?_)
  refine DW.cv [] [] [] [(1048,bx [ow 100000 0,pI 0,ow 100001 0,pI 0]),(100000,ob0 (Ak [])),(100001,ob0 (At []))] (Conv.ads [(.o 1048 0,100000,6,elems Ar Bm []),(.o 1048 2,100001,4,elems Az Bu [])]) ?_
  obtain rfl := sj hm
  exact DW.ret (Ai [Ak [],At []] [100000,100001] (.tup [.agg [ow 0 0,pI 0,ow 1 0,pI 0],pI 1]))
 ·intro h2 hm
  refine Sk ?_
  obtain ⟨r3,hr3,hm⟩ := bo hm
  refine Sq (Sq (RD hnt (nn 2 (o98 [] true r3 :: nn 6 [])) [14] [(9,pB r3.2)] [] [] (an (Mv p0 p1 r3 hr3) tv) ?_))
  refine Sq ?_
  refine Jn (ι := Bool) (fun (y1 : Bool) => Aj [(1,pI p1),(2,pI p2),(3,rr 1024),(6,rr 1048),(30,pB y1)] [(1024,bx (pm (Ab p0))),(AdC)]) (fun y1 => (Rt p0 p1 p2) y1 = some RES) ?_ ?_
  ·intro y1 hm
   unfold Rt at hm
   refine Ah hm ?_ ?_
   ·intro h6 hm
    refine Sq (RD hnt (nn 3 []) [1,2,3,30] [(7,pI 4)] [1024] [] tv ?_)
    refine DW.cv [] [] [] [(1048,bx [ow 100000 0,pI 0,ow 100001 0,pI 0]),(100000,ob0 (Ak [])),(100001,ob0 (At []))] (Conv.ads [(.o 1048 0,100000,6,elems Ar Bm []),(.o 1048 2,100001,4,elems Az Bu [])]) ?_
    obtain rfl := sj hm
    exact DW.ret (Ai [Ak [],At []] [100000,100001] (.tup [.agg [ow 0 0,pI 0,ow 1 0,pI 0],pI 4]))
   ·intro h6 hm
    refine Sk ?_
    obtain ⟨r7,hr7,hm⟩ := bo hm
    refine Sq (RD hnt (.no :: o103 [] true r7 :: nn 2 []) [3,30] [(10,rr 1080)] [1024] [(1080,bx [ow 1264 r7.tree.nodes.length,pI r7.tree.next,ow 1265 r7.tasks.length,pI r7.next]),(1264,ob0 (Ak r7.tree.nodes)),(1265,ob0 (At r7.tasks))] (an (Tz p0 r7 hr7) tv) ?_)
    refine Sq (Sq (RD hnt (.no :: []) [] [(11,pI 0)] [] [] tv ?_))
    refine Bk ?_
    refine DW.whileO (fun (s1 : (List Aw) × Int) => Aj [(1,pI p1),(2,pI p2),(6,rr 1048),(10,rr 1080),(11,pI s1.2)] [(AdC),(1080,bx [ow 1264 r7.tree.nodes.length,pI r7.tree.next,ow 1265 s1.1.length,pI r7.next]),(1264,ob0 (Ak r7.tree.nodes)),(1265,ob0 (At s1.1))]) hm Conv.eqK ?_
    intro s1 n1 hm
    unfold Rx at hm
    refine Sq (Sq (RD hnt (nn 5 []) [] [(38,pB (decide (s1.2 < ((s1.1.length : Nat) : Int))))] [] [] tv ?_))
    refine Ah hm ?_ ?_
    ·intro h14 hm
     refine Sk ?_
     refine Sq ?_
     refine Jn (ι := List Aw) (fun (y3 : List Aw) => Aj [(1,pI p1),(2,pI p2),(6,rr 1048),(10,rr 1080),(11,pI s1.2)] [(AdC),(1080,bx [ow 1264 r7.tree.nodes.length,pI r7.tree.next,ow 1265 y3.length,pI r7.next]),(1264,ob0 (Ak r7.tree.nodes)),(1265,ob0 (At y3))]) (fun y3 => (Rw s1 n1) y3 = some RES) ?_ ?_
     ·intro y3 hm
      unfold Rw at hm
      refine RD hnt (nn 3 []) [] [(11,pI (w64 (s1.2 + 1)))] [] [] tv ?_
      exact jD (y3,(w64 (s1.2 + 1))) hm Conv.eqK
     ·refine Bk ?_
      obtain ⟨g15,g16,hm⟩ := go2 hm
      refine Sq (RD hnt (nn 8 []) [38] [(48,pB ((s1.1.getD (Int.toNat s1.2) Bu).id == p1))] [] [] (an g15.1 (an g15.2 (an g16 tv))) ?_)
      refine Ah hm ?_ ?_
      ·intro h17 hm
       obtain ⟨g18,g19,hm⟩ := go2 hm
       refine RN hnt (nn 7 []) [(1,pI p1),(2,pI p2),(6,rr 1048),(10,rr 1080),(11,pI s1.2)] [(AdC),(1080,bx [ow 1264 r7.tree.nodes.length,pI r7.tree.next,ow 1265 (s1.1.set (Int.toNat s1.2) (Aee s1 p2)).length,pI r7.next]),(1264,ob0 (Ak r7.tree.nodes)),(1265,ob0 (At (s1.1.set (Int.toNat s1.2) (Aee s1 p2))))] [] [(1080,.box [ow 1264 r7.tree.nodes.length,pI r7.tree.next,ow 1265 s1.1.length,pI r7.next]),(1265,.row 4 s1.1.length (c112e3 s1 p2))] (an g18.1 (an g18.2 (an g19 tv))) (by kernel_rfl) .nil (.cons rfl (.box (.cons .rfl (.cons .rfl (.cons (MLe.ownLen (enc := Az) (d := Bu) (f := (c112e3 s1 p2)) (RowIs.upd RowIs.elems (Aee s1 p2) rfl)) (.cons .rfl .nil))))) (.cons rfl (BLe.typed (RowIs.upd RowIs.elems (Aee s1 p2) rfl)) .nil)) ?_
       exact bD (s1.1.set (Int.toNat s1.2) (Aee s1 p2)) hm .refl
      ·intro h17 hm
       refine Sk ?_
       exact bD s1.1 hm Conv.t0
    ·intro h14 hm
     refine DW.exit ?_
     refine Ap ?_
     refine Au ?_
     refine Am ?_
     show DW _ _ _ _ _
     refine Sq (RD hnt (nn 3 []) [1,2,10,11,38] [(7,pI 0)] [1080] [(1048,bx [ow 1264 r7.tree.nodes.length,pI r7.tree.next,ow 1265 s1.1.length,pI r7.next])] tv ?_)
     obtain rfl := sj hm
     exact DW.ret (Ai [Ak r7.tree.nodes,At s1.1] [1264,1265] (.tup [.agg [ow 0 r7.tree.nodes.length,pI r7.tree.next,ow 1 s1.1.length,pI r7.next],pI 0]))
  ·rcases bt (!r3.2) with h4 | h4
   ·replace hm := Bg h4 hm
    refine RD hnt (nn 3 (sk 5 (pT :: []))) [9] [(30,pB true)] [] [] (an6 h4 tv) ?_
    exact jD true hm Conv.eqK
   ·replace hm := Bf h4 hm
    obtain ⟨r5,hr5,hm⟩ := bo hm
    refine RD hnt (nn 6 (o79 [] true r5 :: .no :: pF :: [])) [9] [(30,pB (!r5))] [] [] (an4 h4 (an (Cy p0.tree p2 r5 hr5) (an2 h4 tv))) ?_
    exact jD (!r5) hm Conv.eqK
abbrev o112 (ks : List Nat) (b : Bool) (RES : Aa × Int) (sm : List Nat := []) : Orc := .call 128 ks b (.tup [.agg [ow 0 RES.1.tree.nodes.length,pI RES.1.tree.next,ow 1 RES.1.tasks.length,pI RES.1.next],pI RES.2]) [] [Ak RES.1.tree.nodes,At RES.1.tasks] sm

abbrev Agj : Nat × Obj := (1048,bx [ow 100000 0,pI 0,ow 100001 0,pI 0])
abbrev c111e2 : Nat × Obj := (1048,bx [.p (.sl .nil 0 0 (fun _ => [])),pI 0,.p (.sl .nil 0 0 (fun _ => [])),pI 0])
theorem Ace (p0 : Aa) (p1 : Int) (p2 : Int) (RES : Aa × Int) (hm : Lf p0 p1 p2 = some RES) : Spec Tryz.prog 70 [.p (.agg (Ab p0)),pI p1,pI p2] [] (.tup [.agg [ow 0 RES.1.tree.nodes.length,pI RES.1.tree.next,ow 1 RES.1.tasks.length,pI RES.1.next],pI RES.2]) [] [Ak RES.1.tree.nodes,At RES.1.tasks] := by
 unfold Lf at hm
 refine SO Tryz.func70 rfl rfl [(0,.p (.agg (Ab p0))),(1,pI p1),(2,pI p2)] [] ?_
 intro cx hnt
 refine Sq (RD hnt (nn 3 []) [0] [(3,rr 1024),(6,rr 1048)] [] [(1024,bx (pm (Ab p0))),(c111e2)] tv ?_)
 obtain ⟨r1,hr1,hm⟩ := bo hm
 refine Sq (Sq (RD hnt (.no :: o91 [] true r1 :: .no :: []) [] [(17,pB (!r1))] [] [] (an (Ms p0 r1 hr1) tv) ?_))
 refine Ah hm ?_ ?_
 ·intro h2 hm
  refine Sq (RD hnt (nn 3 []) [1,2,3,17] [(7,pI 1)] [1024] [] tv ?_)
  refine DW.cv [] [] [] [(Agj),(100000,ob0 (Ak [])),(100001,ob0 (At []))] (Conv.ads [(.o 1048 0,100000,6,elems Ar Bm []),(.o 1048 2,100001,4,elems Az Bu [])]) ?_
  obtain rfl := sj hm
  exact DW.ret (Ai [Ak [],At []] [100000,100001] (.tup [.agg [ow 0 0,pI 0,ow 1 0,pI 0],pI 1]))
 ·intro h2 hm
  refine Sk ?_
  obtain ⟨r3,hr3,hm⟩ := bo hm
  refine Sq (RD hnt (nn 2 (o98 [] true r3 :: nn 6 [])) [17] [(8,rr 1064),(9,pB r3.2)] [] [(1064,bx (pm (Az r3.1)))] (an (Mv p0 p1 r3 hr3) tv) ?_)
  refine Sq (Sq ?_)
  refine Jn (ι := Bool) (fun (y1 : Bool) => Aj [(1,pI p1),(2,pI p2),(3,rr 1024),(6,rr 1048),(8,rr 1064),(33,pB y1)] [(1024,bx (pm (Ab p0))),(c111e2),(1064,bx (pm (Az r3.1)))]) (fun y1 => (Hn p0 p1 p2 r3) y1 = some RES) ?_ ?_
  ·intro y1 hm
   unfold Hn at hm
   refine Ah hm ?_ ?_
   ·intro h6 hm
    refine Sq (RD hnt (nn 3 []) [1,2,3,8,33] [(7,pI 4)] [1024,1064] [] tv ?_)
    refine DW.cv [] [] [] [(Agj),(100000,ob0 (Ak [])),(100001,ob0 (At []))] (Conv.ads [(.o 1048 0,100000,6,elems Ar Bm []),(.o 1048 2,100001,4,elems Az Bu [])]) ?_
    obtain rfl := sj hm
    exact DW.ret (Ai [Ak [],At []] [100000,100001] (.tup [.agg [ow 0 0,pI 0,ow 1 0,pI 0],pI 4]))
   ·intro h6 hm
    refine Sk ?_
    obtain ⟨r7,hr7,hm⟩ := bo hm
    refine Sq (Sq (RD hnt (nn 2 (o106 [] true r7 :: .no :: [])) [33] [(10,pI r7)] [] [] (an (Abk p0 p2 r7 hr7) tv) ?_))
    refine Sq (RD hnt (nn 2 []) [] [(39,pB (r7 != 0))] [] [] tv ?_)
    refine Ah hm ?_ ?_
    ·intro h8 hm
     refine Sq (RD hnt (nn 4 []) [1,2,3,8,10,39] [(7,pI r7)] [1024,1064] [] tv ?_)
     refine DW.cv [] [] [] [(Agj),(100000,ob0 (Ak [])),(100001,ob0 (At []))] (Conv.ads [(.o 1048 0,100000,6,elems Ar Bm []),(.o 1048 2,100001,4,elems Az Bu [])]) ?_
     obtain rfl := sj hm
     exact DW.ret (Ai [Ak [],At []] [100000,100001] (.tup [.agg [ow 0 0,pI 0,ow 1 0,pI 0],pI r7]))
    ·intro h8 hm
     refine Sk ?_
     obtain ⟨r9,hr9,hm⟩ := bo hm
     refine Sq (RD hnt (nn 3 (o99 [] true r9 :: nn 5 [])) [10,39] [(11,pI r9.1)] [] [] (an (Qw p0.tree p2 r9 hr9) tv) ?_)
     obtain ⟨r10,hr10,hm⟩ := bo hm
     refine Sq (Sq (RD hnt (nn 4 (o99 [] true r10 :: nn 5 [])) [8] [(13,pI r10.1)] [1064] [] (an (Qw p0.tree r3.1.group r10 hr10) tv) ?_))
     refine Sq (RD hnt (nn 3 []) [11,13] [(59,pB (r9.1 != r10.1))] [] [] tv ?_)
     refine Ah hm ?_ ?_
     ·intro h11 hm
      refine Sq (RD hnt (nn 3 []) [1,2,3,59] [(7,pI 9)] [1024] [] tv ?_)
      refine DW.cv [] [] [] [(Agj),(100000,ob0 (Ak [])),(100001,ob0 (At []))] (Conv.ads [(.o 1048 0,100000,6,elems Ar Bm []),(.o 1048 2,100001,4,elems Az Bu [])]) ?_
      obtain rfl := sj hm
      exact DW.ret (Ai [Ak [],At []] [100000,100001] (.tup [.agg [ow 0 0,pI 0,ow 1 0,pI 0],pI 9]))
     ·intro h11 hm
      refine Sk ?_
      obtain ⟨r12,hr12,hm⟩ := bo hm
      refine Sq (RK hnt (nn 3 (o112 [] true r12 :: nn 4 [])) [(6,rr 1048),(7,pI r12.2)] [(1048,bx [ow 1512 r12.1.tree.nodes.length,pI r12.1.tree.next,ow 1513 r12.1.tasks.length,pI r12.1.next]),(1512,ob0 (Ak r12.1.tree.nodes)),(1513,ob0 (At r12.1.tasks))] (an (AgZ p0 p1 p2 r12 hr12) tv) ?_)
      obtain rfl := sj hm
      exact DW.ret (Ai [Ak r12.1.tree.nodes,At r12.1.tasks] [1512,1513] (.tup [.agg [ow 0 r12.1.tree.nodes.length,pI r12.1.tree.next,ow 1 r12.1.tasks.length,pI r12.1.next],pI r12.2]))
  ·rcases bt (!r3.2) with h4 | h4
   ·replace hm := Bg h4 hm
    refine RD hnt (nn 3 (sk 5 (pT :: []))) [9] [(33,pB true)] [] [] (an6 h4 tv) ?_
    exact jD true hm Conv.eqK
   ·replace hm := Bf h4 hm
    obtain ⟨r5,hr5,hm⟩ := bo hm
    refine RD hnt (nn 6 (o79 [] true r5 :: .no :: pF :: [])) [9] [(33,pB (!r5))] [] [] (an4 h4 (an (Cy p0.tree p2 r5 hr5) (an2 h4 tv))) ?_
    exact jD (!r5) hm Conv.eqK
abbrev o111 (ks : List Nat) (b : Bool) (RES : Aa × Int) (sm : List Nat := []) : Orc := .call 70 ks b (.tup [.agg [ow 0 RES.1.tree.nodes.length,pI RES.1.tree.next,ow 1 RES.1.tasks.length,pI RES.1.next],pI RES.2]) [] [Ak RES.1.tree.nodes,At RES.1.tasks] sm

abbrev Fm (p0 : Aa) (k1 : Nat) := (p0.tasks.getD k1 (default : Aw))
abbrev AeA : Nat × Obj := (1032,bx [.p (.sl .nil 0 0 (fun _ => [])),pI 0,.p (.sl .nil 0 0 (fun _ => [])),pI 0])
abbrev Aec (p0 : Aa) : Nat × Obj := (1016,bx (pm (Ab p0)))
theorem Aid (p0 : Aa) (p1 : Int) (RES : Aa × Int) (hm : Xx p0 p1 = some RES) : Spec Tryz.prog 71 [.p (.agg (Ab p0)),pI p1] [] (.tup [.agg [ow 0 RES.1.tree.nodes.length,pI RES.1.tree.next,ow 1 RES.1.tasks.length,pI RES.1.next],pI RES.2]) [] [Ak RES.1.tree.nodes,At RES.1.tasks] := by
 unfold Xx at hm
 refine SO Tryz.func71 rfl rfl [(0,.p (.agg (Ab p0))),(1,pI p1)] [] ?_
 intro cx hnt
 refine Sq (RK hnt (nn 3 []) [(1,pI p1),(2,rr 1016),(4,rr 1032)] [(Aec p0),(AeA)] tv ?_)
 obtain ⟨r1,hr1,hm⟩ := bo hm
 refine Sq (Sq (RD hnt (.no :: o93 [] true r1 :: .no :: []) [] [(13,pB (!r1))] [] [] (an (El p0 r1 hr1) tv) ?_))
 refine Ah hm ?_ ?_
 ·intro h2 hm
  refine Sq (RD hnt (nn 3 []) [1,2,13] [(5,pI 1)] [1016] [] tv ?_)
  refine DW.cv [] [] [] [(1032,bx [ow 100000 0,pI 0,ow 100001 0,pI 0]),(100000,ob0 (Ak [])),(100001,ob0 (At []))] (Conv.ads [(.o 1032 0,100000,6,elems Ar Bm []),(.o 1032 2,100001,4,elems Az Bu [])]) ?_
  obtain rfl := sj hm
  exact DW.ret (Ai [Ak [],At []] [100000,100001] (.tup [.agg [ow 0 0,pI 0,ow 1 0,pI 0],pI 1]))
 ·intro h2 hm
  refine Sk ?_
  obtain ⟨r3,hr3,hm⟩ := bo hm
  refine Sq (Sq (RD hnt (nn 2 (o98 [] true r3 :: nn 6 [])) [13] [(7,pB r3.2)] [] [] (an (Mv p0 p1 r3 hr3) tv) ?_))
  refine Sq (RD hnt (nn 2 []) [7] [(22,pB (!r3.2))] [] [] tv ?_)
  refine Ah hm ?_ ?_
  ·intro h4 hm
   refine Sq (RD hnt (nn 3 []) [1,2,22] [(5,pI 4)] [1016] [] tv ?_)
   refine DW.cv [] [] [] [(1032,bx [ow 100000 0,pI 0,ow 100001 0,pI 0]),(100000,ob0 (Ak [])),(100001,ob0 (At []))] (Conv.ads [(.o 1032 0,100000,6,elems Ar Bm []),(.o 1032 2,100001,4,elems Az Bu [])]) ?_
   obtain rfl := sj hm
   exact DW.ret (Ai [Ak [],At []] [100000,100001] (.tup [.agg [ow 0 0,pI 0,ow 1 0,pI 0],pI 4]))
  ·intro h4 hm
   refine Sk ?_
   obtain ⟨r5,hr5,hm⟩ := bo hm
   refine Sq (RD hnt (nn 2 (o83 [] true r5 :: nn 5 [])) [22] [(8,rr 1064)] [] [(1064,bx [ow 1208 r5.nodes.length,pI r5.next,.p (.sl .nil 0 0 (fun _ => [])),pI p0.next]),(1208,ob0 (Ak r5.nodes))] (an (Ua p0.tree r5 hr5) tv) ?_)
   refine Sq (Sq (RD hnt (.no :: []) [] [(9,pI 0)] [] [] tv ?_))
   refine Bk ?_
   obtain ⟨hc1,hm⟩ := go1 hm
   refine DW.rangeO (fun (k1 : Nat) (s1 : List Aw) => Aj [(1,pI p1),(2,rr 1016),(4,rr 1032),(8,rr 1064),(9,pI ((k1 : Nat) : Int))] [(Aec p0),(AeA),(1064,bx [ow 1208 r5.nodes.length,pI r5.next,ow 1448 s1.length,pI p0.next]),(1208,ob0 (Ak r5.nodes)),(1448,ob0 (At s1))]) Bu hm (Conv.ads [(.o 1064 2,1448,4,elems Az Bu [])]) ?_
   intro k1 s1 n1 hk1 hs1 he1
   refine Sq (Sq (RD hnt (nn 5 []) [] [(34,pB (decide (((k1 : Nat) : Int) < ((p0.tasks.length : Nat) : Int))))] [] [] tv ?_))
   refine Cd (decide (((k1 : Nat) : Int) < ((p0.tasks.length : Nat) : Int))) ?_ ?_
   ·intro h15
    have hlt1 : k1 < p0.tasks.length := by have := of_decide_eq_true h15; omega
    have hm := hs1 hlt1
    unfold Xi at hm
    refine Sk ?_
    refine Sq ?_
    refine Jn (ι := List Aw) (fun (y3 : List Aw) => Aj [(1,pI p1),(2,rr 1016),(4,rr 1032),(8,rr 1064),(9,pI ((k1 : Nat) : Int))] [(Aec p0),(AeA),(1064,bx [ow 1208 r5.nodes.length,pI r5.next,ow 1448 y3.length,pI p0.next]),(1208,ob0 (Ak r5.nodes)),(1448,ob0 (At y3))]) (fun y3 => (Tf n1) y3 = some RES) ?_ ?_
    ·intro y3 hm
     unfold Tf at hm
     refine RD hnt (nn 3 []) [] [(9,pI (w64 (((k1 : Nat) : Int) + 1)))] [] [] tv ?_
     exact jD y3 ⟨hlt1,hm⟩ (Conv.tp [(9,pI (w64 (((k1 : Nat) : Int) + 1)))] [] (by kernel_rfl) (.cons rfl (.of_eq (congrArg pI (Bo hlt1 hc1))) .nil) .nil)
    ·refine Bk ?_
     refine Sq (RD hnt (nn 7 []) [34] [(10,rr 1080)] [] [(1080,bx (pm (Az (Fm p0 k1))))] (an (nn0 k1) (an (ltc hlt1) tv)) ?_)
     refine Sq (DW.regJ (sl2 := [(1,pI p1),(2,rr 1016),(4,rr 1032),(8,rr 1064),(9,pI ((k1 : Nat) : Int)),(10,rr 1080),(51,pB (((Fm p0 k1).id != p1) && ((Fm p0 k1).process != p1)))]) (ob2 := [(Aec p0),(AeA),(1064,bx [ow 1208 r5.nodes.length,pI r5.next,ow 1448 s1.length,pI p0.next]),(1080,bx (pm (Az (Fm p0 k1)))),(1208,ob0 (Ak r5.nodes)),(1448,ob0 (At s1))]) ?_ ?_)
     ·rcases bt ((Fm p0 k1).id != p1) with h16 | h16
      ·exact RT hnt (nn 9 (pT :: [])) [(51,pB ((Fm p0 k1).process != p1))] (an5 h16 tv) (by kernel_rfl) (.cons rfl (.of_eq (by rw [h16]; try rfl)) .nil)
      ·exact RT hnt (nn 5 (sk 4 (pF :: []))) [(51,pB false)] (an5 h16 tv) (by kernel_rfl) (.cons rfl (.of_eq (by rw [h16]; try rfl)) .nil)
     ·refine Ah hm ?_ ?_
      ·intro h17 hm
       obtain ⟨g18,hm⟩ := go1 hm
       refine RN hnt (nn 7 []) [(1,pI p1),(2,rr 1016),(4,rr 1032),(8,rr 1064),(9,pI ((k1 : Nat) : Int))] [(Aec p0),(AeA),(1064,bx [ow 1208 r5.nodes.length,pI r5.next,ow 1448 (s1 ++ [(Fm p0 k1)]).length,pI p0.next]),(1208,ob0 (Ak r5.nodes)),(1448,ob0 (At (s1 ++ [(Fm p0 k1)])))] [] [(1064,.box [ow 1208 r5.nodes.length,pI r5.next,ow 1448 (s1.length + 1),pI p0.next]),(1448,.row 4 (s1.length + 1) (Cp s1.length (Ack s1) (cut 4 [vi (Fm p0 k1).id,vi (Fm p0 k1).process,vi (Fm p0 k1).group,vi (Fm p0 k1).user])))] (an (by omega : (s1.length + 1) * 32 ≤ 140737488355328) tv) (by kernel_rfl) .nil (.cons rfl (.box (.cons .rfl (.cons .rfl (.cons (MLe.ownLen (enc := Az) (d := Bu) (f := (Cp s1.length (Ack s1) (cut 4 [vi (Fm p0 k1).id,vi (Fm p0 k1).process,vi (Fm p0 k1).group,vi (Fm p0 k1).user]))) (RowIs.cat RowIs.elems (RowIs.lit (enc := Az) (d := Bu) (n := 1) (f := (cut 4 [vi (Fm p0 k1).id,vi (Fm p0 k1).process,vi (Fm p0 k1).group,vi (Fm p0 k1).user])) [(Fm p0 k1)] rfl (fun | 0,_ => rfl | n + 1,h => absurd h (by omega))))) (.cons .rfl .nil))))) (.cons rfl (BLe.typed (RowIs.cat RowIs.elems (RowIs.lit (enc := Az) (d := Bu) (n := 1) (f := (cut 4 [vi (Fm p0 k1).id,vi (Fm p0 k1).process,vi (Fm p0 k1).group,vi (Fm p0 k1).user])) [(Fm p0 k1)] rfl (fun | 0,_ => rfl | n + 1,h => absurd h (by omega))))) .nil)) ?_
       exact bD (s1 ++ [(Fm p0 k1)]) hm .refl
      ·intro h17 hm
       refine Sk ?_
       exact bD s1 hm Conv.t0
   ·intro h15
    have hge1 : ¬ k1 < p0.tasks.length := by have := of_decide_eq_false h15; omega
    have hm := he1 hge1
    unfold Xe at hm
    refine DW.exit ?_
    refine Ap ?_
    refine Au ?_
    refine Am ?_
    show DW _ _ _ _ _
    refine Sq (RD hnt (nn 3 []) [1,2,8,9,34] [(5,pI 0)] [1016,1064] [(1032,bx [ow 1208 r5.nodes.length,pI r5.next,ow 1448 s1.length,pI p0.next])] tv ?_)
    obtain rfl := sj hm
    exact DW.ret (Ai [Ak r5.nodes,At s1] [1208,1448] (.tup [.agg [ow 0 r5.nodes.length,pI r5.next,ow 1 s1.length,pI p0.next],pI 0]))
abbrev o113 (ks : List Nat) (b : Bool) (RES : Aa × Int) (sm : List Nat := []) : Orc := .call 71 ks b (.tup [.agg [ow 0 RES.1.tree.nodes.length,pI RES.1.tree.next,ow 1 RES.1.tasks.length,pI RES.1.next],pI RES.2]) [] [Ak RES.1.tree.nodes,At RES.1.tasks] sm

abbrev AcK : Nat × Obj := (1048,bx [.p (.sl .nil 0 0 (fun _ => [])),pI 0,.p (.sl .nil 0 0 (fun _ => [])),pI 0])
theorem Su (p0 : Aq) (p1 : Int) (p2 : Int) (RES : Aa × Aq) (hm : Hp p0 p1 p2 = some RES) : Spec Tryz.prog 23 [rr 0,pI p1,pI p2] [.box (pm (An p0))] (.p (.agg (Ab RES.1))) [.box (pm (An RES.2))] [] := by
 unfold Hp at hm
 refine SO Tryz.func23 rfl rfl [(0,rr 0),(1,pI p1),(2,pI p2)] [(0,bx (pm (An p0)))] ?_
 intro cx hnt
 refine Sq (RD hnt (.no :: []) [] [(6,rr 1048)] [] [(AcK)] tv ?_)
 obtain ⟨r1,hr1,hm⟩ := bo hm
 refine Sq (RD hnt (o69 [] true r1 :: nn 2 []) [] [(7,rr 1056)] [] [(1056,bx [ow 1168 r1.tree.nodes.length,pI r1.tree.next,ow 1169 r1.tasks.length,pI r1.next]),(1168,ob0 (Ak r1.tree.nodes)),(1169,ob0 (At r1.tasks))] (an (Ajc r1 hr1) tv) ?_)
 obtain ⟨r2,hr2,hm⟩ := bo hm
 refine Sq (RD hnt (nn 2 (o71 [0] true r2 :: nn 2 [])) [] [] [1168] [(0,bx (pm (An r2.2))),(1056,bx [.p (Ba r2.1.nodes),pI r2.1.next,ow 1169 r1.tasks.length,pI r1.next])] (an (Aeo p0 p1 r2 hr2) (an tv tv)) ?_)
 obtain ⟨r3,hr3,hm⟩ := bo hm
 refine Sq (Sq (RD hnt (nn 3 (o72 [0] true r3 :: .no :: [])) [1] [(8,pI r3.1)] [] [(0,bx (pm (An r3.2)))] (an (Bp r2.2 (w64 (p1 + 3)) r3 hr3) (an tv tv)) ?_))
 refine Bk ?_
 refine DW.whileO (fun (s1 : Aq × Aa × Int) => Aj [(0,rr 0),(2,pI p2),(6,rr 1048),(7,rr 1056),(8,pI s1.2.2)] [(0,bx (pm (An s1.1))),(AcK),(1056,bx (pm (Ab s1.2.1)))]) hm (Conv.frz [1169]) ?_
 intro s1 n1 hm
 unfold Ow at hm
 refine Sq (Sq (RD hnt (nn 2 []) [] [(31,pB (decide (s1.2.2 > 0)))] [] [] tv ?_))
 refine Ah hm ?_ ?_
 ·intro h56 hm
  refine Sk ?_
  refine Sq (Bk ?_)
  obtain ⟨r57,hr57,hm⟩ := bo hm
  refine RD hnt (nn 2 (o87 [0] true r57 :: .no :: [])) [31] [] [] [(0,bx (pm (An r57.2))),(1056,bx (pm (Ab r57.1)))] (an (Aed s1.1 s1.2.1 r57 hr57) (an tv tv)) ?_
  refine DW.done ?_
  show DW _ _ _ _ _
  refine RD hnt (nn 3 []) [] [(8,pI (w64 (s1.2.2 - 1)))] [] [] tv ?_
  exact jD (r57.2,r57.1,(w64 (s1.2.2 - 1))) hm Conv.eqK
 ·intro h56 hm
  refine DW.exit ?_
  refine Ap ?_
  refine Au ?_
  refine Am ?_
  show DW _ _ _ _ _
  obtain ⟨r58,hr58,hm⟩ := bo hm
  refine Sq (Sq (RD hnt (nn 3 (o72 [0] true r58 :: .no :: [])) [2,8,31] [(9,pI r58.1)] [] [(0,bx (pm (An r58.2)))] (an (Bp s1.1 (w64 (p2 + 1)) r58 hr58) (an tv tv)) ?_))
  refine Bk ?_
  refine DW.whileO (fun (s3 : Aq × Aa × Int) => Aj [(0,rr 0),(6,rr 1048),(7,rr 1056),(9,pI s3.2.2)] [(0,bx (pm (An s3.1))),(AcK),(1056,bx (pm (Ab s3.2.1)))]) hm Conv.eqK ?_
  intro s3 n3 hm
  unfold Ob at hm
  refine Sq (Sq (RD hnt (nn 2 []) [] [(42,pB (decide (s3.2.2 > 0)))] [] [] tv ?_))
  refine Ah hm ?_ ?_
  ·intro h82 hm
   refine Sk ?_
   refine Sq ?_
   refine Jn (ι := Aq × Aa) (fun (y13 : Aq × Aa) => Aj [(0,rr 0),(6,rr 1048),(7,rr 1056),(9,pI s3.2.2)] [(0,bx (pm (An y13.1))),(AcK),(1056,bx (pm (Ab y13.2)))]) (fun y13 => (Dr s3 n3) y13 = some RES) ?_ ?_
   ·intro y13 hm
    unfold Dr at hm
    refine RD hnt (nn 3 []) [] [(9,pI (w64 (s3.2.2 - 1)))] [] [] tv ?_
    exact jD (y13.1,y13.2,(w64 (s3.2.2 - 1))) hm Conv.eqK
   ·refine Bk ?_
    obtain ⟨r83,hr83,hm⟩ := bo hm
    refine Sq (RD hnt (nn 3 (o88 [0] true r83 :: .no :: [])) [42] [(10,pI r83.1)] [] [(0,bx (pm (An r83.2)))] (an (Gn s3.1 s3.2.1.tree r83 hr83) (an tv tv)) ?_)
    obtain ⟨r84,hr84,hm⟩ := bo hm
    refine Sq (Sq (RD hnt (nn 2 (o106 [] true r84 :: .no :: [])) [] [(52,pB (r84 != 0))] [] [] (an (Abk s3.2.1 r83.1 r84 hr84) tv) ?_))
    refine Ah hm ?_ ?_
    ·intro h85 hm
     refine DW.exit ?_
     exact Am (joinKQ (r83.2,s3.2.1) hm Conv.t0)
    ·intro h85 hm
     refine Sk ?_
     obtain ⟨r86,hr86,hm⟩ := bo hm
     obtain ⟨r87,hr87,hm⟩ := bo hm
     refine Sq (Sq (RD hnt (nn 3 (o72 [0] true r86 :: o107 [] true r87 :: nn 8 [])) [10,52] [(11,rr 1088),(13,pI r87.2.2)] [] [(0,bx (pm (An r86.2))),(1088,bx [ow 1464 r87.1.tree.nodes.length,pI r87.1.tree.next,ow 1465 r87.1.tasks.length,pI r87.1.next]),(1464,ob0 (Ak r87.1.tree.nodes)),(1465,ob0 (At r87.1.tasks))] (an (Bp r83.2 3 r86 hr86) (an tv (an (Ahp s3.2.1 r83.1 r86.1 r87 hr87) tv))) ?_))
     refine Sq (RD hnt (nn 2 []) [13] [(63,pB (r87.2.2 == 0))] [] [] tv ?_)
     refine Jn (ι := Aa) (fun (y14 : Aa) => Aj [(0,rr 0),(6,rr 1048),(7,rr 1056),(9,pI s3.2.2)] [(0,bx (pm (An r86.2))),(AcK),(1056,bx (pm (Ab y14)))]) (fun y14 => (Gk s3 n3 r86) y14 = some RES) ?_ ?_
     ·intro y14 hm
      unfold Gk at hm
      obtain ⟨r89,hr89,hm⟩ := bo hm
      refine Sq (Sq (RD hnt (.no :: o84 [0] true r89 :: []) [] [(66,pB r89.1)] [] [(0,bx (pm (An r89.2)))] (an (Cm r86.2 3 r89 hr89) (an tv tv)) ?_))
      refine Jn (ι := Aq × Aa) (fun (y15 : Aq × Aa) => Aj [(0,rr 0),(6,rr 1048),(7,rr 1056),(9,pI s3.2.2)] [(0,bx (pm (An y15.1))),(AcK),(1056,bx (pm (Ab y15.2)))]) (fun y15 => (Fa s3 n3) y15 = some RES) ?_ ?_
      ·intro y15 hm
       unfold Fa at hm
       obtain ⟨r94,hr94,hm⟩ := bo hm
       refine Sq (Sq (RD hnt (.no :: o84 [0] true r94 :: []) [] [(80,pB r94.1)] [] [(0,bx (pm (An r94.2)))] (an (Cm y15.1 4 r94 hr94) (an tv tv)) ?_))
       refine Jn (ι := Aq × Aa) (fun (y16 : Aq × Aa) => Aj [(0,rr 0),(6,rr 1048),(7,rr 1056),(9,pI s3.2.2)] [(0,bx (pm (An y16.1))),(AcK),(1056,bx (pm (Ab y16.2)))]) (fun y16 => (Ez s3 n3) y16 = some RES) ?_ ?_
       ·intro y16 hm
        unfold Ez at hm
        obtain ⟨r100,hr100,hm⟩ := bo hm
        refine Sq (RD hnt (.no :: o84 [0] true r100 :: []) [] [(97,pB r100.1)] [] [(0,bx (pm (An r100.2)))] (an (Cm y16.1 8 r100 hr100) (an tv tv)) ?_)
        refine Ah hm ?_ ?_
        ·intro h101 hm
         obtain ⟨r102,hr102,hm⟩ := bo hm
         obtain ⟨r103,hr103,hm⟩ := bo hm
         refine Sq (RD hnt (nn 3 (o109 [0] true r102 :: o113 [] true r103 :: nn 6 [])) [97] [(19,rr 1152),(20,pI r103.2)] [] [(0,bx (pm (An r102.2))),(1152,bx [ow 1824 r103.1.tree.nodes.length,pI r103.1.tree.next,ow 1825 r103.1.tasks.length,pI r103.1.next]),(1824,ob0 (Ak r103.1.tree.nodes)),(1825,ob0 (At r103.1.tasks))] (an (Rs r100.2 y16.2 r102 hr102) (an tv (an (Aid y16.2 r102.1 r103 hr103) tv))) ?_)
         refine Sq (RD hnt (nn 2 []) [20] [(107,pB (r103.2 == 0))] [] [] tv ?_)
         refine Ah hm ?_ ?_
         ·intro h104 hm
          refine RD hnt (nn 2 []) [19,107] [] [1152] [(1056,bx [ow 1824 r103.1.tree.nodes.length,pI r103.1.tree.next,ow 1825 r103.1.tasks.length,pI r103.1.next])] tv ?_
          exact bD (r102.2,r103.1) hm (Conv.frz [1824,1825])
         ·intro h104 hm
          refine Sk ?_
          exact bD (r102.2,y16.2) hm Conv.t0
        ·intro h101 hm
         refine Sk ?_
         exact bD (r100.2,y16.2) hm Conv.t0
       ·refine Ah hm ?_ ?_
        ·intro h95 hm
         obtain ⟨r96,hr96,hm⟩ := bo hm
         obtain ⟨r97,hr97,hm⟩ := bo hm
         obtain ⟨r98,hr98,hm⟩ := bo hm
         refine Sq (RD hnt (nn 3 (o109 [0] true r96 :: nn 3 (o88 [0] true r97 :: o111 [] true r98 :: nn 6 []))) [80] [(17,rr 1136),(18,pI r98.2)] [] [(0,bx (pm (An r97.2))),(1136,bx [ow 1720 r98.1.tree.nodes.length,pI r98.1.tree.next,ow 1721 r98.1.tasks.length,pI r98.1.next]),(1720,ob0 (Ak r98.1.tree.nodes)),(1721,ob0 (At r98.1.tasks))] (an (Rs r94.2 y15.2 r96 hr96) (an tv (an (Gn r96.2 y15.2.tree r97 hr97) (an tv (an (Ace y15.2 r96.1 r97.1 r98 hr98) tv))))) ?_)
         refine Sq (RD hnt (nn 2 []) [18] [(94,pB (r98.2 == 0))] [] [] tv ?_)
         refine Ah hm ?_ ?_
         ·intro h99 hm
          refine RD hnt (nn 2 []) [17,94] [] [1136] [(1056,bx [ow 1720 r98.1.tree.nodes.length,pI r98.1.tree.next,ow 1721 r98.1.tasks.length,pI r98.1.next])] tv ?_
          exact jD (r97.2,r98.1) hm (Conv.frz [1720,1721])
         ·intro h99 hm
          refine Sk ?_
          exact jD (r97.2,y15.2) hm Conv.t0
        ·intro h95 hm
         refine Sk ?_
         exact jD (r94.2,y15.2) hm Conv.t0
      ·refine Ah hm ?_ ?_
       ·intro h90 hm
        obtain ⟨r91,hr91,hm⟩ := bo hm
        obtain ⟨r92,hr92,hm⟩ := bo hm
        refine Sq (RD hnt (nn 3 (o109 [0] true r91 :: o110 [] true r92 :: nn 8 [])) [66] [(14,rr 1112),(16,pI r92.2.2)] [] [(0,bx (pm (An r91.2))),(1112,bx [ow 1576 r92.1.tree.nodes.length,pI r92.1.tree.next,ow 1577 r92.1.tasks.length,pI r92.1.next]),(1576,ob0 (Ak r92.1.tree.nodes)),(1577,ob0 (At r92.1.tasks))] (an (Rs r89.2 y14 r91 hr91) (an tv (an (Aho y14 r91.1 r92 hr92) tv))) ?_)
        refine Sq (RD hnt (nn 2 []) [16] [(77,pB (r92.2.2 == 0))] [] [] tv ?_)
        refine Ah hm ?_ ?_
        ·intro h93 hm
         refine RD hnt (nn 2 []) [14,77] [] [1112] [(1056,bx [ow 1576 r92.1.tree.nodes.length,pI r92.1.tree.next,ow 1577 r92.1.tasks.length,pI r92.1.next])] tv ?_
         exact jD (r91.2,r92.1) hm (Conv.frz [1576,1577])
        ·intro h93 hm
         refine Sk ?_
         exact jD (r91.2,y14) hm Conv.t0
       ·intro h90 hm
        refine Sk ?_
        exact jD (r89.2,y14) hm Conv.t0
     ·refine Ah hm ?_ ?_
      ·intro h88 hm
       refine RD hnt (nn 2 []) [11,63] [] [1088] [(1056,bx [ow 1464 r87.1.tree.nodes.length,pI r87.1.tree.next,ow 1465 r87.1.tasks.length,pI r87.1.next])] tv ?_
       exact jD r87.1 hm (Conv.frz [1464,1465])
      ·intro h88 hm
       refine Sk ?_
       exact jD s3.2.1 hm Conv.t0
  ·intro h82 hm
   refine DW.exit ?_
   refine Ap ?_
   refine Au ?_
   refine Am ?_
   show DW _ _ _ _ _
   refine Sq (RD hnt (nn 2 []) [0,7,9,42] [] [1056] [(1048,bx (pm (Ab s3.2.1)))] tv ?_)
   obtain rfl := sj hm
   exact DW.ret (Ai [.box (pm (An s3.1))] [] (.p (.agg (Ab s3.2.1))))
abbrev o68 (ks : List Nat) (b : Bool) (RES : Aa × Aq) (sm : List Nat := []) : Orc := .call 23 ks b (.p (.agg (Ab RES.1))) [.box (pm (An RES.2))] [] sm

theorem Gf (p0 : Ac) (p1 : Int) (RES : Ae) (hm : Sb p0 p1 = some RES) : Spec Tryz.prog 81 [.p (.agg (Al p0)),pI p1] [] (.p (.agg (Bd RES))) [] [] := by
 unfold Sb at hm
 refine SO Tryz.func81 rfl rfl [(0,.p (.agg (Al p0))),(1,pI p1)] [] ?_
 intro cx hnt
 refine Sq (RK hnt (nn 2 []) [(1,pI p1),(2,rr 1016),(4,rr 1032)] [(1016,bx (pm (Al p0))),(1032,bx [pI 0,pB false,pB false,pI 0])] tv ?_)
 refine Sq (Sq (RD hnt (.no :: []) [] [(5,pI 0)] [] [] tv ?_))
 refine Bk ?_
 obtain ⟨hc1,hm⟩ := go1 hm
 refine DW.rangeO (fun (k1 : Nat) (s1 : Unit) => Aj [(1,pI p1),(2,rr 1016),(4,rr 1032),(5,pI ((k1 : Nat) : Int))] [(1016,bx (pm (Al p0))),(1032,bx [pI 0,pB false,pB false,pI 0])]) Bc hm Conv.eqK ?_
 intro k1 s1 n1 hk1 hs1 he1
 refine Sq (Sq (RD hnt (nn 5 []) [] [(10,pB (decide (((k1 : Nat) : Int) < ((p0.frosts.length : Nat) : Int))))] [] [] tv ?_))
 refine Cd (decide (((k1 : Nat) : Int) < ((p0.frosts.length : Nat) : Int))) ?_ ?_
 ·intro h9
  have hlt1 : k1 < p0.frosts.length := by have := of_decide_eq_true h9; omega
  have hm := hs1 hlt1
  unfold Afx at hm
  refine Sk ?_
  refine Sq (Bk ?_)
  refine Sq (RD hnt (nn 8 []) [10] [(20,pB ((p0.frosts.getD k1 (default : Ae)).group == p1))] [] [] (an (nn0 k1) (an (ltc hlt1) tv)) ?_)
  refine Ah hm ?_ ?_
  ·intro h10 hm
   refine Sq (RK hnt (nn 6 []) [(4,rr 1032)] [(1032,bx (pm (Bd (p0.frosts.getD k1 (default : Ae)))))] (an (nn0 k1) (an (ltc hlt1) tv)) ?_)
   obtain rfl := sj hm
   exact DW.ret (Ai [] [] (.p (.agg (Bd (p0.frosts.getD k1 (default : Ae))))))
  ·intro h10 hm
   refine Sk ?_
   refine DW.done ?_
   show DW _ _ _ _ _
   refine RD hnt (nn 3 []) [20] [(5,pI (w64 (((k1 : Nat) : Int) + 1)))] [] [] tv ?_
   exact jD () ⟨hlt1,hm⟩ (Conv.tp [(5,pI (w64 (((k1 : Nat) : Int) + 1)))] [] (by kernel_rfl) (.cons rfl (.of_eq (congrArg pI (Bo hlt1 hc1))) .nil) .nil)
 ·intro h9
  have hge1 : ¬ k1 < p0.frosts.length := by have := of_decide_eq_false h9; omega
  have hm := he1 hge1
  unfold Afj at hm
  refine DW.exit ?_
  refine Ap ?_
  refine Au ?_
  refine Am ?_
  show DW _ _ _ _ _
  refine Sq (RK hnt (nn 3 []) [(4,rr 1032)] [(1032,bx [pI p1,pB false,pB false,pI 0])] tv ?_)
  obtain rfl := sj hm
  exact DW.ret (Ai [] [] (.p (.agg [vi p1,vb false,vb false,vi 0])))
abbrev o117 (ks : List Nat) (b : Bool) (RES : Ae) (sm : List Nat := []) : Orc := .call 81 ks b (.p (.agg (Bd RES))) [] [] sm

theorem Un (p0 : List Int) (p1 : Int) (RES : Bool) (hm : Po p0 p1 = some RES) : Spec Tryz.prog 18 [.p (slI p0),pI p1] [] (pB RES) [] [] := by
 unfold Po at hm
 refine SO Tryz.func18 rfl rfl [(0,.p (slI p0)),(1,pI p1)] [] ?_
 intro cx hnt
 refine Sq (RD hnt (.no :: []) [] [] [] [] tv ?_)
 refine Sq (Sq (RD hnt (.no :: []) [] [(5,pI 0)] [] [] tv ?_))
 refine Bk ?_
 obtain ⟨hc1,hm⟩ := go1 hm
 refine DW.rangeO (fun (k1 : Nat) (s1 : Unit) => Aj [(0,.p (slI p0)),(1,pI p1),(5,pI ((k1 : Nat) : Int))] []) 0 hm Conv.eqK ?_
 intro k1 s1 n1 hk1 hs1 he1
 refine Sq (Sq (RD hnt (nn 4 []) [] [(9,pB (decide (((k1 : Nat) : Int) < ((p0.length : Nat) : Int))))] [] [] tv ?_))
 refine Cd (decide (((k1 : Nat) : Int) < ((p0.length : Nat) : Int))) ?_ ?_
 ·intro h7
  have hlt1 : k1 < p0.length := by have := of_decide_eq_true h7; omega
  have hm := hs1 hlt1
  unfold Agc at hm
  refine Sk ?_
  refine Sq (Bk ?_)
  refine Sq (RD hnt (nn 6 []) [9] [(17,pB ((p0.getD k1 0) == p1))] [] [] (an (nn0 k1) (an (ltc hlt1) tv)) ?_)
  refine Ah hm ?_ ?_
  ·intro h8 hm
   refine Sq (RK hnt (.no :: []) [(4,pB true)] [] tv ?_)
   obtain rfl := sj hm
   exact DW.ret (Ai [] [] (pB true))
  ·intro h8 hm
   refine Sk ?_
   refine DW.done ?_
   show DW _ _ _ _ _
   refine RD hnt (nn 3 []) [17] [(5,pI (w64 (((k1 : Nat) : Int) + 1)))] [] [] tv ?_
   exact jD () ⟨hlt1,hm⟩ (Conv.tp [(5,pI (w64 (((k1 : Nat) : Int) + 1)))] [] (by kernel_rfl) (.cons rfl (.of_eq (congrArg pI (Bo hlt1 hc1))) .nil) .nil)
 ·intro h7
  have hge1 : ¬ k1 < p0.length := by have := of_decide_eq_false h7; omega
  have hm := he1 hge1
  unfold Ags at hm
  refine DW.exit ?_
  refine Ap ?_
  refine Au ?_
  refine Am ?_
  show DW _ _ _ _ _
  refine Sq (RK hnt (.no :: []) [(4,pB false)] [] tv ?_)
  obtain rfl := sj hm
  exact DW.ret (Ai [] [] (pB false))
abbrev o120 (ks : List Nat) (b : Bool) (RES : Bool) (sm : List Nat := []) : Orc := .call 18 ks b (pB RES) [] [] sm

theorem Cl (p0 : Ac) (p1 : Int) (RES : Bool) (hm : Ji p0 p1 = some RES) : Spec Tryz.prog 82 [.p (.agg (Al p0)),pI p1] [] (pB RES) [] [] := by
 unfold Ji at hm
 refine SO Tryz.func82 rfl rfl [(0,.p (.agg (Al p0))),(1,pI p1)] [] ?_
 intro cx hnt
 refine Sq (RK hnt (nn 2 []) [(1,pI p1),(2,rr 1016)] [(1016,bx (pm (Al p0)))] tv ?_)
 obtain ⟨r1,hr1,hm⟩ := bo hm
 refine Sq (RK hnt (nn 3 (o120 [] true r1 :: .no :: [])) [(4,pB r1)] [] (an (Un p0.stopped p1 r1 hr1) tv) ?_)
 obtain rfl := sj hm
 exact DW.ret (Ai [] [] (pB r1))
abbrev Vk (ks : List Nat) (b : Bool) (RES : Bool) (sm : List Nat := []) : Orc := .call 82 ks b (pB RES) [] [] sm
end Go.Dm

